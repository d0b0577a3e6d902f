/- The law PickBest of layer 7, at all arguments. -/
import Derived.Test.YtepifkmileilfaaDoorPickBest
namespace Go.Proofs.YtepifkmileilfaaDoor
theorem pickBest_any (A : Option Addr) (n c : Nat) (l : List Ru) (h p : ByteArray) (w : World) (hm : n ≤ 9223372036854775807) (hA : ArrR w 3 (RuR w) A n l) (_ : h.size ≤ maxLen) (_ : p.size ≤ maxLen) :
    Calls Tryd.prog 3 #[.slice A n c, .string h, .string p] w fun e w' => e = .returned (.bool true) ∧ Ext w w' := by
  by_cases hf : fewRB l = true
  · by_cases hh : h.size ≤ 100
    · by_cases hp : p.size ≤ 100
      · exact pickBest_main A n c l h p w hm hA hf hh hp
      · exact pickBest_few A n c l h p w hm hA (.inr (.inr (by omega)))
    · exact pickBest_few A n c l h p w hm hA (.inr (.inl (by omega)))
  · exact pickBest_few A n c l h p w hm hA (.inl (by simpa using hf))
end Go.Proofs.YtepifkmileilfaaDoor
