/- slices.ContainsFunc at groyne/api.Key. -/
import Derived.Test.YtfdjbnofcniodaaGreatDoorIndex
namespace Go.Proofs.YtfdjbnofcniodaaGreatDoor
set_option linter.unusedVariables false
open Go.RowKit

set_option maxHeartbeats 400000 in
theorem containsK_any {T : Nat → Prop} (S : Nat → Prop) (F : Nat) (caps : Array Value) (p : Ky → Bool) (A : Option Addr) (n c : Nat) (l : List (Ky)) (w : World) (hm : n ≤ maxLen) (hA : ArrQ T w 2 KyQ A n l) (hF : PredK S w F caps p) :
    Calls Tryz.prog 132 #[.slice A n c, .func (.func F) #[] caps] w fun e w' => e = .returned (.bool (l.any p)) ∧ Ext w w' := by
  have HR := Lib.hid (idx_sign p l)
  go_enter Tryz.func132, Tryz.ntmps132
  go_wp2_with fail
  refine (indexK_any S F caps p A n c l _ hm hA hF).mono ?_
  rintro e w1 ⟨rfl, hb1⟩
  go_wp2_with fail
  go_ret
  exact ⟨ret_bool HR.out, hb1⟩
end Go.Proofs.YtfdjbnofcniodaaGreatDoor
