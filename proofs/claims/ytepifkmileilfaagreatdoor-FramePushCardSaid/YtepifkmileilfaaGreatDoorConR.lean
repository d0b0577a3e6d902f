/- slices.ContainsFunc at groyne/api.Res. -/
import Derived.Test.YtepifkmileilfaaGreatDoorIndex
namespace Go.Proofs.YtepifkmileilfaaGreatDoor
set_option linter.unusedVariables false
open Go.RowKit

set_option maxHeartbeats 400000 in
theorem containsR_any {T : Nat → Prop} (S : Nat → Prop) (F : Nat) (caps : Array Value) (p : Rs → Bool) (A : Option Addr) (n c : Nat) (l : List (Rs)) (w : World) (hm : n ≤ maxLen) (hA : ArrQ T w 7 (RsQ S w) A n l) (hF : PredR S w F caps p) :
    Calls Tryz.prog 198 #[.slice A n c, .func (.func F) #[] caps] w fun e w' => e = .returned (.bool (l.any p)) ∧ Ext w w' := by
  have HR := Lib.hid (idx_sign p l)
  go_enter Tryz.func198, Tryz.ntmps198
  go_wp2_with fail
  refine (indexR_any S F caps p A n c l _ hm hA hF).mono ?_
  rintro e w1 ⟨rfl, hb1⟩
  go_wp2_with fail
  go_ret
  exact ⟨ret_bool HR.out, hb1⟩
end Go.Proofs.YtepifkmileilfaaGreatDoor
