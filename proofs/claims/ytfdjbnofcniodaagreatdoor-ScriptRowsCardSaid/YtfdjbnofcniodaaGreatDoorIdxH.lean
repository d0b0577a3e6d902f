/- What slices.IndexFunc and ContainsFunc computes at []int, at whatever predicate. -/
import Derived.Test.YtfdjbnofcniodaaGreatDoorIndex
namespace Go.Proofs.YtfdjbnofcniodaaGreatDoor
set_option linter.unusedVariables false
open Go.RowKit

/-- a function value that tells whether p holds of one -/
def PredH (S : Nat → Prop) (w0 : World) (F : Nat) (caps : Array Value) (p : Int → Bool) : Prop :=
  Enters F ∧ ∀ (x : Int) (w : World), Ext w0 w → True → Calls Tryz.prog F (#[.int .i64 x] ++ caps) w fun e w' => e = .returned (.bool (p x)) ∧ Ext w w'

set_option maxRecDepth 100000 in
set_option maxHeartbeats 1000000 in
theorem indexH_any {T : Nat → Prop} (S : Nat → Prop) (F : Nat) (caps : Array Value) (p : Int → Bool) (A : Option Addr) (n c : Nat) (l : List (Int)) (w : World) (hm : n ≤ maxLen) (hA : ArrQ T w 1 (IntR .i64) A n l) (hF : PredH S w F caps p) :
    Calls Tryz.prog 220 #[.slice A n c, .func (.func F) #[] caps] w fun e w' => e = .returned (.int .i64 (idxB p l)) ∧ Ext w w' := by
  unfold maxLen at hm
  have HA := Lib.hid hA
  have HF := Lib.hid hF
  clear hA hF
  go_enter Tryz.func220, Tryz.ntmps220
  go_wp2_with fail
  go_loopw [8] (fun i wr => ∃ k : Nat, k ≤ n ∧ i = .int .i64 k ∧ Hid ((l.take k).any p = false) ∧ Hid (Ext w wr)) (fun i _ => n - (intOf i).toNat)
  case atStart => exact ⟨0, Nat.zero_le _, rfl, Lib.hid (by simp), Lib.hid (Ext.refl _)⟩
  case round =>
    obtain ⟨k, hk, rfl, HS, HX⟩ := hrel
    by_cases hlt : k < n
    · obtain ⟨b, o, x, rfl, hbB, hSb, hlk, hc0⟩ := HostL.at_ HA.out hlt
      have d0 : wr.cell? ⟨b, o + k, none⟩ = some (.int .i64 x) := (HX.out.cell hbB).trans hc0
      have i1 : (0 : Int) ≤ (k : Int) := by omega
      have i2 : (k : Int) < (n : Int) := by omega
      have HL := Lib.hid hlk
      clear hc0 hlk
      go_wp2_with fail
      rw [HF.out.1, Oper.upon_enter]
      refine (HF.out.2 x _ HX.out trivial).mono ?_
      rintro e w1 ⟨rfl, hb1⟩
      cases hp : p x with
      | true =>
        have HR := Lib.hid (idx_found HL.out hp HS.out)
        have HX1 := Lib.hid (HX.out.trans hb1)
        go_wp2_with fail
        go_ret
        exact ⟨ret_int HR.out.symm, HX1.out⟩
      | false =>
        have HS2 := Lib.hid (take_any_snoc HL.out HS.out hp)
        have HX1 := Lib.hid (HX.out.trans hb1)
        go_wp2_with fail
        go_roundw
        case rel => exact ⟨k + 1, by omega, by go_num, HS2, HX1⟩
        case measure => simp [intOf]; omega
    · have HR : Hid (idxB p l = -1) := Lib.hid (idx_none (by have := HS.out; rwa [List.take_of_length_le (by have := HA.out.len; omega)] at this))
      go_wp2_with fail
      go_ret
      exact ⟨ret_int HR.out.symm, HX.out⟩
set_option maxHeartbeats 400000 in
theorem containsH_any {T : Nat → Prop} (S : Nat → Prop) (F : Nat) (caps : Array Value) (p : Int → Bool) (A : Option Addr) (n c : Nat) (l : List (Int)) (w : World) (hm : n ≤ maxLen) (hA : ArrQ T w 1 (IntR .i64) A n l) (hF : PredH S w F caps p) :
    Calls Tryz.prog 186 #[.slice A n c, .func (.func F) #[] caps] w fun e w' => e = .returned (.bool (l.any p)) ∧ Ext w w' := by
  have HR := Lib.hid (idx_sign p l)
  go_enter Tryz.func186, Tryz.ntmps186
  go_wp2_with fail
  refine (indexH_any S F caps p A n c l _ hm hA hF).mono ?_
  rintro e w1 ⟨rfl, hb1⟩
  go_wp2_with fail
  go_ret
  exact ⟨ret_bool HR.out, hb1⟩
end Go.Proofs.YtfdjbnofcniodaaGreatDoor
