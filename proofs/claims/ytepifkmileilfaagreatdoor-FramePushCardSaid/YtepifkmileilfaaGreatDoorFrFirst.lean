/- What package frame's first computes. -/
import Derived.Test.YtepifkmileilfaaGreatDoorFrQ
namespace Go.Proofs.YtepifkmileilfaaGreatDoor
set_option linter.unusedVariables false
open Go.RowKit
set_option maxRecDepth 100000 in
set_option maxHeartbeats 1000000 in
theorem frFirst_any (S : Nat → Prop) (l : List Int) (A : Option Addr) (n c : Nat) (w : World) (hm : n ≤ maxLen) (hA : ArrQ S w 1 (IntR .i64) A n l) :
    Calls Tryz.prog 143 #[.slice A n c] w fun e w' => e = .returned (.int .i64 (firstE (fun x : Int => x) l)) ∧ w = w' := by
  unfold maxLen at hm
  have HA := Lib.hid hA
  clear hA
  go_enter Tryz.func143, Tryz.ntmps143
  go_wp2_with fail
  go_loopw [7] (fun i wr => ∃ k : Nat, k ≤ n ∧ i = .int .i64 k ∧ Hid (firstE (fun x : Int => x) l = firstE (fun x : Int => x) (l.drop k)) ∧ w = wr) (fun i _ => n - (intOf i).toNat)
  case atStart => exact ⟨0, Nat.zero_le _, rfl, Lib.hid rfl, rfl⟩
  case round =>
    obtain ⟨k, hk, rfl, HS, rfl⟩ := hrel
    by_cases hlt : k < n
    · obtain ⟨b, o, x, rfl, hbB, -, hlk, hc0⟩ := HostL.at_ HA.out hlt
      have HSt : Hid (firstE (fun x : Int => x) (l.drop k) = if x ≠ 0 then x else firstE (fun x : Int => x) (l.drop (k + 1))) := Lib.hid (by rw [drop_of hlk]; rfl)
      clear hlk
      by_cases h0 : x = 0
      · subst h0
        have HS2 : Hid (firstE (fun x : Int => x) l = firstE (fun x : Int => x) (l.drop (k + 1))) := Lib.hid (by rw [HS.out, HSt.out, if_neg (by simp)])
        go_wp2_with fail
        go_roundw
        case rel => exact ⟨k + 1, by omega, by go_num, HS2, by simp⟩
        case measure => simp [intOf]; omega
      · have hq : (x != 0) = true := by simpa using h0
        have HR : Hid (firstE (fun x : Int => x) l = x) := Lib.hid (by rw [HS.out, HSt.out, if_pos h0])
        go_wp2_with fail
        go_ret
        exact ⟨ret_int HR.out.symm, rfl⟩
    · have HR : Hid (firstE (fun x : Int => x) l = 0) := Lib.hid (by rw [HS.out, List.drop_eq_nil_of_le (by have := HA.out.len; omega)]; rfl)
      go_wp2_with fail
      go_ret
      exact ⟨ret_int HR.out.symm, rfl⟩
end Go.Proofs.YtepifkmileilfaaGreatDoor
