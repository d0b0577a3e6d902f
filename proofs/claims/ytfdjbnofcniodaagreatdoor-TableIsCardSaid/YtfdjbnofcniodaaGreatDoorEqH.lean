/- slices.Equal at []int. -/
import Derived.Test.YtfdjbnofcniodaaGreatDoorGround
import Derived.Test.YtfdjbnofcniodaaGreatDoorNames
import Derived.Test.YtfdjbnofcniodaaGreatDoorEq
namespace Go.Proofs.YtfdjbnofcniodaaGreatDoor
set_option linter.unusedVariables false
open Go.RowKit

set_option maxRecDepth 100000 in
set_option maxHeartbeats 2000000 in
theorem equalH_any {S T : Nat → Prop} (A B : Option Addr) (n c m d : Nat) (l l' : List (Int)) (w : World) (hm : n ≤ maxLen) (hm' : m ≤ maxLen) (hA : ArrQ S w 1 (IntR .i64) A n l) (hB : ArrQ T w 1 (IntR .i64) B m l') :
    Calls Tryz.prog 216 #[.slice A n c, .slice B m d] w fun e w' => e = .returned (.bool (decide (l = l'))) ∧ Ext w w' := by
  unfold maxLen at hm hm'
  have HA := Lib.hid hA
  have HB := Lib.hid hB
  clear hA hB
  by_cases hnm : n = m
  rotate_left
  · have HR : Hid (decide (l = l') = false) := Lib.hid (decide_eq_false fun e => hnm (by rw [← HA.out.len, ← HB.out.len, e]))
    have hq : ¬ (n : Int) = (m : Int) := by omega
    go_enter Tryz.func216, Tryz.ntmps216
    go_wp2_with fail
    go_ret
    exact ⟨ret_bool HR.out.symm, Ext.refl _⟩
  subst hnm
  go_enter Tryz.func216, Tryz.ntmps216
  go_wp2_with fail
  go_loopw [13] (fun i wr => ∃ k : Nat, k ≤ n ∧ i = .int .i64 k ∧ Hid (l.take k = l'.take k) ∧ Hid (Ext w wr)) (fun i _ => n - (intOf i).toNat)
  case atStart => exact ⟨0, Nat.zero_le _, rfl, Lib.hid (by simp), Lib.hid (Ext.refl _)⟩
  case round =>
    obtain ⟨k, hk, rfl, HS, HX⟩ := hrel
    by_cases hlt : k < n
    · obtain ⟨b, o, x, rfl, hbB, hSb, hlk, hc0⟩ := HostL.at_ HA.out hlt
      obtain ⟨b2, o2, x2, rfl, hbC, hSc, hlm, he0⟩ := HostL.at_ HB.out hlt
      have HL1 := Lib.hid hlk
      have HL2 := Lib.hid hlm
      have i1 : (0 : Int) ≤ (k : Int) := by omega
      have i2 : (k : Int) < (n : Int) := by omega
      clear hlk hlm
      by_cases hq : x = x2
      · subst hq
        go_wp2_with fail
        have s0 : ∀ w', Ext wr.drew w' → w'.cell? ⟨b, o + k, none⟩ = some (.int .i64 x) := fun w' hx => ((HX.out.trans ((Ext.refl wr).drew.trans hx)).cell hbB).trans hc0
        have p0 : ∀ w', Ext wr.drew w' → w'.cell? ⟨b2, o2 + k, none⟩ = some (.int .i64 x) := fun w' hx => ((HX.out.trans ((Ext.refl wr).drew.trans hx)).cell hbC).trans he0
        have hSw : Ext wr.drew wr.drew := Ext.refl _
        refine wpS_begin (Ext wr.drew) (by kernel_rfl) ?_
        refine wpS_take 0 (v := ?_) hSw rfl (by kernel_rfl) (by kernel_rfl) (by kernel_rfl) (by rfl) (fun w' hin => ?_) ?_
        rotate_left
        · (try simp only [] at hin); go_simp <;> with_reducible rfl
        try simp only [Act.put, List.setIfInBounds_toArray, List.set_cons_zero, List.set_cons_succ]
        refine wpS_take 1 (v := ?_) hSw rfl (by kernel_rfl) (by kernel_rfl) (by kernel_rfl) (by rfl) (fun w' hin => ?_) ?_
        rotate_left
        · (try simp only [] at hin); go_simp <;> with_reducible rfl
        try simp only [Act.put, List.setIfInBounds_toArray, List.set_cons_zero, List.set_cons_succ]
        refine wpS_take 2 (v := ?_) hSw rfl (by kernel_rfl) (by kernel_rfl) (by kernel_rfl) (by rfl) (fun w' hin => ?_) ?_
        rotate_left
        · (try simp only [] at hin); go_simp <;> with_reducible rfl
        try simp only [Act.put, List.setIfInBounds_toArray, List.set_cons_zero, List.set_cons_succ]
        refine wpS_take 3 (v := ?_) hSw rfl (by kernel_rfl) (by kernel_rfl) (by kernel_rfl) (by rfl) (fun w' hin => ?_) ?_
        rotate_left
        · (try simp only [] at hin); go_simp <;> with_reducible rfl
        try simp only [Act.put, List.setIfInBounds_toArray, List.set_cons_zero, List.set_cons_succ]
        refine wpS_take 4 (v := ?_) hSw rfl (by kernel_rfl) (by kernel_rfl) (by kernel_rfl) (by rfl) (fun w' hin => ?_) ?_
        rotate_left
        · (try simp only [] at hin); go_simp <;> with_reducible rfl
        try simp only [Act.put, List.setIfInBounds_toArray, List.set_cons_zero, List.set_cons_succ]
        refine wpS_take 5 (v := ?_) hSw rfl (by kernel_rfl) (by kernel_rfl) (by kernel_rfl) (by rfl) (fun w' hin => ?_) ?_
        rotate_left
        · (try simp only [] at hin); go_simp <;> with_reducible rfl
        try simp only [Act.put, List.setIfInBounds_toArray, List.set_cons_zero, List.set_cons_succ]
        refine wpS_take 6 (v := ?_) hSw rfl (by kernel_rfl) (by kernel_rfl) (by kernel_rfl) (by rfl) (fun w' hin => ?_) ?_
        rotate_left
        · (try simp only [] at hin); go_simp <;> with_reducible rfl
        try simp only [Act.put, List.setIfInBounds_toArray, List.set_cons_zero, List.set_cons_succ]
        refine wpS_take 7 (v := ?_) hSw rfl (by kernel_rfl) (by kernel_rfl) (by kernel_rfl) (by rfl) (fun w' hin => ?_) ?_
        rotate_left
        · (try simp only [] at hin); go_simp <;> with_reducible rfl
        try simp only [Act.put, List.setIfInBounds_toArray, List.set_cons_zero, List.set_cons_succ]
        refine wpS_take 8 (v := ?_) hSw rfl (by kernel_rfl) (by kernel_rfl) (by kernel_rfl) (by rfl) (fun w' hin => ?_) ?_
        rotate_left
        · (try simp only [] at hin); go_simp <;> with_reducible rfl
        try simp only [Act.put, List.setIfInBounds_toArray, List.set_cons_zero, List.set_cons_succ]
        refine wpS_done (by kernel_rfl) ?_
        clear s0 p0
        have HX1 : Hid (Ext w wr.drew) := Lib.hid HX.out.drew
        have HS2 : Hid (l.take (k + 1) = l'.take (k + 1)) := Lib.hid (by rw [take_snoc_of HL1.out, take_snoc_of HL2.out, HS.out])
        go_wp2_with fail
        go_roundw
        case rel => exact ⟨k + 1, by omega, by go_num, HS2, HX1⟩
        case measure => simp [intOf]; omega
      · have HR : Hid (decide (l = l') = false) := Lib.hid (decide_eq_false fun e => by have h1 := HL1.out; rw [e, HL2.out] at h1; injection h1 with h1; exact hq h1.symm)
        go_wp2_with fail
        have s0 : ∀ w', Ext wr.drew w' → w'.cell? ⟨b, o + k, none⟩ = some (.int .i64 x) := fun w' hx => ((HX.out.trans ((Ext.refl wr).drew.trans hx)).cell hbB).trans hc0
        have p0 : ∀ w', Ext wr.drew w' → w'.cell? ⟨b2, o2 + k, none⟩ = some (.int .i64 x2) := fun w' hx => ((HX.out.trans ((Ext.refl wr).drew.trans hx)).cell hbC).trans he0
        have hSw : Ext wr.drew wr.drew := Ext.refl _
        refine wpS_begin (Ext wr.drew) (by kernel_rfl) ?_
        refine wpS_take 0 (v := ?_) hSw rfl (by kernel_rfl) (by kernel_rfl) (by kernel_rfl) (by rfl) (fun w' hin => ?_) ?_
        rotate_left
        · (try simp only [] at hin); go_simp <;> with_reducible rfl
        try simp only [Act.put, List.setIfInBounds_toArray, List.set_cons_zero, List.set_cons_succ]
        refine wpS_take 1 (v := ?_) hSw rfl (by kernel_rfl) (by kernel_rfl) (by kernel_rfl) (by rfl) (fun w' hin => ?_) ?_
        rotate_left
        · (try simp only [] at hin); go_simp <;> with_reducible rfl
        try simp only [Act.put, List.setIfInBounds_toArray, List.set_cons_zero, List.set_cons_succ]
        refine wpS_take 2 (v := ?_) hSw rfl (by kernel_rfl) (by kernel_rfl) (by kernel_rfl) (by rfl) (fun w' hin => ?_) ?_
        rotate_left
        · (try simp only [] at hin); go_simp <;> with_reducible rfl
        try simp only [Act.put, List.setIfInBounds_toArray, List.set_cons_zero, List.set_cons_succ]
        refine wpS_take 3 (v := ?_) hSw rfl (by kernel_rfl) (by kernel_rfl) (by kernel_rfl) (by rfl) (fun w' hin => ?_) ?_
        rotate_left
        · (try simp only [] at hin); go_simp <;> with_reducible rfl
        try simp only [Act.put, List.setIfInBounds_toArray, List.set_cons_zero, List.set_cons_succ]
        refine wpS_take 4 (v := ?_) hSw rfl (by kernel_rfl) (by kernel_rfl) (by kernel_rfl) (by rfl) (fun w' hin => ?_) ?_
        rotate_left
        · (try simp only [] at hin); go_simp <;> with_reducible rfl
        try simp only [Act.put, List.setIfInBounds_toArray, List.set_cons_zero, List.set_cons_succ]
        refine wpS_take 5 (v := ?_) hSw rfl (by kernel_rfl) (by kernel_rfl) (by kernel_rfl) (by rfl) (fun w' hin => ?_) ?_
        rotate_left
        · (try simp only [] at hin); go_simp <;> with_reducible rfl
        try simp only [Act.put, List.setIfInBounds_toArray, List.set_cons_zero, List.set_cons_succ]
        refine wpS_take 6 (v := ?_) hSw rfl (by kernel_rfl) (by kernel_rfl) (by kernel_rfl) (by rfl) (fun w' hin => ?_) ?_
        rotate_left
        · (try simp only [] at hin); go_simp <;> with_reducible rfl
        try simp only [Act.put, List.setIfInBounds_toArray, List.set_cons_zero, List.set_cons_succ]
        refine wpS_take 7 (v := ?_) hSw rfl (by kernel_rfl) (by kernel_rfl) (by kernel_rfl) (by rfl) (fun w' hin => ?_) ?_
        rotate_left
        · (try simp only [] at hin); go_simp <;> with_reducible rfl
        try simp only [Act.put, List.setIfInBounds_toArray, List.set_cons_zero, List.set_cons_succ]
        refine wpS_take 8 (v := ?_) hSw rfl (by kernel_rfl) (by kernel_rfl) (by kernel_rfl) (by rfl) (fun w' hin => ?_) ?_
        rotate_left
        · (try simp only [] at hin); go_simp <;> with_reducible rfl
        try simp only [Act.put, List.setIfInBounds_toArray, List.set_cons_zero, List.set_cons_succ]
        refine wpS_done (by kernel_rfl) ?_
        clear s0 p0
        go_wp2_with fail
        go_ret
        exact ⟨ret_bool HR.out.symm, HX.out.drew⟩
    · have HR : Hid (decide (l = l') = true) := Lib.hid (decide_eq_true (by have h1 := HS.out; rwa [List.take_of_length_le (by have := HA.out.len; omega), List.take_of_length_le (by have := HB.out.len; omega)] at h1))
      go_wp2_with fail
      go_ret
      exact ⟨ret_bool HR.out.symm, HX.out⟩
end Go.Proofs.YtfdjbnofcniodaaGreatDoor
