/- What the document's Keys of layer 3 answers at equal keys. -/
import Derived.Test.YtfdjbnofcniodaaGreatDoorIndex
import Derived.Test.YtfdjbnofcniodaaGreatDoorGround
namespace Go.Proofs.YtfdjbnofcniodaaGreatDoor
set_option linter.unusedVariables false
open Go.RowKit

set_option maxRecDepth 100000 in
set_option maxHeartbeats 2000000 in
theorem refKeys_eq (T T' : Nat → Prop) (l : List Ky) (A B : Option Addr) (n c d : Nat) (w : World) (hm : n ≤ maxLen) (hA : KeyL T w A n l) (hB : KeyL T' w B n l) :
    Calls Tryz.prog 19 #[.slice A n c, .slice B n d] w fun e w' => e = .returned (.bool true) ∧ Ext w w' := by
  unfold maxLen at hm
  have HA := Lib.hid hA
  have HB := Lib.hid hB
  clear hA hB
  go_enter Tryz.func19, Tryz.ntmps19
  go_wp2_with fail
  go_loopw [5] (fun i wr => ∃ k : Nat, k ≤ n ∧ i = .int .i64 k ∧ Hid (Ext w wr)) (fun i _ => n - (intOf i).toNat)
  case atStart => exact ⟨0, Nat.zero_le _, rfl, Lib.hid (Ext.refl _)⟩
  case round =>
    obtain ⟨k, hk, rfl, HX⟩ := hrel
    by_cases hlt : k < n
    · obtain ⟨b, o, r, rfl, hbB, -, hlk, -, hc0, hc1⟩ := KeyL.at_ HA.out hlt
      obtain ⟨b', o', r', rfl, hbB', -, hlk', -, hc0', hc1'⟩ := KeyL.at_ HB.out hlt
      obtain rfl : r = r' := by rw [hlk] at hlk'; injection hlk'
      have i1 : (0 : Int) ≤ (k : Int) := by omega
      have i2 : (k : Int) < (n : Int) := by omega
      have t0 : ∀ w', Ext wr.drew w' → w'.cell? ⟨b, o + k * 2, none⟩ = some (.int .i64 r.kind) := fun w' hx => (((HX.out.drew.trans hx)).cell hbB).trans hc0
      have t1 : ∀ w', Ext wr.drew w' → w'.cell? ⟨b, o + k * 2 + 1, none⟩ = some (.string r.name) := fun w' hx => (((HX.out.drew.trans hx)).cell hbB).trans hc1
      have s0 : ∀ w', Ext wr.drew w' → w'.cell? ⟨b', o' + k * 2, none⟩ = some (.int .i64 r.kind) := fun w' hx => (((HX.out.drew.trans hx)).cell hbB').trans hc0'
      have s1 : ∀ w', Ext wr.drew w' → w'.cell? ⟨b', o' + k * 2 + 1, none⟩ = some (.string r.name) := fun w' hx => (((HX.out.drew.trans hx)).cell hbB').trans hc1'
      clear hlk hlk'
      go_wp2_with fail
      have hSw : Ext wr.drew wr.drew := Ext.refl _
      refine wpS_begin (Ext wr.drew) (by kernel_rfl) ?_
      refine wpS_take 0 (v := ?_) hSw rfl (by kernel_rfl) (by kernel_rfl) (by kernel_rfl) (by rfl) (fun w' hin => ?_) ?_
      rotate_left
      · (try simp only [] at hin); go_simp <;> with_reducible rfl
      try simp only [Act.put, List.setIfInBounds_toArray, List.set_cons_zero, List.set_cons_succ]
      refine wpS_take 1 (v := ?_) hSw rfl (by kernel_rfl) (by kernel_rfl) (by kernel_rfl) (by rfl) (fun w' hin => ?_) ?_
      rotate_left
      · (try simp only [] at hin); go_simp <;> with_reducible rfl
      try simp only [Act.put, List.setIfInBounds_toArray, List.set_cons_zero, List.set_cons_succ]
      refine wpS_take 2 (v := ?_) hSw rfl (by kernel_rfl) (by kernel_rfl) (by kernel_rfl) (by rfl) (fun w' hin => ?_) ?_
      rotate_left
      · (try simp only [] at hin); go_simp <;> with_reducible rfl
      try simp only [Act.put, List.setIfInBounds_toArray, List.set_cons_zero, List.set_cons_succ]
      refine wpS_take 3 (v := ?_) hSw rfl (by kernel_rfl) (by kernel_rfl) (by kernel_rfl) (by rfl) (fun w' hin => ?_) ?_
      rotate_left
      · (try simp only [] at hin); go_simp <;> with_reducible rfl
      try simp only [Act.put, List.setIfInBounds_toArray, List.set_cons_zero, List.set_cons_succ]
      refine wpS_take 4 (v := ?_) hSw rfl (by kernel_rfl) (by kernel_rfl) (by kernel_rfl) (by rfl) (fun w' hin => ?_) ?_
      rotate_left
      · (try simp only [] at hin); go_simp <;> with_reducible rfl
      try simp only [Act.put, List.setIfInBounds_toArray, List.set_cons_zero, List.set_cons_succ]
      refine wpS_take 5 (v := ?_) hSw rfl (by kernel_rfl) (by kernel_rfl) (by kernel_rfl) (by rfl) (fun w' hin => ?_) ?_
      rotate_left
      · (try simp only [] at hin); go_simp <;> with_reducible rfl
      try simp only [Act.put, List.setIfInBounds_toArray, List.set_cons_zero, List.set_cons_succ]
      refine wpS_take 6 (v := ?_) hSw rfl (by kernel_rfl) (by kernel_rfl) (by kernel_rfl) (by rfl) (fun w' hin => ?_) ?_
      rotate_left
      · (try simp only [] at hin); go_simp <;> with_reducible rfl
      try simp only [Act.put, List.setIfInBounds_toArray, List.set_cons_zero, List.set_cons_succ]
      refine wpS_take 7 (v := ?_) hSw rfl (by kernel_rfl) (by kernel_rfl) (by kernel_rfl) (by rfl) (fun w' hin => ?_) ?_
      rotate_left
      · (try simp only [] at hin); go_simp <;> with_reducible rfl
      try simp only [Act.put, List.setIfInBounds_toArray, List.set_cons_zero, List.set_cons_succ]
      refine wpS_take 8 (v := ?_) hSw rfl (by kernel_rfl) (by kernel_rfl) (by kernel_rfl) (by rfl) (fun w' hin => ?_) ?_
      rotate_left
      · (try simp only [] at hin); go_simp <;> with_reducible rfl
      try simp only [Act.put, List.setIfInBounds_toArray, List.set_cons_zero, List.set_cons_succ]
      refine wpS_done (by kernel_rfl) ?_
      have HX2 := Lib.hid (HX.out.drew.trans hSw)
      clear t0 t1 s0 s1 hSw
      go_wp2_with fail
      go_roundw
      case rel => exact ⟨k + 1, by omega, by go_num, HX2⟩
      case measure => simp [intOf]; omega
    · go_wp2_with fail
      go_ret
      exact ⟨rfl, HX.out⟩
end Go.Proofs.YtfdjbnofcniodaaGreatDoor
