/- What the document's rules of layer 3 compute: whether two lists are one. -/
import Derived.Test.YtfdjbnofcniodaaGreatDoorRefAll
namespace Go.Proofs.YtfdjbnofcniodaaGreatDoor
set_option linter.unusedVariables false
open Go.RowKit

theorem take_eq_snoc {α : Type} {l l' : List α} {k : Nat} {x : α} (h : l.take k = l'.take k) (hx : l[k]? = some x) (hy : l'[k]? = some x) : l.take (k + 1) = l'.take (k + 1) := by rw [take_snoc_of hx, take_snoc_of hy, h]
theorem ne_of_at {α : Type} {l l' : List α} {k : Nat} {x y : α} (hx : l[k]? = some x) (hy : l'[k]? = some y) (h : x ≠ y) : l ≠ l' := fun e => h (by rw [e, hy] at hx; injection hx with hx; exact hx.symm)
theorem eq_of_take {α : Type} {l l' : List α} {k : Nat} (h : l.take k = l'.take k) (hl : l.length ≤ k) (hl' : l'.length ≤ k) : l = l' := by rwa [List.take_of_length_le hl, List.take_of_length_le hl'] at h
theorem str_ne {s t : ByteArray} (h : ¬ s.toList = t.toList) : s ≠ t := fun e => h (by rw [e])
theorem str_eq {s t : ByteArray} (h : s.toList = t.toList) : s = t := tx_inj (by unfold tx; rw [← Lib.toList_data, ← Lib.toList_data]; exact h)

set_option maxRecDepth 100000 in
set_option maxHeartbeats 8000000 in
theorem refRules_dec (S S' : Nat → Prop) (l l' : List Rl) (A B : Option Addr) (n n' c d : Nat) (w : World) (hn : n ≤ maxLen) (hn' : n' ≤ maxLen) (hA : ArrQ S w 3 (RlQ S w) A n l) (hB : ArrQ S' w 3 (RlQ S' w) B n' l') :
    Calls Tryz.prog 153 #[.slice A n c, .slice B n' d] w fun e w' => e = .returned (.bool (decide (l = l'))) ∧ Ext w w' := by
  unfold maxLen at hn hn'
  have HA := Lib.hid hA
  have HB := Lib.hid hB
  clear hA hB
  obtain ⟨Z, hZ⟩ : ∃ Z, Z = decide (l = l') := ⟨_, rfl⟩
  rw [← hZ]
  have HZ := Lib.hid hZ
  clear hZ
  go_enter Tryz.func153, Tryz.ntmps153
  by_cases hnn : n = n'
  rotate_left
  · have HF : Hid (Z = false) := Lib.hid (by rw [HZ.out]; exact decide_eq_false (fun e => hnn (by rw [← HA.out.len, ← HB.out.len, e])))
    have i0 : ((n : Int) != (n' : Int)) = true := by rw [bne_iff_ne]; omega
    go_wp2_with fail
    go_ret
    exact ⟨ret_bool HF.out.symm, Ext.refl _⟩
  subst hnn
  go_wp2_with fail
  go_loopw [5] (fun i wr => ∃ k : Nat, k ≤ n ∧ i = .int .i64 k ∧ Hid (l.take k = l'.take k) ∧ Hid (Ext w wr)) (fun i _ => n - (intOf i).toNat)
  case atStart => exact ⟨0, Nat.zero_le _, by go_num, Lib.hid rfl, Lib.hid (Ext.refl _)⟩
  case round =>
    obtain ⟨k, hk, rfl, HT, HX⟩ := hrel
    by_cases hlt : k < n
    · obtain ⟨b, o, x, C, m, e, rfl, hbB, -, hlk, hv, hc0, hc1, hc2⟩ := RlL.at_ HA.out hlt
      obtain ⟨b', o', x', C', m', e', rfl, hbB', -, hlk', hv', hc0', hc1', hc2'⟩ := RlL.at_ HB.out hlt
      have hm : m ≤ 9223372036854775807 := by have h1 := hv.sl.1; have h2 := hv.sl.2.1; unfold maxLen at h2; omega
      have hm' : m' ≤ 9223372036854775807 := by have h1 := hv'.sl.1; have h2 := hv'.sl.2.1; unfold maxLen at h2; omega
      have HV := Lib.hid hv
      have HV' := Lib.hid hv'
      have HC := Lib.hid hc2
      have HC' := Lib.hid hc2'
      have HLK := Lib.hid hlk
      have HLK' := Lib.hid hlk'
      have d0 : ∀ w', Ext w w' → w'.cell? ⟨b, o + k * 3, none⟩ = some (.string x.host) := fun w' h => (h.cell hbB).trans hc0
      have d1 : ∀ w', Ext w w' → w'.cell? ⟨b, o + k * 3 + 1, none⟩ = some (.string x.pre) := fun w' h => (h.cell hbB).trans hc1
      have d2 : ∀ w', Ext w w' → w'.cell? ⟨b, o + k * 3 + 2, none⟩ = some (.slice C m e) := fun w' h => (h.cell hbB).trans hc2
      have d0' : ∀ w', Ext w w' → w'.cell? ⟨b', o' + k * 3, none⟩ = some (.string x'.host) := fun w' h => (h.cell hbB').trans hc0'
      have d1' : ∀ w', Ext w w' → w'.cell? ⟨b', o' + k * 3 + 1, none⟩ = some (.string x'.pre) := fun w' h => (h.cell hbB').trans hc1'
      have d2' : ∀ w', Ext w w' → w'.cell? ⟨b', o' + k * 3 + 2, none⟩ = some (.slice C' m' e') := fun w' h => (h.cell hbB').trans hc2'
      have i1 : (0 : Int) ≤ (k : Int) := by omega
      have i2 : (k : Int) < (n : Int) := by omega
      clear hc0 hc1 hc2 hc0' hc1' hc2' hlk hlk' hv hv'
      by_cases g1 : x.host.toList = x'.host.toList
      rotate_left
      · have HF : Hid (Z = false) := Lib.hid (by rw [HZ.out]; exact decide_eq_false (ne_of_at HLK.out HLK'.out (fun e => g1 (by rw [e]))))
        have g1b : (x.host.toList == x'.host.toList) = false := by rw [beq_eq_false_iff_ne]; exact g1
        go_wp2_with fail
        have hSw : Ext w wr.drew := HX.out.drew
        refine wpS_begin (Ext w) (by kernel_rfl) ?_
        refine wpS_take 0 (v := ?_) hSw rfl (by kernel_rfl) (by kernel_rfl) (by kernel_rfl) (by rfl) (fun w' hin => ?_) ?_
        rotate_left
        · (try simp only [] at hin); go_simp <;> with_reducible rfl
        try simp only [Act.put, List.setIfInBounds_toArray, List.set_cons_zero, List.set_cons_succ]
        refine wpS_take 1 (v := ?_) hSw rfl (by kernel_rfl) (by kernel_rfl) (by kernel_rfl) (by rfl) (fun w' hin => ?_) ?_
        rotate_left
        · (try simp only [] at hin); go_simp <;> with_reducible rfl
        try simp only [Act.put, List.setIfInBounds_toArray, List.set_cons_zero, List.set_cons_succ]
        refine wpS_take 2 (v := ?_) hSw rfl (by kernel_rfl) (by kernel_rfl) (by kernel_rfl) (by rfl) (fun w' hin => ?_) ?_
        rotate_left
        · (try simp only [] at hin); go_simp <;> with_reducible rfl
        try simp only [Act.put, List.setIfInBounds_toArray, List.set_cons_zero, List.set_cons_succ]
        refine wpS_take 3 (v := ?_) hSw rfl (by kernel_rfl) (by kernel_rfl) (by kernel_rfl) (by rfl) (fun w' hin => ?_) ?_
        rotate_left
        · (try simp only [] at hin); go_simp <;> with_reducible rfl
        try simp only [Act.put, List.setIfInBounds_toArray, List.set_cons_zero, List.set_cons_succ]
        refine wpS_take 4 (v := ?_) hSw rfl (by kernel_rfl) (by kernel_rfl) (by kernel_rfl) (by rfl) (fun w' hin => ?_) ?_
        rotate_left
        · (try simp only [] at hin); go_simp <;> with_reducible rfl
        try simp only [Act.put, List.setIfInBounds_toArray, List.set_cons_zero, List.set_cons_succ]
        refine wpS_take 5 (v := ?_) hSw rfl (by kernel_rfl) (by kernel_rfl) (by kernel_rfl) (by rfl) (fun w' hin => ?_) ?_
        rotate_left
        · (try simp only [] at hin); go_simp <;> with_reducible rfl
        try simp only [Act.put, List.setIfInBounds_toArray, List.set_cons_zero, List.set_cons_succ]
        refine wpS_take 6 (v := ?_) hSw rfl (by kernel_rfl) (by kernel_rfl) (by kernel_rfl) (by rfl) (fun w' hin => ?_) ?_
        rotate_left
        · (try simp only [] at hin); go_simp <;> with_reducible rfl
        try simp only [Act.put, List.setIfInBounds_toArray, List.set_cons_zero, List.set_cons_succ]
        refine wpS_take 7 (v := ?_) hSw rfl (by kernel_rfl) (by kernel_rfl) (by kernel_rfl) (by rfl) (fun w' hin => ?_) ?_
        rotate_left
        · (try simp only [] at hin); go_simp <;> with_reducible rfl
        try simp only [Act.put, List.setIfInBounds_toArray, List.set_cons_zero, List.set_cons_succ]
        refine wpS_take 8 (v := ?_) hSw rfl (by kernel_rfl) (by kernel_rfl) (by kernel_rfl) (by rfl) (fun w' hin => ?_) ?_
        rotate_left
        · (try simp only [] at hin); go_simp <;> with_reducible rfl
        try simp only [Act.put, List.setIfInBounds_toArray, List.set_cons_zero, List.set_cons_succ]
        refine wpS_take 9 (v := ?_) hSw rfl (by kernel_rfl) (by kernel_rfl) (by kernel_rfl) (by rfl) (fun w' hin => ?_) ?_
        rotate_left
        · (try simp only [] at hin); go_simp <;> with_reducible rfl
        try simp only [Act.put, List.setIfInBounds_toArray, List.set_cons_zero, List.set_cons_succ]
        refine wpS_take 10 (v := ?_) hSw rfl (by kernel_rfl) (by kernel_rfl) (by kernel_rfl) (by rfl) (fun w' hin => ?_) ?_
        rotate_left
        · (try simp only [] at hin); go_simp <;> with_reducible rfl
        try simp only [Act.put, List.setIfInBounds_toArray, List.set_cons_zero, List.set_cons_succ]
        refine wpS_take 11 (v := ?_) hSw rfl (by kernel_rfl) (by kernel_rfl) (by kernel_rfl) (by rfl) (fun w' hin => ?_) ?_
        rotate_left
        · (try simp only [] at hin); go_simp <;> with_reducible rfl
        try simp only [Act.put, List.setIfInBounds_toArray, List.set_cons_zero, List.set_cons_succ]
        refine wpS_skip 12 hSw rfl (by kernel_rfl) (by kernel_rfl) (by kernel_rfl) (by rfl) ?_
        try simp only [Act.put, List.setIfInBounds_toArray, List.set_cons_zero, List.set_cons_succ]
        refine wpS_skip 13 hSw rfl (by kernel_rfl) (by kernel_rfl) (by kernel_rfl) (by rfl) ?_
        try simp only [Act.put, List.setIfInBounds_toArray, List.set_cons_zero, List.set_cons_succ]
        refine wpS_skip 14 hSw rfl (by kernel_rfl) (by kernel_rfl) (by kernel_rfl) (by rfl) ?_
        try simp only [Act.put, List.setIfInBounds_toArray, List.set_cons_zero, List.set_cons_succ]
        refine wpS_skip 15 hSw rfl (by kernel_rfl) (by kernel_rfl) (by kernel_rfl) (by rfl) ?_
        try simp only [Act.put, List.setIfInBounds_toArray, List.set_cons_zero, List.set_cons_succ]
        refine wpS_skip 16 hSw rfl (by kernel_rfl) (by kernel_rfl) (by kernel_rfl) (by rfl) ?_
        try simp only [Act.put, List.setIfInBounds_toArray, List.set_cons_zero, List.set_cons_succ]
        refine wpS_skip 17 hSw rfl (by kernel_rfl) (by kernel_rfl) (by kernel_rfl) (by rfl) ?_
        try simp only [Act.put, List.setIfInBounds_toArray, List.set_cons_zero, List.set_cons_succ]
        refine wpS_skip 18 hSw rfl (by kernel_rfl) (by kernel_rfl) (by kernel_rfl) (by rfl) ?_
        try simp only [Act.put, List.setIfInBounds_toArray, List.set_cons_zero, List.set_cons_succ]
        refine wpS_skip 19 hSw rfl (by kernel_rfl) (by kernel_rfl) (by kernel_rfl) (by rfl) ?_
        try simp only [Act.put, List.setIfInBounds_toArray, List.set_cons_zero, List.set_cons_succ]
        refine wpS_skip 20 hSw rfl (by kernel_rfl) (by kernel_rfl) (by kernel_rfl) (by rfl) ?_
        try simp only [Act.put, List.setIfInBounds_toArray, List.set_cons_zero, List.set_cons_succ]
        refine wpS_skip 21 hSw rfl (by kernel_rfl) (by kernel_rfl) (by kernel_rfl) (by rfl) ?_
        try simp only [Act.put, List.setIfInBounds_toArray, List.set_cons_zero, List.set_cons_succ]
        refine wpS_skip 22 hSw rfl (by kernel_rfl) (by kernel_rfl) (by kernel_rfl) (by rfl) ?_
        try simp only [Act.put, List.setIfInBounds_toArray, List.set_cons_zero, List.set_cons_succ]
        refine wpS_take 23 (v := ?_) hSw rfl (by kernel_rfl) (by kernel_rfl) (by kernel_rfl) (by rfl) (fun w' hin => ?_) ?_
        rotate_left
        · (try simp only [] at hin); go_simp <;> with_reducible rfl
        try simp only [Act.put, List.setIfInBounds_toArray, List.set_cons_zero, List.set_cons_succ]
        refine wpS_take 24 (v := ?_) hSw rfl (by kernel_rfl) (by kernel_rfl) (by kernel_rfl) (by rfl) (fun w' hin => ?_) ?_
        rotate_left
        · (try simp only [] at hin); go_simp <;> with_reducible rfl
        try simp only [Act.put, List.setIfInBounds_toArray, List.set_cons_zero, List.set_cons_succ]
        refine wpS_skip 25 hSw rfl (by kernel_rfl) (by kernel_rfl) (by kernel_rfl) (by rfl) ?_
        try simp only [Act.put, List.setIfInBounds_toArray, List.set_cons_zero, List.set_cons_succ]
        refine wpS_skip 26 hSw rfl (by kernel_rfl) (by kernel_rfl) (by kernel_rfl) (by rfl) ?_
        try simp only [Act.put, List.setIfInBounds_toArray, List.set_cons_zero, List.set_cons_succ]
        refine wpS_skip 27 hSw rfl (by kernel_rfl) (by kernel_rfl) (by kernel_rfl) (by rfl) ?_
        try simp only [Act.put, List.setIfInBounds_toArray, List.set_cons_zero, List.set_cons_succ]
        refine wpS_skip 28 hSw rfl (by kernel_rfl) (by kernel_rfl) (by kernel_rfl) (by rfl) ?_
        try simp only [Act.put, List.setIfInBounds_toArray, List.set_cons_zero, List.set_cons_succ]
        refine wpS_skip 29 hSw rfl (by kernel_rfl) (by kernel_rfl) (by kernel_rfl) (by rfl) ?_
        try simp only [Act.put, List.setIfInBounds_toArray, List.set_cons_zero, List.set_cons_succ]
        refine wpS_skip 30 hSw rfl (by kernel_rfl) (by kernel_rfl) (by kernel_rfl) (by rfl) ?_
        try simp only [Act.put, List.setIfInBounds_toArray, List.set_cons_zero, List.set_cons_succ]
        refine wpS_skip 31 hSw rfl (by kernel_rfl) (by kernel_rfl) (by kernel_rfl) (by rfl) ?_
        try simp only [Act.put, List.setIfInBounds_toArray, List.set_cons_zero, List.set_cons_succ]
        refine wpS_skip 32 hSw rfl (by kernel_rfl) (by kernel_rfl) (by kernel_rfl) (by rfl) ?_
        try simp only [Act.put, List.setIfInBounds_toArray, List.set_cons_zero, List.set_cons_succ]
        refine wpS_skip 33 hSw rfl (by kernel_rfl) (by kernel_rfl) (by kernel_rfl) (by rfl) ?_
        try simp only [Act.put, List.setIfInBounds_toArray, List.set_cons_zero, List.set_cons_succ]
        refine wpS_skip 34 hSw rfl (by kernel_rfl) (by kernel_rfl) (by kernel_rfl) (by rfl) ?_
        try simp only [Act.put, List.setIfInBounds_toArray, List.set_cons_zero, List.set_cons_succ]
        refine wpS_skip 35 hSw rfl (by kernel_rfl) (by kernel_rfl) (by kernel_rfl) (by rfl) ?_
        try simp only [Act.put, List.setIfInBounds_toArray, List.set_cons_zero, List.set_cons_succ]
        refine wpS_skip 36 hSw rfl (by kernel_rfl) (by kernel_rfl) (by kernel_rfl) (by rfl) ?_
        try simp only [Act.put, List.setIfInBounds_toArray, List.set_cons_zero, List.set_cons_succ]
        refine wpS_skip 37 hSw rfl (by kernel_rfl) (by kernel_rfl) (by kernel_rfl) (by rfl) ?_
        try simp only [Act.put, List.setIfInBounds_toArray, List.set_cons_zero, List.set_cons_succ]
        refine wpS_take 38 (v := ?_) hSw rfl (by kernel_rfl) (by kernel_rfl) (by kernel_rfl) (by rfl) (fun w' hin => ?_) ?_
        rotate_left
        · (try simp only [] at hin); go_simp <;> with_reducible rfl
        try simp only [Act.put, List.setIfInBounds_toArray, List.set_cons_zero, List.set_cons_succ]
        refine wpS_done (by kernel_rfl) ?_
        have HX2 := Lib.hid hSw
        clear d0 d1 d0' d1' d2 d2' hSw
        go_wp2_with fail
        go_ret
        exact ⟨ret_bool HF.out.symm, HX2.out⟩
      by_cases g2 : x.pre.toList = x'.pre.toList
      rotate_left
      · have HF : Hid (Z = false) := Lib.hid (by rw [HZ.out]; exact decide_eq_false (ne_of_at HLK.out HLK'.out (fun e => g2 (by rw [e]))))
        have g2b : (x.pre.toList == x'.pre.toList) = false := by rw [beq_eq_false_iff_ne]; exact g2
        go_wp2_with fail
        have hSw : Ext w wr.drew := HX.out.drew
        refine wpS_begin (Ext w) (by kernel_rfl) ?_
        refine wpS_take 0 (v := ?_) hSw rfl (by kernel_rfl) (by kernel_rfl) (by kernel_rfl) (by rfl) (fun w' hin => ?_) ?_
        rotate_left
        · (try simp only [] at hin); go_simp <;> with_reducible rfl
        try simp only [Act.put, List.setIfInBounds_toArray, List.set_cons_zero, List.set_cons_succ]
        refine wpS_take 1 (v := ?_) hSw rfl (by kernel_rfl) (by kernel_rfl) (by kernel_rfl) (by rfl) (fun w' hin => ?_) ?_
        rotate_left
        · (try simp only [] at hin); go_simp <;> with_reducible rfl
        try simp only [Act.put, List.setIfInBounds_toArray, List.set_cons_zero, List.set_cons_succ]
        refine wpS_take 2 (v := ?_) hSw rfl (by kernel_rfl) (by kernel_rfl) (by kernel_rfl) (by rfl) (fun w' hin => ?_) ?_
        rotate_left
        · (try simp only [] at hin); go_simp <;> with_reducible rfl
        try simp only [Act.put, List.setIfInBounds_toArray, List.set_cons_zero, List.set_cons_succ]
        refine wpS_take 3 (v := ?_) hSw rfl (by kernel_rfl) (by kernel_rfl) (by kernel_rfl) (by rfl) (fun w' hin => ?_) ?_
        rotate_left
        · (try simp only [] at hin); go_simp <;> with_reducible rfl
        try simp only [Act.put, List.setIfInBounds_toArray, List.set_cons_zero, List.set_cons_succ]
        refine wpS_take 4 (v := ?_) hSw rfl (by kernel_rfl) (by kernel_rfl) (by kernel_rfl) (by rfl) (fun w' hin => ?_) ?_
        rotate_left
        · (try simp only [] at hin); go_simp <;> with_reducible rfl
        try simp only [Act.put, List.setIfInBounds_toArray, List.set_cons_zero, List.set_cons_succ]
        refine wpS_take 5 (v := ?_) hSw rfl (by kernel_rfl) (by kernel_rfl) (by kernel_rfl) (by rfl) (fun w' hin => ?_) ?_
        rotate_left
        · (try simp only [] at hin); go_simp <;> with_reducible rfl
        try simp only [Act.put, List.setIfInBounds_toArray, List.set_cons_zero, List.set_cons_succ]
        refine wpS_take 6 (v := ?_) hSw rfl (by kernel_rfl) (by kernel_rfl) (by kernel_rfl) (by rfl) (fun w' hin => ?_) ?_
        rotate_left
        · (try simp only [] at hin); go_simp <;> with_reducible rfl
        try simp only [Act.put, List.setIfInBounds_toArray, List.set_cons_zero, List.set_cons_succ]
        refine wpS_take 7 (v := ?_) hSw rfl (by kernel_rfl) (by kernel_rfl) (by kernel_rfl) (by rfl) (fun w' hin => ?_) ?_
        rotate_left
        · (try simp only [] at hin); go_simp <;> with_reducible rfl
        try simp only [Act.put, List.setIfInBounds_toArray, List.set_cons_zero, List.set_cons_succ]
        refine wpS_take 8 (v := ?_) hSw rfl (by kernel_rfl) (by kernel_rfl) (by kernel_rfl) (by rfl) (fun w' hin => ?_) ?_
        rotate_left
        · (try simp only [] at hin); go_simp <;> with_reducible rfl
        try simp only [Act.put, List.setIfInBounds_toArray, List.set_cons_zero, List.set_cons_succ]
        refine wpS_take 9 (v := ?_) hSw rfl (by kernel_rfl) (by kernel_rfl) (by kernel_rfl) (by rfl) (fun w' hin => ?_) ?_
        rotate_left
        · (try simp only [] at hin); go_simp <;> with_reducible rfl
        try simp only [Act.put, List.setIfInBounds_toArray, List.set_cons_zero, List.set_cons_succ]
        refine wpS_take 10 (v := ?_) hSw rfl (by kernel_rfl) (by kernel_rfl) (by kernel_rfl) (by rfl) (fun w' hin => ?_) ?_
        rotate_left
        · (try simp only [] at hin); go_simp <;> with_reducible rfl
        try simp only [Act.put, List.setIfInBounds_toArray, List.set_cons_zero, List.set_cons_succ]
        refine wpS_take 11 (v := ?_) hSw rfl (by kernel_rfl) (by kernel_rfl) (by kernel_rfl) (by rfl) (fun w' hin => ?_) ?_
        rotate_left
        · (try simp only [] at hin); go_simp <;> with_reducible rfl
        try simp only [Act.put, List.setIfInBounds_toArray, List.set_cons_zero, List.set_cons_succ]
        refine wpS_take 12 (v := ?_) hSw rfl (by kernel_rfl) (by kernel_rfl) (by kernel_rfl) (by rfl) (fun w' hin => ?_) ?_
        rotate_left
        · (try simp only [] at hin); go_simp <;> with_reducible rfl
        try simp only [Act.put, List.setIfInBounds_toArray, List.set_cons_zero, List.set_cons_succ]
        refine wpS_take 13 (v := ?_) hSw rfl (by kernel_rfl) (by kernel_rfl) (by kernel_rfl) (by rfl) (fun w' hin => ?_) ?_
        rotate_left
        · (try simp only [] at hin); go_simp <;> with_reducible rfl
        try simp only [Act.put, List.setIfInBounds_toArray, List.set_cons_zero, List.set_cons_succ]
        refine wpS_take 14 (v := ?_) hSw rfl (by kernel_rfl) (by kernel_rfl) (by kernel_rfl) (by rfl) (fun w' hin => ?_) ?_
        rotate_left
        · (try simp only [] at hin); go_simp <;> with_reducible rfl
        try simp only [Act.put, List.setIfInBounds_toArray, List.set_cons_zero, List.set_cons_succ]
        refine wpS_take 15 (v := ?_) hSw rfl (by kernel_rfl) (by kernel_rfl) (by kernel_rfl) (by rfl) (fun w' hin => ?_) ?_
        rotate_left
        · (try simp only [] at hin); go_simp <;> with_reducible rfl
        try simp only [Act.put, List.setIfInBounds_toArray, List.set_cons_zero, List.set_cons_succ]
        refine wpS_take 16 (v := ?_) hSw rfl (by kernel_rfl) (by kernel_rfl) (by kernel_rfl) (by rfl) (fun w' hin => ?_) ?_
        rotate_left
        · (try simp only [] at hin); go_simp <;> with_reducible rfl
        try simp only [Act.put, List.setIfInBounds_toArray, List.set_cons_zero, List.set_cons_succ]
        refine wpS_take 17 (v := ?_) hSw rfl (by kernel_rfl) (by kernel_rfl) (by kernel_rfl) (by rfl) (fun w' hin => ?_) ?_
        rotate_left
        · (try simp only [] at hin); go_simp <;> with_reducible rfl
        try simp only [Act.put, List.setIfInBounds_toArray, List.set_cons_zero, List.set_cons_succ]
        refine wpS_take 18 (v := ?_) hSw rfl (by kernel_rfl) (by kernel_rfl) (by kernel_rfl) (by rfl) (fun w' hin => ?_) ?_
        rotate_left
        · (try simp only [] at hin); go_simp <;> with_reducible rfl
        try simp only [Act.put, List.setIfInBounds_toArray, List.set_cons_zero, List.set_cons_succ]
        refine wpS_take 19 (v := ?_) hSw rfl (by kernel_rfl) (by kernel_rfl) (by kernel_rfl) (by rfl) (fun w' hin => ?_) ?_
        rotate_left
        · (try simp only [] at hin); go_simp <;> with_reducible rfl
        try simp only [Act.put, List.setIfInBounds_toArray, List.set_cons_zero, List.set_cons_succ]
        refine wpS_take 20 (v := ?_) hSw rfl (by kernel_rfl) (by kernel_rfl) (by kernel_rfl) (by rfl) (fun w' hin => ?_) ?_
        rotate_left
        · (try simp only [] at hin); go_simp <;> with_reducible rfl
        try simp only [Act.put, List.setIfInBounds_toArray, List.set_cons_zero, List.set_cons_succ]
        refine wpS_take 21 (v := ?_) hSw rfl (by kernel_rfl) (by kernel_rfl) (by kernel_rfl) (by rfl) (fun w' hin => ?_) ?_
        rotate_left
        · (try simp only [] at hin); go_simp <;> with_reducible rfl
        try simp only [Act.put, List.setIfInBounds_toArray, List.set_cons_zero, List.set_cons_succ]
        refine wpS_take 22 (v := ?_) hSw rfl (by kernel_rfl) (by kernel_rfl) (by kernel_rfl) (by rfl) (fun w' hin => ?_) ?_
        rotate_left
        · (try simp only [] at hin); go_simp <;> with_reducible rfl
        try simp only [Act.put, List.setIfInBounds_toArray, List.set_cons_zero, List.set_cons_succ]
        refine wpS_take 23 (v := ?_) hSw rfl (by kernel_rfl) (by kernel_rfl) (by kernel_rfl) (by rfl) (fun w' hin => ?_) ?_
        rotate_left
        · (try simp only [] at hin); go_simp <;> with_reducible rfl
        try simp only [Act.put, List.setIfInBounds_toArray, List.set_cons_zero, List.set_cons_succ]
        refine wpS_take 24 (v := ?_) hSw rfl (by kernel_rfl) (by kernel_rfl) (by kernel_rfl) (by rfl) (fun w' hin => ?_) ?_
        rotate_left
        · (try simp only [] at hin); go_simp <;> with_reducible rfl
        try simp only [Act.put, List.setIfInBounds_toArray, List.set_cons_zero, List.set_cons_succ]
        refine wpS_skip 25 hSw rfl (by kernel_rfl) (by kernel_rfl) (by kernel_rfl) (by rfl) ?_
        try simp only [Act.put, List.setIfInBounds_toArray, List.set_cons_zero, List.set_cons_succ]
        refine wpS_skip 26 hSw rfl (by kernel_rfl) (by kernel_rfl) (by kernel_rfl) (by rfl) ?_
        try simp only [Act.put, List.setIfInBounds_toArray, List.set_cons_zero, List.set_cons_succ]
        refine wpS_skip 27 hSw rfl (by kernel_rfl) (by kernel_rfl) (by kernel_rfl) (by rfl) ?_
        try simp only [Act.put, List.setIfInBounds_toArray, List.set_cons_zero, List.set_cons_succ]
        refine wpS_skip 28 hSw rfl (by kernel_rfl) (by kernel_rfl) (by kernel_rfl) (by rfl) ?_
        try simp only [Act.put, List.setIfInBounds_toArray, List.set_cons_zero, List.set_cons_succ]
        refine wpS_skip 29 hSw rfl (by kernel_rfl) (by kernel_rfl) (by kernel_rfl) (by rfl) ?_
        try simp only [Act.put, List.setIfInBounds_toArray, List.set_cons_zero, List.set_cons_succ]
        refine wpS_skip 30 hSw rfl (by kernel_rfl) (by kernel_rfl) (by kernel_rfl) (by rfl) ?_
        try simp only [Act.put, List.setIfInBounds_toArray, List.set_cons_zero, List.set_cons_succ]
        refine wpS_skip 31 hSw rfl (by kernel_rfl) (by kernel_rfl) (by kernel_rfl) (by rfl) ?_
        try simp only [Act.put, List.setIfInBounds_toArray, List.set_cons_zero, List.set_cons_succ]
        refine wpS_skip 32 hSw rfl (by kernel_rfl) (by kernel_rfl) (by kernel_rfl) (by rfl) ?_
        try simp only [Act.put, List.setIfInBounds_toArray, List.set_cons_zero, List.set_cons_succ]
        refine wpS_skip 33 hSw rfl (by kernel_rfl) (by kernel_rfl) (by kernel_rfl) (by rfl) ?_
        try simp only [Act.put, List.setIfInBounds_toArray, List.set_cons_zero, List.set_cons_succ]
        refine wpS_skip 34 hSw rfl (by kernel_rfl) (by kernel_rfl) (by kernel_rfl) (by rfl) ?_
        try simp only [Act.put, List.setIfInBounds_toArray, List.set_cons_zero, List.set_cons_succ]
        refine wpS_skip 35 hSw rfl (by kernel_rfl) (by kernel_rfl) (by kernel_rfl) (by rfl) ?_
        try simp only [Act.put, List.setIfInBounds_toArray, List.set_cons_zero, List.set_cons_succ]
        refine wpS_skip 36 hSw rfl (by kernel_rfl) (by kernel_rfl) (by kernel_rfl) (by rfl) ?_
        try simp only [Act.put, List.setIfInBounds_toArray, List.set_cons_zero, List.set_cons_succ]
        refine wpS_skip 37 hSw rfl (by kernel_rfl) (by kernel_rfl) (by kernel_rfl) (by rfl) ?_
        try simp only [Act.put, List.setIfInBounds_toArray, List.set_cons_zero, List.set_cons_succ]
        refine wpS_take 38 (v := ?_) hSw rfl (by kernel_rfl) (by kernel_rfl) (by kernel_rfl) (by rfl) (fun w' hin => ?_) ?_
        rotate_left
        · (try simp only [] at hin); go_simp <;> with_reducible rfl
        try simp only [Act.put, List.setIfInBounds_toArray, List.set_cons_zero, List.set_cons_succ]
        refine wpS_done (by kernel_rfl) ?_
        have HX2 := Lib.hid hSw
        clear d0 d1 d0' d1' d2 d2' hSw
        go_wp2_with fail
        go_ret
        exact ⟨ret_bool HF.out.symm, HX2.out⟩
      by_cases g3 : m = m'
      rotate_left
      · have HF : Hid (Z = false) := Lib.hid (by rw [HZ.out]; exact decide_eq_false (ne_of_at HLK.out HLK'.out (fun e => g3 (by rw [← HV.out.arr.len, ← HV'.out.arr.len, e]))))
        have g3b : ((m : Int) != (m' : Int)) = true := by rw [bne_iff_ne]; omega
        go_wp2_with fail
        have hSw : Ext w wr.drew := HX.out.drew
        refine wpS_begin (Ext w) (by kernel_rfl) ?_
        refine wpS_take 0 (v := ?_) hSw rfl (by kernel_rfl) (by kernel_rfl) (by kernel_rfl) (by rfl) (fun w' hin => ?_) ?_
        rotate_left
        · (try simp only [] at hin); go_simp <;> with_reducible rfl
        try simp only [Act.put, List.setIfInBounds_toArray, List.set_cons_zero, List.set_cons_succ]
        refine wpS_take 1 (v := ?_) hSw rfl (by kernel_rfl) (by kernel_rfl) (by kernel_rfl) (by rfl) (fun w' hin => ?_) ?_
        rotate_left
        · (try simp only [] at hin); go_simp <;> with_reducible rfl
        try simp only [Act.put, List.setIfInBounds_toArray, List.set_cons_zero, List.set_cons_succ]
        refine wpS_take 2 (v := ?_) hSw rfl (by kernel_rfl) (by kernel_rfl) (by kernel_rfl) (by rfl) (fun w' hin => ?_) ?_
        rotate_left
        · (try simp only [] at hin); go_simp <;> with_reducible rfl
        try simp only [Act.put, List.setIfInBounds_toArray, List.set_cons_zero, List.set_cons_succ]
        refine wpS_take 3 (v := ?_) hSw rfl (by kernel_rfl) (by kernel_rfl) (by kernel_rfl) (by rfl) (fun w' hin => ?_) ?_
        rotate_left
        · (try simp only [] at hin); go_simp <;> with_reducible rfl
        try simp only [Act.put, List.setIfInBounds_toArray, List.set_cons_zero, List.set_cons_succ]
        refine wpS_take 4 (v := ?_) hSw rfl (by kernel_rfl) (by kernel_rfl) (by kernel_rfl) (by rfl) (fun w' hin => ?_) ?_
        rotate_left
        · (try simp only [] at hin); go_simp <;> with_reducible rfl
        try simp only [Act.put, List.setIfInBounds_toArray, List.set_cons_zero, List.set_cons_succ]
        refine wpS_take 5 (v := ?_) hSw rfl (by kernel_rfl) (by kernel_rfl) (by kernel_rfl) (by rfl) (fun w' hin => ?_) ?_
        rotate_left
        · (try simp only [] at hin); go_simp <;> with_reducible rfl
        try simp only [Act.put, List.setIfInBounds_toArray, List.set_cons_zero, List.set_cons_succ]
        refine wpS_take 6 (v := ?_) hSw rfl (by kernel_rfl) (by kernel_rfl) (by kernel_rfl) (by rfl) (fun w' hin => ?_) ?_
        rotate_left
        · (try simp only [] at hin); go_simp <;> with_reducible rfl
        try simp only [Act.put, List.setIfInBounds_toArray, List.set_cons_zero, List.set_cons_succ]
        refine wpS_take 7 (v := ?_) hSw rfl (by kernel_rfl) (by kernel_rfl) (by kernel_rfl) (by rfl) (fun w' hin => ?_) ?_
        rotate_left
        · (try simp only [] at hin); go_simp <;> with_reducible rfl
        try simp only [Act.put, List.setIfInBounds_toArray, List.set_cons_zero, List.set_cons_succ]
        refine wpS_take 8 (v := ?_) hSw rfl (by kernel_rfl) (by kernel_rfl) (by kernel_rfl) (by rfl) (fun w' hin => ?_) ?_
        rotate_left
        · (try simp only [] at hin); go_simp <;> with_reducible rfl
        try simp only [Act.put, List.setIfInBounds_toArray, List.set_cons_zero, List.set_cons_succ]
        refine wpS_take 9 (v := ?_) hSw rfl (by kernel_rfl) (by kernel_rfl) (by kernel_rfl) (by rfl) (fun w' hin => ?_) ?_
        rotate_left
        · (try simp only [] at hin); go_simp <;> with_reducible rfl
        try simp only [Act.put, List.setIfInBounds_toArray, List.set_cons_zero, List.set_cons_succ]
        refine wpS_take 10 (v := ?_) hSw rfl (by kernel_rfl) (by kernel_rfl) (by kernel_rfl) (by rfl) (fun w' hin => ?_) ?_
        rotate_left
        · (try simp only [] at hin); go_simp <;> with_reducible rfl
        try simp only [Act.put, List.setIfInBounds_toArray, List.set_cons_zero, List.set_cons_succ]
        refine wpS_take 11 (v := ?_) hSw rfl (by kernel_rfl) (by kernel_rfl) (by kernel_rfl) (by rfl) (fun w' hin => ?_) ?_
        rotate_left
        · (try simp only [] at hin); go_simp <;> with_reducible rfl
        try simp only [Act.put, List.setIfInBounds_toArray, List.set_cons_zero, List.set_cons_succ]
        refine wpS_take 12 (v := ?_) hSw rfl (by kernel_rfl) (by kernel_rfl) (by kernel_rfl) (by rfl) (fun w' hin => ?_) ?_
        rotate_left
        · (try simp only [] at hin); go_simp <;> with_reducible rfl
        try simp only [Act.put, List.setIfInBounds_toArray, List.set_cons_zero, List.set_cons_succ]
        refine wpS_take 13 (v := ?_) hSw rfl (by kernel_rfl) (by kernel_rfl) (by kernel_rfl) (by rfl) (fun w' hin => ?_) ?_
        rotate_left
        · (try simp only [] at hin); go_simp <;> with_reducible rfl
        try simp only [Act.put, List.setIfInBounds_toArray, List.set_cons_zero, List.set_cons_succ]
        refine wpS_take 14 (v := ?_) hSw rfl (by kernel_rfl) (by kernel_rfl) (by kernel_rfl) (by rfl) (fun w' hin => ?_) ?_
        rotate_left
        · (try simp only [] at hin); go_simp <;> with_reducible rfl
        try simp only [Act.put, List.setIfInBounds_toArray, List.set_cons_zero, List.set_cons_succ]
        refine wpS_take 15 (v := ?_) hSw rfl (by kernel_rfl) (by kernel_rfl) (by kernel_rfl) (by rfl) (fun w' hin => ?_) ?_
        rotate_left
        · (try simp only [] at hin); go_simp <;> with_reducible rfl
        try simp only [Act.put, List.setIfInBounds_toArray, List.set_cons_zero, List.set_cons_succ]
        refine wpS_take 16 (v := ?_) hSw rfl (by kernel_rfl) (by kernel_rfl) (by kernel_rfl) (by rfl) (fun w' hin => ?_) ?_
        rotate_left
        · (try simp only [] at hin); go_simp <;> with_reducible rfl
        try simp only [Act.put, List.setIfInBounds_toArray, List.set_cons_zero, List.set_cons_succ]
        refine wpS_take 17 (v := ?_) hSw rfl (by kernel_rfl) (by kernel_rfl) (by kernel_rfl) (by rfl) (fun w' hin => ?_) ?_
        rotate_left
        · (try simp only [] at hin); go_simp <;> with_reducible rfl
        try simp only [Act.put, List.setIfInBounds_toArray, List.set_cons_zero, List.set_cons_succ]
        refine wpS_take 18 (v := ?_) hSw rfl (by kernel_rfl) (by kernel_rfl) (by kernel_rfl) (by rfl) (fun w' hin => ?_) ?_
        rotate_left
        · (try simp only [] at hin); go_simp <;> with_reducible rfl
        try simp only [Act.put, List.setIfInBounds_toArray, List.set_cons_zero, List.set_cons_succ]
        refine wpS_take 19 (v := ?_) hSw rfl (by kernel_rfl) (by kernel_rfl) (by kernel_rfl) (by rfl) (fun w' hin => ?_) ?_
        rotate_left
        · (try simp only [] at hin); go_simp <;> with_reducible rfl
        try simp only [Act.put, List.setIfInBounds_toArray, List.set_cons_zero, List.set_cons_succ]
        refine wpS_take 20 (v := ?_) hSw rfl (by kernel_rfl) (by kernel_rfl) (by kernel_rfl) (by rfl) (fun w' hin => ?_) ?_
        rotate_left
        · (try simp only [] at hin); go_simp <;> with_reducible rfl
        try simp only [Act.put, List.setIfInBounds_toArray, List.set_cons_zero, List.set_cons_succ]
        refine wpS_take 21 (v := ?_) hSw rfl (by kernel_rfl) (by kernel_rfl) (by kernel_rfl) (by rfl) (fun w' hin => ?_) ?_
        rotate_left
        · (try simp only [] at hin); go_simp <;> with_reducible rfl
        try simp only [Act.put, List.setIfInBounds_toArray, List.set_cons_zero, List.set_cons_succ]
        refine wpS_take 22 (v := ?_) hSw rfl (by kernel_rfl) (by kernel_rfl) (by kernel_rfl) (by rfl) (fun w' hin => ?_) ?_
        rotate_left
        · (try simp only [] at hin); go_simp <;> with_reducible rfl
        try simp only [Act.put, List.setIfInBounds_toArray, List.set_cons_zero, List.set_cons_succ]
        refine wpS_take 23 (v := ?_) hSw rfl (by kernel_rfl) (by kernel_rfl) (by kernel_rfl) (by rfl) (fun w' hin => ?_) ?_
        rotate_left
        · (try simp only [] at hin); go_simp <;> with_reducible rfl
        try simp only [Act.put, List.setIfInBounds_toArray, List.set_cons_zero, List.set_cons_succ]
        refine wpS_take 24 (v := ?_) hSw rfl (by kernel_rfl) (by kernel_rfl) (by kernel_rfl) (by rfl) (fun w' hin => ?_) ?_
        rotate_left
        · (try simp only [] at hin); go_simp <;> with_reducible rfl
        try simp only [Act.put, List.setIfInBounds_toArray, List.set_cons_zero, List.set_cons_succ]
        refine wpS_take 25 (v := ?_) hSw rfl (by kernel_rfl) (by kernel_rfl) (by kernel_rfl) (by rfl) (fun w' hin => ?_) ?_
        rotate_left
        · (try simp only [] at hin); go_simp <;> with_reducible rfl
        try simp only [Act.put, List.setIfInBounds_toArray, List.set_cons_zero, List.set_cons_succ]
        refine wpS_take 26 (v := ?_) hSw rfl (by kernel_rfl) (by kernel_rfl) (by kernel_rfl) (by rfl) (fun w' hin => ?_) ?_
        rotate_left
        · (try simp only [] at hin); go_simp <;> with_reducible rfl
        try simp only [Act.put, List.setIfInBounds_toArray, List.set_cons_zero, List.set_cons_succ]
        refine wpS_take 27 (v := ?_) hSw rfl (by kernel_rfl) (by kernel_rfl) (by kernel_rfl) (by rfl) (fun w' hin => ?_) ?_
        rotate_left
        · (try simp only [] at hin); go_simp <;> with_reducible rfl
        try simp only [Act.put, List.setIfInBounds_toArray, List.set_cons_zero, List.set_cons_succ]
        refine wpS_take 28 (v := ?_) hSw rfl (by kernel_rfl) (by kernel_rfl) (by kernel_rfl) (by rfl) (fun w' hin => ?_) ?_
        rotate_left
        · (try simp only [] at hin); go_simp <;> with_reducible rfl
        try simp only [Act.put, List.setIfInBounds_toArray, List.set_cons_zero, List.set_cons_succ]
        refine wpS_take 29 (v := ?_) hSw rfl (by kernel_rfl) (by kernel_rfl) (by kernel_rfl) (by rfl) (fun w' hin => ?_) ?_
        rotate_left
        · (try simp only [] at hin); go_simp <;> with_reducible rfl
        try simp only [Act.put, List.setIfInBounds_toArray, List.set_cons_zero, List.set_cons_succ]
        refine wpS_take 30 (v := ?_) hSw rfl (by kernel_rfl) (by kernel_rfl) (by kernel_rfl) (by rfl) (fun w' hin => ?_) ?_
        rotate_left
        · (try simp only [] at hin); go_simp <;> with_reducible rfl
        try simp only [Act.put, List.setIfInBounds_toArray, List.set_cons_zero, List.set_cons_succ]
        refine wpS_take 31 (v := ?_) hSw rfl (by kernel_rfl) (by kernel_rfl) (by kernel_rfl) (by rfl) (fun w' hin => ?_) ?_
        rotate_left
        · (try simp only [] at hin); go_simp <;> with_reducible rfl
        try simp only [Act.put, List.setIfInBounds_toArray, List.set_cons_zero, List.set_cons_succ]
        refine wpS_take 32 (v := ?_) hSw rfl (by kernel_rfl) (by kernel_rfl) (by kernel_rfl) (by rfl) (fun w' hin => ?_) ?_
        rotate_left
        · (try simp only [] at hin); go_simp <;> with_reducible rfl
        try simp only [Act.put, List.setIfInBounds_toArray, List.set_cons_zero, List.set_cons_succ]
        refine wpS_take 33 (v := ?_) hSw rfl (by kernel_rfl) (by kernel_rfl) (by kernel_rfl) (by rfl) (fun w' hin => ?_) ?_
        rotate_left
        · (try simp only [] at hin); go_simp <;> with_reducible rfl
        try simp only [Act.put, List.setIfInBounds_toArray, List.set_cons_zero, List.set_cons_succ]
        refine wpS_take 34 (v := ?_) hSw rfl (by kernel_rfl) (by kernel_rfl) (by kernel_rfl) (by rfl) (fun w' hin => ?_) ?_
        rotate_left
        · (try simp only [] at hin); go_simp <;> with_reducible rfl
        try simp only [Act.put, List.setIfInBounds_toArray, List.set_cons_zero, List.set_cons_succ]
        refine wpS_take 35 (v := ?_) hSw rfl (by kernel_rfl) (by kernel_rfl) (by kernel_rfl) (by rfl) (fun w' hin => ?_) ?_
        rotate_left
        · (try simp only [] at hin); go_simp <;> with_reducible rfl
        try simp only [Act.put, List.setIfInBounds_toArray, List.set_cons_zero, List.set_cons_succ]
        refine wpS_take 36 (v := ?_) hSw rfl (by kernel_rfl) (by kernel_rfl) (by kernel_rfl) (by rfl) (fun w' hin => ?_) ?_
        rotate_left
        · (try simp only [] at hin); go_simp <;> with_reducible rfl
        try simp only [Act.put, List.setIfInBounds_toArray, List.set_cons_zero, List.set_cons_succ]
        refine wpS_take 37 (v := ?_) hSw rfl (by kernel_rfl) (by kernel_rfl) (by kernel_rfl) (by rfl) (fun w' hin => ?_) ?_
        rotate_left
        · (try simp only [] at hin); go_simp <;> with_reducible rfl
        try simp only [Act.put, List.setIfInBounds_toArray, List.set_cons_zero, List.set_cons_succ]
        refine wpS_take 38 (v := ?_) hSw rfl (by kernel_rfl) (by kernel_rfl) (by kernel_rfl) (by rfl) (fun w' hin => ?_) ?_
        rotate_left
        · (try simp only [] at hin); go_simp <;> with_reducible rfl
        try simp only [Act.put, List.setIfInBounds_toArray, List.set_cons_zero, List.set_cons_succ]
        refine wpS_done (by kernel_rfl) ?_
        have HX2 := Lib.hid hSw
        clear d0 d1 d0' d1' d2 d2' hSw
        go_wp2_with fail
        go_ret
        exact ⟨ret_bool HF.out.symm, HX2.out⟩
      subst g3
      have HG1 := Lib.hid g1
      have HG2 := Lib.hid g2
      go_wp2_with fail
      have hSw : Ext w wr.drew := HX.out.drew
      refine wpS_begin (Ext w) (by kernel_rfl) ?_
      refine wpS_take 0 (v := ?_) hSw rfl (by kernel_rfl) (by kernel_rfl) (by kernel_rfl) (by rfl) (fun w' hin => ?_) ?_
      rotate_left
      · (try simp only [] at hin); go_simp <;> with_reducible rfl
      try simp only [Act.put, List.setIfInBounds_toArray, List.set_cons_zero, List.set_cons_succ]
      refine wpS_take 1 (v := ?_) hSw rfl (by kernel_rfl) (by kernel_rfl) (by kernel_rfl) (by rfl) (fun w' hin => ?_) ?_
      rotate_left
      · (try simp only [] at hin); go_simp <;> with_reducible rfl
      try simp only [Act.put, List.setIfInBounds_toArray, List.set_cons_zero, List.set_cons_succ]
      refine wpS_take 2 (v := ?_) hSw rfl (by kernel_rfl) (by kernel_rfl) (by kernel_rfl) (by rfl) (fun w' hin => ?_) ?_
      rotate_left
      · (try simp only [] at hin); go_simp <;> with_reducible rfl
      try simp only [Act.put, List.setIfInBounds_toArray, List.set_cons_zero, List.set_cons_succ]
      refine wpS_take 3 (v := ?_) hSw rfl (by kernel_rfl) (by kernel_rfl) (by kernel_rfl) (by rfl) (fun w' hin => ?_) ?_
      rotate_left
      · (try simp only [] at hin); go_simp <;> with_reducible rfl
      try simp only [Act.put, List.setIfInBounds_toArray, List.set_cons_zero, List.set_cons_succ]
      refine wpS_take 4 (v := ?_) hSw rfl (by kernel_rfl) (by kernel_rfl) (by kernel_rfl) (by rfl) (fun w' hin => ?_) ?_
      rotate_left
      · (try simp only [] at hin); go_simp <;> with_reducible rfl
      try simp only [Act.put, List.setIfInBounds_toArray, List.set_cons_zero, List.set_cons_succ]
      refine wpS_take 5 (v := ?_) hSw rfl (by kernel_rfl) (by kernel_rfl) (by kernel_rfl) (by rfl) (fun w' hin => ?_) ?_
      rotate_left
      · (try simp only [] at hin); go_simp <;> with_reducible rfl
      try simp only [Act.put, List.setIfInBounds_toArray, List.set_cons_zero, List.set_cons_succ]
      refine wpS_take 6 (v := ?_) hSw rfl (by kernel_rfl) (by kernel_rfl) (by kernel_rfl) (by rfl) (fun w' hin => ?_) ?_
      rotate_left
      · (try simp only [] at hin); go_simp <;> with_reducible rfl
      try simp only [Act.put, List.setIfInBounds_toArray, List.set_cons_zero, List.set_cons_succ]
      refine wpS_take 7 (v := ?_) hSw rfl (by kernel_rfl) (by kernel_rfl) (by kernel_rfl) (by rfl) (fun w' hin => ?_) ?_
      rotate_left
      · (try simp only [] at hin); go_simp <;> with_reducible rfl
      try simp only [Act.put, List.setIfInBounds_toArray, List.set_cons_zero, List.set_cons_succ]
      refine wpS_take 8 (v := ?_) hSw rfl (by kernel_rfl) (by kernel_rfl) (by kernel_rfl) (by rfl) (fun w' hin => ?_) ?_
      rotate_left
      · (try simp only [] at hin); go_simp <;> with_reducible rfl
      try simp only [Act.put, List.setIfInBounds_toArray, List.set_cons_zero, List.set_cons_succ]
      refine wpS_take 9 (v := ?_) hSw rfl (by kernel_rfl) (by kernel_rfl) (by kernel_rfl) (by rfl) (fun w' hin => ?_) ?_
      rotate_left
      · (try simp only [] at hin); go_simp <;> with_reducible rfl
      try simp only [Act.put, List.setIfInBounds_toArray, List.set_cons_zero, List.set_cons_succ]
      refine wpS_take 10 (v := ?_) hSw rfl (by kernel_rfl) (by kernel_rfl) (by kernel_rfl) (by rfl) (fun w' hin => ?_) ?_
      rotate_left
      · (try simp only [] at hin); go_simp <;> with_reducible rfl
      try simp only [Act.put, List.setIfInBounds_toArray, List.set_cons_zero, List.set_cons_succ]
      refine wpS_take 11 (v := ?_) hSw rfl (by kernel_rfl) (by kernel_rfl) (by kernel_rfl) (by rfl) (fun w' hin => ?_) ?_
      rotate_left
      · (try simp only [] at hin); go_simp <;> with_reducible rfl
      try simp only [Act.put, List.setIfInBounds_toArray, List.set_cons_zero, List.set_cons_succ]
      refine wpS_take 12 (v := ?_) hSw rfl (by kernel_rfl) (by kernel_rfl) (by kernel_rfl) (by rfl) (fun w' hin => ?_) ?_
      rotate_left
      · (try simp only [] at hin); go_simp <;> with_reducible rfl
      try simp only [Act.put, List.setIfInBounds_toArray, List.set_cons_zero, List.set_cons_succ]
      refine wpS_take 13 (v := ?_) hSw rfl (by kernel_rfl) (by kernel_rfl) (by kernel_rfl) (by rfl) (fun w' hin => ?_) ?_
      rotate_left
      · (try simp only [] at hin); go_simp <;> with_reducible rfl
      try simp only [Act.put, List.setIfInBounds_toArray, List.set_cons_zero, List.set_cons_succ]
      refine wpS_take 14 (v := ?_) hSw rfl (by kernel_rfl) (by kernel_rfl) (by kernel_rfl) (by rfl) (fun w' hin => ?_) ?_
      rotate_left
      · (try simp only [] at hin); go_simp <;> with_reducible rfl
      try simp only [Act.put, List.setIfInBounds_toArray, List.set_cons_zero, List.set_cons_succ]
      refine wpS_take 15 (v := ?_) hSw rfl (by kernel_rfl) (by kernel_rfl) (by kernel_rfl) (by rfl) (fun w' hin => ?_) ?_
      rotate_left
      · (try simp only [] at hin); go_simp <;> with_reducible rfl
      try simp only [Act.put, List.setIfInBounds_toArray, List.set_cons_zero, List.set_cons_succ]
      refine wpS_take 16 (v := ?_) hSw rfl (by kernel_rfl) (by kernel_rfl) (by kernel_rfl) (by rfl) (fun w' hin => ?_) ?_
      rotate_left
      · (try simp only [] at hin); go_simp <;> with_reducible rfl
      try simp only [Act.put, List.setIfInBounds_toArray, List.set_cons_zero, List.set_cons_succ]
      refine wpS_take 17 (v := ?_) hSw rfl (by kernel_rfl) (by kernel_rfl) (by kernel_rfl) (by rfl) (fun w' hin => ?_) ?_
      rotate_left
      · (try simp only [] at hin); go_simp <;> with_reducible rfl
      try simp only [Act.put, List.setIfInBounds_toArray, List.set_cons_zero, List.set_cons_succ]
      refine wpS_take 18 (v := ?_) hSw rfl (by kernel_rfl) (by kernel_rfl) (by kernel_rfl) (by rfl) (fun w' hin => ?_) ?_
      rotate_left
      · (try simp only [] at hin); go_simp <;> with_reducible rfl
      try simp only [Act.put, List.setIfInBounds_toArray, List.set_cons_zero, List.set_cons_succ]
      refine wpS_take 19 (v := ?_) hSw rfl (by kernel_rfl) (by kernel_rfl) (by kernel_rfl) (by rfl) (fun w' hin => ?_) ?_
      rotate_left
      · (try simp only [] at hin); go_simp <;> with_reducible rfl
      try simp only [Act.put, List.setIfInBounds_toArray, List.set_cons_zero, List.set_cons_succ]
      refine wpS_take 20 (v := ?_) hSw rfl (by kernel_rfl) (by kernel_rfl) (by kernel_rfl) (by rfl) (fun w' hin => ?_) ?_
      rotate_left
      · (try simp only [] at hin); go_simp <;> with_reducible rfl
      try simp only [Act.put, List.setIfInBounds_toArray, List.set_cons_zero, List.set_cons_succ]
      refine wpS_take 21 (v := ?_) hSw rfl (by kernel_rfl) (by kernel_rfl) (by kernel_rfl) (by rfl) (fun w' hin => ?_) ?_
      rotate_left
      · (try simp only [] at hin); go_simp <;> with_reducible rfl
      try simp only [Act.put, List.setIfInBounds_toArray, List.set_cons_zero, List.set_cons_succ]
      refine wpS_take 22 (v := ?_) hSw rfl (by kernel_rfl) (by kernel_rfl) (by kernel_rfl) (by rfl) (fun w' hin => ?_) ?_
      rotate_left
      · (try simp only [] at hin); go_simp <;> with_reducible rfl
      try simp only [Act.put, List.setIfInBounds_toArray, List.set_cons_zero, List.set_cons_succ]
      refine wpS_take 23 (v := ?_) hSw rfl (by kernel_rfl) (by kernel_rfl) (by kernel_rfl) (by rfl) (fun w' hin => ?_) ?_
      rotate_left
      · (try simp only [] at hin); go_simp <;> with_reducible rfl
      try simp only [Act.put, List.setIfInBounds_toArray, List.set_cons_zero, List.set_cons_succ]
      refine wpS_take 24 (v := ?_) hSw rfl (by kernel_rfl) (by kernel_rfl) (by kernel_rfl) (by rfl) (fun w' hin => ?_) ?_
      rotate_left
      · (try simp only [] at hin); go_simp <;> with_reducible rfl
      try simp only [Act.put, List.setIfInBounds_toArray, List.set_cons_zero, List.set_cons_succ]
      refine wpS_take 25 (v := ?_) hSw rfl (by kernel_rfl) (by kernel_rfl) (by kernel_rfl) (by rfl) (fun w' hin => ?_) ?_
      rotate_left
      · (try simp only [] at hin); go_simp <;> with_reducible rfl
      try simp only [Act.put, List.setIfInBounds_toArray, List.set_cons_zero, List.set_cons_succ]
      refine wpS_take 26 (v := ?_) hSw rfl (by kernel_rfl) (by kernel_rfl) (by kernel_rfl) (by rfl) (fun w' hin => ?_) ?_
      rotate_left
      · (try simp only [] at hin); go_simp <;> with_reducible rfl
      try simp only [Act.put, List.setIfInBounds_toArray, List.set_cons_zero, List.set_cons_succ]
      refine wpS_take 27 (v := ?_) hSw rfl (by kernel_rfl) (by kernel_rfl) (by kernel_rfl) (by rfl) (fun w' hin => ?_) ?_
      rotate_left
      · (try simp only [] at hin); go_simp <;> with_reducible rfl
      try simp only [Act.put, List.setIfInBounds_toArray, List.set_cons_zero, List.set_cons_succ]
      refine wpS_take 28 (v := ?_) hSw rfl (by kernel_rfl) (by kernel_rfl) (by kernel_rfl) (by rfl) (fun w' hin => ?_) ?_
      rotate_left
      · (try simp only [] at hin); go_simp <;> with_reducible rfl
      try simp only [Act.put, List.setIfInBounds_toArray, List.set_cons_zero, List.set_cons_succ]
      refine wpS_take 29 (v := ?_) hSw rfl (by kernel_rfl) (by kernel_rfl) (by kernel_rfl) (by rfl) (fun w' hin => ?_) ?_
      rotate_left
      · (try simp only [] at hin); go_simp <;> with_reducible rfl
      try simp only [Act.put, List.setIfInBounds_toArray, List.set_cons_zero, List.set_cons_succ]
      refine wpS_take 30 (v := ?_) hSw rfl (by kernel_rfl) (by kernel_rfl) (by kernel_rfl) (by rfl) (fun w' hin => ?_) ?_
      rotate_left
      · (try simp only [] at hin); go_simp <;> with_reducible rfl
      try simp only [Act.put, List.setIfInBounds_toArray, List.set_cons_zero, List.set_cons_succ]
      refine wpS_take 31 (v := ?_) hSw rfl (by kernel_rfl) (by kernel_rfl) (by kernel_rfl) (by rfl) (fun w' hin => ?_) ?_
      rotate_left
      · (try simp only [] at hin); go_simp <;> with_reducible rfl
      try simp only [Act.put, List.setIfInBounds_toArray, List.set_cons_zero, List.set_cons_succ]
      refine wpS_take 32 (v := ?_) hSw rfl (by kernel_rfl) (by kernel_rfl) (by kernel_rfl) (by rfl) (fun w' hin => ?_) ?_
      rotate_left
      · (try simp only [] at hin); go_simp <;> with_reducible rfl
      try simp only [Act.put, List.setIfInBounds_toArray, List.set_cons_zero, List.set_cons_succ]
      refine wpS_take 33 (v := ?_) hSw rfl (by kernel_rfl) (by kernel_rfl) (by kernel_rfl) (by rfl) (fun w' hin => ?_) ?_
      rotate_left
      · (try simp only [] at hin); go_simp <;> with_reducible rfl
      try simp only [Act.put, List.setIfInBounds_toArray, List.set_cons_zero, List.set_cons_succ]
      refine wpS_take 34 (v := ?_) hSw rfl (by kernel_rfl) (by kernel_rfl) (by kernel_rfl) (by rfl) (fun w' hin => ?_) ?_
      rotate_left
      · (try simp only [] at hin); go_simp <;> with_reducible rfl
      try simp only [Act.put, List.setIfInBounds_toArray, List.set_cons_zero, List.set_cons_succ]
      refine wpS_take 35 (v := ?_) hSw rfl (by kernel_rfl) (by kernel_rfl) (by kernel_rfl) (by rfl) (fun w' hin => ?_) ?_
      rotate_left
      · (try simp only [] at hin); go_simp <;> with_reducible rfl
      try simp only [Act.put, List.setIfInBounds_toArray, List.set_cons_zero, List.set_cons_succ]
      refine wpS_take 36 (v := ?_) hSw rfl (by kernel_rfl) (by kernel_rfl) (by kernel_rfl) (by rfl) (fun w' hin => ?_) ?_
      rotate_left
      · (try simp only [] at hin); go_simp <;> with_reducible rfl
      try simp only [Act.put, List.setIfInBounds_toArray, List.set_cons_zero, List.set_cons_succ]
      refine wpS_take 37 (v := ?_) hSw rfl (by kernel_rfl) (by kernel_rfl) (by kernel_rfl) (by rfl) (fun w' hin => ?_) ?_
      rotate_left
      · (try simp only [] at hin); go_simp <;> with_reducible rfl
      try simp only [Act.put, List.setIfInBounds_toArray, List.set_cons_zero, List.set_cons_succ]
      refine wpS_take 38 (v := ?_) hSw rfl (by kernel_rfl) (by kernel_rfl) (by kernel_rfl) (by rfl) (fun w' hin => ?_) ?_
      rotate_left
      · (try simp only [] at hin); go_simp <;> with_reducible rfl
      try simp only [Act.put, List.setIfInBounds_toArray, List.set_cons_zero, List.set_cons_succ]
      refine wpS_done (by kernel_rfl) ?_
      have HX2 := Lib.hid hSw
      clear g1 g2 d0 d1 d0' d1' hSw
      go_wp2_with fail
      go_loopw [6] (fun j wj => ∃ q : Nat, q ≤ m ∧ j = .int .i64 q ∧ Hid (x.ws.take q = x'.ws.take q) ∧ Hid (Ext w wj)) (fun j _ => m - (intOf j).toNat)
      case atStart => exact ⟨0, Nat.zero_le _, by go_num, Lib.hid rfl, HX2⟩
      case round =>
        obtain ⟨q, hq, rfl, HQ, HY⟩ := hrel
        have t2 : wr.cell? ⟨b, o + k * 3 + 2, none⟩ = some (.slice C m e) := d2 wr HY.out
        by_cases hlq : q < m
        · obtain ⟨b1, o1, s, y, rfl, hbB1, -, hl1, -, hd0, hd1⟩ := WtL.at_ HV.out.arr hlq
          obtain ⟨b2, o2, s', y', rfl, hbB2, -, hl2, -, hd0', hd1'⟩ := WtL.at_ HV'.out.arr hlq
          have f0 : ∀ w', Ext w w' → w'.cell? ⟨b1, o1 + q * 2, none⟩ = some (.string s) := fun w' h => (h.cell hbB1).trans hd0
          have f1 : ∀ w', Ext w w' → w'.cell? ⟨b1, o1 + q * 2 + 1, none⟩ = some (.int .i64 y) := fun w' h => (h.cell hbB1).trans hd1
          have f0' : ∀ w', Ext w w' → w'.cell? ⟨b2, o2 + q * 2, none⟩ = some (.string s') := fun w' h => (h.cell hbB2).trans hd0'
          have f1' : ∀ w', Ext w w' → w'.cell? ⟨b2, o2 + q * 2 + 1, none⟩ = some (.int .i64 y') := fun w' h => (h.cell hbB2).trans hd1'
          have HL1 := Lib.hid hl1
          have HL2 := Lib.hid hl2
          have j1 : (0 : Int) ≤ (q : Int) := by omega
          have j2 : (q : Int) < (m : Int) := by omega
          clear hd0 hd1 hd0' hd1' hl1 hl2
          by_cases c1 : s.toList = s'.toList
          · by_cases c2 : y = y'
            · have HQ2 : Hid (x.ws.take (q + 1) = x'.ws.take (q + 1)) := Lib.hid (take_eq_snoc HQ.out HL1.out (by rw [HL2.out, str_eq c1, c2]))
              subst c2
              go_wp2_with fail
              have hSw : Ext w wr.drew := HY.out.drew
              refine wpS_begin (Ext w) (by kernel_rfl) ?_
              refine wpS_take 0 (v := ?_) hSw rfl (by kernel_rfl) (by kernel_rfl) (by kernel_rfl) (by rfl) (fun w' hin => ?_) ?_
              rotate_left
              · (try simp only [] at hin); go_simp <;> with_reducible rfl
              try simp only [Act.put, List.setIfInBounds_toArray, List.set_cons_zero, List.set_cons_succ]
              refine wpS_take 1 (v := ?_) hSw rfl (by kernel_rfl) (by kernel_rfl) (by kernel_rfl) (by rfl) (fun w' hin => ?_) ?_
              rotate_left
              · (try simp only [] at hin); go_simp <;> with_reducible rfl
              try simp only [Act.put, List.setIfInBounds_toArray, List.set_cons_zero, List.set_cons_succ]
              refine wpS_take 2 (v := ?_) hSw rfl (by kernel_rfl) (by kernel_rfl) (by kernel_rfl) (by rfl) (fun w' hin => ?_) ?_
              rotate_left
              · (try simp only [] at hin); go_simp <;> with_reducible rfl
              try simp only [Act.put, List.setIfInBounds_toArray, List.set_cons_zero, List.set_cons_succ]
              refine wpS_take 3 (v := ?_) hSw rfl (by kernel_rfl) (by kernel_rfl) (by kernel_rfl) (by rfl) (fun w' hin => ?_) ?_
              rotate_left
              · (try simp only [] at hin); go_simp <;> with_reducible rfl
              try simp only [Act.put, List.setIfInBounds_toArray, List.set_cons_zero, List.set_cons_succ]
              refine wpS_take 4 (v := ?_) hSw rfl (by kernel_rfl) (by kernel_rfl) (by kernel_rfl) (by rfl) (fun w' hin => ?_) ?_
              rotate_left
              · (try simp only [] at hin); go_simp <;> with_reducible rfl
              try simp only [Act.put, List.setIfInBounds_toArray, List.set_cons_zero, List.set_cons_succ]
              refine wpS_take 5 (v := ?_) hSw rfl (by kernel_rfl) (by kernel_rfl) (by kernel_rfl) (by rfl) (fun w' hin => ?_) ?_
              rotate_left
              · (try simp only [] at hin); go_simp <;> with_reducible rfl
              try simp only [Act.put, List.setIfInBounds_toArray, List.set_cons_zero, List.set_cons_succ]
              refine wpS_take 6 (v := ?_) hSw rfl (by kernel_rfl) (by kernel_rfl) (by kernel_rfl) (by rfl) (fun w' hin => ?_) ?_
              rotate_left
              · (try simp only [] at hin); go_simp <;> with_reducible rfl
              try simp only [Act.put, List.setIfInBounds_toArray, List.set_cons_zero, List.set_cons_succ]
              refine wpS_take 7 (v := ?_) hSw rfl (by kernel_rfl) (by kernel_rfl) (by kernel_rfl) (by rfl) (fun w' hin => ?_) ?_
              rotate_left
              · (try simp only [] at hin); go_simp <;> with_reducible rfl
              try simp only [Act.put, List.setIfInBounds_toArray, List.set_cons_zero, List.set_cons_succ]
              refine wpS_take 8 (v := ?_) hSw rfl (by kernel_rfl) (by kernel_rfl) (by kernel_rfl) (by rfl) (fun w' hin => ?_) ?_
              rotate_left
              · (try simp only [] at hin); go_simp <;> with_reducible rfl
              try simp only [Act.put, List.setIfInBounds_toArray, List.set_cons_zero, List.set_cons_succ]
              refine wpS_take 9 (v := ?_) hSw rfl (by kernel_rfl) (by kernel_rfl) (by kernel_rfl) (by rfl) (fun w' hin => ?_) ?_
              rotate_left
              · (try simp only [] at hin); go_simp <;> with_reducible rfl
              try simp only [Act.put, List.setIfInBounds_toArray, List.set_cons_zero, List.set_cons_succ]
              refine wpS_take 10 (v := ?_) hSw rfl (by kernel_rfl) (by kernel_rfl) (by kernel_rfl) (by rfl) (fun w' hin => ?_) ?_
              rotate_left
              · (try simp only [] at hin); go_simp <;> with_reducible rfl
              try simp only [Act.put, List.setIfInBounds_toArray, List.set_cons_zero, List.set_cons_succ]
              refine wpS_take 11 (v := ?_) hSw rfl (by kernel_rfl) (by kernel_rfl) (by kernel_rfl) (by rfl) (fun w' hin => ?_) ?_
              rotate_left
              · (try simp only [] at hin); go_simp <;> with_reducible rfl
              try simp only [Act.put, List.setIfInBounds_toArray, List.set_cons_zero, List.set_cons_succ]
              refine wpS_take 12 (v := ?_) hSw rfl (by kernel_rfl) (by kernel_rfl) (by kernel_rfl) (by rfl) (fun w' hin => ?_) ?_
              rotate_left
              · (try simp only [] at hin); go_simp <;> with_reducible rfl
              try simp only [Act.put, List.setIfInBounds_toArray, List.set_cons_zero, List.set_cons_succ]
              refine wpS_take 13 (v := ?_) hSw rfl (by kernel_rfl) (by kernel_rfl) (by kernel_rfl) (by rfl) (fun w' hin => ?_) ?_
              rotate_left
              · (try simp only [] at hin); go_simp <;> with_reducible rfl
              try simp only [Act.put, List.setIfInBounds_toArray, List.set_cons_zero, List.set_cons_succ]
              refine wpS_take 14 (v := ?_) hSw rfl (by kernel_rfl) (by kernel_rfl) (by kernel_rfl) (by rfl) (fun w' hin => ?_) ?_
              rotate_left
              · (try simp only [] at hin); go_simp <;> with_reducible rfl
              try simp only [Act.put, List.setIfInBounds_toArray, List.set_cons_zero, List.set_cons_succ]
              refine wpS_take 15 (v := ?_) hSw rfl (by kernel_rfl) (by kernel_rfl) (by kernel_rfl) (by rfl) (fun w' hin => ?_) ?_
              rotate_left
              · (try simp only [] at hin); go_simp <;> with_reducible rfl
              try simp only [Act.put, List.setIfInBounds_toArray, List.set_cons_zero, List.set_cons_succ]
              refine wpS_take 16 (v := ?_) hSw rfl (by kernel_rfl) (by kernel_rfl) (by kernel_rfl) (by rfl) (fun w' hin => ?_) ?_
              rotate_left
              · (try simp only [] at hin); go_simp <;> with_reducible rfl
              try simp only [Act.put, List.setIfInBounds_toArray, List.set_cons_zero, List.set_cons_succ]
              refine wpS_done (by kernel_rfl) ?_
              have HY2 := Lib.hid hSw
              clear f0 f1 f0' f1' hSw
              go_wp2_with fail
              go_roundw
              case rel => exact ⟨q + 1, by omega, by go_num, HQ2, HY2⟩
              case measure => simp [intOf]; omega
            · have HF : Hid (Z = false) := Lib.hid (by rw [HZ.out]; exact decide_eq_false (ne_of_at HLK.out HLK'.out (fun e => (ne_of_at HL1.out HL2.out (fun e2 => c2 (by injection e2))) (by rw [e]))))
              go_wp2_with fail
              have hSw : Ext w wr.drew := HY.out.drew
              refine wpS_begin (Ext w) (by kernel_rfl) ?_
              refine wpS_take 0 (v := ?_) hSw rfl (by kernel_rfl) (by kernel_rfl) (by kernel_rfl) (by rfl) (fun w' hin => ?_) ?_
              rotate_left
              · (try simp only [] at hin); go_simp <;> with_reducible rfl
              try simp only [Act.put, List.setIfInBounds_toArray, List.set_cons_zero, List.set_cons_succ]
              refine wpS_take 1 (v := ?_) hSw rfl (by kernel_rfl) (by kernel_rfl) (by kernel_rfl) (by rfl) (fun w' hin => ?_) ?_
              rotate_left
              · (try simp only [] at hin); go_simp <;> with_reducible rfl
              try simp only [Act.put, List.setIfInBounds_toArray, List.set_cons_zero, List.set_cons_succ]
              refine wpS_take 2 (v := ?_) hSw rfl (by kernel_rfl) (by kernel_rfl) (by kernel_rfl) (by rfl) (fun w' hin => ?_) ?_
              rotate_left
              · (try simp only [] at hin); go_simp <;> with_reducible rfl
              try simp only [Act.put, List.setIfInBounds_toArray, List.set_cons_zero, List.set_cons_succ]
              refine wpS_take 3 (v := ?_) hSw rfl (by kernel_rfl) (by kernel_rfl) (by kernel_rfl) (by rfl) (fun w' hin => ?_) ?_
              rotate_left
              · (try simp only [] at hin); go_simp <;> with_reducible rfl
              try simp only [Act.put, List.setIfInBounds_toArray, List.set_cons_zero, List.set_cons_succ]
              refine wpS_take 4 (v := ?_) hSw rfl (by kernel_rfl) (by kernel_rfl) (by kernel_rfl) (by rfl) (fun w' hin => ?_) ?_
              rotate_left
              · (try simp only [] at hin); go_simp <;> with_reducible rfl
              try simp only [Act.put, List.setIfInBounds_toArray, List.set_cons_zero, List.set_cons_succ]
              refine wpS_take 5 (v := ?_) hSw rfl (by kernel_rfl) (by kernel_rfl) (by kernel_rfl) (by rfl) (fun w' hin => ?_) ?_
              rotate_left
              · (try simp only [] at hin); go_simp <;> with_reducible rfl
              try simp only [Act.put, List.setIfInBounds_toArray, List.set_cons_zero, List.set_cons_succ]
              refine wpS_take 6 (v := ?_) hSw rfl (by kernel_rfl) (by kernel_rfl) (by kernel_rfl) (by rfl) (fun w' hin => ?_) ?_
              rotate_left
              · (try simp only [] at hin); go_simp <;> with_reducible rfl
              try simp only [Act.put, List.setIfInBounds_toArray, List.set_cons_zero, List.set_cons_succ]
              refine wpS_take 7 (v := ?_) hSw rfl (by kernel_rfl) (by kernel_rfl) (by kernel_rfl) (by rfl) (fun w' hin => ?_) ?_
              rotate_left
              · (try simp only [] at hin); go_simp <;> with_reducible rfl
              try simp only [Act.put, List.setIfInBounds_toArray, List.set_cons_zero, List.set_cons_succ]
              refine wpS_take 8 (v := ?_) hSw rfl (by kernel_rfl) (by kernel_rfl) (by kernel_rfl) (by rfl) (fun w' hin => ?_) ?_
              rotate_left
              · (try simp only [] at hin); go_simp <;> with_reducible rfl
              try simp only [Act.put, List.setIfInBounds_toArray, List.set_cons_zero, List.set_cons_succ]
              refine wpS_take 9 (v := ?_) hSw rfl (by kernel_rfl) (by kernel_rfl) (by kernel_rfl) (by rfl) (fun w' hin => ?_) ?_
              rotate_left
              · (try simp only [] at hin); go_simp <;> with_reducible rfl
              try simp only [Act.put, List.setIfInBounds_toArray, List.set_cons_zero, List.set_cons_succ]
              refine wpS_take 10 (v := ?_) hSw rfl (by kernel_rfl) (by kernel_rfl) (by kernel_rfl) (by rfl) (fun w' hin => ?_) ?_
              rotate_left
              · (try simp only [] at hin); go_simp <;> with_reducible rfl
              try simp only [Act.put, List.setIfInBounds_toArray, List.set_cons_zero, List.set_cons_succ]
              refine wpS_take 11 (v := ?_) hSw rfl (by kernel_rfl) (by kernel_rfl) (by kernel_rfl) (by rfl) (fun w' hin => ?_) ?_
              rotate_left
              · (try simp only [] at hin); go_simp <;> with_reducible rfl
              try simp only [Act.put, List.setIfInBounds_toArray, List.set_cons_zero, List.set_cons_succ]
              refine wpS_take 12 (v := ?_) hSw rfl (by kernel_rfl) (by kernel_rfl) (by kernel_rfl) (by rfl) (fun w' hin => ?_) ?_
              rotate_left
              · (try simp only [] at hin); go_simp <;> with_reducible rfl
              try simp only [Act.put, List.setIfInBounds_toArray, List.set_cons_zero, List.set_cons_succ]
              refine wpS_take 13 (v := ?_) hSw rfl (by kernel_rfl) (by kernel_rfl) (by kernel_rfl) (by rfl) (fun w' hin => ?_) ?_
              rotate_left
              · (try simp only [] at hin); go_simp <;> with_reducible rfl
              try simp only [Act.put, List.setIfInBounds_toArray, List.set_cons_zero, List.set_cons_succ]
              refine wpS_take 14 (v := ?_) hSw rfl (by kernel_rfl) (by kernel_rfl) (by kernel_rfl) (by rfl) (fun w' hin => ?_) ?_
              rotate_left
              · (try simp only [] at hin); go_simp <;> with_reducible rfl
              try simp only [Act.put, List.setIfInBounds_toArray, List.set_cons_zero, List.set_cons_succ]
              refine wpS_take 15 (v := ?_) hSw rfl (by kernel_rfl) (by kernel_rfl) (by kernel_rfl) (by rfl) (fun w' hin => ?_) ?_
              rotate_left
              · (try simp only [] at hin); go_simp <;> with_reducible rfl
              try simp only [Act.put, List.setIfInBounds_toArray, List.set_cons_zero, List.set_cons_succ]
              refine wpS_take 16 (v := ?_) hSw rfl (by kernel_rfl) (by kernel_rfl) (by kernel_rfl) (by rfl) (fun w' hin => ?_) ?_
              rotate_left
              · (try simp only [] at hin); go_simp <;> with_reducible rfl
              try simp only [Act.put, List.setIfInBounds_toArray, List.set_cons_zero, List.set_cons_succ]
              refine wpS_done (by kernel_rfl) ?_
              have HY2 := Lib.hid hSw
              clear f0 f1 f0' f1' hSw
              go_wp2_with fail
              go_ret
              exact ⟨ret_bool HF.out.symm, HY2.out⟩
          · have HF : Hid (Z = false) := Lib.hid (by rw [HZ.out]; exact decide_eq_false (ne_of_at HLK.out HLK'.out (fun e => (ne_of_at HL1.out HL2.out (fun e2 => str_ne c1 (by injection e2))) (by rw [e]))))
            go_wp2_with fail
            have hSw : Ext w wr.drew := HY.out.drew
            refine wpS_begin (Ext w) (by kernel_rfl) ?_
            refine wpS_take 0 (v := ?_) hSw rfl (by kernel_rfl) (by kernel_rfl) (by kernel_rfl) (by rfl) (fun w' hin => ?_) ?_
            rotate_left
            · (try simp only [] at hin); go_simp <;> with_reducible rfl
            try simp only [Act.put, List.setIfInBounds_toArray, List.set_cons_zero, List.set_cons_succ]
            refine wpS_take 1 (v := ?_) hSw rfl (by kernel_rfl) (by kernel_rfl) (by kernel_rfl) (by rfl) (fun w' hin => ?_) ?_
            rotate_left
            · (try simp only [] at hin); go_simp <;> with_reducible rfl
            try simp only [Act.put, List.setIfInBounds_toArray, List.set_cons_zero, List.set_cons_succ]
            refine wpS_take 2 (v := ?_) hSw rfl (by kernel_rfl) (by kernel_rfl) (by kernel_rfl) (by rfl) (fun w' hin => ?_) ?_
            rotate_left
            · (try simp only [] at hin); go_simp <;> with_reducible rfl
            try simp only [Act.put, List.setIfInBounds_toArray, List.set_cons_zero, List.set_cons_succ]
            refine wpS_take 3 (v := ?_) hSw rfl (by kernel_rfl) (by kernel_rfl) (by kernel_rfl) (by rfl) (fun w' hin => ?_) ?_
            rotate_left
            · (try simp only [] at hin); go_simp <;> with_reducible rfl
            try simp only [Act.put, List.setIfInBounds_toArray, List.set_cons_zero, List.set_cons_succ]
            refine wpS_take 4 (v := ?_) hSw rfl (by kernel_rfl) (by kernel_rfl) (by kernel_rfl) (by rfl) (fun w' hin => ?_) ?_
            rotate_left
            · (try simp only [] at hin); go_simp <;> with_reducible rfl
            try simp only [Act.put, List.setIfInBounds_toArray, List.set_cons_zero, List.set_cons_succ]
            refine wpS_take 5 (v := ?_) hSw rfl (by kernel_rfl) (by kernel_rfl) (by kernel_rfl) (by rfl) (fun w' hin => ?_) ?_
            rotate_left
            · (try simp only [] at hin); go_simp <;> with_reducible rfl
            try simp only [Act.put, List.setIfInBounds_toArray, List.set_cons_zero, List.set_cons_succ]
            refine wpS_take 6 (v := ?_) hSw rfl (by kernel_rfl) (by kernel_rfl) (by kernel_rfl) (by rfl) (fun w' hin => ?_) ?_
            rotate_left
            · (try simp only [] at hin); go_simp <;> with_reducible rfl
            try simp only [Act.put, List.setIfInBounds_toArray, List.set_cons_zero, List.set_cons_succ]
            refine wpS_take 7 (v := ?_) hSw rfl (by kernel_rfl) (by kernel_rfl) (by kernel_rfl) (by rfl) (fun w' hin => ?_) ?_
            rotate_left
            · (try simp only [] at hin); go_simp <;> with_reducible rfl
            try simp only [Act.put, List.setIfInBounds_toArray, List.set_cons_zero, List.set_cons_succ]
            refine wpS_take 8 (v := ?_) hSw rfl (by kernel_rfl) (by kernel_rfl) (by kernel_rfl) (by rfl) (fun w' hin => ?_) ?_
            rotate_left
            · (try simp only [] at hin); go_simp <;> with_reducible rfl
            try simp only [Act.put, List.setIfInBounds_toArray, List.set_cons_zero, List.set_cons_succ]
            refine wpS_take 9 (v := ?_) hSw rfl (by kernel_rfl) (by kernel_rfl) (by kernel_rfl) (by rfl) (fun w' hin => ?_) ?_
            rotate_left
            · (try simp only [] at hin); go_simp <;> with_reducible rfl
            try simp only [Act.put, List.setIfInBounds_toArray, List.set_cons_zero, List.set_cons_succ]
            refine wpS_take 10 (v := ?_) hSw rfl (by kernel_rfl) (by kernel_rfl) (by kernel_rfl) (by rfl) (fun w' hin => ?_) ?_
            rotate_left
            · (try simp only [] at hin); go_simp <;> with_reducible rfl
            try simp only [Act.put, List.setIfInBounds_toArray, List.set_cons_zero, List.set_cons_succ]
            refine wpS_take 11 (v := ?_) hSw rfl (by kernel_rfl) (by kernel_rfl) (by kernel_rfl) (by rfl) (fun w' hin => ?_) ?_
            rotate_left
            · (try simp only [] at hin); go_simp <;> with_reducible rfl
            try simp only [Act.put, List.setIfInBounds_toArray, List.set_cons_zero, List.set_cons_succ]
            refine wpS_take 12 (v := ?_) hSw rfl (by kernel_rfl) (by kernel_rfl) (by kernel_rfl) (by rfl) (fun w' hin => ?_) ?_
            rotate_left
            · (try simp only [] at hin); go_simp <;> with_reducible rfl
            try simp only [Act.put, List.setIfInBounds_toArray, List.set_cons_zero, List.set_cons_succ]
            refine wpS_take 13 (v := ?_) hSw rfl (by kernel_rfl) (by kernel_rfl) (by kernel_rfl) (by rfl) (fun w' hin => ?_) ?_
            rotate_left
            · (try simp only [] at hin); go_simp <;> with_reducible rfl
            try simp only [Act.put, List.setIfInBounds_toArray, List.set_cons_zero, List.set_cons_succ]
            refine wpS_take 14 (v := ?_) hSw rfl (by kernel_rfl) (by kernel_rfl) (by kernel_rfl) (by rfl) (fun w' hin => ?_) ?_
            rotate_left
            · (try simp only [] at hin); go_simp <;> with_reducible rfl
            try simp only [Act.put, List.setIfInBounds_toArray, List.set_cons_zero, List.set_cons_succ]
            refine wpS_take 15 (v := ?_) hSw rfl (by kernel_rfl) (by kernel_rfl) (by kernel_rfl) (by rfl) (fun w' hin => ?_) ?_
            rotate_left
            · (try simp only [] at hin); go_simp <;> with_reducible rfl
            try simp only [Act.put, List.setIfInBounds_toArray, List.set_cons_zero, List.set_cons_succ]
            refine wpS_take 16 (v := ?_) hSw rfl (by kernel_rfl) (by kernel_rfl) (by kernel_rfl) (by rfl) (fun w' hin => ?_) ?_
            rotate_left
            · (try simp only [] at hin); go_simp <;> with_reducible rfl
            try simp only [Act.put, List.setIfInBounds_toArray, List.set_cons_zero, List.set_cons_succ]
            refine wpS_done (by kernel_rfl) ?_
            have HY2 := Lib.hid hSw
            clear f0 f1 f0' f1' hSw
            go_wp2_with fail
            go_ret
            exact ⟨ret_bool HF.out.symm, HY2.out⟩
        · have HT2 : Hid (l.take (k + 1) = l'.take (k + 1)) := Lib.hid (take_eq_snoc HT.out HLK.out (by
            rw [HLK'.out]
            have hw := eq_of_take HQ.out (by have := HV.out.arr.len; omega) (by have := HV'.out.arr.len; omega)
            cases x; cases x'
            simp only at hw HG1 HG2
            rw [hw, str_eq HG1.out, str_eq HG2.out]))
          go_wp2_with fail
          go_roundw
          case rel => exact ⟨k + 1, by omega, by go_num, HT2, HY⟩
          case measure => simp [intOf]; omega
    · have HF : Hid (Z = true) := Lib.hid (by rw [HZ.out]; exact decide_eq_true (eq_of_take HT.out (by have := HA.out.len; omega) (by have := HB.out.len; omega)))
      have i2 : ¬ (k : Int) < (n : Int) := by omega
      go_wp2_with fail
      go_ret
      exact ⟨ret_bool HF.out.symm, HX.out⟩
end Go.Proofs.YtfdjbnofcniodaaGreatDoor
