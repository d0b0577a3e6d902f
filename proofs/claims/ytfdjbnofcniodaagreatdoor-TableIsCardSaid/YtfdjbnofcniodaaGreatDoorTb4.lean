/- What the document's Same of layer 5 computes. -/
import Derived.Test.YtfdjbnofcniodaaGreatDoorRefDec2
namespace Go.Proofs.YtfdjbnofcniodaaGreatDoor
set_option linter.unusedVariables false
open Go.RowKit

set_option maxRecDepth 100000 in
set_option maxHeartbeats 8000000 in
theorem refSame5_any (A B : Option Addr) (n c m d : Nat) (l l' : List Rs) (w : World) (hm : n ≤ maxLen) (hm' : m ≤ maxLen) (hA : ResL (fun _ => True) w A n l) (hB : ResL (fun _ => True) w B m l') :
    Calls Tryz.prog 50 #[.slice A n c, .slice B m d] w fun e w' => e = .returned (.bool (decide (l = l'))) ∧ Ext w w' := by
  unfold maxLen at hm hm'
  have HA := Lib.hid hA
  have HB := Lib.hid hB
  clear hA hB
  obtain ⟨Z, hZ⟩ : ∃ Z, Z = decide (l = l') := ⟨_, rfl⟩
  rw [← hZ]
  have HZ := Lib.hid hZ
  clear hZ
  go_enter Tryz.func50, Tryz.ntmps50
  by_cases hnn : n = m
  rotate_left
  · have HF : Hid (Z = false) := Lib.hid (by rw [HZ.out]; exact decide_eq_false (fun e => hnn (by rw [← HA.out.len, ← HB.out.len, e])))
    have i0 : ((n : Int) != (m : Int)) = true := by rw [bne_iff_ne]; omega
    go_wp2_with fail
    go_ret
    exact ⟨ret_bool HF.out.symm, Ext.refl _⟩
  subst hnn
  go_wp2_with fail
  go_loopw [5] (fun i wr => ∃ k : Nat, k ≤ n ∧ i = .int .i64 k ∧ Hid (l.take k = l'.take k) ∧ Hid (Ext w wr)) (fun i _ => n - (intOf i).toNat)
  case atStart => exact ⟨0, Nat.zero_le _, by go_num, Lib.hid rfl, Lib.hid (Ext.refl _)⟩
  case round =>
    obtain ⟨k, hk, rfl, HT, HX⟩ := hrel
    by_cases hlt : k < n
    · obtain ⟨b, o, r, C, p, f, C', p', f', rfl, hbB, -, hlk, hv, hc0, hc1, hc2, hc3, hc4, hc5, hc6⟩ := ResL.at_ HA.out hlt
      obtain ⟨b', o', q, D, u, g, D', u', g', rfl, hbB', -, hlk', hv', kc0, kc1, kc2, kc3, kc4, kc5, kc6⟩ := ResL.at_ HB.out hlt
      have HLK := Lib.hid hlk
      have HLK' := Lib.hid hlk'
      have HV := Lib.hid hv
      have HV' := Lib.hid hv'
      have i1 : (0 : Int) ≤ (k : Int) := by omega
      have i2 : (k : Int) < (n : Int) := by omega
      have t0 : ∀ w', Ext w w' → w'.cell? ⟨b, o + k * 7, none⟩ = some (.int .i64 r.kind) := fun w' h => (h.cell hbB).trans hc0
      have s0 : ∀ w', Ext w w' → w'.cell? ⟨b', o' + k * 7, none⟩ = some (.int .i64 q.kind) := fun w' h => (h.cell hbB').trans kc0
      have t1 : ∀ w', Ext w w' → w'.cell? ⟨b, o + k * 7 + 1, none⟩ = some (.string r.name) := fun w' h => (h.cell hbB).trans hc1
      have s1 : ∀ w', Ext w w' → w'.cell? ⟨b', o' + k * 7 + 1, none⟩ = some (.string q.name) := fun w' h => (h.cell hbB').trans kc1
      have t2 : ∀ w', Ext w w' → w'.cell? ⟨b, o + k * 7 + 2, none⟩ = some (.int .i64 r.ver) := fun w' h => (h.cell hbB).trans hc2
      have s2 : ∀ w', Ext w w' → w'.cell? ⟨b', o' + k * 7 + 2, none⟩ = some (.int .i64 q.ver) := fun w' h => (h.cell hbB').trans kc2
      have t3 : ∀ w', Ext w w' → w'.cell? ⟨b, o + k * 7 + 3, none⟩ = some (.int .i64 r.port) := fun w' h => (h.cell hbB).trans hc3
      have s3 : ∀ w', Ext w w' → w'.cell? ⟨b', o' + k * 7 + 3, none⟩ = some (.int .i64 q.port) := fun w' h => (h.cell hbB').trans kc3
      have t4 : ∀ w', Ext w w' → w'.cell? ⟨b, o + k * 7 + 4, none⟩ = some (.string r.to) := fun w' h => (h.cell hbB).trans hc4
      have s4 : ∀ w', Ext w w' → w'.cell? ⟨b', o' + k * 7 + 4, none⟩ = some (.string q.to) := fun w' h => (h.cell hbB').trans kc4
      have t5 : ∀ w', Ext w w' → w'.cell? ⟨b, o + k * 7 + 5, none⟩ = some (.slice C p f) := fun w' h => (h.cell hbB).trans hc5
      have s5 : ∀ w', Ext w w' → w'.cell? ⟨b', o' + k * 7 + 5, none⟩ = some (.slice D u g) := fun w' h => (h.cell hbB').trans kc5
      have t6 : ∀ w', Ext w w' → w'.cell? ⟨b, o + k * 7 + 6, none⟩ = some (.slice C' p' f') := fun w' h => (h.cell hbB).trans hc6
      have s6 : ∀ w', Ext w w' → w'.cell? ⟨b', o' + k * 7 + 6, none⟩ = some (.slice D' u' g') := fun w' h => (h.cell hbB').trans kc6
      clear hlk hlk' hv hv' hc0 hc1 hc2 hc3 hc4 hc5 hc6 kc0 kc1 kc2 kc3 kc4 kc5 kc6
      obtain ⟨Y, hY⟩ : ∃ Y, Y = sameR r q := ⟨_, rfl⟩
      have HY := Lib.hid hY
      clear hY
      go_wp2_with fail
      cases Y with
      | true =>
        have HQ : Hid (r = q) := Lib.hid ((same_iff r q).1 HY.out.symm)
        have HT2 : Hid (l.take (k + 1) = l'.take (k + 1)) := Lib.hid (take_eq_snoc HT.out HLK.out (by rw [HLK'.out, HQ.out]))
        have hSw : Ext w wr.drew := HX.out.drew
        refine wpS_begin (Ext w) (by kernel_rfl) ?_
        refine wpS_take 0 (v := ?_) hSw rfl (by kernel_rfl) (by kernel_rfl) (by kernel_rfl) (by rfl) (fun w' hin => ?_) ?_
        rotate_left
        · (try simp only [] at hin); go_simp <;> with_reducible rfl
        try simp only [Act.put, List.setIfInBounds_toArray, List.set_cons_zero, List.set_cons_succ]
        refine wpS_take 1 (v := ?_) hSw rfl (by kernel_rfl) (by kernel_rfl) (by kernel_rfl) (by rfl) (fun w' hin => ?_) ?_
        rotate_left
        · (try simp only [] at hin); go_simp <;> with_reducible rfl
        try simp only [Act.put, List.setIfInBounds_toArray, List.set_cons_zero, List.set_cons_succ]
        refine wpS_take 2 (v := ?_) hSw rfl (by kernel_rfl) (by kernel_rfl) (by kernel_rfl) (by rfl) (fun w' hin => ?_) ?_
        rotate_left
        · (try simp only [] at hin); go_simp <;> with_reducible rfl
        try simp only [Act.put, List.setIfInBounds_toArray, List.set_cons_zero, List.set_cons_succ]
        refine wpS_take 3 (v := ?_) hSw rfl (by kernel_rfl) (by kernel_rfl) (by kernel_rfl) (by rfl) (fun w' hin => ?_) ?_
        rotate_left
        · (try simp only [] at hin); go_simp <;> with_reducible rfl
        try simp only [Act.put, List.setIfInBounds_toArray, List.set_cons_zero, List.set_cons_succ]
        refine wpS_take 4 (v := ?_) hSw rfl (by kernel_rfl) (by kernel_rfl) (by kernel_rfl) (by rfl) (fun w' hin => ?_) ?_
        rotate_left
        · (try simp only [] at hin); go_simp <;> with_reducible rfl
        try simp only [Act.put, List.setIfInBounds_toArray, List.set_cons_zero, List.set_cons_succ]
        refine wpS_take 5 (v := ?_) hSw rfl (by kernel_rfl) (by kernel_rfl) (by kernel_rfl) (by rfl) (fun w' hin => ?_) ?_
        rotate_left
        · (try simp only [] at hin); go_simp <;> with_reducible rfl
        try simp only [Act.put, List.setIfInBounds_toArray, List.set_cons_zero, List.set_cons_succ]
        refine wpS_take 6 (v := ?_) hSw rfl (by kernel_rfl) (by kernel_rfl) (by kernel_rfl) (by rfl) (fun w' hin => ?_) ?_
        rotate_left
        · (try simp only [] at hin); go_simp <;> with_reducible rfl
        try simp only [Act.put, List.setIfInBounds_toArray, List.set_cons_zero, List.set_cons_succ]
        refine wpS_take 7 (v := ?_) hSw rfl (by kernel_rfl) (by kernel_rfl) (by kernel_rfl) (by rfl) (fun w' hin => ?_) ?_
        rotate_left
        · (try simp only [] at hin); go_simp <;> with_reducible rfl
        try simp only [Act.put, List.setIfInBounds_toArray, List.set_cons_zero, List.set_cons_succ]
        refine wpS_one 8 rfl (by kernel_rfl) (by rfl) (fun K hK => ?_)
        go_simp
        refine (refSame_dec _ _ r q C C' p f p' f' D D' u g u' g' _ (HV.out.up hSw) (HV'.out.up hSw)).mono ?_
        rw [← HY.out]
        rintro e x1 ⟨rfl, hb1⟩
        simp only []
        refine hK.out _ _ (Ext w) (fun _ h => h) (hSw.trans hb1) (fun hSw => ?_)
        clear hK K
        try simp only [Act.put, List.setIfInBounds_toArray, List.set_cons_zero, List.set_cons_succ]
        refine wpS_take 9 (v := ?_) hSw rfl (by kernel_rfl) (by kernel_rfl) (by kernel_rfl) (by rfl) (fun w' hin => ?_) ?_
        rotate_left
        · (try simp only [] at hin); go_simp <;> with_reducible rfl
        try simp only [Act.put, List.setIfInBounds_toArray, List.set_cons_zero, List.set_cons_succ]
        refine wpS_done (by kernel_rfl) ?_
        have HX2 := Lib.hid (HX.out.drew.trans hb1)
        clear t0 s0 t1 s1 t2 s2 t3 s3 t4 s4 t5 s5 t6 s6 hSw hb1
        go_wp2_with fail
        go_roundw
        case rel => exact ⟨k + 1, by omega, by go_num, HT2, HX2⟩
        case measure => simp [intOf]; omega
      | false =>
        have HF : Hid (Z = false) := Lib.hid (by rw [HZ.out]; exact decide_eq_false (ne_of_at HLK.out HLK'.out (fun e => by have h9 := HY.out; rw [(same_iff r q).2 e] at h9; cases h9)))
        have hSw : Ext w wr.drew := HX.out.drew
        refine wpS_begin (Ext w) (by kernel_rfl) ?_
        refine wpS_take 0 (v := ?_) hSw rfl (by kernel_rfl) (by kernel_rfl) (by kernel_rfl) (by rfl) (fun w' hin => ?_) ?_
        rotate_left
        · (try simp only [] at hin); go_simp <;> with_reducible rfl
        try simp only [Act.put, List.setIfInBounds_toArray, List.set_cons_zero, List.set_cons_succ]
        refine wpS_take 1 (v := ?_) hSw rfl (by kernel_rfl) (by kernel_rfl) (by kernel_rfl) (by rfl) (fun w' hin => ?_) ?_
        rotate_left
        · (try simp only [] at hin); go_simp <;> with_reducible rfl
        try simp only [Act.put, List.setIfInBounds_toArray, List.set_cons_zero, List.set_cons_succ]
        refine wpS_take 2 (v := ?_) hSw rfl (by kernel_rfl) (by kernel_rfl) (by kernel_rfl) (by rfl) (fun w' hin => ?_) ?_
        rotate_left
        · (try simp only [] at hin); go_simp <;> with_reducible rfl
        try simp only [Act.put, List.setIfInBounds_toArray, List.set_cons_zero, List.set_cons_succ]
        refine wpS_take 3 (v := ?_) hSw rfl (by kernel_rfl) (by kernel_rfl) (by kernel_rfl) (by rfl) (fun w' hin => ?_) ?_
        rotate_left
        · (try simp only [] at hin); go_simp <;> with_reducible rfl
        try simp only [Act.put, List.setIfInBounds_toArray, List.set_cons_zero, List.set_cons_succ]
        refine wpS_take 4 (v := ?_) hSw rfl (by kernel_rfl) (by kernel_rfl) (by kernel_rfl) (by rfl) (fun w' hin => ?_) ?_
        rotate_left
        · (try simp only [] at hin); go_simp <;> with_reducible rfl
        try simp only [Act.put, List.setIfInBounds_toArray, List.set_cons_zero, List.set_cons_succ]
        refine wpS_take 5 (v := ?_) hSw rfl (by kernel_rfl) (by kernel_rfl) (by kernel_rfl) (by rfl) (fun w' hin => ?_) ?_
        rotate_left
        · (try simp only [] at hin); go_simp <;> with_reducible rfl
        try simp only [Act.put, List.setIfInBounds_toArray, List.set_cons_zero, List.set_cons_succ]
        refine wpS_take 6 (v := ?_) hSw rfl (by kernel_rfl) (by kernel_rfl) (by kernel_rfl) (by rfl) (fun w' hin => ?_) ?_
        rotate_left
        · (try simp only [] at hin); go_simp <;> with_reducible rfl
        try simp only [Act.put, List.setIfInBounds_toArray, List.set_cons_zero, List.set_cons_succ]
        refine wpS_take 7 (v := ?_) hSw rfl (by kernel_rfl) (by kernel_rfl) (by kernel_rfl) (by rfl) (fun w' hin => ?_) ?_
        rotate_left
        · (try simp only [] at hin); go_simp <;> with_reducible rfl
        try simp only [Act.put, List.setIfInBounds_toArray, List.set_cons_zero, List.set_cons_succ]
        refine wpS_one 8 rfl (by kernel_rfl) (by rfl) (fun K hK => ?_)
        go_simp
        refine (refSame_dec _ _ r q C C' p f p' f' D D' u g u' g' _ (HV.out.up hSw) (HV'.out.up hSw)).mono ?_
        rw [← HY.out]
        rintro e x1 ⟨rfl, hb1⟩
        simp only []
        refine hK.out _ _ (Ext w) (fun _ h => h) (hSw.trans hb1) (fun hSw => ?_)
        clear hK K
        try simp only [Act.put, List.setIfInBounds_toArray, List.set_cons_zero, List.set_cons_succ]
        refine wpS_take 9 (v := ?_) hSw rfl (by kernel_rfl) (by kernel_rfl) (by kernel_rfl) (by rfl) (fun w' hin => ?_) ?_
        rotate_left
        · (try simp only [] at hin); go_simp <;> with_reducible rfl
        try simp only [Act.put, List.setIfInBounds_toArray, List.set_cons_zero, List.set_cons_succ]
        refine wpS_done (by kernel_rfl) ?_
        have HX2 := Lib.hid (HX.out.drew.trans hb1)
        clear t0 s0 t1 s1 t2 s2 t3 s3 t4 s4 t5 s5 t6 s6 hSw hb1
        go_wp2_with fail
        go_ret
        exact ⟨ret_bool HF.out.symm, HX2.out⟩
    · have HF : Hid (Z = true) := Lib.hid (by rw [HZ.out]; exact decide_eq_true (eq_of_take HT.out (by have := HA.out.len; omega) (by have := HB.out.len; omega)))
      have i2 : ¬ (k : Int) < (n : Int) := by omega
      go_wp2_with fail
      go_ret
      exact ⟨ret_bool HF.out.symm, HX.out⟩
end Go.Proofs.YtfdjbnofcniodaaGreatDoor
