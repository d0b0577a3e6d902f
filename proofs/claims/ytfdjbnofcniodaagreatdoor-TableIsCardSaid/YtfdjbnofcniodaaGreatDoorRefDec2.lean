/- What the document's Alike and Same of layer 3 compute. -/
import Derived.Test.YtfdjbnofcniodaaGreatDoorRefDec
namespace Go.Proofs.YtfdjbnofcniodaaGreatDoor
set_option linter.unusedVariables false
open Go.RowKit

set_option maxRecDepth 100000 in
set_option maxHeartbeats 8000000 in
theorem refAlike_dec (S S' : Nat → Prop) (r q : Rs) (A A' : Option Addr) (n c n' c' : Nat) (B B' : Option Addr) (m d m' d' : Nat) (w : World) (hA : RsV S w r A n c A' n' c') (hB : RsV S' w q B m d B' m' d') :
    Calls Tryz.prog 74 #[rsVal r A n c A' n' c', rsVal q B m d B' m' d'] w fun e w' => e = .returned (.bool (alikeR r q)) ∧ Ext w w' := by
  have HA := Lib.hid hA
  have HB := Lib.hid hB
  have hm : n' ≤ 9223372036854775807 := by have h1 := hA.sl'.1; have h2 := hA.sl'.2.1; unfold maxLen at h2; omega
  have hm2 : m' ≤ 9223372036854775807 := by have h1 := hB.sl'.1; have h2 := hB.sl'.2.1; unfold maxLen at h2; omega
  clear hA hB
  have HZ0 : Hid (alikeR r q = (decide (r.kind = q.kind ∧ r.name = q.name) && decide (r.port = q.port) && decide (r.to = q.to) && decide (r.hosts = q.hosts) && decide (r.rules = q.rules))) := Lib.hid (by
    unfold alikeR Rs.key; congr 4; rw [Bool.eq_iff_iff]; simp)
  obtain ⟨Z, hZ⟩ : ∃ Z, Z = alikeR r q := ⟨_, rfl⟩
  rw [← hZ] at HZ0 ⊢
  clear hZ
  unfold rsVal
  go_enter Tryz.func74, Tryz.ntmps74
  by_cases g1 : r.kind = q.kind
  rotate_left
  · have HF : Hid (Z = false) := Lib.hid (by rw [HZ0.out]; simp [g1])
    go_wp2_with fail
    go_ret
    exact ⟨ret_bool HF.out.symm, (Ext.new w _).alloc _⟩
  have G1 := Lib.hid g1
  have b1 : (r.kind != q.kind) = false := by rw [bne_eq_false_iff_eq]; exact g1
  clear g1
  by_cases g2 : r.name.toList = q.name.toList
  rotate_left
  · have HF : Hid (Z = false) := Lib.hid (by rw [HZ0.out]; simp [str_ne g2])
    have b2 : (r.name.toList == q.name.toList) = false := by rw [beq_eq_false_iff_ne]; exact g2
    go_wp2_with fail
    go_ret
    exact ⟨ret_bool HF.out.symm, (Ext.new w _).alloc _⟩
  have G2 := Lib.hid (str_eq g2)
  have b2 : (r.name.toList == q.name.toList) = true := by rw [beq_iff_eq]; exact g2
  clear g2
  by_cases g3 : r.port = q.port
  rotate_left
  · have HF : Hid (Z = false) := Lib.hid (by rw [HZ0.out]; simp [g3])
    go_wp2_with fail
    go_ret
    exact ⟨ret_bool HF.out.symm, (Ext.new w _).alloc _⟩
  have G3 := Lib.hid g3
  have b3 : (r.port != q.port) = false := by rw [bne_eq_false_iff_eq]; exact g3
  clear g3
  by_cases g4 : r.to.toList = q.to.toList
  rotate_left
  · have HF : Hid (Z = false) := Lib.hid (by rw [HZ0.out]; simp [str_ne g4])
    have b4 : (r.to.toList == q.to.toList) = false := by rw [beq_eq_false_iff_ne]; exact g4
    go_wp2_with fail
    go_ret
    exact ⟨ret_bool HF.out.symm, (Ext.new w _).alloc _⟩
  have G4 := Lib.hid (str_eq g4)
  have b4 : (r.to.toList == q.to.toList) = true := by rw [beq_iff_eq]; exact g4
  clear g4
  by_cases g5 : n' = m'
  rotate_left
  · have HF : Hid (Z = false) := Lib.hid (by rw [HZ0.out, show decide (r.hosts = q.hosts) = false from decide_eq_false (fun e => g5 (by rw [← HA.out.arr'.len, ← HB.out.arr'.len, e]))]; simp)
    have b5 : ((n' : Int) != (m' : Int)) = true := by rw [bne_iff_ne]; omega
    go_wp2_with fail
    go_ret
    exact ⟨ret_bool HF.out.symm, (Ext.new w _).alloc _⟩
  subst g5
  have HZ1 : Hid (Z = (decide (r.hosts = q.hosts) && decide (r.rules = q.rules))) := Lib.hid (by rw [HZ0.out]; simp [G1.out, G2.out, G3.out, G4.out])
  go_wp2_with fail
  clear b1 b2 b3 b4
  have hk2 := two_blocks w (.cells #[.int .i64 r.kind, .string r.name, .int .i64 r.ver, .int .i64 r.port, .string r.to, .slice A n c, .slice A' n' c'] 34) (.cells #[.int .i64 q.kind, .string q.name, .int .i64 q.ver, .int .i64 q.port, .string q.to, .slice B m d, .slice B' n' d'] 34)
  have KA0 := Lib.hid hk2.1
  have KB0 := Lib.hid hk2.2
  have E0 := Lib.hid ((Ext.new w (.cells #[.int .i64 r.kind, .string r.name, .int .i64 r.ver, .int .i64 r.port, .string r.to, .slice A n c, .slice A' n' c'] 34)).alloc (.cells #[.int .i64 q.kind, .string q.name, .int .i64 q.ver, .int .i64 q.port, .string q.to, .slice B m d, .slice B' n' d'] 34))
  have hz0 : w.heap.size + 1 < ((w.alloc (.cells #[.int .i64 r.kind, .string r.name, .int .i64 r.ver, .int .i64 r.port, .string r.to, .slice A n c, .slice A' n' c'] 34)).alloc (.cells #[.int .i64 q.kind, .string q.name, .int .i64 q.ver, .int .i64 q.port, .string q.to, .slice B m d, .slice B' n' d'] 34)).heap.size := by simp
  generalize (w.alloc (.cells #[.int .i64 r.kind, .string r.name, .int .i64 r.ver, .int .i64 r.port, .string r.to, .slice A n c, .slice A' n' c'] 34)).alloc (.cells #[.int .i64 q.kind, .string q.name, .int .i64 q.ver, .int .i64 q.port, .string q.to, .slice B m d, .slice B' n' d'] 34) = w0 at KA0 KB0 E0 hz0 ⊢
  clear hk2
  go_loopw [5] (fun i wr => ∃ k : Nat, k ≤ n' ∧ i = .int .i64 k ∧ Hid (r.hosts.take k = q.hosts.take k) ∧ Hid (Ext w0 wr)) (fun i _ => n' - (intOf i).toNat)
  case atStart => exact ⟨0, Nat.zero_le _, by go_num, Lib.hid rfl, Lib.hid (Ext.refl _)⟩
  case round =>
    obtain ⟨k, hk, rfl, HT, HX⟩ := hrel
    have HE := Lib.hid (E0.out.trans HX.out)
    have KAr := Lib.hid ((HX.out.block (by omega)).trans KA0.out)
    have KBr := Lib.hid ((HX.out.block hz0).trans KB0.out)
    obtain ⟨a0, a1⟩ := blk_rules KAr.out
    by_cases hlt : k < n'
    · obtain ⟨b, o, x, rfl, hbB, -, hlk, hc⟩ := HostL.at_ HA.out.arr' hlt
      obtain ⟨b', o', y, rfl, hbB', -, hlk', hc'⟩ := HostL.at_ HB.out.arr' hlt
      have HLK := Lib.hid hlk
      have HLK' := Lib.hid hlk'
      have i1 : (0 : Int) ≤ (k : Int) := by omega
      have i2 : (k : Int) < (n' : Int) := by omega
      have u6 : ∀ w', Ext w0 w' → w'.cell? ⟨w.heap.size, 6, none⟩ = some (.slice (some ⟨b, o, none⟩) n' c') := fun w' h => (blk_rules ((h.block (by omega)).trans KA0.out)).1 6
      have v6 : ∀ w', Ext w0 w' → w'.cell? ⟨w.heap.size + 1, 6, none⟩ = some (.slice (some ⟨b', o', none⟩) n' d') := fun w' h => (blk_rules ((h.block hz0).trans KB0.out)).1 6
      have d0 : ∀ w', Ext w0 w' → w'.cell? ⟨b, o + k, none⟩ = some (.int .i64 x) := fun w' h => ((E0.out.trans h).cell hbB).trans hc
      have d1 : ∀ w', Ext w0 w' → w'.cell? ⟨b', o' + k, none⟩ = some (.int .i64 y) := fun w' h => ((E0.out.trans h).cell hbB').trans hc'
      clear hlk hlk' hc hc'
      by_cases hxy : x = y
      · have HT2 : Hid (r.hosts.take (k + 1) = q.hosts.take (k + 1)) := Lib.hid (take_eq_snoc HT.out HLK.out (by rw [HLK'.out, hxy]))
        subst hxy
        go_wp2_with fail
        have hSw : Ext w0 wr.drew := HX.out.drew
        refine wpS_begin (Ext w0) (by kernel_rfl) ?_
        refine wpS_take 0 (v := ?_) hSw rfl (by kernel_rfl) (by kernel_rfl) (by kernel_rfl) (by rfl) (fun w' hin => ?_) ?_
        rotate_left
        · (try simp only [] at hin); go_simp <;> with_reducible rfl
        try simp only [Act.put, List.setIfInBounds_toArray, List.set_cons_zero, List.set_cons_succ]
        refine wpS_take 1 (v := ?_) hSw rfl (by kernel_rfl) (by kernel_rfl) (by kernel_rfl) (by rfl) (fun w' hin => ?_) ?_
        rotate_left
        · (try simp only [] at hin); go_simp <;> with_reducible rfl
        try simp only [Act.put, List.setIfInBounds_toArray, List.set_cons_zero, List.set_cons_succ]
        refine wpS_take 2 (v := ?_) hSw rfl (by kernel_rfl) (by kernel_rfl) (by kernel_rfl) (by rfl) (fun w' hin => ?_) ?_
        rotate_left
        · (try simp only [] at hin); go_simp <;> with_reducible rfl
        try simp only [Act.put, List.setIfInBounds_toArray, List.set_cons_zero, List.set_cons_succ]
        refine wpS_take 3 (v := ?_) hSw rfl (by kernel_rfl) (by kernel_rfl) (by kernel_rfl) (by rfl) (fun w' hin => ?_) ?_
        rotate_left
        · (try simp only [] at hin); go_simp <;> with_reducible rfl
        try simp only [Act.put, List.setIfInBounds_toArray, List.set_cons_zero, List.set_cons_succ]
        refine wpS_take 4 (v := ?_) hSw rfl (by kernel_rfl) (by kernel_rfl) (by kernel_rfl) (by rfl) (fun w' hin => ?_) ?_
        rotate_left
        · (try simp only [] at hin); go_simp <;> with_reducible rfl
        try simp only [Act.put, List.setIfInBounds_toArray, List.set_cons_zero, List.set_cons_succ]
        refine wpS_take 5 (v := ?_) hSw rfl (by kernel_rfl) (by kernel_rfl) (by kernel_rfl) (by rfl) (fun w' hin => ?_) ?_
        rotate_left
        · (try simp only [] at hin); go_simp <;> with_reducible rfl
        try simp only [Act.put, List.setIfInBounds_toArray, List.set_cons_zero, List.set_cons_succ]
        refine wpS_take 6 (v := ?_) hSw rfl (by kernel_rfl) (by kernel_rfl) (by kernel_rfl) (by rfl) (fun w' hin => ?_) ?_
        rotate_left
        · (try simp only [] at hin); go_simp <;> with_reducible rfl
        try simp only [Act.put, List.setIfInBounds_toArray, List.set_cons_zero, List.set_cons_succ]
        refine wpS_take 7 (v := ?_) hSw rfl (by kernel_rfl) (by kernel_rfl) (by kernel_rfl) (by rfl) (fun w' hin => ?_) ?_
        rotate_left
        · (try simp only [] at hin); go_simp <;> with_reducible rfl
        try simp only [Act.put, List.setIfInBounds_toArray, List.set_cons_zero, List.set_cons_succ]
        refine wpS_take 8 (v := ?_) hSw rfl (by kernel_rfl) (by kernel_rfl) (by kernel_rfl) (by rfl) (fun w' hin => ?_) ?_
        rotate_left
        · (try simp only [] at hin); go_simp <;> with_reducible rfl
        try simp only [Act.put, List.setIfInBounds_toArray, List.set_cons_zero, List.set_cons_succ]
        refine wpS_take 9 (v := ?_) hSw rfl (by kernel_rfl) (by kernel_rfl) (by kernel_rfl) (by rfl) (fun w' hin => ?_) ?_
        rotate_left
        · (try simp only [] at hin); go_simp <;> with_reducible rfl
        try simp only [Act.put, List.setIfInBounds_toArray, List.set_cons_zero, List.set_cons_succ]
        refine wpS_take 10 (v := ?_) hSw rfl (by kernel_rfl) (by kernel_rfl) (by kernel_rfl) (by rfl) (fun w' hin => ?_) ?_
        rotate_left
        · (try simp only [] at hin); go_simp <;> with_reducible rfl
        try simp only [Act.put, List.setIfInBounds_toArray, List.set_cons_zero, List.set_cons_succ]
        refine wpS_done (by kernel_rfl) ?_
        have HX2 := Lib.hid hSw
        clear a0 a1 u6 v6 d0 d1 hSw
        go_wp2_with fail
        go_roundw
        case rel => exact ⟨k + 1, by omega, by go_num, HT2, HX2⟩
        case measure => simp [intOf]; omega
      · have HF : Hid (Z = false) := Lib.hid (by rw [HZ1.out, decide_eq_false (ne_of_at HLK.out HLK'.out hxy)]; rfl)
        go_wp2_with fail
        have hSw : Ext w0 wr.drew := HX.out.drew
        refine wpS_begin (Ext w0) (by kernel_rfl) ?_
        refine wpS_take 0 (v := ?_) hSw rfl (by kernel_rfl) (by kernel_rfl) (by kernel_rfl) (by rfl) (fun w' hin => ?_) ?_
        rotate_left
        · (try simp only [] at hin); go_simp <;> with_reducible rfl
        try simp only [Act.put, List.setIfInBounds_toArray, List.set_cons_zero, List.set_cons_succ]
        refine wpS_take 1 (v := ?_) hSw rfl (by kernel_rfl) (by kernel_rfl) (by kernel_rfl) (by rfl) (fun w' hin => ?_) ?_
        rotate_left
        · (try simp only [] at hin); go_simp <;> with_reducible rfl
        try simp only [Act.put, List.setIfInBounds_toArray, List.set_cons_zero, List.set_cons_succ]
        refine wpS_take 2 (v := ?_) hSw rfl (by kernel_rfl) (by kernel_rfl) (by kernel_rfl) (by rfl) (fun w' hin => ?_) ?_
        rotate_left
        · (try simp only [] at hin); go_simp <;> with_reducible rfl
        try simp only [Act.put, List.setIfInBounds_toArray, List.set_cons_zero, List.set_cons_succ]
        refine wpS_take 3 (v := ?_) hSw rfl (by kernel_rfl) (by kernel_rfl) (by kernel_rfl) (by rfl) (fun w' hin => ?_) ?_
        rotate_left
        · (try simp only [] at hin); go_simp <;> with_reducible rfl
        try simp only [Act.put, List.setIfInBounds_toArray, List.set_cons_zero, List.set_cons_succ]
        refine wpS_take 4 (v := ?_) hSw rfl (by kernel_rfl) (by kernel_rfl) (by kernel_rfl) (by rfl) (fun w' hin => ?_) ?_
        rotate_left
        · (try simp only [] at hin); go_simp <;> with_reducible rfl
        try simp only [Act.put, List.setIfInBounds_toArray, List.set_cons_zero, List.set_cons_succ]
        refine wpS_take 5 (v := ?_) hSw rfl (by kernel_rfl) (by kernel_rfl) (by kernel_rfl) (by rfl) (fun w' hin => ?_) ?_
        rotate_left
        · (try simp only [] at hin); go_simp <;> with_reducible rfl
        try simp only [Act.put, List.setIfInBounds_toArray, List.set_cons_zero, List.set_cons_succ]
        refine wpS_take 6 (v := ?_) hSw rfl (by kernel_rfl) (by kernel_rfl) (by kernel_rfl) (by rfl) (fun w' hin => ?_) ?_
        rotate_left
        · (try simp only [] at hin); go_simp <;> with_reducible rfl
        try simp only [Act.put, List.setIfInBounds_toArray, List.set_cons_zero, List.set_cons_succ]
        refine wpS_take 7 (v := ?_) hSw rfl (by kernel_rfl) (by kernel_rfl) (by kernel_rfl) (by rfl) (fun w' hin => ?_) ?_
        rotate_left
        · (try simp only [] at hin); go_simp <;> with_reducible rfl
        try simp only [Act.put, List.setIfInBounds_toArray, List.set_cons_zero, List.set_cons_succ]
        refine wpS_take 8 (v := ?_) hSw rfl (by kernel_rfl) (by kernel_rfl) (by kernel_rfl) (by rfl) (fun w' hin => ?_) ?_
        rotate_left
        · (try simp only [] at hin); go_simp <;> with_reducible rfl
        try simp only [Act.put, List.setIfInBounds_toArray, List.set_cons_zero, List.set_cons_succ]
        refine wpS_take 9 (v := ?_) hSw rfl (by kernel_rfl) (by kernel_rfl) (by kernel_rfl) (by rfl) (fun w' hin => ?_) ?_
        rotate_left
        · (try simp only [] at hin); go_simp <;> with_reducible rfl
        try simp only [Act.put, List.setIfInBounds_toArray, List.set_cons_zero, List.set_cons_succ]
        refine wpS_take 10 (v := ?_) hSw rfl (by kernel_rfl) (by kernel_rfl) (by kernel_rfl) (by rfl) (fun w' hin => ?_) ?_
        rotate_left
        · (try simp only [] at hin); go_simp <;> with_reducible rfl
        try simp only [Act.put, List.setIfInBounds_toArray, List.set_cons_zero, List.set_cons_succ]
        refine wpS_done (by kernel_rfl) ?_
        have HX2 := Lib.hid (E0.out.trans hSw)
        clear a0 a1 u6 v6 d0 d1 hSw
        go_wp2_with fail
        go_ret
        exact ⟨ret_bool HF.out.symm, HX2.out⟩
    · have HH : Hid (r.hosts = q.hosts) := Lib.hid (eq_of_take HT.out (by have := HA.out.arr'.len; omega) (by have := HB.out.arr'.len; omega))
      have HZ2 : Hid (Z = decide (r.rules = q.rules)) := Lib.hid (by rw [HZ1.out, decide_eq_true HH.out]; rfl)
      have i2 : ¬ (k : Int) < (n' : Int) := by omega
      obtain ⟨e0, e1⟩ := blk_rules KBr.out
      go_wp2_with fail
      refine (refRules_dec S S' r.rules q.rules A B n m c d _ (Nat.le_trans HA.out.sl.1 HA.out.sl.2.1) (Nat.le_trans HB.out.sl.1 HB.out.sl.2.1) (HA.out.up HE.out).arr (HB.out.up HE.out).arr).mono ?_
      rintro e w3 ⟨rfl, hb3⟩
      rw [← HZ2.out]
      have E3 := Lib.hid (HE.out.trans hb3)
      clear hb3 a0 a1 e0 e1
      go_wp2_with fail
      go_ret
      exact ⟨rfl, E3.out⟩
set_option maxRecDepth 100000 in
set_option maxHeartbeats 4000000 in
theorem refSame_dec (S S' : Nat → Prop) (r q : Rs) (A A' : Option Addr) (n c n' c' : Nat) (B B' : Option Addr) (m d m' d' : Nat) (w : World) (hA : RsV S w r A n c A' n' c') (hB : RsV S' w q B m d B' m' d') :
    Calls Tryz.prog 11 #[rsVal r A n c A' n' c', rsVal q B m d B' m' d'] w fun e w' => e = .returned (.bool (sameR r q)) ∧ Ext w w' := by
  have HA := Lib.hid hA
  have HB := Lib.hid hB
  clear hA hB
  have HZ0 : Hid (sameR r q = (decide (r.ver = q.ver) && alikeR r q)) := Lib.hid rfl
  obtain ⟨Z, hZ⟩ : ∃ Z, Z = sameR r q := ⟨_, rfl⟩
  rw [← hZ] at HZ0 ⊢
  clear hZ
  unfold rsVal
  go_enter Tryz.func11, Tryz.ntmps11
  go_wp2_with fail
  refine (refAlike_dec S S' r q A A' n c n' c' B B' m d m' d' _ (HA.out.up ((Ext.new w _).alloc _)) (HB.out.up ((Ext.new w _).alloc _))).mono ?_
  rintro e w1 ⟨rfl, hb1⟩
  obtain ⟨k1, k2, -⟩ := box2b hb1
  have E1 := Lib.hid (((Ext.new w _).alloc _).trans hb1)
  obtain ⟨a0, a1⟩ := blk_rules k1
  obtain ⟨b0, b1⟩ := blk_rules k2
  obtain ⟨Y, hY⟩ : ∃ Y, Y = alikeR r q := ⟨_, rfl⟩
  rw [← hY] at HZ0 ⊢
  clear hY hb1 k1 k2
  cases Y with
  | false =>
    have HF : Hid (Z = false) := Lib.hid (by rw [HZ0.out, Bool.and_false])
    go_wp2_with fail
    go_ret
    exact ⟨ret_bool HF.out.symm, E1.out⟩
  | true =>
    by_cases hv : r.ver = q.ver
    · have HF : Hid (Z = true) := Lib.hid (by rw [HZ0.out, decide_eq_true hv]; rfl)
      have hb : (r.ver == q.ver) = true := by rw [beq_iff_eq]; exact hv
      clear hv
      go_wp2_with fail
      go_ret
      exact ⟨ret_bool (by rw [HF.out]), E1.out⟩
    · have HF : Hid (Z = false) := Lib.hid (by rw [HZ0.out, decide_eq_false hv]; rfl)
      have hb : (r.ver == q.ver) = false := by rw [beq_eq_false_iff_ne]; exact hv
      clear hv
      go_wp2_with fail
      go_ret
      exact ⟨ret_bool (by rw [HF.out]), E1.out⟩
end Go.Proofs.YtfdjbnofcniodaaGreatDoor
