/- The law FrameKinds of layer 10. -/
import Derived.Test.YtepifkmileilfaaGreatDoorFrOnce
import Derived.Test.YtepifkmileilfaaGreatDoorFrPlain3
import Derived.Test.YtepifkmileilfaaGreatDoorFr7
import Derived.Test.YtepifkmileilfaaGreatDoorResAll
namespace Go.Proofs.YtepifkmileilfaaGreatDoor
set_option linter.unusedVariables false
open Go.RowKit

set_option maxRecDepth 100000 in
set_option maxHeartbeats 8000000 in
theorem frameKinds_any (f : Fr) (s : FrS) (w : World) (hV : FrV (fun _ => True) w f s) :
    Calls Tryz.prog 12 #[frVal f s] w fun e w' => e = .returned (.bool true) ∧ Ext w w' := by
  have HV := Lib.hid hV
  obtain ⟨⟨A1, n1, c1⟩, ⟨A2, n2, c2⟩, ⟨A3, n3, c3⟩, ⟨A4, n4, c4⟩⟩ := s
  clear hV
  rw [show frVal f ⟨⟨A1, n1, c1⟩, ⟨A2, n2, c2⟩, ⟨A3, n3, c3⟩, ⟨A4, n4, c4⟩⟩ = .agg #[.int .i64 f.typ, .int .i64 f.epoch, .int .i64 f.kind, .int .i64 f.nonce, .int .i64 f.turn, .slice A1 n1 c1, .slice A2 n2 c2, .int .i64 f.err, .slice A3 n3 c3, .slice A4 n4 c4] from rfl]
  go_enter Tryz.func12, Tryz.ntmps12
  go_wp2_with fail
  refine (awake10 _).mono ?_
  rintro e w1 ⟨rfl, hb1⟩
  have K1 := Lib.hid (box_up hb1)
  have E1 := Lib.hid ((Ext.new w _).trans hb1)
  clear hb1
  obtain ⟨q0, q1⟩ := blk_rules K1.out
  go_wp2_with fail
  refine (few10_any (fun _ => True) f ⟨⟨A1, n1, c1⟩, ⟨A2, n2, c2⟩, ⟨A3, n3, c3⟩, ⟨A4, n4, c4⟩⟩ _ (HV.out.up E1.out)).mono ?_
  rintro e w2 ⟨v, rfl, hv, hb2⟩
  have K2 := Lib.hid ((hb2.block (Array.getElem?_eq_some_iff.1 K1.out).1).trans K1.out)
  have E2 := Lib.hid (E1.out.trans hb2)
  clear hb2 q0 q1
  cases v with
  | false =>
    go_wp2_with fail
    go_ret
    exact ⟨rfl, E2.out⟩
  | true =>
  have hn3 : n3 ≤ 80 := (hv rfl).2.2.1
  have hn1 : n1 ≤ 80 := (hv rfl).1
  have hn2 : n2 ≤ 80 := (hv rfl).2.1
  clear hv
  obtain ⟨q0, q1⟩ := blk_rules K2.out
  go_wp2_with fail
  refine (frame1_any f ⟨⟨A1, n1, c1⟩, ⟨A2, n2, c2⟩, ⟨A3, n3, c3⟩, ⟨A4, n4, c4⟩⟩ _ (HV.out.up E2.out) hn3).mono ?_
  rintro e w3 ⟨⟨⟨B1, m1, d1⟩, ⟨B2, m2, d2⟩, ⟨B3, m3, d3⟩, ⟨B4, m4, d4⟩⟩, rfl, hV3, hb3⟩
  have HX := Lib.hid hV3
  have K3 := Lib.hid ((hb3.block (Array.getElem?_eq_some_iff.1 K2.out).1).trans K2.out)
  have E3 := Lib.hid (E2.out.trans hb3)
  clear hb3 q0 q1 hV3
  rw [show frVal f ⟨⟨B1, m1, d1⟩, ⟨B2, m2, d2⟩, ⟨B3, m3, d3⟩, ⟨B4, m4, d4⟩⟩ = .agg #[.int .i64 f.typ, .int .i64 f.epoch, .int .i64 f.kind, .int .i64 f.nonce, .int .i64 f.turn, .slice B1 m1 d1, .slice B2 m2 d2, .int .i64 f.err, .slice B3 m3 d3, .slice B4 m4 d4] from rfl]
  go_wp2_with fail
  refine (frSane_any (fun _ => True) f ⟨⟨B1, m1, d1⟩, ⟨B2, m2, d2⟩, ⟨B3, m3, d3⟩, ⟨B4, m4, d4⟩⟩ _ HX.out).mono ?_
  rintro e w4 ⟨rfl, hb4⟩
  have K4 := Lib.hid ((hb4.block (Array.getElem?_eq_some_iff.1 K3.out).1).trans K3.out)
  have E4 := Lib.hid (E3.out.trans hb4)
  clear hb4
  obtain ⟨Z, hZ⟩ : ∃ Z, Z = saneF f := ⟨_, rfl⟩
  rw [← hZ]
  have HZ := Lib.hid hZ
  clear hZ
  by_cases hs : Z = 0
  rotate_left
  · have hs1 : (Z != 0) = true := by simpa using hs
    clear hs
    go_wp2_with fail
    go_ret
    exact ⟨rfl, E4.out⟩
  have HS : Hid (saneF f = 0) := Lib.hid (by rw [← HZ.out]; exact hs)
  subst hs
  have hzw : w.heap.size < w4.heap.size := (Array.getElem?_eq_some_iff.1 K4.out).1

  go_wp2_with fail
  go_loopw [4] (fun i wr => ∃ k : Nat, k ≤ n1 ∧ i = .int .i64 k ∧ Hid (Ext w4 wr)) (fun i _ => n1 - (intOf i).toNat)
  case atStart => exact ⟨0, Nat.zero_le _, by go_num, Lib.hid (Ext.refl _)⟩
  case round =>
    obtain ⟨k, hk, rfl, HE⟩ := hrel
    have HE4 := Lib.hid (E4.out.trans HE.out)
    have KR := Lib.hid ((HE.out.block hzw).trans K4.out)
    have hzr : w.heap.size < wr.heap.size := Nat.lt_of_lt_of_le hzw HE.out.size
    obtain ⟨q0, q1⟩ := blk_rules KR.out
    by_cases hlt : k < n1
    · obtain ⟨b, off, r, C, m, g, C', m', g', rfl, hbl0, -, hx, hv, d0, d1, d2, d3, d4, d5, d6⟩ := ResL.at_ HV.out.adds hlt
      have HR := Lib.hid hv
      have hKA := (frKinds_all HS.out).1 r (List.mem_of_getElem? hx)
      have HSR := Lib.hid hKA.1
      have hkq : (r.kind != f.kind) = false := by simpa using hKA.2
      have i1 : (0 : Int) ≤ (k : Int) := by omega
      have i2 : (k : Int) < (n1 : Int) := by omega
      have u5 : ∀ w', Ext wr.drew w' → w'.cell? ⟨w.heap.size, 5, none⟩ = some (.slice (some ⟨b, off, none⟩) n1 c1) := fun w' h => (((Ext.refl wr).drew.trans h).cell hzr).trans (q0 5)
      have u2 : ∀ w', Ext wr.drew w' → w'.cell? ⟨w.heap.size, 2, none⟩ = some (.int .i64 f.kind) := fun w' h => (((Ext.refl wr).drew.trans h).cell hzr).trans (q0 2)

      have t0 : ∀ w', Ext wr.drew w' → w'.cell? ⟨b, off + k * 7, none⟩ = some (.int .i64 r.kind) := fun w' h => ((HE4.out.drew.trans h).cell hbl0).trans d0
      have t1 : ∀ w', Ext wr.drew w' → w'.cell? ⟨b, off + k * 7 + 1, none⟩ = some (.string r.name) := fun w' h => ((HE4.out.drew.trans h).cell hbl0).trans d1
      have t2 : ∀ w', Ext wr.drew w' → w'.cell? ⟨b, off + k * 7 + 2, none⟩ = some (.int .i64 r.ver) := fun w' h => ((HE4.out.drew.trans h).cell hbl0).trans d2
      have t3 : ∀ w', Ext wr.drew w' → w'.cell? ⟨b, off + k * 7 + 3, none⟩ = some (.int .i64 r.port) := fun w' h => ((HE4.out.drew.trans h).cell hbl0).trans d3
      have t4 : ∀ w', Ext wr.drew w' → w'.cell? ⟨b, off + k * 7 + 4, none⟩ = some (.string r.to) := fun w' h => ((HE4.out.drew.trans h).cell hbl0).trans d4
      have t5 : ∀ w', Ext wr.drew w' → w'.cell? ⟨b, off + k * 7 + 5, none⟩ = some (.slice C m g) := fun w' h => ((HE4.out.drew.trans h).cell hbl0).trans d5
      have t6 : ∀ w', Ext wr.drew w' → w'.cell? ⟨b, off + k * 7 + 6, none⟩ = some (.slice C' m' g') := fun w' h => ((HE4.out.drew.trans h).cell hbl0).trans d6
      have s5 : wr.cell? ⟨w.heap.size, 5, none⟩ = some (.slice (some ⟨b, off, none⟩) n1 c1) := q0 5
      clear hx hv d0 d1 d2 d3 d4 d5 d6 hKA q0 q1
      go_wp2_with fail
      have hSw : Ext wr.drew wr.drew := Ext.refl _
      refine wpS_begin (Ext wr.drew) (by kernel_rfl) ?_
      refine wpS_take 0 (v := ?_) hSw rfl (by kernel_rfl) (by kernel_rfl) (by kernel_rfl) (by rfl) (fun w' hin => ?_) ?_
      rotate_left
      · (try simp only [] at hin); go_simp <;> with_reducible rfl
      try simp only [Act.put, List.setIfInBounds_toArray, List.set_cons_zero, List.set_cons_succ]
      refine wpS_take 1 (v := ?_) hSw rfl (by kernel_rfl) (by kernel_rfl) (by kernel_rfl) (by rfl) (fun w' hin => ?_) ?_
      rotate_left
      · (try simp only [] at hin); go_simp <;> with_reducible rfl
      try simp only [Act.put, List.setIfInBounds_toArray, List.set_cons_zero, List.set_cons_succ]
      refine wpS_take 2 (v := ?_) hSw rfl (by kernel_rfl) (by kernel_rfl) (by kernel_rfl) (by rfl) (fun w' hin => ?_) ?_
      rotate_left
      · (try simp only [] at hin); go_simp <;> with_reducible rfl
      try simp only [Act.put, List.setIfInBounds_toArray, List.set_cons_zero, List.set_cons_succ]
      refine wpS_take 3 (v := ?_) hSw rfl (by kernel_rfl) (by kernel_rfl) (by kernel_rfl) (by rfl) (fun w' hin => ?_) ?_
      rotate_left
      · (try simp only [] at hin); go_simp <;> with_reducible rfl
      try simp only [Act.put, List.setIfInBounds_toArray, List.set_cons_zero, List.set_cons_succ]
      refine wpS_take 4 (v := ?_) hSw rfl (by kernel_rfl) (by kernel_rfl) (by kernel_rfl) (by rfl) (fun w' hin => ?_) ?_
      rotate_left
      · (try simp only [] at hin); go_simp <;> with_reducible rfl
      try simp only [Act.put, List.setIfInBounds_toArray, List.set_cons_zero, List.set_cons_succ]
      refine wpS_one 5 rfl (by kernel_rfl) (by rfl) (fun K hK => ?_)
      go_simp
      refine (resSane_any (fun _ => True) r C C' m g m' g' _ (HR.out.up (HE4.out.drew.trans hSw))).mono ?_
      rintro e w5 ⟨rfl, hb5⟩
      rw [HSR.out]
      simp only []
      refine hK.out _ _ (Ext wr.drew) (fun _ h => h) (hSw.trans hb5) (fun hSw => ?_)
      clear hK K
      try simp only [Act.put, List.setIfInBounds_toArray, List.set_cons_zero, List.set_cons_succ]
      refine wpS_take 6 (v := ?_) hSw rfl (by kernel_rfl) (by kernel_rfl) (by kernel_rfl) (by rfl) (fun w' hin => ?_) ?_
      rotate_left
      · (try simp only [] at hin); go_simp <;> with_reducible rfl
      try simp only [Act.put, List.setIfInBounds_toArray, List.set_cons_zero, List.set_cons_succ]
      refine wpS_take 7 (v := ?_) hSw rfl (by kernel_rfl) (by kernel_rfl) (by kernel_rfl) (by rfl) (fun w' hin => ?_) ?_
      rotate_left
      · (try simp only [] at hin); go_simp <;> with_reducible rfl
      try simp only [Act.put, List.setIfInBounds_toArray, List.set_cons_zero, List.set_cons_succ]
      refine wpS_take 8 (v := ?_) hSw rfl (by kernel_rfl) (by kernel_rfl) (by kernel_rfl) (by rfl) (fun w' hin => ?_) ?_
      rotate_left
      · (try simp only [] at hin); go_simp <;> with_reducible rfl
      try simp only [Act.put, List.setIfInBounds_toArray, List.set_cons_zero, List.set_cons_succ]
      refine wpS_take 9 (v := ?_) hSw rfl (by kernel_rfl) (by kernel_rfl) (by kernel_rfl) (by rfl) (fun w' hin => ?_) ?_
      rotate_left
      · (try simp only [] at hin); go_simp <;> with_reducible rfl
      try simp only [Act.put, List.setIfInBounds_toArray, List.set_cons_zero, List.set_cons_succ]
      refine wpS_take 10 (v := ?_) hSw rfl (by kernel_rfl) (by kernel_rfl) (by kernel_rfl) (by rfl) (fun w' hin => ?_) ?_
      rotate_left
      · (try simp only [] at hin); go_simp <;> with_reducible rfl
      try simp only [Act.put, List.setIfInBounds_toArray, List.set_cons_zero, List.set_cons_succ]
      refine wpS_take 11 (v := ?_) hSw rfl (by kernel_rfl) (by kernel_rfl) (by kernel_rfl) (by rfl) (fun w' hin => ?_) ?_
      rotate_left
      · (try simp only [] at hin); go_simp <;> with_reducible rfl
      try simp only [Act.put, List.setIfInBounds_toArray, List.set_cons_zero, List.set_cons_succ]
      refine wpS_take 12 (v := ?_) hSw rfl (by kernel_rfl) (by kernel_rfl) (by kernel_rfl) (by rfl) (fun w' hin => ?_) ?_
      rotate_left
      · (try simp only [] at hin); go_simp <;> with_reducible rfl
      try simp only [Act.put, List.setIfInBounds_toArray, List.set_cons_zero, List.set_cons_succ]
      refine wpS_take 13 (v := ?_) hSw rfl (by kernel_rfl) (by kernel_rfl) (by kernel_rfl) (by rfl) (fun w' hin => ?_) ?_
      rotate_left
      · (try simp only [] at hin); go_simp <;> with_reducible rfl
      try simp only [Act.put, List.setIfInBounds_toArray, List.set_cons_zero, List.set_cons_succ]
      refine wpS_take 14 (v := ?_) hSw rfl (by kernel_rfl) (by kernel_rfl) (by kernel_rfl) (by rfl) (fun w' hin => ?_) ?_
      rotate_left
      · (try simp only [] at hin); go_simp <;> with_reducible rfl
      try simp only [Act.put, List.setIfInBounds_toArray, List.set_cons_zero, List.set_cons_succ]
      refine wpS_take 15 (v := ?_) hSw rfl (by kernel_rfl) (by kernel_rfl) (by kernel_rfl) (by rfl) (fun w' hin => ?_) ?_
      rotate_left
      · (try simp only [] at hin); go_simp <;> with_reducible rfl
      try simp only [Act.put, List.setIfInBounds_toArray, List.set_cons_zero, List.set_cons_succ]
      refine wpS_take 16 (v := ?_) hSw rfl (by kernel_rfl) (by kernel_rfl) (by kernel_rfl) (by rfl) (fun w' hin => ?_) ?_
      rotate_left
      · (try simp only [] at hin); go_simp <;> with_reducible rfl
      try simp only [Act.put, List.setIfInBounds_toArray, List.set_cons_zero, List.set_cons_succ]
      refine wpS_take 17 (v := ?_) hSw rfl (by kernel_rfl) (by kernel_rfl) (by kernel_rfl) (by rfl) (fun w' hin => ?_) ?_
      rotate_left
      · (try simp only [] at hin); go_simp <;> with_reducible rfl
      try simp only [Act.put, List.setIfInBounds_toArray, List.set_cons_zero, List.set_cons_succ]
      refine wpS_done (by kernel_rfl) ?_
      have HE5 := Lib.hid (HE.out.drew.trans hSw)
      clear u5 u2 t0 t1 t2 t3 t4 t5 t6 hSw hb5 s5 hkq
      go_wp2_with fail
      go_roundw
      case rel => exact ⟨k + 1, by omega, by go_num, HE5⟩
      case measure => simp [intOf]; omega
    · go_wp2_with fail
      clear q0 q1 hk hlt
      go_loopw [5] (fun i wx => ∃ j : Nat, j ≤ n2 ∧ i = .int .i64 j ∧ Hid (Ext wr wx)) (fun i _ => n2 - (intOf i).toNat)
      case atStart => exact ⟨0, Nat.zero_le _, by go_num, Lib.hid (Ext.refl _)⟩
      case round =>
        obtain ⟨j, hj, rfl, HY⟩ := hrel
        have HY4 := Lib.hid (HE4.out.trans HY.out)
        have KX := Lib.hid ((HY.out.block hzr).trans KR.out)
        have hzx : w.heap.size < wr.heap.size := Nat.lt_of_lt_of_le hzr HY.out.size
        obtain ⟨q0, q1⟩ := blk_rules KX.out
        by_cases hlj : j < n2
        · obtain ⟨b, off, y, rfl, hbl0, -, hx, -, d0, d1⟩ := KeyL.at_ HV.out.gone hlj
          have hkq : (y.kind != f.kind) = false := by simpa using (frKinds_all HS.out).2 y (List.mem_of_getElem? hx)
          have i1 : (0 : Int) ≤ (j : Int) := by omega
          have i2 : (j : Int) < (n2 : Int) := by omega
          have u6 : ∀ w', Ext wr.drew w' → w'.cell? ⟨w.heap.size, 6, none⟩ = some (.slice (some ⟨b, off, none⟩) n2 c2) := fun w' h => (((Ext.refl wr).drew.trans h).cell hzx).trans (q0 6)
          have u2 : ∀ w', Ext wr.drew w' → w'.cell? ⟨w.heap.size, 2, none⟩ = some (.int .i64 f.kind) := fun w' h => (((Ext.refl wr).drew.trans h).cell hzx).trans (q0 2)
          have t0 : ∀ w', Ext wr.drew w' → w'.cell? ⟨b, off + j * 2, none⟩ = some (.int .i64 y.kind) := fun w' h => ((HY4.out.drew.trans h).cell hbl0).trans d0
          have s6 : wr.cell? ⟨w.heap.size, 6, none⟩ = some (.slice (some ⟨b, off, none⟩) n2 c2) := q0 6
          clear hx d0 d1 q0 q1
          go_wp2_with fail
          have hSw : Ext wr.drew wr.drew := Ext.refl _
          refine wpS_begin (Ext wr.drew) (by kernel_rfl) ?_
          refine wpS_take 0 (v := ?_) hSw rfl (by kernel_rfl) (by kernel_rfl) (by kernel_rfl) (by rfl) (fun w' hin => ?_) ?_
          rotate_left
          · (try simp only [] at hin); go_simp <;> with_reducible rfl
          try simp only [Act.put, List.setIfInBounds_toArray, List.set_cons_zero, List.set_cons_succ]
          refine wpS_take 1 (v := ?_) hSw rfl (by kernel_rfl) (by kernel_rfl) (by kernel_rfl) (by rfl) (fun w' hin => ?_) ?_
          rotate_left
          · (try simp only [] at hin); go_simp <;> with_reducible rfl
          try simp only [Act.put, List.setIfInBounds_toArray, List.set_cons_zero, List.set_cons_succ]
          refine wpS_take 2 (v := ?_) hSw rfl (by kernel_rfl) (by kernel_rfl) (by kernel_rfl) (by rfl) (fun w' hin => ?_) ?_
          rotate_left
          · (try simp only [] at hin); go_simp <;> with_reducible rfl
          try simp only [Act.put, List.setIfInBounds_toArray, List.set_cons_zero, List.set_cons_succ]
          refine wpS_take 3 (v := ?_) hSw rfl (by kernel_rfl) (by kernel_rfl) (by kernel_rfl) (by rfl) (fun w' hin => ?_) ?_
          rotate_left
          · (try simp only [] at hin); go_simp <;> with_reducible rfl
          try simp only [Act.put, List.setIfInBounds_toArray, List.set_cons_zero, List.set_cons_succ]
          refine wpS_take 4 (v := ?_) hSw rfl (by kernel_rfl) (by kernel_rfl) (by kernel_rfl) (by rfl) (fun w' hin => ?_) ?_
          rotate_left
          · (try simp only [] at hin); go_simp <;> with_reducible rfl
          try simp only [Act.put, List.setIfInBounds_toArray, List.set_cons_zero, List.set_cons_succ]
          refine wpS_take 5 (v := ?_) hSw rfl (by kernel_rfl) (by kernel_rfl) (by kernel_rfl) (by rfl) (fun w' hin => ?_) ?_
          rotate_left
          · (try simp only [] at hin); go_simp <;> with_reducible rfl
          try simp only [Act.put, List.setIfInBounds_toArray, List.set_cons_zero, List.set_cons_succ]
          refine wpS_take 6 (v := ?_) hSw rfl (by kernel_rfl) (by kernel_rfl) (by kernel_rfl) (by rfl) (fun w' hin => ?_) ?_
          rotate_left
          · (try simp only [] at hin); go_simp <;> with_reducible rfl
          try simp only [Act.put, List.setIfInBounds_toArray, List.set_cons_zero, List.set_cons_succ]
          refine wpS_take 7 (v := ?_) hSw rfl (by kernel_rfl) (by kernel_rfl) (by kernel_rfl) (by rfl) (fun w' hin => ?_) ?_
          rotate_left
          · (try simp only [] at hin); go_simp <;> with_reducible rfl
          try simp only [Act.put, List.setIfInBounds_toArray, List.set_cons_zero, List.set_cons_succ]
          refine wpS_take 8 (v := ?_) hSw rfl (by kernel_rfl) (by kernel_rfl) (by kernel_rfl) (by rfl) (fun w' hin => ?_) ?_
          rotate_left
          · (try simp only [] at hin); go_simp <;> with_reducible rfl
          try simp only [Act.put, List.setIfInBounds_toArray, List.set_cons_zero, List.set_cons_succ]
          refine wpS_done (by kernel_rfl) ?_
          have HY5 := Lib.hid (HY.out.drew.trans hSw)
          clear u6 u2 t0 hSw s6 hkq
          go_wp2_with fail
          go_roundw
          case rel => exact ⟨j + 1, by omega, by go_num, HY5⟩
          case measure => simp [intOf]; omega
        · have he := (sane_epoch HS.out).1
          have hL1 := HV.out.adds.len
          have hL2 := HV.out.gone.len
          have hL3 := HV.out.hav.len
          rcases frKinds_push HS.out with ht | ⟨ha, hg⟩
          · have hh : f.hav = [] := by
              rcases frKinds_hello HS.out with h | h
              · omega
              · exact h
            rw [hh] at hL3
            obtain rfl : n3 = 0 := hL3.symm
            have b1 : (f.typ == 1) = true := by simpa using ht
            have b0 : (f.typ == 0) = false := by simp; omega
            clear hL1 hL2 hL3 hh ht
            go_wp2_with fail
            go_ret
            exact ⟨rfl, HY4.out⟩
          · rw [ha] at hL1
            rw [hg] at hL2
            obtain rfl : n1 = 0 := hL1.symm
            obtain rfl : n2 = 0 := hL2.symm
            by_cases ht : f.typ = 1
            · have hh : f.hav = [] := by
                rcases frKinds_hello HS.out with h | h
                · omega
                · exact h
              rw [hh] at hL3
              obtain rfl : n3 = 0 := hL3.symm
              have b1 : (f.typ == 1) = true := by simpa using ht
              have b0 : (f.typ == 0) = false := by simp; omega
              clear hL1 hL2 hL3 hh ht ha hg
              go_wp2_with fail
              go_ret
              exact ⟨rfl, HY4.out⟩
            have b1 : (f.typ == 1) = false := by simpa using ht
            by_cases h0 : f.typ = 0
            · have b0 : (f.typ == 0) = true := by simpa using h0
              clear hL1 hL2 hL3 ha hg ht h0
              go_wp2_with fail
              go_ret
              exact ⟨rfl, HY4.out⟩
            · have b0 : (f.typ == 0) = false := by simpa using h0
              have hh : f.hav = [] := by
                rcases frKinds_hello HS.out with h | h
                · exact absurd h h0
                · exact h
              rw [hh] at hL3
              obtain rfl : n3 = 0 := hL3.symm
              clear hL1 hL2 hL3 ha hg ht h0 hh
              go_wp2_with fail
              go_ret
              exact ⟨rfl, HY4.out⟩
end Go.Proofs.YtepifkmileilfaaGreatDoor
