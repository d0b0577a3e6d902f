/- What the document's Diff of layer 5 computes. -/
import Derived.Test.YtfdjbnofcniodaaGreatDoorTb3
import Derived.Test.YtfdjbnofcniodaaGreatDoorTb4
import Derived.Test.YtfdjbnofcniodaaGreatDoorTabDiff
namespace Go.Proofs.YtfdjbnofcniodaaGreatDoor
set_option linter.unusedVariables false
open Go.RowKit

set_option maxRecDepth 100000 in
set_option maxHeartbeats 16000000 in
theorem refDiff5_any (A : Option Addr) (n c : Nat) (a : List Rs) (B : Option Addr) (m d : Nat) (b : List Rs) (w : World) (hn : n ≤ 1000000) (hm : m ≤ 1000000) (hA : ResL All w A n a) (hB : ResL All w B m b) :
    Calls Tryz.prog 36 #[.slice A n c, .slice B m d] w (DiffPost w a b) := by
  have HA := Lib.hid hA
  have HB := Lib.hid hB
  clear hA hB
  go_enter Tryz.func36, Tryz.ntmps36
  go_wp2_with fail
  go_loopw [6, 7] (fun v i wr => ∃ (k : Nat) (us : List Value), k ≤ m ∧ i = .int .i64 k ∧ Hid (wr.ownsRow w.heap.size 34 7 v ((b.take k).filter (newP a)).length us) ∧ Hid (RowsOf (RsQ All w) 7 us ((b.take k).filter (newP a))) ∧ Hid (Ext w wr)) (fun _ i _ => m - (intOf i).toNat)
  case atStart => exact ⟨0, [], Nat.zero_le _, by go_num, Lib.hid own_nil, Lib.hid rfl, Lib.hid (Ext.refl _)⟩
  case round =>
    obtain ⟨k, us, hk, rfl, HW, HU, HX⟩ := hrel
    have hMk : ((b.take k).filter (newP a)).length ≤ k := tab_le _ _ _
    obtain ⟨M, hM⟩ : ∃ M, M = ((b.take k).filter (newP a)).length := ⟨_, rfl⟩
    rw [← hM] at HW hMk
    have HM := Lib.hid hM
    clear hM
    obtain ⟨Av, cv, hv0, -, -, -, -⟩ := own_flat HW.out
    subst hv0
    by_cases hlt : k < m
    · obtain ⟨bb, o, r, C, p, f, C', p', f', rfl, hbB, -, hlk, hv, hc0, hc1, hc2, hc3, hc4, hc5, hc6⟩ := ResL.at_ HB.out hlt
      have HLK := Lib.hid hlk
      have HV := Lib.hid hv
      have i1 : (0 : Int) ≤ (k : Int) := by omega
      have i2 : (k : Int) < (m : Int) := by omega
      have e0 : wr.cell? ⟨bb, o + k * 7, none⟩ = some (.int .i64 r.kind) := (HX.out.cell hbB).trans hc0
      have e1 : wr.cell? ⟨bb, o + k * 7 + 1, none⟩ = some (.string r.name) := (HX.out.cell hbB).trans hc1
      have e2 : wr.cell? ⟨bb, o + k * 7 + 2, none⟩ = some (.int .i64 r.ver) := (HX.out.cell hbB).trans hc2
      have e3 : wr.cell? ⟨bb, o + k * 7 + 3, none⟩ = some (.int .i64 r.port) := (HX.out.cell hbB).trans hc3
      have e4 : wr.cell? ⟨bb, o + k * 7 + 4, none⟩ = some (.string r.to) := (HX.out.cell hbB).trans hc4
      have e5 : wr.cell? ⟨bb, o + k * 7 + 5, none⟩ = some (.slice C p f) := (HX.out.cell hbB).trans hc5
      have e6 : wr.cell? ⟨bb, o + k * 7 + 6, none⟩ = some (.slice C' p' f') := (HX.out.cell hbB).trans hc6
      have HC : Hid (∀ w', Ext w w' → w'.cell? ⟨bb, o + k * 7, none⟩ = some (.int .i64 r.kind) ∧ w'.cell? ⟨bb, o + k * 7 + 1, none⟩ = some (.string r.name) ∧ w'.cell? ⟨bb, o + k * 7 + 2, none⟩ = some (.int .i64 r.ver) ∧ w'.cell? ⟨bb, o + k * 7 + 3, none⟩ = some (.int .i64 r.port) ∧ w'.cell? ⟨bb, o + k * 7 + 4, none⟩ = some (.string r.to) ∧ w'.cell? ⟨bb, o + k * 7 + 5, none⟩ = some (.slice C p f) ∧ w'.cell? ⟨bb, o + k * 7 + 6, none⟩ = some (.slice C' p' f')) := Lib.hid (fun w' hx => ⟨(hx.cell hbB).trans hc0, (hx.cell hbB).trans hc1, (hx.cell hbB).trans hc2, (hx.cell hbB).trans hc3, (hx.cell hbB).trans hc4, (hx.cell hbB).trans hc5, (hx.cell hbB).trans hc6⟩)
      clear hlk hv hc0 hc1 hc2 hc3 hc4 hc5 hc6
      go_wp2_with fail
      refine (refKey_any r C C' p f p' f' _).mono ?_
      rintro e x1 ⟨rfl, hb1⟩
      have X1 := Lib.hid (HX.out.trans hb1)
      have F1 := Lib.hid hb1
      clear hb1 e0 e1 e2 e3 e4 e5 e6
      go_wp2_with fail
      refine (refGet5_any r.key A n c a _ hn (ResL.keep HA.out X1.out.keep)).mono ?_
      rintro e x2 ⟨x, D, u, g, D', u', g', rfl, hx, hvx, hb2⟩
      have X2 := Lib.hid (X1.out.trans hb2)
      have F2 := Lib.hid (F1.out.trans hb2)
      have HVX := Lib.hid hvx
      obtain ⟨z, hz⟩ : ∃ z, z = (getT a r.key).isSome := ⟨_, rfl⟩
      rw [← hz]
      have HNP : Hid (newP a r = (!z || !sameR x r)) := Lib.hid (by
        unfold newP
        rw [hz]
        cases hg : getT a r.key with
        | none => rfl
        | some y =>
          rw [hg] at hx
          rw [show y = x from hx]; rfl)
      clear hx hvx hb2 hz
      unfold rsVal
      go_wp2_with fail
      have KX := Lib.hid (heap_alloc_new x2 (.cells #[.int .i64 x.kind, .string x.name, .int .i64 x.ver, .int .i64 x.port, .string x.to, .slice D u g, .slice D' u' g'] 34))
      have EX := Lib.hid (Ext.new x2 (.cells #[.int .i64 x.kind, .string x.name, .int .i64 x.ver, .int .i64 x.port, .string x.to, .slice D u g, .slice D' u' g'] 34))
      have hzX : x2.heap.size < (x2.alloc (.cells #[.int .i64 x.kind, .string x.name, .int .i64 x.ver, .int .i64 x.port, .string x.to, .slice D u g, .slice D' u' g'] 34)).heap.size := by simp
      generalize x2.alloc (.cells #[.int .i64 x.kind, .string x.name, .int .i64 x.ver, .int .i64 x.port, .string x.to, .slice D u g, .slice D' u' g'] 34) = W at KX EX hzX ⊢
      obtain ⟨qx, -⟩ := blk_rules KX.out
      have t0 : ∀ w', Ext W.drew w' → w'.cell? ⟨x2.heap.size, 0, none⟩ = some (.int .i64 x.kind) := fun w' h => (((Ext.refl W).drew.trans h).cell hzX).trans (qx 0)
      have t1 : ∀ w', Ext W.drew w' → w'.cell? ⟨x2.heap.size, 1, none⟩ = some (.string x.name) := fun w' h => (((Ext.refl W).drew.trans h).cell hzX).trans (qx 1)
      have t2 : ∀ w', Ext W.drew w' → w'.cell? ⟨x2.heap.size, 2, none⟩ = some (.int .i64 x.ver) := fun w' h => (((Ext.refl W).drew.trans h).cell hzX).trans (qx 2)
      have t3 : ∀ w', Ext W.drew w' → w'.cell? ⟨x2.heap.size, 3, none⟩ = some (.int .i64 x.port) := fun w' h => (((Ext.refl W).drew.trans h).cell hzX).trans (qx 3)
      have t4 : ∀ w', Ext W.drew w' → w'.cell? ⟨x2.heap.size, 4, none⟩ = some (.string x.to) := fun w' h => (((Ext.refl W).drew.trans h).cell hzX).trans (qx 4)
      have t5 : ∀ w', Ext W.drew w' → w'.cell? ⟨x2.heap.size, 5, none⟩ = some (.slice D u g) := fun w' h => (((Ext.refl W).drew.trans h).cell hzX).trans (qx 5)
      have t6 : ∀ w', Ext W.drew w' → w'.cell? ⟨x2.heap.size, 6, none⟩ = some (.slice D' u' g') := fun w' h => (((Ext.refl W).drew.trans h).cell hzX).trans (qx 6)
      have s0 : ∀ w', Ext W.drew w' → w'.cell? ⟨bb, o + k * 7, none⟩ = some (.int .i64 r.kind) := fun w' h => (HC.out w' ((X2.out.trans EX.out).trans ((Ext.refl W).drew.trans h))).1
      have s1 : ∀ w', Ext W.drew w' → w'.cell? ⟨bb, o + k * 7 + 1, none⟩ = some (.string r.name) := fun w' h => (HC.out w' ((X2.out.trans EX.out).trans ((Ext.refl W).drew.trans h))).2.1
      have s2 : ∀ w', Ext W.drew w' → w'.cell? ⟨bb, o + k * 7 + 2, none⟩ = some (.int .i64 r.ver) := fun w' h => (HC.out w' ((X2.out.trans EX.out).trans ((Ext.refl W).drew.trans h))).2.2.1
      have s3 : ∀ w', Ext W.drew w' → w'.cell? ⟨bb, o + k * 7 + 3, none⟩ = some (.int .i64 r.port) := fun w' h => (HC.out w' ((X2.out.trans EX.out).trans ((Ext.refl W).drew.trans h))).2.2.2.1
      have s4 : ∀ w', Ext W.drew w' → w'.cell? ⟨bb, o + k * 7 + 4, none⟩ = some (.string r.to) := fun w' h => (HC.out w' ((X2.out.trans EX.out).trans ((Ext.refl W).drew.trans h))).2.2.2.2.1
      have s5 : ∀ w', Ext W.drew w' → w'.cell? ⟨bb, o + k * 7 + 5, none⟩ = some (.slice C p f) := fun w' h => (HC.out w' ((X2.out.trans EX.out).trans ((Ext.refl W).drew.trans h))).2.2.2.2.2.1
      have s6 : ∀ w', Ext W.drew w' → w'.cell? ⟨bb, o + k * 7 + 6, none⟩ = some (.slice C' p' f') := fun w' h => (HC.out w' ((X2.out.trans EX.out).trans ((Ext.refl W).drew.trans h))).2.2.2.2.2.2
      clear qx
      cases z with
      | false =>
        go_wp2_with fail
        have hSw : Ext W.drew W.drew := Ext.refl _
        refine wpS_begin (Ext W.drew) (by kernel_rfl) ?_
        refine wpS_take 0 (v := ?_) hSw rfl (by kernel_rfl) (by kernel_rfl) (by kernel_rfl) (by rfl) (fun w' hin => ?_) ?_
        rotate_left
        · (try simp only [] at hin); go_simp <;> with_reducible rfl
        try simp only [Act.put, List.setIfInBounds_toArray, List.set_cons_zero, List.set_cons_succ]
        refine wpS_take 1 (v := ?_) hSw rfl (by kernel_rfl) (by kernel_rfl) (by kernel_rfl) (by rfl) (fun w' hin => ?_) ?_
        rotate_left
        · (try simp only [] at hin); go_simp <;> with_reducible rfl
        try simp only [Act.put, List.setIfInBounds_toArray, List.set_cons_zero, List.set_cons_succ]
        refine wpS_take 2 (v := ?_) hSw rfl (by kernel_rfl) (by kernel_rfl) (by kernel_rfl) (by rfl) (fun w' hin => ?_) ?_
        rotate_left
        · (try simp only [] at hin); go_simp <;> with_reducible rfl
        try simp only [Act.put, List.setIfInBounds_toArray, List.set_cons_zero, List.set_cons_succ]
        refine wpS_skip 3 hSw rfl (by kernel_rfl) (by kernel_rfl) (by kernel_rfl) (by rfl) ?_
        try simp only [Act.put, List.setIfInBounds_toArray, List.set_cons_zero, List.set_cons_succ]
        refine wpS_skip 4 hSw rfl (by kernel_rfl) (by kernel_rfl) (by kernel_rfl) (by rfl) ?_
        try simp only [Act.put, List.setIfInBounds_toArray, List.set_cons_zero, List.set_cons_succ]
        refine wpS_skip 5 hSw rfl (by kernel_rfl) (by kernel_rfl) (by kernel_rfl) (by rfl) ?_
        try simp only [Act.put, List.setIfInBounds_toArray, List.set_cons_zero, List.set_cons_succ]
        refine wpS_skip 6 hSw rfl (by kernel_rfl) (by kernel_rfl) (by kernel_rfl) (by rfl) ?_
        try simp only [Act.put, List.setIfInBounds_toArray, List.set_cons_zero, List.set_cons_succ]
        refine wpS_skip 7 hSw rfl (by kernel_rfl) (by kernel_rfl) (by kernel_rfl) (by rfl) ?_
        try simp only [Act.put, List.setIfInBounds_toArray, List.set_cons_zero, List.set_cons_succ]
        refine wpS_skip 8 hSw rfl (by kernel_rfl) (by kernel_rfl) (by kernel_rfl) (by rfl) ?_
        try simp only [Act.put, List.setIfInBounds_toArray, List.set_cons_zero, List.set_cons_succ]
        refine wpS_skip 9 hSw rfl (by kernel_rfl) (by kernel_rfl) (by kernel_rfl) (by rfl) ?_
        try simp only [Act.put, List.setIfInBounds_toArray, List.set_cons_zero, List.set_cons_succ]
        refine wpS_take 10 (v := ?_) hSw rfl (by kernel_rfl) (by kernel_rfl) (by kernel_rfl) (by rfl) (fun w' hin => ?_) ?_
        rotate_left
        · (try simp only [] at hin); go_simp <;> with_reducible rfl
        try simp only [Act.put, List.setIfInBounds_toArray, List.set_cons_zero, List.set_cons_succ]
        refine wpS_done (by kernel_rfl) ?_
        have XW : Hid (Ext w W.drew) := Lib.hid ((X2.out.trans EX.out).trans ((Ext.refl W).drew.trans (Ext.refl _)))
        have HWX := Lib.hid (own_up HW.out ((F2.out.trans EX.out).trans ((Ext.refl W).drew.trans (Ext.refl _))))
        have e0 : W.drew.cell? ⟨bb, o + k * 7, none⟩ = some (.int .i64 r.kind) := s0 _ ((Ext.refl _))
        have e1 : W.drew.cell? ⟨bb, o + k * 7 + 1, none⟩ = some (.string r.name) := s1 _ ((Ext.refl _))
        have e2 : W.drew.cell? ⟨bb, o + k * 7 + 2, none⟩ = some (.int .i64 r.ver) := s2 _ ((Ext.refl _))
        have e3 : W.drew.cell? ⟨bb, o + k * 7 + 3, none⟩ = some (.int .i64 r.port) := s3 _ ((Ext.refl _))
        have e4 : W.drew.cell? ⟨bb, o + k * 7 + 4, none⟩ = some (.string r.to) := s4 _ ((Ext.refl _))
        have e5 : W.drew.cell? ⟨bb, o + k * 7 + 5, none⟩ = some (.slice C p f) := s5 _ ((Ext.refl _))
        have e6 : W.drew.cell? ⟨bb, o + k * 7 + 6, none⟩ = some (.slice C' p' f') := s6 _ ((Ext.refl _))
        have HF : Hid ((b.take (k + 1)).filter (newP a) = (b.take k).filter (newP a) ++ [r]) := Lib.hid (tab_snoc HLK.out (by rw [HNP.out]; rfl))
        have hFk := flat_k W.drew [.int .i64 r.kind, .string r.name, .int .i64 r.ver, .int .i64 r.port, .string r.to, .slice C p f, .slice C' p' f'] 34 rfl
        have hOW := own_up HWX.out (Ext.new W.drew (.cells #[.int .i64 r.kind, .string r.name, .int .i64 r.ver, .int .i64 r.port, .string r.to, .slice C p f, .slice C' p' f'] 34))
        have hbx : w.heap.size ≤ W.drew.heap.size := XW.out.size
        obtain ⟨v', w5, hrun, hown5, hg5, hnw⟩ := run_append_flat elem_res 42 hOW 1 hFk (by simp [Value.oneCell']) (by omega) (by omega) (by rw [World.size_alloc]; omega) (fun h => by cases h)
        have HRUN := Lib.hid hrun
        have HX5 := Lib.hid ((XW.out.alloc (.cells #[.int .i64 r.kind, .string r.name, .int .i64 r.ver, .int .i64 r.port, .string r.to, .slice C p f, .slice C' p' f'] 34)).grown hg5 hOW (Nat.le_refl _))
        have HW5 : Hid (w5.ownsRow w.heap.size 34 7 v' ((b.take (k + 1)).filter (newP a)).length (us ++ [.int .i64 r.kind, .string r.name, .int .i64 r.ver, .int .i64 r.port, .string r.to, .slice C p f, .slice C' p' f'])) := Lib.hid (by rw [HF.out, List.length_append, ← HM.out]; exact hown5)
        have HU5 : Hid (RowsOf (RsQ All w) 7 (us ++ [.int .i64 r.kind, .string r.name, .int .i64 r.ver, .int .i64 r.port, .string r.to, .slice C p f, .slice C' p' f']) ((b.take (k + 1)).filter (newP a))) := Lib.hid (by rw [HF.out]; exact RowsOf.snoc rfl (show RsQ All w [.int .i64 r.kind, .string r.name, .int .i64 r.ver, .int .i64 r.port, .string r.to, .slice C p f, .slice C' p' f'] r from ⟨C, p, f, C', p', f', rfl, HV.out⟩) HU.out)
        clear hFk hOW hrun hown5 hg5 hnw t0 s0 t1 s1 t2 s2 t3 s3 t4 s4 t5 s5 t6 s6 hSw
        go_wp2_with (refine Lib.wpList_append_run _ rfl _ _ _ _ rfl _ _ rfl rfl v' w5 HRUN.out ?_)
        go_roundw
        case rel => exact ⟨k + 1, _, by omega, by go_num, HW5, HU5, HX5⟩
        case measure => simp [intOf]; omega
      | true =>
        obtain ⟨Y, hY⟩ : ∃ Y, Y = sameR x r := ⟨_, rfl⟩
        have HY := Lib.hid hY
        clear hY
        go_wp2_with fail
        cases Y with
        | false =>
          have hSw : Ext W.drew W.drew := Ext.refl _
          refine wpS_begin (Ext W.drew) (by kernel_rfl) ?_
          refine wpS_take 0 (v := ?_) hSw rfl (by kernel_rfl) (by kernel_rfl) (by kernel_rfl) (by rfl) (fun w' hin => ?_) ?_
          rotate_left
          · (try simp only [] at hin); go_simp <;> with_reducible rfl
          try simp only [Act.put, List.setIfInBounds_toArray, List.set_cons_zero, List.set_cons_succ]
          refine wpS_take 1 (v := ?_) hSw rfl (by kernel_rfl) (by kernel_rfl) (by kernel_rfl) (by rfl) (fun w' hin => ?_) ?_
          rotate_left
          · (try simp only [] at hin); go_simp <;> with_reducible rfl
          try simp only [Act.put, List.setIfInBounds_toArray, List.set_cons_zero, List.set_cons_succ]
          refine wpS_take 2 (v := ?_) hSw rfl (by kernel_rfl) (by kernel_rfl) (by kernel_rfl) (by rfl) (fun w' hin => ?_) ?_
          rotate_left
          · (try simp only [] at hin); go_simp <;> with_reducible rfl
          try simp only [Act.put, List.setIfInBounds_toArray, List.set_cons_zero, List.set_cons_succ]
          refine wpS_take 3 (v := ?_) hSw rfl (by kernel_rfl) (by kernel_rfl) (by kernel_rfl) (by rfl) (fun w' hin => ?_) ?_
          rotate_left
          · (try simp only [] at hin); go_simp <;> with_reducible rfl
          try simp only [Act.put, List.setIfInBounds_toArray, List.set_cons_zero, List.set_cons_succ]
          refine wpS_take 4 (v := ?_) hSw rfl (by kernel_rfl) (by kernel_rfl) (by kernel_rfl) (by rfl) (fun w' hin => ?_) ?_
          rotate_left
          · (try simp only [] at hin); go_simp <;> with_reducible rfl
          try simp only [Act.put, List.setIfInBounds_toArray, List.set_cons_zero, List.set_cons_succ]
          refine wpS_take 5 (v := ?_) hSw rfl (by kernel_rfl) (by kernel_rfl) (by kernel_rfl) (by rfl) (fun w' hin => ?_) ?_
          rotate_left
          · (try simp only [] at hin); go_simp <;> with_reducible rfl
          try simp only [Act.put, List.setIfInBounds_toArray, List.set_cons_zero, List.set_cons_succ]
          refine wpS_take 6 (v := ?_) hSw rfl (by kernel_rfl) (by kernel_rfl) (by kernel_rfl) (by rfl) (fun w' hin => ?_) ?_
          rotate_left
          · (try simp only [] at hin); go_simp <;> with_reducible rfl
          try simp only [Act.put, List.setIfInBounds_toArray, List.set_cons_zero, List.set_cons_succ]
          refine wpS_take 7 (v := ?_) hSw rfl (by kernel_rfl) (by kernel_rfl) (by kernel_rfl) (by rfl) (fun w' hin => ?_) ?_
          rotate_left
          · (try simp only [] at hin); go_simp <;> with_reducible rfl
          try simp only [Act.put, List.setIfInBounds_toArray, List.set_cons_zero, List.set_cons_succ]
          refine wpS_one 8 rfl (by kernel_rfl) (by rfl) (fun K hK => ?_)
          go_simp
          refine (refSame_dec All All x r D D' u g u' g' C C' p f p' f' _ (HVX.out.up (EX.out.trans ((Ext.refl W).drew.trans hSw))) (HV.out.up ((X2.out.trans EX.out).trans ((Ext.refl W).drew.trans hSw)))).mono ?_
          rw [← HY.out]
          rintro e x3 ⟨rfl, hb3⟩
          simp only []
          refine hK.out _ _ (Ext W.drew) (fun _ h => h) (hSw.trans hb3) (fun hSw => ?_)
          clear hK K
          try simp only [Act.put, List.setIfInBounds_toArray, List.set_cons_zero, List.set_cons_succ]
          refine wpS_take 9 (v := ?_) hSw rfl (by kernel_rfl) (by kernel_rfl) (by kernel_rfl) (by rfl) (fun w' hin => ?_) ?_
          rotate_left
          · (try simp only [] at hin); go_simp <;> with_reducible rfl
          try simp only [Act.put, List.setIfInBounds_toArray, List.set_cons_zero, List.set_cons_succ]
          refine wpS_take 10 (v := ?_) hSw rfl (by kernel_rfl) (by kernel_rfl) (by kernel_rfl) (by rfl) (fun w' hin => ?_) ?_
          rotate_left
          · (try simp only [] at hin); go_simp <;> with_reducible rfl
          try simp only [Act.put, List.setIfInBounds_toArray, List.set_cons_zero, List.set_cons_succ]
          refine wpS_done (by kernel_rfl) ?_
          have XW : Hid (Ext w x3) := Lib.hid ((X2.out.trans EX.out).trans ((Ext.refl W).drew.trans hSw))
          have HWX := Lib.hid (own_up HW.out ((F2.out.trans EX.out).trans ((Ext.refl W).drew.trans hSw)))
          have e0 : x3.cell? ⟨bb, o + k * 7, none⟩ = some (.int .i64 r.kind) := s0 _ (hSw)
          have e1 : x3.cell? ⟨bb, o + k * 7 + 1, none⟩ = some (.string r.name) := s1 _ (hSw)
          have e2 : x3.cell? ⟨bb, o + k * 7 + 2, none⟩ = some (.int .i64 r.ver) := s2 _ (hSw)
          have e3 : x3.cell? ⟨bb, o + k * 7 + 3, none⟩ = some (.int .i64 r.port) := s3 _ (hSw)
          have e4 : x3.cell? ⟨bb, o + k * 7 + 4, none⟩ = some (.string r.to) := s4 _ (hSw)
          have e5 : x3.cell? ⟨bb, o + k * 7 + 5, none⟩ = some (.slice C p f) := s5 _ (hSw)
          have e6 : x3.cell? ⟨bb, o + k * 7 + 6, none⟩ = some (.slice C' p' f') := s6 _ (hSw)
          have HF : Hid ((b.take (k + 1)).filter (newP a) = (b.take k).filter (newP a) ++ [r]) := Lib.hid (tab_snoc HLK.out (by rw [HNP.out]; rw [← HY.out]; rfl))
          have hFk := flat_k x3 [.int .i64 r.kind, .string r.name, .int .i64 r.ver, .int .i64 r.port, .string r.to, .slice C p f, .slice C' p' f'] 34 rfl
          have hOW := own_up HWX.out (Ext.new x3 (.cells #[.int .i64 r.kind, .string r.name, .int .i64 r.ver, .int .i64 r.port, .string r.to, .slice C p f, .slice C' p' f'] 34))
          have hbx : w.heap.size ≤ x3.heap.size := XW.out.size
          obtain ⟨v', w5, hrun, hown5, hg5, hnw⟩ := run_append_flat elem_res 42 hOW 1 hFk (by simp [Value.oneCell']) (by omega) (by omega) (by rw [World.size_alloc]; omega) (fun h => by cases h)
          have HRUN := Lib.hid hrun
          have HX5 := Lib.hid ((XW.out.alloc (.cells #[.int .i64 r.kind, .string r.name, .int .i64 r.ver, .int .i64 r.port, .string r.to, .slice C p f, .slice C' p' f'] 34)).grown hg5 hOW (Nat.le_refl _))
          have HW5 : Hid (w5.ownsRow w.heap.size 34 7 v' ((b.take (k + 1)).filter (newP a)).length (us ++ [.int .i64 r.kind, .string r.name, .int .i64 r.ver, .int .i64 r.port, .string r.to, .slice C p f, .slice C' p' f'])) := Lib.hid (by rw [HF.out, List.length_append, ← HM.out]; exact hown5)
          have HU5 : Hid (RowsOf (RsQ All w) 7 (us ++ [.int .i64 r.kind, .string r.name, .int .i64 r.ver, .int .i64 r.port, .string r.to, .slice C p f, .slice C' p' f']) ((b.take (k + 1)).filter (newP a))) := Lib.hid (by rw [HF.out]; exact RowsOf.snoc rfl (show RsQ All w [.int .i64 r.kind, .string r.name, .int .i64 r.ver, .int .i64 r.port, .string r.to, .slice C p f, .slice C' p' f'] r from ⟨C, p, f, C', p', f', rfl, HV.out⟩) HU.out)
          clear hFk hOW hrun hown5 hg5 hnw t0 s0 t1 s1 t2 s2 t3 s3 t4 s4 t5 s5 t6 s6 hSw hb3
          go_wp2_with (refine Lib.wpList_append_run _ rfl _ _ _ _ rfl _ _ rfl rfl v' w5 HRUN.out ?_)
          go_roundw
          case rel => exact ⟨k + 1, _, by omega, by go_num, HW5, HU5, HX5⟩
          case measure => simp [intOf]; omega
        | true =>
          have hSw : Ext W.drew W.drew := Ext.refl _
          refine wpS_begin (Ext W.drew) (by kernel_rfl) ?_
          refine wpS_take 0 (v := ?_) hSw rfl (by kernel_rfl) (by kernel_rfl) (by kernel_rfl) (by rfl) (fun w' hin => ?_) ?_
          rotate_left
          · (try simp only [] at hin); go_simp <;> with_reducible rfl
          try simp only [Act.put, List.setIfInBounds_toArray, List.set_cons_zero, List.set_cons_succ]
          refine wpS_take 1 (v := ?_) hSw rfl (by kernel_rfl) (by kernel_rfl) (by kernel_rfl) (by rfl) (fun w' hin => ?_) ?_
          rotate_left
          · (try simp only [] at hin); go_simp <;> with_reducible rfl
          try simp only [Act.put, List.setIfInBounds_toArray, List.set_cons_zero, List.set_cons_succ]
          refine wpS_take 2 (v := ?_) hSw rfl (by kernel_rfl) (by kernel_rfl) (by kernel_rfl) (by rfl) (fun w' hin => ?_) ?_
          rotate_left
          · (try simp only [] at hin); go_simp <;> with_reducible rfl
          try simp only [Act.put, List.setIfInBounds_toArray, List.set_cons_zero, List.set_cons_succ]
          refine wpS_take 3 (v := ?_) hSw rfl (by kernel_rfl) (by kernel_rfl) (by kernel_rfl) (by rfl) (fun w' hin => ?_) ?_
          rotate_left
          · (try simp only [] at hin); go_simp <;> with_reducible rfl
          try simp only [Act.put, List.setIfInBounds_toArray, List.set_cons_zero, List.set_cons_succ]
          refine wpS_take 4 (v := ?_) hSw rfl (by kernel_rfl) (by kernel_rfl) (by kernel_rfl) (by rfl) (fun w' hin => ?_) ?_
          rotate_left
          · (try simp only [] at hin); go_simp <;> with_reducible rfl
          try simp only [Act.put, List.setIfInBounds_toArray, List.set_cons_zero, List.set_cons_succ]
          refine wpS_take 5 (v := ?_) hSw rfl (by kernel_rfl) (by kernel_rfl) (by kernel_rfl) (by rfl) (fun w' hin => ?_) ?_
          rotate_left
          · (try simp only [] at hin); go_simp <;> with_reducible rfl
          try simp only [Act.put, List.setIfInBounds_toArray, List.set_cons_zero, List.set_cons_succ]
          refine wpS_take 6 (v := ?_) hSw rfl (by kernel_rfl) (by kernel_rfl) (by kernel_rfl) (by rfl) (fun w' hin => ?_) ?_
          rotate_left
          · (try simp only [] at hin); go_simp <;> with_reducible rfl
          try simp only [Act.put, List.setIfInBounds_toArray, List.set_cons_zero, List.set_cons_succ]
          refine wpS_take 7 (v := ?_) hSw rfl (by kernel_rfl) (by kernel_rfl) (by kernel_rfl) (by rfl) (fun w' hin => ?_) ?_
          rotate_left
          · (try simp only [] at hin); go_simp <;> with_reducible rfl
          try simp only [Act.put, List.setIfInBounds_toArray, List.set_cons_zero, List.set_cons_succ]
          refine wpS_one 8 rfl (by kernel_rfl) (by rfl) (fun K hK => ?_)
          go_simp
          refine (refSame_dec All All x r D D' u g u' g' C C' p f p' f' _ (HVX.out.up (EX.out.trans ((Ext.refl W).drew.trans hSw))) (HV.out.up ((X2.out.trans EX.out).trans ((Ext.refl W).drew.trans hSw)))).mono ?_
          rw [← HY.out]
          rintro e x3 ⟨rfl, hb3⟩
          simp only []
          refine hK.out _ _ (Ext W.drew) (fun _ h => h) (hSw.trans hb3) (fun hSw => ?_)
          clear hK K
          try simp only [Act.put, List.setIfInBounds_toArray, List.set_cons_zero, List.set_cons_succ]
          refine wpS_take 9 (v := ?_) hSw rfl (by kernel_rfl) (by kernel_rfl) (by kernel_rfl) (by rfl) (fun w' hin => ?_) ?_
          rotate_left
          · (try simp only [] at hin); go_simp <;> with_reducible rfl
          try simp only [Act.put, List.setIfInBounds_toArray, List.set_cons_zero, List.set_cons_succ]
          refine wpS_take 10 (v := ?_) hSw rfl (by kernel_rfl) (by kernel_rfl) (by kernel_rfl) (by rfl) (fun w' hin => ?_) ?_
          rotate_left
          · (try simp only [] at hin); go_simp <;> with_reducible rfl
          try simp only [Act.put, List.setIfInBounds_toArray, List.set_cons_zero, List.set_cons_succ]
          refine wpS_done (by kernel_rfl) ?_
          have XW : Hid (Ext w x3) := Lib.hid ((X2.out.trans EX.out).trans ((Ext.refl W).drew.trans hSw))
          have HWX := Lib.hid (own_up HW.out ((F2.out.trans EX.out).trans ((Ext.refl W).drew.trans hSw)))
          have HF : Hid ((b.take (k + 1)).filter (newP a) = (b.take k).filter (newP a)) := Lib.hid (tab_skip HLK.out (by rw [HNP.out, ← HY.out]; rfl))
          have HW5 : Hid (x3.ownsRow w.heap.size 34 7 (.slice Av M cv) ((b.take (k + 1)).filter (newP a)).length us) := Lib.hid (by rw [HF.out, ← HM.out]; exact HWX.out)
          have HU5 : Hid (RowsOf (RsQ All w) 7 us ((b.take (k + 1)).filter (newP a))) := Lib.hid (by rw [HF.out]; exact HU.out)
          clear t0 s0 t1 s1 t2 s2 t3 s3 t4 s4 t5 s5 t6 s6 hSw hb3
          go_wp2_with fail
          go_roundw
          case rel => exact ⟨k + 1, _, by omega, by go_num, HW5, HU5, XW⟩
          case measure => simp [intOf]; omega
    · obtain rfl : k = m := by omega
      have HT : Hid (b.take k = b) := Lib.hid (List.take_of_length_le (Nat.le_of_eq HB.out.len))
      obtain ⟨Ax, cx, ex, h1, h2, h3, hF⟩ := own_flat HW.out
      injection ex with q1 q2 q3
      subst q1 q3
      have HFl : Hid (ArrQ All wr 7 (RsQ All w) Av M (addsT a b)) := Lib.hid (by
        have h9 := hF.arrQ (S := fun _ => True) HU.out (by omega) (fun _ _ _ _ => trivial)
        rw [HT.out] at h9
        exact h9)
      have HSl : Hid (SlW Av M cv) := Lib.hid ⟨h1, h2, h3⟩
      have i2 : ¬ (k : Int) < (k : Int) := by omega
      clear hF h1 h2 h3 HW HU HM HT
      go_wp2_with fail
      rename World => w1
      go_loopw [10, 11] (fun v i wx => ∃ (k : Nat) (us : List Value), k ≤ n ∧ i = .int .i64 k ∧ Hid (wx.ownsRow w1.heap.size 38 2 v ((((a.map Rs.key).take k).filter (fun y => !(getT b y).isSome)).length) us) ∧ Hid (RowsOf KyQ 2 us (((a.map Rs.key).take k).filter (fun y => !(getT b y).isSome))) ∧ Hid (Ext w1 wx)) (fun _ i _ => n - (intOf i).toNat)
      case atStart => exact ⟨0, [], Nat.zero_le _, by go_num, Lib.hid own_nil, Lib.hid rfl, Lib.hid (Ext.refl _)⟩
      case round =>
        have HX0 := HX
        clear HX i2
        obtain ⟨q, us2, hq, rfl, HW, HU, HX⟩ := hrel
        have hMk2 : (((a.map Rs.key).take q).filter (fun y => !(getT b y).isSome)).length ≤ q := tab_le _ _ _
        obtain ⟨M2, hM2⟩ : ∃ M2, M2 = (((a.map Rs.key).take q).filter (fun y => !(getT b y).isSome)).length := ⟨_, rfl⟩
        rw [← hM2] at HW hMk2
        have HM2 := Lib.hid hM2
        clear hM2
        obtain ⟨Av2, cv2, hv0, -, -, -, -⟩ := own_flat HW.out
        subst hv0
        by_cases hlt2 : q < n
        · obtain ⟨bb, o, r, C, p, f, C', p', f', rfl, hbB, -, hlk, hv, hc0, hc1, hc2, hc3, hc4, hc5, hc6⟩ := ResL.at_ HA.out hlt2
          have HLK : Hid ((a.map Rs.key)[q]? = some r.key) := Lib.hid (by rw [List.getElem?_map, hlk]; rfl)
          have HNM := Lib.hid hv.nm
          have i1 : (0 : Int) ≤ (q : Int) := by omega
          have i2 : (q : Int) < (n : Int) := by omega
          have e0 : wr.cell? ⟨bb, o + q * 7, none⟩ = some (.int .i64 r.kind) := ((HX0.out.trans HX.out).cell hbB).trans hc0
          have e1 : wr.cell? ⟨bb, o + q * 7 + 1, none⟩ = some (.string r.name) := ((HX0.out.trans HX.out).cell hbB).trans hc1
          have e2 : wr.cell? ⟨bb, o + q * 7 + 2, none⟩ = some (.int .i64 r.ver) := ((HX0.out.trans HX.out).cell hbB).trans hc2
          have e3 : wr.cell? ⟨bb, o + q * 7 + 3, none⟩ = some (.int .i64 r.port) := ((HX0.out.trans HX.out).cell hbB).trans hc3
          have e4 : wr.cell? ⟨bb, o + q * 7 + 4, none⟩ = some (.string r.to) := ((HX0.out.trans HX.out).cell hbB).trans hc4
          have e5 : wr.cell? ⟨bb, o + q * 7 + 5, none⟩ = some (.slice C p f) := ((HX0.out.trans HX.out).cell hbB).trans hc5
          have e6 : wr.cell? ⟨bb, o + q * 7 + 6, none⟩ = some (.slice C' p' f') := ((HX0.out.trans HX.out).cell hbB).trans hc6
          have HC : Hid (∀ w', Ext w w' → w'.cell? ⟨bb, o + q * 7, none⟩ = some (.int .i64 r.kind) ∧ w'.cell? ⟨bb, o + q * 7 + 1, none⟩ = some (.string r.name) ∧ w'.cell? ⟨bb, o + q * 7 + 2, none⟩ = some (.int .i64 r.ver) ∧ w'.cell? ⟨bb, o + q * 7 + 3, none⟩ = some (.int .i64 r.port) ∧ w'.cell? ⟨bb, o + q * 7 + 4, none⟩ = some (.string r.to) ∧ w'.cell? ⟨bb, o + q * 7 + 5, none⟩ = some (.slice C p f) ∧ w'.cell? ⟨bb, o + q * 7 + 6, none⟩ = some (.slice C' p' f')) := Lib.hid (fun w' hx => ⟨(hx.cell hbB).trans hc0, (hx.cell hbB).trans hc1, (hx.cell hbB).trans hc2, (hx.cell hbB).trans hc3, (hx.cell hbB).trans hc4, (hx.cell hbB).trans hc5, (hx.cell hbB).trans hc6⟩)
          clear hlk hv hc0 hc1 hc2 hc3 hc4 hc5 hc6
          go_wp2_with fail
          refine (refKey_any r C C' p f p' f' _).mono ?_
          rintro e x1 ⟨rfl, hb1⟩
          have X1 := Lib.hid (HX.out.trans hb1)
          have F1 := Lib.hid hb1
          clear hb1 e0 e1 e2 e3 e4 e5 e6
          go_wp2_with fail
          refine (refGet5_any r.key _ k d b _ hm (ResL.keep HB.out (HX0.out.trans X1.out).keep)).mono ?_
          rintro e x2 ⟨x, D, u, g, D', u', g', rfl, -, -, hb2⟩
          have X2 := Lib.hid (X1.out.trans hb2)
          have HW2 := Lib.hid (own_up HW.out (F1.out.trans hb2))
          obtain ⟨z, hz⟩ : ∃ z, z = (getT b r.key).isSome := ⟨_, rfl⟩
          rw [← hz]
          have HZ := Lib.hid hz
          have hbx2 : bb < x2.heap.size := Nat.lt_of_lt_of_le hbB (HX0.out.trans X2.out).size
          have e0 : x2.cell? ⟨bb, o + q * 7, none⟩ = some (.int .i64 r.kind) := (HC.out x2 (HX0.out.trans X2.out)).1
          have e1 : x2.cell? ⟨bb, o + q * 7 + 1, none⟩ = some (.string r.name) := (HC.out x2 (HX0.out.trans X2.out)).2.1
          have e2 : x2.cell? ⟨bb, o + q * 7 + 2, none⟩ = some (.int .i64 r.ver) := (HC.out x2 (HX0.out.trans X2.out)).2.2.1
          have e3 : x2.cell? ⟨bb, o + q * 7 + 3, none⟩ = some (.int .i64 r.port) := (HC.out x2 (HX0.out.trans X2.out)).2.2.2.1
          have e4 : x2.cell? ⟨bb, o + q * 7 + 4, none⟩ = some (.string r.to) := (HC.out x2 (HX0.out.trans X2.out)).2.2.2.2.1
          have e5 : x2.cell? ⟨bb, o + q * 7 + 5, none⟩ = some (.slice C p f) := (HC.out x2 (HX0.out.trans X2.out)).2.2.2.2.2.1
          have e6 : x2.cell? ⟨bb, o + q * 7 + 6, none⟩ = some (.slice C' p' f') := (HC.out x2 (HX0.out.trans X2.out)).2.2.2.2.2.2
          clear hb2 hz
          unfold rsVal
          cases z with
          | true =>
            have HF : Hid (((a.map Rs.key).take (q + 1)).filter (fun y => !(getT b y).isSome) = ((a.map Rs.key).take q).filter (fun y => !(getT b y).isSome)) := Lib.hid (tab_skip HLK.out (by rw [← HZ.out]; rfl))
            have HW5 : Hid ((x2.alloc (.cells #[.int .i64 x.kind, .string x.name, .int .i64 x.ver, .int .i64 x.port, .string x.to, .slice D u g, .slice D' u' g'] 34)).ownsRow w1.heap.size 38 2 (.slice Av2 M2 cv2) (((a.map Rs.key).take (q + 1)).filter (fun y => !(getT b y).isSome)).length us2) := Lib.hid (by rw [HF.out, ← HM2.out]; exact own_up HW2.out (Ext.new _ _))
            have HU5 : Hid (RowsOf KyQ 2 us2 (((a.map Rs.key).take (q + 1)).filter (fun y => !(getT b y).isSome))) := Lib.hid (by rw [HF.out]; exact HU.out)
            have X5 := Lib.hid (X2.out.alloc (.cells #[.int .i64 x.kind, .string x.name, .int .i64 x.ver, .int .i64 x.port, .string x.to, .slice D u g, .slice D' u' g'] 34))
            clear e0 e1 e2 e3 e4 e5 e6
            go_wp2_with fail
            go_roundw
            case rel => exact ⟨q + 1, _, by omega, by go_num, HW5, HU5, X5⟩
            case measure => simp [intOf]; omega
          | false =>
            have HF : Hid (((a.map Rs.key).take (q + 1)).filter (fun y => !(getT b y).isSome) = ((a.map Rs.key).take q).filter (fun y => !(getT b y).isSome) ++ [r.key]) := Lib.hid (tab_snoc HLK.out (by rw [← HZ.out]; rfl))
            go_wp2_with fail
            refine (refKey_any r C C' p f p' f' _).mono ?_
            rintro e x3 ⟨rfl, hb3⟩
            have X3 := Lib.hid ((X2.out.alloc (.cells #[.int .i64 x.kind, .string x.name, .int .i64 x.ver, .int .i64 x.port, .string x.to, .slice D u g, .slice D' u' g'] 34)).trans hb3)
            have HW3 := Lib.hid (own_up HW2.out ((Ext.new x2 (.cells #[.int .i64 x.kind, .string x.name, .int .i64 x.ver, .int .i64 x.port, .string x.to, .slice D u g, .slice D' u' g'] 34)).trans hb3))
            have hFk := flat_k x3 [.int .i64 r.key.kind, .string r.key.name] 38 rfl
            have hOW := own_up HW3.out (Ext.new x3 (.cells #[.int .i64 r.key.kind, .string r.key.name] 38))
            have hbx : w1.heap.size ≤ x3.heap.size := X3.out.size
            obtain ⟨v', w5, hrun, hown5, hg5, hnw⟩ := run_append_flat elem_key 46 hOW 1 hFk (by simp [Value.oneCell']) (by omega) (by omega) (by rw [World.size_alloc]; omega) (fun h => by cases h)
            have HRUN := Lib.hid hrun
            have HX5 := Lib.hid ((X3.out.alloc (.cells #[.int .i64 r.key.kind, .string r.key.name] 38)).grown hg5 hOW (Nat.le_refl _))
            have HW5 : Hid (w5.ownsRow w1.heap.size 38 2 v' (((a.map Rs.key).take (q + 1)).filter (fun y => !(getT b y).isSome)).length (us2 ++ [.int .i64 r.key.kind, .string r.key.name])) := Lib.hid (by rw [HF.out, List.length_append, ← HM2.out]; exact hown5)
            have HU5 : Hid (RowsOf KyQ 2 (us2 ++ [.int .i64 r.key.kind, .string r.key.name]) (((a.map Rs.key).take (q + 1)).filter (fun y => !(getT b y).isSome))) := Lib.hid (by rw [HF.out]; exact RowsOf.snoc rfl (show KyQ [.int .i64 r.key.kind, .string r.key.name] r.key from ⟨rfl, HNM.out⟩) HU.out)
            clear hb3 hFk hOW hrun hown5 hg5 hnw e0 e1 e2 e3 e4 e5 e6
            go_wp2_with (refine Lib.wpList_append_run _ rfl _ _ _ _ rfl _ _ rfl rfl v' w5 HRUN.out ?_)
            go_roundw
            case rel => exact ⟨q + 1, _, by omega, by go_num, HW5, HU5, HX5⟩
            case measure => simp [intOf]; omega
        · obtain rfl : q = n := by omega
          have hln : (a.map Rs.key).length = q := by rw [List.length_map]; exact HA.out.len
          obtain ⟨Ax, cx, ex, h1, h2, h3, hF⟩ := own_flat HW.out
          injection ex with q1 q2 q3
          subst q1 q3
          have HFk : Hid (KeyL All wr Av2 M2 (goneT a b)) := Lib.hid (by
            have h9 := hF.arrQ (S := fun _ => True) HU.out (by omega) (fun _ _ _ _ => trivial)
            rw [List.take_of_length_le (Nat.le_of_eq hln)] at h9
            exact h9)
          have HSk : Hid (SlW Av2 M2 cv2) := Lib.hid ⟨h1, h2, h3⟩
          have i2 : ¬ (q : Int) < (q : Int) := by omega
          clear hF h1 h2 h3 hln
          go_wp2_with fail
          exact bodyPost_ret (v := .tuple #[.slice Av M cv, .slice Av2 M2 cv2]) (by simp [results, Tryz.results36, go_sem]) rfl ⟨Av, M, cv, Av2, M2, cv2, rfl, HSl.out, HSk.out, ArrQ.keep HFl.out (fun _ _ _ h => h.keep (HX0.out.trans HX.out).keep) HX.out.keep, HFk.out, HX0.out.trans HX.out⟩
end Go.Proofs.YtfdjbnofcniodaaGreatDoor
