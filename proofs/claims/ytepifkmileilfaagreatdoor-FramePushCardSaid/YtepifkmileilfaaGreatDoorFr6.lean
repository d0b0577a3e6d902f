/- What frame.Sane computes. -/
import Derived.Test.YtepifkmileilfaaGreatDoorFr5
import Derived.Test.YtepifkmileilfaaGreatDoorFrFirst
namespace Go.Proofs.YtepifkmileilfaaGreatDoor
set_option linter.unusedVariables false
open Go.RowKit

theorem six_ints (w : World) (t : TypeId) (a b c d e f : Int) : ArrR (w.alloc (.cells #[.int .i64 a, .int .i64 b, .int .i64 c, .int .i64 d, .int .i64 e, .int .i64 f] t)) 1 (IntR .i64) (some ⟨w.heap.size, 0, none⟩) 6 [a, b, c, d, e, f] := by
  refine ArrR.of_block (heap_alloc_new w _) rfl fun k p hp => ?_
  match k, hp with
  | 0, hp => cases hp; exact ⟨_, rfl, rfl, fun j u hu => by match j, hu with | 0, hu => exact hu⟩
  | 1, hp => cases hp; exact ⟨_, rfl, rfl, fun j u hu => by match j, hu with | 0, hu => exact hu⟩
  | 2, hp => cases hp; exact ⟨_, rfl, rfl, fun j u hu => by match j, hu with | 0, hu => exact hu⟩
  | 3, hp => cases hp; exact ⟨_, rfl, rfl, fun j u hu => by match j, hu with | 0, hu => exact hu⟩
  | 4, hp => cases hp; exact ⟨_, rfl, rfl, fun j u hu => by match j, hu with | 0, hu => exact hu⟩
  | 5, hp => cases hp; exact ⟨_, rfl, rfl, fun j u hu => by match j, hu with | 0, hu => exact hu⟩
theorem saneF_first (f : Fr) : firstE (fun x : Int => x) [unl (inB f.typ 3 && inB f.kind 3) 4, unl (smallF f) 3, unl (shapedF f) 2, unl (namedF f) 5, firstE saneR f.adds, unl (kindF f) 2] = saneF f := by
  unfold saneF unl
  simp only [firstE]
  cases inB f.typ 3 && inB f.kind 3 <;> cases smallF f <;> cases shapedF f <;> cases namedF f <;> cases kindF f <;> simp
set_option maxRecDepth 100000 in
set_option maxHeartbeats 4000000 in
theorem frSane_any (S : Nat → Prop) (f : Fr) (s : FrS) (w : World) (hV : FrV S w f s) :
    Calls Tryz.prog 73 #[frVal f s] w fun e w' => e = .returned (.int .i64 (saneF f)) ∧ Ext w w' := by
  have HV := Lib.hid hV
  obtain ⟨⟨A1, n1, c1⟩, ⟨A2, n2, c2⟩, ⟨A3, n3, c3⟩, ⟨A4, n4, c4⟩⟩ := s
  clear hV
  have HR := Lib.hid (saneF_first f)
  rw [show frVal f ⟨⟨A1, n1, c1⟩, ⟨A2, n2, c2⟩, ⟨A3, n3, c3⟩, ⟨A4, n4, c4⟩⟩ = .agg #[.int .i64 f.typ, .int .i64 f.epoch, .int .i64 f.kind, .int .i64 f.nonce, .int .i64 f.turn, .slice A1 n1 c1, .slice A2 n2 c2, .int .i64 f.err, .slice A3 n3 c3, .slice A4 n4 c4] from rfl]
  go_enter Tryz.func73, Tryz.ntmps73
  go_wp2_with fail
  have KX := Lib.hid (heap_alloc_new w (.cells #[.int .i64 f.typ, .int .i64 f.epoch, .int .i64 f.kind, .int .i64 f.nonce, .int .i64 f.turn, .slice A1 n1 c1, .slice A2 n2 c2, .int .i64 f.err, .slice A3 n3 c3, .slice A4 n4 c4] 93))
  have hsW : w.heap.size < (w.alloc (.cells #[.int .i64 f.typ, .int .i64 f.epoch, .int .i64 f.kind, .int .i64 f.nonce, .int .i64 f.turn, .slice A1 n1 c1, .slice A2 n2 c2, .int .i64 f.err, .slice A3 n3 c3, .slice A4 n4 c4] 93)).heap.size := by simp
  have EW := Lib.hid (Ext.new w (.cells #[.int .i64 f.typ, .int .i64 f.epoch, .int .i64 f.kind, .int .i64 f.nonce, .int .i64 f.turn, .slice A1 n1 c1, .slice A2 n2 c2, .int .i64 f.err, .slice A3 n3 c3, .slice A4 n4 c4] 93))
  generalize w.alloc (.cells #[.int .i64 f.typ, .int .i64 f.epoch, .int .i64 f.kind, .int .i64 f.nonce, .int .i64 f.turn, .slice A1 n1 c1, .slice A2 n2 c2, .int .i64 f.err, .slice A3 n3 c3, .slice A4 n4 c4] 93) = W at KX hsW EW ⊢
  have t0 : ∀ w', Ext W.drew w' → w'.cell? ⟨w.heap.size, 0, none⟩ = some (.int .i64 f.typ) := fun w' hx => (blk_rules ((((Ext.refl W).drew.trans hx).block hsW).trans KX.out)).1 0
  have t1 : ∀ w', Ext W.drew w' → w'.cell? ⟨w.heap.size, 1, none⟩ = some (.int .i64 f.epoch) := fun w' hx => (blk_rules ((((Ext.refl W).drew.trans hx).block hsW).trans KX.out)).1 1
  have t2 : ∀ w', Ext W.drew w' → w'.cell? ⟨w.heap.size, 2, none⟩ = some (.int .i64 f.kind) := fun w' hx => (blk_rules ((((Ext.refl W).drew.trans hx).block hsW).trans KX.out)).1 2
  have t3 : ∀ w', Ext W.drew w' → w'.cell? ⟨w.heap.size, 3, none⟩ = some (.int .i64 f.nonce) := fun w' hx => (blk_rules ((((Ext.refl W).drew.trans hx).block hsW).trans KX.out)).1 3
  have t4 : ∀ w', Ext W.drew w' → w'.cell? ⟨w.heap.size, 4, none⟩ = some (.int .i64 f.turn) := fun w' hx => (blk_rules ((((Ext.refl W).drew.trans hx).block hsW).trans KX.out)).1 4
  have t5 : ∀ w', Ext W.drew w' → w'.cell? ⟨w.heap.size, 5, none⟩ = some (.slice A1 n1 c1) := fun w' hx => (blk_rules ((((Ext.refl W).drew.trans hx).block hsW).trans KX.out)).1 5
  have t6 : ∀ w', Ext W.drew w' → w'.cell? ⟨w.heap.size, 6, none⟩ = some (.slice A2 n2 c2) := fun w' hx => (blk_rules ((((Ext.refl W).drew.trans hx).block hsW).trans KX.out)).1 6
  have t7 : ∀ w', Ext W.drew w' → w'.cell? ⟨w.heap.size, 7, none⟩ = some (.int .i64 f.err) := fun w' hx => (blk_rules ((((Ext.refl W).drew.trans hx).block hsW).trans KX.out)).1 7
  have t8 : ∀ w', Ext W.drew w' → w'.cell? ⟨w.heap.size, 8, none⟩ = some (.slice A3 n3 c3) := fun w' hx => (blk_rules ((((Ext.refl W).drew.trans hx).block hsW).trans KX.out)).1 8
  have t9 : ∀ w', Ext W.drew w' → w'.cell? ⟨w.heap.size, 9, none⟩ = some (.slice A4 n4 c4) := fun w' hx => (blk_rules ((((Ext.refl W).drew.trans hx).block hsW).trans KX.out)).1 9
  cases g0 : inB f.typ 3 with
  | false =>
    have HR1 : Hid (firstE (fun x : Int => x) [unl false 4, unl (smallF f) 3, unl (shapedF f) 2, unl (namedF f) 5, firstE saneR f.adds, unl (kindF f) 2] = saneF f) := Lib.hid (by have h := HR.out; rw [g0] at h; exact h)
    have hSw : Ext W.drew W.drew := Ext.refl _
    refine wpS_begin (Ext W.drew) (by kernel_rfl) ?_
    refine wpS_take 0 (v := ?_) hSw rfl (by kernel_rfl) (by kernel_rfl) (by kernel_rfl) (by rfl) (fun w' hin => ?_) ?_
    rotate_left
    · (try simp only [] at hin); go_simp <;> with_reducible rfl
    try simp only [Act.put, List.setIfInBounds_toArray, List.set_cons_zero, List.set_cons_succ]
    refine wpS_take 1 (v := ?_) hSw rfl (by kernel_rfl) (by kernel_rfl) (by kernel_rfl) (by rfl) (fun w' hin => ?_) ?_
    rotate_left
    · (try simp only [] at hin); go_simp <;> with_reducible rfl
    try simp only [Act.put, List.setIfInBounds_toArray, List.set_cons_zero, List.set_cons_succ]
    refine wpS_take 9 (v := ?_) hSw rfl (by kernel_rfl) (by kernel_rfl) (by kernel_rfl) (by rfl) (fun w' hin => ?_) ?_
    rotate_left
    · (try simp only [] at hin); go_simp <;> with_reducible rfl
    try simp only [Act.put, List.setIfInBounds_toArray, List.set_cons_zero, List.set_cons_succ]
    refine wpS_take 12 (v := ?_) hSw rfl (by kernel_rfl) (by kernel_rfl) (by kernel_rfl) (by rfl) (fun w' hin => ?_) ?_
    rotate_left
    · (try simp only [] at hin); go_simp <;> with_reducible rfl
    try simp only [Act.put, List.setIfInBounds_toArray, List.set_cons_zero, List.set_cons_succ]
    refine wpS_take 15 (v := ?_) hSw rfl (by kernel_rfl) (by kernel_rfl) (by kernel_rfl) (by rfl) (fun w' hin => ?_) ?_
    rotate_left
    · (try simp only [] at hin); go_simp <;> with_reducible rfl
    try simp only [Act.put, List.setIfInBounds_toArray, List.set_cons_zero, List.set_cons_succ]
    refine wpS_take 18 (v := ?_) hSw rfl (by kernel_rfl) (by kernel_rfl) (by kernel_rfl) (by rfl) (fun w' hin => ?_) ?_
    rotate_left
    · (try simp only [] at hin); go_simp <;> with_reducible rfl
    try simp only [Act.put, List.setIfInBounds_toArray, List.set_cons_zero, List.set_cons_succ]
    refine wpS_take 20 (v := ?_) hSw rfl (by kernel_rfl) (by kernel_rfl) (by kernel_rfl) (by rfl) (fun w' hin => ?_) ?_
    rotate_left
    · (try simp only [] at hin); go_simp <;> with_reducible rfl
    try simp only [Act.put, List.setIfInBounds_toArray, List.set_cons_zero, List.set_cons_succ]
    refine wpS_one 2 rfl (by kernel_rfl) (by rfl) (fun K hK => ?_)
    go_simp
    refine (frWithin_any f.typ 3 _).mono ?_
    rintro e wx ⟨rfl, rfl⟩
    rw [g0]
    simp only []
    refine hK.out _ _ (Ext W.drew) (fun _ h => h) (hSw) (fun hSw => ?_)
    clear hK K
    try simp only [Act.put, List.setIfInBounds_toArray, List.set_cons_zero, List.set_cons_succ]
    refine wpS_take 3 (v := ?_) hSw rfl (by kernel_rfl) (by kernel_rfl) (by kernel_rfl) (by rfl) (fun w' hin => ?_) ?_
    rotate_left
    · (try simp only [] at hin); go_simp <;> with_reducible rfl
    try simp only [Act.put, List.setIfInBounds_toArray, List.set_cons_zero, List.set_cons_succ]
    refine wpS_skip 4 hSw rfl (by kernel_rfl) (by kernel_rfl) (by kernel_rfl) (by rfl) ?_
    try simp only [Act.put, List.setIfInBounds_toArray, List.set_cons_zero, List.set_cons_succ]
    refine wpS_skip 5 hSw rfl (by kernel_rfl) (by kernel_rfl) (by kernel_rfl) (by rfl) ?_
    try simp only [Act.put, List.setIfInBounds_toArray, List.set_cons_zero, List.set_cons_succ]
    refine wpS_skip 6 hSw rfl (by kernel_rfl) (by kernel_rfl) (by kernel_rfl) (by rfl) ?_
    try simp only [Act.put, List.setIfInBounds_toArray, List.set_cons_zero, List.set_cons_succ]
    refine wpS_take 7 (v := ?_) hSw rfl (by kernel_rfl) (by kernel_rfl) (by kernel_rfl) (by rfl) (fun w' hin => ?_) ?_
    rotate_left
    · (try simp only [] at hin); go_simp <;> with_reducible rfl
    try simp only [Act.put, List.setIfInBounds_toArray, List.set_cons_zero, List.set_cons_succ]
    refine wpS_one 8 rfl (by kernel_rfl) (by rfl) (fun K hK => ?_)
    go_simp
    refine (unless_any false 4 _).mono ?_
    rintro e wx ⟨rfl, rfl⟩
    simp only []
    refine hK.out _ _ (Ext W.drew) (fun _ h => h) (hSw) (fun hSw => ?_)
    clear hK K
    try simp only [Act.put, List.setIfInBounds_toArray, List.set_cons_zero, List.set_cons_succ]
    refine wpS_one 10 rfl (by kernel_rfl) (by rfl) (fun K hK => ?_)
    go_simp
    refine (frSmall_any S f ⟨⟨A1, n1, c1⟩, ⟨A2, n2, c2⟩, ⟨A3, n3, c3⟩, ⟨A4, n4, c4⟩⟩ _ (HV.out.up (EW.out.trans ((Ext.refl W).drew.trans hSw)))).mono ?_
    rintro e wq1 ⟨rfl, hb1⟩
    simp only []
    refine hK.out _ _ (Ext W.drew) (fun _ h => h) (hb1) (fun hSw => ?_)
    clear hK K
    try simp only [Act.put, List.setIfInBounds_toArray, List.set_cons_zero, List.set_cons_succ]
    refine wpS_one 11 rfl (by kernel_rfl) (by rfl) (fun K hK => ?_)
    go_simp
    refine (unless_any (smallF f) 3 _).mono ?_
    rintro e wx ⟨rfl, rfl⟩
    simp only []
    refine hK.out _ _ (Ext W.drew) (fun _ h => h) (hSw) (fun hSw => ?_)
    clear hK K
    try simp only [Act.put, List.setIfInBounds_toArray, List.set_cons_zero, List.set_cons_succ]
    refine wpS_one 13 rfl (by kernel_rfl) (by rfl) (fun K hK => ?_)
    go_simp
    refine (frShaped_any S f ⟨⟨A1, n1, c1⟩, ⟨A2, n2, c2⟩, ⟨A3, n3, c3⟩, ⟨A4, n4, c4⟩⟩ _ (HV.out.up (EW.out.trans ((Ext.refl W).drew.trans hSw)))).mono ?_
    rintro e wq2 ⟨rfl, hb2⟩
    simp only []
    refine hK.out _ _ (Ext W.drew) (fun _ h => h) ((hb1).trans hb2) (fun hSw => ?_)
    clear hK K
    try simp only [Act.put, List.setIfInBounds_toArray, List.set_cons_zero, List.set_cons_succ]
    refine wpS_one 14 rfl (by kernel_rfl) (by rfl) (fun K hK => ?_)
    go_simp
    refine (unless_any (shapedF f) 2 _).mono ?_
    rintro e wx ⟨rfl, rfl⟩
    simp only []
    refine hK.out _ _ (Ext W.drew) (fun _ h => h) (hSw) (fun hSw => ?_)
    clear hK K
    try simp only [Act.put, List.setIfInBounds_toArray, List.set_cons_zero, List.set_cons_succ]
    refine wpS_one 16 rfl (by kernel_rfl) (by rfl) (fun K hK => ?_)
    go_simp
    refine (frNamed_any S f ⟨⟨A1, n1, c1⟩, ⟨A2, n2, c2⟩, ⟨A3, n3, c3⟩, ⟨A4, n4, c4⟩⟩ _ (HV.out.up (EW.out.trans ((Ext.refl W).drew.trans hSw)))).mono ?_
    rintro e wq3 ⟨rfl, hb3⟩
    simp only []
    refine hK.out _ _ (Ext W.drew) (fun _ h => h) (((hb1).trans hb2).trans hb3) (fun hSw => ?_)
    clear hK K
    try simp only [Act.put, List.setIfInBounds_toArray, List.set_cons_zero, List.set_cons_succ]
    refine wpS_one 17 rfl (by kernel_rfl) (by rfl) (fun K hK => ?_)
    go_simp
    refine (unless_any (namedF f) 5 _).mono ?_
    rintro e wx ⟨rfl, rfl⟩
    simp only []
    refine hK.out _ _ (Ext W.drew) (fun _ h => h) (hSw) (fun hSw => ?_)
    clear hK K
    try simp only [Act.put, List.setIfInBounds_toArray, List.set_cons_zero, List.set_cons_succ]
    refine wpS_one 19 rfl (by kernel_rfl) (by rfl) (fun K hK => ?_)
    go_simp
    refine (frAdds_any S f ⟨⟨A1, n1, c1⟩, ⟨A2, n2, c2⟩, ⟨A3, n3, c3⟩, ⟨A4, n4, c4⟩⟩ _ (HV.out.up (EW.out.trans ((Ext.refl W).drew.trans hSw)))).mono ?_
    rintro e wq4 ⟨rfl, hb4⟩
    simp only []
    refine hK.out _ _ (Ext W.drew) (fun _ h => h) ((((hb1).trans hb2).trans hb3).trans hb4) (fun hSw => ?_)
    clear hK K
    try simp only [Act.put, List.setIfInBounds_toArray, List.set_cons_zero, List.set_cons_succ]
    refine wpS_one 21 rfl (by kernel_rfl) (by rfl) (fun K hK => ?_)
    go_simp
    refine (frKind_any S f ⟨⟨A1, n1, c1⟩, ⟨A2, n2, c2⟩, ⟨A3, n3, c3⟩, ⟨A4, n4, c4⟩⟩ _ (HV.out.up (EW.out.trans ((Ext.refl W).drew.trans hSw)))).mono ?_
    rintro e wq5 ⟨rfl, hb5⟩
    simp only []
    refine hK.out _ _ (Ext W.drew) (fun _ h => h) (((((hb1).trans hb2).trans hb3).trans hb4).trans hb5) (fun hSw => ?_)
    clear hK K
    try simp only [Act.put, List.setIfInBounds_toArray, List.set_cons_zero, List.set_cons_succ]
    refine wpS_one 22 rfl (by kernel_rfl) (by rfl) (fun K hK => ?_)
    go_simp
    refine (unless_any (kindF f) 2 _).mono ?_
    rintro e wx ⟨rfl, rfl⟩
    simp only []
    refine hK.out _ _ (Ext W.drew) (fun _ h => h) (hSw) (fun hSw => ?_)
    clear hK K
    try simp only [Act.put, List.setIfInBounds_toArray, List.set_cons_zero, List.set_cons_succ]
    refine wpS_one 23 rfl (by kernel_rfl) (by rfl) (fun K hK => ?_)
    go_simp
    skip
    refine hK.out _ _ (Ext (wq5.alloc (.cells #[.int .i64 (unl false 4), .int .i64 (unl (smallF f) 3), .int .i64 (unl (shapedF f) 2), .int .i64 (unl (namedF f) 5), .int .i64 (firstE saneR f.adds), .int .i64 (unl (kindF f) 2)] 23))) (fun x hx => (((((hb1).trans hb2).trans hb3).trans hb4).trans hb5).trans ((Ext.new _ _).trans hx)) (Ext.refl _) (fun hSw => ?_)
    clear hK K
    try simp only [Act.put, List.setIfInBounds_toArray, List.set_cons_zero, List.set_cons_succ]
    refine wpS_one 24 rfl (by kernel_rfl) (by rfl) (fun K hK => ?_)
    go_simp
    refine (frFirst_any (fun _ => True) [unl false 4, unl (smallF f) 3, unl (shapedF f) 2, unl (namedF f) 5, firstE saneR f.adds, unl (kindF f) 2] _ 6 6 _ (by unfold maxLen; omega) ((six_ints wq5 _ _ _ _ _ _ _).q.weak (fun _ _ h => h) (fun _ _ _ => trivial))).mono ?_
    rintro e wz ⟨rfl, rfl⟩
    rw [HR1.out]
    simp only []
    refine hK.out _ _ (Ext (wq5.alloc (.cells #[.int .i64 (unl false 4), .int .i64 (unl (smallF f) 3), .int .i64 (unl (shapedF f) 2), .int .i64 (unl (namedF f) 5), .int .i64 (firstE saneR f.adds), .int .i64 (unl (kindF f) 2)] 23))) (fun _ h => h) (hSw) (fun hSw => ?_)
    clear hK K
    try simp only [Act.put, List.setIfInBounds_toArray, List.set_cons_zero, List.set_cons_succ]
    refine wpS_take 25 (v := ?_) hSw rfl (by kernel_rfl) (by kernel_rfl) (by kernel_rfl) (by rfl) (fun w' hin => ?_) ?_
    rotate_left
    · (try simp only [] at hin); go_simp <;> with_reducible rfl
    try simp only [Act.put, List.setIfInBounds_toArray, List.set_cons_zero, List.set_cons_succ]
    refine wpS_done (by kernel_rfl) ?_
    clear t0 t1 t2 t3 t4 t5 t6 t7 t8 t9
    have EF := Lib.hid (EW.out.trans ((Ext.refl W).drew.trans ((((((hb1).trans hb2).trans hb3).trans hb4).trans hb5).trans (Ext.new wq5 (.cells #[.int .i64 (unl false 4), .int .i64 (unl (smallF f) 3), .int .i64 (unl (shapedF f) 2), .int .i64 (unl (namedF f) 5), .int .i64 (firstE saneR f.adds), .int .i64 (unl (kindF f) 2)] 23)))))
    go_wp2_with fail
    go_ret
    exact ⟨rfl, EF.out⟩
  | true =>
    have HR1 : Hid (firstE (fun x : Int => x) [unl (inB f.kind 3) 4, unl (smallF f) 3, unl (shapedF f) 2, unl (namedF f) 5, firstE saneR f.adds, unl (kindF f) 2] = saneF f) := Lib.hid (by have h := HR.out; rw [g0] at h; exact h)
    have hSw : Ext W.drew W.drew := Ext.refl _
    refine wpS_begin (Ext W.drew) (by kernel_rfl) ?_
    refine wpS_take 0 (v := ?_) hSw rfl (by kernel_rfl) (by kernel_rfl) (by kernel_rfl) (by rfl) (fun w' hin => ?_) ?_
    rotate_left
    · (try simp only [] at hin); go_simp <;> with_reducible rfl
    try simp only [Act.put, List.setIfInBounds_toArray, List.set_cons_zero, List.set_cons_succ]
    refine wpS_take 1 (v := ?_) hSw rfl (by kernel_rfl) (by kernel_rfl) (by kernel_rfl) (by rfl) (fun w' hin => ?_) ?_
    rotate_left
    · (try simp only [] at hin); go_simp <;> with_reducible rfl
    try simp only [Act.put, List.setIfInBounds_toArray, List.set_cons_zero, List.set_cons_succ]
    refine wpS_take 9 (v := ?_) hSw rfl (by kernel_rfl) (by kernel_rfl) (by kernel_rfl) (by rfl) (fun w' hin => ?_) ?_
    rotate_left
    · (try simp only [] at hin); go_simp <;> with_reducible rfl
    try simp only [Act.put, List.setIfInBounds_toArray, List.set_cons_zero, List.set_cons_succ]
    refine wpS_take 12 (v := ?_) hSw rfl (by kernel_rfl) (by kernel_rfl) (by kernel_rfl) (by rfl) (fun w' hin => ?_) ?_
    rotate_left
    · (try simp only [] at hin); go_simp <;> with_reducible rfl
    try simp only [Act.put, List.setIfInBounds_toArray, List.set_cons_zero, List.set_cons_succ]
    refine wpS_take 15 (v := ?_) hSw rfl (by kernel_rfl) (by kernel_rfl) (by kernel_rfl) (by rfl) (fun w' hin => ?_) ?_
    rotate_left
    · (try simp only [] at hin); go_simp <;> with_reducible rfl
    try simp only [Act.put, List.setIfInBounds_toArray, List.set_cons_zero, List.set_cons_succ]
    refine wpS_take 18 (v := ?_) hSw rfl (by kernel_rfl) (by kernel_rfl) (by kernel_rfl) (by rfl) (fun w' hin => ?_) ?_
    rotate_left
    · (try simp only [] at hin); go_simp <;> with_reducible rfl
    try simp only [Act.put, List.setIfInBounds_toArray, List.set_cons_zero, List.set_cons_succ]
    refine wpS_take 20 (v := ?_) hSw rfl (by kernel_rfl) (by kernel_rfl) (by kernel_rfl) (by rfl) (fun w' hin => ?_) ?_
    rotate_left
    · (try simp only [] at hin); go_simp <;> with_reducible rfl
    try simp only [Act.put, List.setIfInBounds_toArray, List.set_cons_zero, List.set_cons_succ]
    refine wpS_one 2 rfl (by kernel_rfl) (by rfl) (fun K hK => ?_)
    go_simp
    refine (frWithin_any f.typ 3 _).mono ?_
    rintro e wx ⟨rfl, rfl⟩
    rw [g0]
    simp only []
    refine hK.out _ _ (Ext W.drew) (fun _ h => h) (hSw) (fun hSw => ?_)
    clear hK K
    try simp only [Act.put, List.setIfInBounds_toArray, List.set_cons_zero, List.set_cons_succ]
    refine wpS_take 3 (v := ?_) hSw rfl (by kernel_rfl) (by kernel_rfl) (by kernel_rfl) (by rfl) (fun w' hin => ?_) ?_
    rotate_left
    · (try simp only [] at hin); go_simp <;> with_reducible rfl
    try simp only [Act.put, List.setIfInBounds_toArray, List.set_cons_zero, List.set_cons_succ]
    refine wpS_take 4 (v := ?_) hSw rfl (by kernel_rfl) (by kernel_rfl) (by kernel_rfl) (by rfl) (fun w' hin => ?_) ?_
    rotate_left
    · (try simp only [] at hin); go_simp <;> with_reducible rfl
    try simp only [Act.put, List.setIfInBounds_toArray, List.set_cons_zero, List.set_cons_succ]
    refine wpS_take 5 (v := ?_) hSw rfl (by kernel_rfl) (by kernel_rfl) (by kernel_rfl) (by rfl) (fun w' hin => ?_) ?_
    rotate_left
    · (try simp only [] at hin); go_simp <;> with_reducible rfl
    try simp only [Act.put, List.setIfInBounds_toArray, List.set_cons_zero, List.set_cons_succ]
    refine wpS_one 6 rfl (by kernel_rfl) (by rfl) (fun K hK => ?_)
    go_simp
    refine (frWithin_any f.kind 3 _).mono ?_
    rintro e wx ⟨rfl, rfl⟩
    simp only []
    refine hK.out _ _ (Ext W.drew) (fun _ h => h) (hSw) (fun hSw => ?_)
    clear hK K
    try simp only [Act.put, List.setIfInBounds_toArray, List.set_cons_zero, List.set_cons_succ]
    refine wpS_take 7 (v := ?_) hSw rfl (by kernel_rfl) (by kernel_rfl) (by kernel_rfl) (by rfl) (fun w' hin => ?_) ?_
    rotate_left
    · (try simp only [] at hin); go_simp <;> with_reducible rfl
    try simp only [Act.put, List.setIfInBounds_toArray, List.set_cons_zero, List.set_cons_succ]
    refine wpS_one 8 rfl (by kernel_rfl) (by rfl) (fun K hK => ?_)
    go_simp
    refine (unless_any (inB f.kind 3) 4 _).mono ?_
    rintro e wx ⟨rfl, rfl⟩
    simp only []
    refine hK.out _ _ (Ext W.drew) (fun _ h => h) (hSw) (fun hSw => ?_)
    clear hK K
    try simp only [Act.put, List.setIfInBounds_toArray, List.set_cons_zero, List.set_cons_succ]
    refine wpS_one 10 rfl (by kernel_rfl) (by rfl) (fun K hK => ?_)
    go_simp
    refine (frSmall_any S f ⟨⟨A1, n1, c1⟩, ⟨A2, n2, c2⟩, ⟨A3, n3, c3⟩, ⟨A4, n4, c4⟩⟩ _ (HV.out.up (EW.out.trans ((Ext.refl W).drew.trans hSw)))).mono ?_
    rintro e wq1 ⟨rfl, hb1⟩
    simp only []
    refine hK.out _ _ (Ext W.drew) (fun _ h => h) (hb1) (fun hSw => ?_)
    clear hK K
    try simp only [Act.put, List.setIfInBounds_toArray, List.set_cons_zero, List.set_cons_succ]
    refine wpS_one 11 rfl (by kernel_rfl) (by rfl) (fun K hK => ?_)
    go_simp
    refine (unless_any (smallF f) 3 _).mono ?_
    rintro e wx ⟨rfl, rfl⟩
    simp only []
    refine hK.out _ _ (Ext W.drew) (fun _ h => h) (hSw) (fun hSw => ?_)
    clear hK K
    try simp only [Act.put, List.setIfInBounds_toArray, List.set_cons_zero, List.set_cons_succ]
    refine wpS_one 13 rfl (by kernel_rfl) (by rfl) (fun K hK => ?_)
    go_simp
    refine (frShaped_any S f ⟨⟨A1, n1, c1⟩, ⟨A2, n2, c2⟩, ⟨A3, n3, c3⟩, ⟨A4, n4, c4⟩⟩ _ (HV.out.up (EW.out.trans ((Ext.refl W).drew.trans hSw)))).mono ?_
    rintro e wq2 ⟨rfl, hb2⟩
    simp only []
    refine hK.out _ _ (Ext W.drew) (fun _ h => h) ((hb1).trans hb2) (fun hSw => ?_)
    clear hK K
    try simp only [Act.put, List.setIfInBounds_toArray, List.set_cons_zero, List.set_cons_succ]
    refine wpS_one 14 rfl (by kernel_rfl) (by rfl) (fun K hK => ?_)
    go_simp
    refine (unless_any (shapedF f) 2 _).mono ?_
    rintro e wx ⟨rfl, rfl⟩
    simp only []
    refine hK.out _ _ (Ext W.drew) (fun _ h => h) (hSw) (fun hSw => ?_)
    clear hK K
    try simp only [Act.put, List.setIfInBounds_toArray, List.set_cons_zero, List.set_cons_succ]
    refine wpS_one 16 rfl (by kernel_rfl) (by rfl) (fun K hK => ?_)
    go_simp
    refine (frNamed_any S f ⟨⟨A1, n1, c1⟩, ⟨A2, n2, c2⟩, ⟨A3, n3, c3⟩, ⟨A4, n4, c4⟩⟩ _ (HV.out.up (EW.out.trans ((Ext.refl W).drew.trans hSw)))).mono ?_
    rintro e wq3 ⟨rfl, hb3⟩
    simp only []
    refine hK.out _ _ (Ext W.drew) (fun _ h => h) (((hb1).trans hb2).trans hb3) (fun hSw => ?_)
    clear hK K
    try simp only [Act.put, List.setIfInBounds_toArray, List.set_cons_zero, List.set_cons_succ]
    refine wpS_one 17 rfl (by kernel_rfl) (by rfl) (fun K hK => ?_)
    go_simp
    refine (unless_any (namedF f) 5 _).mono ?_
    rintro e wx ⟨rfl, rfl⟩
    simp only []
    refine hK.out _ _ (Ext W.drew) (fun _ h => h) (hSw) (fun hSw => ?_)
    clear hK K
    try simp only [Act.put, List.setIfInBounds_toArray, List.set_cons_zero, List.set_cons_succ]
    refine wpS_one 19 rfl (by kernel_rfl) (by rfl) (fun K hK => ?_)
    go_simp
    refine (frAdds_any S f ⟨⟨A1, n1, c1⟩, ⟨A2, n2, c2⟩, ⟨A3, n3, c3⟩, ⟨A4, n4, c4⟩⟩ _ (HV.out.up (EW.out.trans ((Ext.refl W).drew.trans hSw)))).mono ?_
    rintro e wq4 ⟨rfl, hb4⟩
    simp only []
    refine hK.out _ _ (Ext W.drew) (fun _ h => h) ((((hb1).trans hb2).trans hb3).trans hb4) (fun hSw => ?_)
    clear hK K
    try simp only [Act.put, List.setIfInBounds_toArray, List.set_cons_zero, List.set_cons_succ]
    refine wpS_one 21 rfl (by kernel_rfl) (by rfl) (fun K hK => ?_)
    go_simp
    refine (frKind_any S f ⟨⟨A1, n1, c1⟩, ⟨A2, n2, c2⟩, ⟨A3, n3, c3⟩, ⟨A4, n4, c4⟩⟩ _ (HV.out.up (EW.out.trans ((Ext.refl W).drew.trans hSw)))).mono ?_
    rintro e wq5 ⟨rfl, hb5⟩
    simp only []
    refine hK.out _ _ (Ext W.drew) (fun _ h => h) (((((hb1).trans hb2).trans hb3).trans hb4).trans hb5) (fun hSw => ?_)
    clear hK K
    try simp only [Act.put, List.setIfInBounds_toArray, List.set_cons_zero, List.set_cons_succ]
    refine wpS_one 22 rfl (by kernel_rfl) (by rfl) (fun K hK => ?_)
    go_simp
    refine (unless_any (kindF f) 2 _).mono ?_
    rintro e wx ⟨rfl, rfl⟩
    simp only []
    refine hK.out _ _ (Ext W.drew) (fun _ h => h) (hSw) (fun hSw => ?_)
    clear hK K
    try simp only [Act.put, List.setIfInBounds_toArray, List.set_cons_zero, List.set_cons_succ]
    refine wpS_one 23 rfl (by kernel_rfl) (by rfl) (fun K hK => ?_)
    go_simp
    skip
    refine hK.out _ _ (Ext (wq5.alloc (.cells #[.int .i64 (unl (inB f.kind 3) 4), .int .i64 (unl (smallF f) 3), .int .i64 (unl (shapedF f) 2), .int .i64 (unl (namedF f) 5), .int .i64 (firstE saneR f.adds), .int .i64 (unl (kindF f) 2)] 23))) (fun x hx => (((((hb1).trans hb2).trans hb3).trans hb4).trans hb5).trans ((Ext.new _ _).trans hx)) (Ext.refl _) (fun hSw => ?_)
    clear hK K
    try simp only [Act.put, List.setIfInBounds_toArray, List.set_cons_zero, List.set_cons_succ]
    refine wpS_one 24 rfl (by kernel_rfl) (by rfl) (fun K hK => ?_)
    go_simp
    refine (frFirst_any (fun _ => True) [unl (inB f.kind 3) 4, unl (smallF f) 3, unl (shapedF f) 2, unl (namedF f) 5, firstE saneR f.adds, unl (kindF f) 2] _ 6 6 _ (by unfold maxLen; omega) ((six_ints wq5 _ _ _ _ _ _ _).q.weak (fun _ _ h => h) (fun _ _ _ => trivial))).mono ?_
    rintro e wz ⟨rfl, rfl⟩
    rw [HR1.out]
    simp only []
    refine hK.out _ _ (Ext (wq5.alloc (.cells #[.int .i64 (unl (inB f.kind 3) 4), .int .i64 (unl (smallF f) 3), .int .i64 (unl (shapedF f) 2), .int .i64 (unl (namedF f) 5), .int .i64 (firstE saneR f.adds), .int .i64 (unl (kindF f) 2)] 23))) (fun _ h => h) (hSw) (fun hSw => ?_)
    clear hK K
    try simp only [Act.put, List.setIfInBounds_toArray, List.set_cons_zero, List.set_cons_succ]
    refine wpS_take 25 (v := ?_) hSw rfl (by kernel_rfl) (by kernel_rfl) (by kernel_rfl) (by rfl) (fun w' hin => ?_) ?_
    rotate_left
    · (try simp only [] at hin); go_simp <;> with_reducible rfl
    try simp only [Act.put, List.setIfInBounds_toArray, List.set_cons_zero, List.set_cons_succ]
    refine wpS_done (by kernel_rfl) ?_
    clear t0 t1 t2 t3 t4 t5 t6 t7 t8 t9
    have EF := Lib.hid (EW.out.trans ((Ext.refl W).drew.trans ((((((hb1).trans hb2).trans hb3).trans hb4).trans hb5).trans (Ext.new wq5 (.cells #[.int .i64 (unl (inB f.kind 3) 4), .int .i64 (unl (smallF f) 3), .int .i64 (unl (shapedF f) 2), .int .i64 (unl (namedF f) 5), .int .i64 (firstE saneR f.adds), .int .i64 (unl (kindF f) 2)] 23)))))
    go_wp2_with fail
    go_ret
    exact ⟨rfl, EF.out⟩
end Go.Proofs.YtepifkmileilfaaGreatDoor
