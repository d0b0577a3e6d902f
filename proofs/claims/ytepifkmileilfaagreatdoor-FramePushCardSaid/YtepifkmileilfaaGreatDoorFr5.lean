/- What package frame's shaped computes. -/
import Derived.Test.YtepifkmileilfaaGreatDoorFr4
import Derived.Test.YtepifkmileilfaaGreatDoorFrSame
import Derived.Test.YtepifkmileilfaaGreatDoorGround
namespace Go.Proofs.YtepifkmileilfaaGreatDoor
set_option linter.unusedVariables false
open Go.RowKit

def nilS : FrS := ⟨⟨none, 0, 0⟩, ⟨none, 0, 0⟩, ⟨none, 0, 0⟩, ⟨none, 0, 0⟩⟩
theorem FrV.nil_ (S : Nat → Prop) (w : World) (a b c d e g : Int) : FrV S w ⟨a, b, c, d, e, [], [], g, [], []⟩ nilS :=
  ⟨SlW.nil_, SlW.nil_, SlW.nil_, SlW.nil_, ArrQ.nil_, ArrQ.nil_, ArrQ.nil_, ArrQ.nil_⟩
theorem FrV.bare {S : Nat → Prop} {w : World} {f : Fr} {s : FrS} (h : FrV S w f s) : FrV S w (bareF f) (bareS f.typ s) := by
  obtain ⟨a1, a2, a3, a4, b1, b2, b3, b4⟩ := h
  unfold bareF bareS
  by_cases h0 : f.typ = 0
  · rw [if_pos h0, if_pos h0]; exact ⟨a1, a2, SlW.nil_, a4, b1, b2, ArrQ.nil_, b4⟩
  rw [if_neg h0, if_neg h0]
  by_cases h1 : f.typ = 1
  · rw [if_pos h1, if_pos h1]; exact ⟨SlW.nil_, SlW.nil_, a3, a4, ArrQ.nil_, ArrQ.nil_, b3, b4⟩
  rw [if_neg h1, if_neg h1]
  by_cases h2 : f.typ = 2
  · rw [if_pos h2, if_pos h2]; exact ⟨a1, a2, a3, SlW.nil_, b1, b2, b3, ArrQ.nil_⟩
  rw [if_neg h2, if_neg h2]
  by_cases h3 : f.typ = 3
  · rw [if_pos h3, if_pos h3]; exact ⟨a1, a2, a3, SlW.nil_, b1, b2, b3, ArrQ.nil_⟩
  rw [if_neg h3, if_neg h3]
  exact ⟨a1, a2, a3, a4, b1, b2, b3, b4⟩
set_option maxRecDepth 100000 in
set_option maxHeartbeats 2000000 in
theorem frShaped_any (S : Nat → Prop) (f : Fr) (s : FrS) (w : World) (hV : FrV S w f s) :
    Calls Tryz.prog 147 #[frVal f s] w fun e w' => e = .returned (.bool (shapedF f)) ∧ Ext w w' := by
  have HV := Lib.hid hV
  have HVB := Lib.hid hV.bare
  obtain ⟨⟨A1, n1, c1⟩, ⟨A2, n2, c2⟩, ⟨A3, n3, c3⟩, ⟨A4, n4, c4⟩⟩ := s
  clear hV
  rw [show frVal f ⟨⟨A1, n1, c1⟩, ⟨A2, n2, c2⟩, ⟨A3, n3, c3⟩, ⟨A4, n4, c4⟩⟩ = .agg #[.int .i64 f.typ, .int .i64 f.epoch, .int .i64 f.kind, .int .i64 f.nonce, .int .i64 f.turn, .slice A1 n1 c1, .slice A2 n2 c2, .int .i64 f.err, .slice A3 n3 c3, .slice A4 n4 c4] from rfl]
  go_enter Tryz.func147, Tryz.ntmps147
  go_wp2_with fail
  have KX := Lib.hid (heap_alloc_new w (.cells #[.int .i64 f.typ, .int .i64 f.epoch, .int .i64 f.kind, .int .i64 f.nonce, .int .i64 f.turn, .slice A1 n1 c1, .slice A2 n2 c2, .int .i64 f.err, .slice A3 n3 c3, .slice A4 n4 c4] 93))
  have hsW : w.heap.size < (w.alloc (.cells #[.int .i64 f.typ, .int .i64 f.epoch, .int .i64 f.kind, .int .i64 f.nonce, .int .i64 f.turn, .slice A1 n1 c1, .slice A2 n2 c2, .int .i64 f.err, .slice A3 n3 c3, .slice A4 n4 c4] 93)).heap.size := by simp
  have EW := Lib.hid (Ext.new w (.cells #[.int .i64 f.typ, .int .i64 f.epoch, .int .i64 f.kind, .int .i64 f.nonce, .int .i64 f.turn, .slice A1 n1 c1, .slice A2 n2 c2, .int .i64 f.err, .slice A3 n3 c3, .slice A4 n4 c4] 93))
  generalize w.alloc (.cells #[.int .i64 f.typ, .int .i64 f.epoch, .int .i64 f.kind, .int .i64 f.nonce, .int .i64 f.turn, .slice A1 n1 c1, .slice A2 n2 c2, .int .i64 f.err, .slice A3 n3 c3, .slice A4 n4 c4] 93) = W at KX hsW EW ⊢
  have t0 : ∀ w', Ext W.drew w' → w'.cell? ⟨w.heap.size, 0, none⟩ = some (.int .i64 f.typ) := fun w' hx => (blk_rules ((((Ext.refl W).drew.trans hx).block hsW).trans KX.out)).1 0
  have t1 : ∀ w', Ext W.drew w' → w'.cell? ⟨w.heap.size, 1, none⟩ = some (.int .i64 f.epoch) := fun w' hx => (blk_rules ((((Ext.refl W).drew.trans hx).block hsW).trans KX.out)).1 1
  have t2 : ∀ w', Ext W.drew w' → w'.cell? ⟨w.heap.size, 2, none⟩ = some (.int .i64 f.kind) := fun w' hx => (blk_rules ((((Ext.refl W).drew.trans hx).block hsW).trans KX.out)).1 2
  have t3 : ∀ w', Ext W.drew w' → w'.cell? ⟨w.heap.size, 3, none⟩ = some (.int .i64 f.nonce) := fun w' hx => (blk_rules ((((Ext.refl W).drew.trans hx).block hsW).trans KX.out)).1 3
  have t4 : ∀ w', Ext W.drew w' → w'.cell? ⟨w.heap.size, 4, none⟩ = some (.int .i64 f.turn) := fun w' hx => (blk_rules ((((Ext.refl W).drew.trans hx).block hsW).trans KX.out)).1 4
  have t5 : ∀ w', Ext W.drew w' → w'.cell? ⟨w.heap.size, 5, none⟩ = some (.slice A1 n1 c1) := fun w' hx => (blk_rules ((((Ext.refl W).drew.trans hx).block hsW).trans KX.out)).1 5
  have t6 : ∀ w', Ext W.drew w' → w'.cell? ⟨w.heap.size, 6, none⟩ = some (.slice A2 n2 c2) := fun w' hx => (blk_rules ((((Ext.refl W).drew.trans hx).block hsW).trans KX.out)).1 6
  have t7 : ∀ w', Ext W.drew w' → w'.cell? ⟨w.heap.size, 7, none⟩ = some (.int .i64 f.err) := fun w' hx => (blk_rules ((((Ext.refl W).drew.trans hx).block hsW).trans KX.out)).1 7
  have t8 : ∀ w', Ext W.drew w' → w'.cell? ⟨w.heap.size, 8, none⟩ = some (.slice A3 n3 c3) := fun w' hx => (blk_rules ((((Ext.refl W).drew.trans hx).block hsW).trans KX.out)).1 8
  have t9 : ∀ w', Ext W.drew w' → w'.cell? ⟨w.heap.size, 9, none⟩ = some (.slice A4 n4 c4) := fun w' hx => (blk_rules ((((Ext.refl W).drew.trans hx).block hsW).trans KX.out)).1 9
  have hSw : Ext W.drew W.drew := Ext.refl _
  refine wpS_begin (Ext W.drew) (by kernel_rfl) ?_
  refine wpS_take 0 (v := ?_) hSw rfl (by kernel_rfl) (by kernel_rfl) (by kernel_rfl) (by rfl) (fun w' hin => ?_) ?_
  rotate_left
  · (try simp only [] at hin); go_simp <;> with_reducible rfl
  try simp only [Act.put, List.setIfInBounds_toArray, List.set_cons_zero, List.set_cons_succ]
  refine wpS_take 2 (v := ?_) hSw rfl (by kernel_rfl) (by kernel_rfl) (by kernel_rfl) (by rfl) (fun w' hin => ?_) ?_
  rotate_left
  · (try simp only [] at hin); go_simp <;> with_reducible rfl
  try simp only [Act.put, List.setIfInBounds_toArray, List.set_cons_zero, List.set_cons_succ]
  refine wpS_take 3 (v := ?_) hSw rfl (by kernel_rfl) (by kernel_rfl) (by kernel_rfl) (by rfl) (fun w' hin => ?_) ?_
  rotate_left
  · (try simp only [] at hin); go_simp <;> with_reducible rfl
  try simp only [Act.put, List.setIfInBounds_toArray, List.set_cons_zero, List.set_cons_succ]
  refine wpS_take 4 (v := ?_) hSw rfl (by kernel_rfl) (by kernel_rfl) (by kernel_rfl) (by rfl) (fun w' hin => ?_) ?_
  rotate_left
  · (try simp only [] at hin); go_simp <;> with_reducible rfl
  try simp only [Act.put, List.setIfInBounds_toArray, List.set_cons_zero, List.set_cons_succ]
  refine wpS_one 1 rfl (by kernel_rfl) (by rfl) (fun K hK => ?_)
  go_simp
  refine (frBare_any f ⟨⟨A1, n1, c1⟩, ⟨A2, n2, c2⟩, ⟨A3, n3, c3⟩, ⟨A4, n4, c4⟩⟩ _).mono ?_
  rintro e w1 ⟨rfl, hb1⟩
  simp only []
  refine hK.out _ _ (Ext W.drew) (fun _ h => h) (hb1) (fun hSw => ?_)
  clear hK K
  try simp only [Act.put, List.setIfInBounds_toArray, List.set_cons_zero, List.set_cons_succ]
  refine wpS_one 5 rfl (by kernel_rfl) (by rfl) (fun K hK => ?_)
  go_simp
  refine (frSame_any S S (bareF f) ⟨f.typ, 0, 0, 0, 0, [], [], 0, [], []⟩ (bareS f.typ ⟨⟨A1, n1, c1⟩, ⟨A2, n2, c2⟩, ⟨A3, n3, c3⟩, ⟨A4, n4, c4⟩⟩) nilS _ (HVB.out.up (EW.out.trans ((Ext.refl W).drew.trans hSw))) (FrV.nil_ _ _ _ _ _ _ _ _)).mono ?_
  rintro e w2 ⟨rfl, hb2⟩
  simp only []
  refine hK.out _ _ (Ext W.drew) (fun _ h => h) (hb1.trans hb2) (fun hSw => ?_)
  clear hK K
  try simp only [Act.put, List.setIfInBounds_toArray, List.set_cons_zero, List.set_cons_succ]
  refine wpS_take 6 (v := ?_) hSw rfl (by kernel_rfl) (by kernel_rfl) (by kernel_rfl) (by rfl) (fun w' hin => ?_) ?_
  rotate_left
  · (try simp only [] at hin); go_simp <;> with_reducible rfl
  try simp only [Act.put, List.setIfInBounds_toArray, List.set_cons_zero, List.set_cons_succ]
  refine wpS_done (by kernel_rfl) ?_
  clear t0 t1 t2 t3 t4 t5 t6 t7 t8 t9
  have EF := Lib.hid (EW.out.trans ((Ext.refl W).drew.trans (hb1.trans hb2)))
  go_wp2_with fail
  go_ret
  exact ⟨rfl, EF.out⟩
end Go.Proofs.YtepifkmileilfaaGreatDoor
