/- What res.Cmp computes. -/
import Derived.Test.YtfdjbnofcniodaaGreatDoorGround
import Derived.Test.YtfdjbnofcniodaaGreatDoorPlain
import Derived.Test.YtfdjbnofcniodaaGreatDoorNames
namespace Go.Proofs.YtfdjbnofcniodaaGreatDoor
set_option linter.unusedVariables false
open Go.RowKit

def orI (x y : Int) : Int := if x ≠ 0 then x else y
set_option maxRecDepth 100000 in
set_option maxHeartbeats 400000 in
theorem cmpOr_any (g : Nat) (x y : Int) (w : World) (hg : g < w.heap.size) (h0 : w.cell? ⟨g, 0, none⟩ = some (.int .i64 x)) (h1 : w.cell? ⟨g, 1, none⟩ = some (.int .i64 y)) :
    Calls Tryz.prog 181 #[.slice (some ⟨g, 0, none⟩) 2 2] w fun e w' => e = .returned (.int .i64 (orI x y)) ∧ w = w' := by
  by_cases hx : x = 0
  · subst hx
    rw [show orI 0 y = y from by unfold orI; rw [if_neg (by simp)]]
    go_enter Tryz.func181, Tryz.ntmps181
    go_wp2_with fail
    go_loopw [8] (fun i wr => ∃ k : Nat, i = .int .i64 k ∧ (k = 0 ∨ k = 1 ∨ (k = 2 ∧ y = 0)) ∧ w = wr) (fun i _ => 2 - (intOf i).toNat)
    case atStart => exact ⟨0, rfl, .inl rfl, rfl⟩
    case round =>
      obtain ⟨k, rfl, hk, rfl⟩ := hrel
      rcases hk with rfl | rfl | ⟨rfl, rfl⟩
      · go_wp2_with fail
        go_roundw
        case rel => exact ⟨1, by go_num, by simp⟩
        case measure => simp [intOf]
      · by_cases hy : y = 0
        · subst hy
          go_wp2_with fail
          go_roundw
          case rel => exact ⟨2, by go_num, by simp⟩
          case measure => simp [intOf]
        · have hq : (y != 0) = true := by simpa using hy
          go_wp2_with fail
          go_ret
          exact ⟨rfl, rfl⟩
      · go_wp2_with fail
        go_ret
        exact ⟨rfl, rfl⟩
  · have hq : (x != 0) = true := by simpa using hx
    rw [show orI x y = x from by unfold orI; rw [if_pos hx]]
    go_enter Tryz.func181, Tryz.ntmps181
    go_wp2_with fail
    go_loopw [8] (fun i wr => i = .int .i64 0 ∧ w = wr) (fun i _ => 2 - (intOf i).toNat)
    case atStart => exact ⟨rfl, rfl⟩
    case round =>
      obtain ⟨rfl, rfl⟩ := hrel
      go_wp2_with fail
      go_ret
      exact ⟨rfl, rfl⟩
set_option maxRecDepth 100000 in
set_option maxHeartbeats 1000000 in
theorem cmp_any (a b : Ky) (w : World) :
    Calls Tryz.prog 115 #[.agg #[.int .i64 a.kind, .string a.name], .agg #[.int .i64 b.kind, .string b.name]] w fun e w' => e = .returned (.int .i64 (cmpK a b)) ∧ Ext w w' := by
  obtain ⟨ak, an0⟩ := a
  obtain ⟨bk, bn0⟩ := b
  have HR : Hid (cmpK ⟨ak, an0⟩ ⟨bk, bn0⟩ = orI (cmpI ak bk) (Lib.compareBytes (tx an0) (tx bn0))) := Lib.hid rfl
  simp only
  go_enter Tryz.func115, Tryz.ntmps115
  go_wp2_with fail
  have t0 : ∀ w', Ext ((w.alloc (.cells #[.int .i64 ak, .string an0] 38)).alloc (.cells #[.int .i64 bk, .string bn0] 38)).drew w' → w'.cell? ⟨w.heap.size, 0, none⟩ = some (.int .i64 ak) := fun w' hx => (box2 ((Ext.refl ((w.alloc (.cells #[.int .i64 ak, .string an0] 38)).alloc (.cells #[.int .i64 bk, .string bn0] 38))).drew.trans hx)).1 0
  have t1 : ∀ w', Ext ((w.alloc (.cells #[.int .i64 ak, .string an0] 38)).alloc (.cells #[.int .i64 bk, .string bn0] 38)).drew w' → w'.cell? ⟨w.heap.size, 1, none⟩ = some (.string an0) := fun w' hx => (box2 ((Ext.refl ((w.alloc (.cells #[.int .i64 ak, .string an0] 38)).alloc (.cells #[.int .i64 bk, .string bn0] 38))).drew.trans hx)).1 1
  have p0 : ∀ w', Ext ((w.alloc (.cells #[.int .i64 ak, .string an0] 38)).alloc (.cells #[.int .i64 bk, .string bn0] 38)).drew w' → w'.cell? ⟨w.heap.size + 1, 0, none⟩ = some (.int .i64 bk) := fun w' hx => (box2 ((Ext.refl ((w.alloc (.cells #[.int .i64 ak, .string an0] 38)).alloc (.cells #[.int .i64 bk, .string bn0] 38))).drew.trans hx)).2.2.1 0
  have p1 : ∀ w', Ext ((w.alloc (.cells #[.int .i64 ak, .string an0] 38)).alloc (.cells #[.int .i64 bk, .string bn0] 38)).drew w' → w'.cell? ⟨w.heap.size + 1, 1, none⟩ = some (.string bn0) := fun w' hx => (box2 ((Ext.refl ((w.alloc (.cells #[.int .i64 ak, .string an0] 38)).alloc (.cells #[.int .i64 bk, .string bn0] 38))).drew.trans hx)).2.2.1 1
  have EW : Hid (Ext w ((w.alloc (.cells #[.int .i64 ak, .string an0] 38)).alloc (.cells #[.int .i64 bk, .string bn0] 38))) := Lib.hid (((Ext.refl w).alloc _).alloc _)
  generalize ((w.alloc (.cells #[.int .i64 ak, .string an0] 38)).alloc (.cells #[.int .i64 bk, .string bn0] 38)) = W at t0 t1 p0 p1 EW ⊢
  have hSw : Ext W.drew W.drew := Ext.refl _
  refine wpS_begin (Ext W.drew) (by kernel_rfl) ?_
  refine wpS_take 0 (v := ?_) hSw rfl (by kernel_rfl) (by kernel_rfl) (by kernel_rfl) (by rfl) (fun w' hin => ?_) ?_
  rotate_left
  · (try simp only [] at hin); go_simp <;> with_reducible rfl
  try simp only [Act.put, List.setIfInBounds_toArray, List.set_cons_zero, List.set_cons_succ]
  refine wpS_take 1 (v := ?_) hSw rfl (by kernel_rfl) (by kernel_rfl) (by kernel_rfl) (by rfl) (fun w' hin => ?_) ?_
  rotate_left
  · (try simp only [] at hin); go_simp <;> with_reducible rfl
  try simp only [Act.put, List.setIfInBounds_toArray, List.set_cons_zero, List.set_cons_succ]
  refine wpS_take 2 (v := ?_) hSw rfl (by kernel_rfl) (by kernel_rfl) (by kernel_rfl) (by rfl) (fun w' hin => ?_) ?_
  rotate_left
  · (try simp only [] at hin); go_simp <;> with_reducible rfl
  try simp only [Act.put, List.setIfInBounds_toArray, List.set_cons_zero, List.set_cons_succ]
  refine wpS_take 3 (v := ?_) hSw rfl (by kernel_rfl) (by kernel_rfl) (by kernel_rfl) (by rfl) (fun w' hin => ?_) ?_
  rotate_left
  · (try simp only [] at hin); go_simp <;> with_reducible rfl
  try simp only [Act.put, List.setIfInBounds_toArray, List.set_cons_zero, List.set_cons_succ]
  refine wpS_take 5 (v := ?_) hSw rfl (by kernel_rfl) (by kernel_rfl) (by kernel_rfl) (by rfl) (fun w' hin => ?_) ?_
  rotate_left
  · (try simp only [] at hin); go_simp <;> with_reducible rfl
  try simp only [Act.put, List.setIfInBounds_toArray, List.set_cons_zero, List.set_cons_succ]
  refine wpS_take 6 (v := ?_) hSw rfl (by kernel_rfl) (by kernel_rfl) (by kernel_rfl) (by rfl) (fun w' hin => ?_) ?_
  rotate_left
  · (try simp only [] at hin); go_simp <;> with_reducible rfl
  try simp only [Act.put, List.setIfInBounds_toArray, List.set_cons_zero, List.set_cons_succ]
  refine wpS_take 7 (v := ?_) hSw rfl (by kernel_rfl) (by kernel_rfl) (by kernel_rfl) (by rfl) (fun w' hin => ?_) ?_
  rotate_left
  · (try simp only [] at hin); go_simp <;> with_reducible rfl
  try simp only [Act.put, List.setIfInBounds_toArray, List.set_cons_zero, List.set_cons_succ]
  refine wpS_take 8 (v := ?_) hSw rfl (by kernel_rfl) (by kernel_rfl) (by kernel_rfl) (by rfl) (fun w' hin => ?_) ?_
  rotate_left
  · (try simp only [] at hin); go_simp <;> with_reducible rfl
  try simp only [Act.put, List.setIfInBounds_toArray, List.set_cons_zero, List.set_cons_succ]
  refine wpS_one 4 rfl (by kernel_rfl) (by rfl) (fun K hK => ?_)
  go_simp
  refine (cmpInt_any ak bk _).mono ?_
  rintro e w4 ⟨rfl, rfl⟩
  simp only []
  refine hK.out _ _ (Ext W.drew) (fun _ h => h) (hSw) (fun hSw => ?_)
  clear hK K
  try simp only [Act.put, List.setIfInBounds_toArray, List.set_cons_zero, List.set_cons_succ]
  refine wpS_one 9 rfl (by kernel_rfl) (by rfl) (fun K hK => ?_)
  go_simp
  refine (nameCmp_any an0 bn0 _).mono ?_
  rintro e w5 ⟨rfl, rfl⟩
  simp only []
  refine hK.out _ _ (Ext W.drew) (fun _ h => h) (hSw) (fun hSw => ?_)
  clear hK K
  try simp only [Act.put, List.setIfInBounds_toArray, List.set_cons_zero, List.set_cons_succ]
  refine wpS_one 10 rfl (by kernel_rfl) (by rfl) (fun K hK => ?_)
  go_simp
  skip
  refine hK.out _ _ (Ext (W.drew.alloc (.cells #[.int .i64 (cmpI ak bk), .int .i64 (Lib.compareBytes (tx an0) (tx bn0))] 3))) (fun _ h => (Ext.new _ _).trans h) (Ext.refl _) (fun hSw => ?_)
  clear hK K
  try simp only [Act.put, List.setIfInBounds_toArray, List.set_cons_zero, List.set_cons_succ]
  refine wpS_one 11 rfl (by kernel_rfl) (by rfl) (fun K hK => ?_)
  go_simp
  have hn := (blk_rules (heap_alloc_new W.drew (.cells #[.int .i64 (cmpI ak bk), .int .i64 (Lib.compareBytes (tx an0) (tx bn0))] 3))).1
  refine (cmpOr_any W.drew.heap.size (cmpI ak bk) (Lib.compareBytes (tx an0) (tx bn0)) _ (by simp) (hn 0) (hn 1)).mono ?_
  rintro e w6 ⟨rfl, rfl⟩
  simp only []
  refine hK.out _ _ (Ext (W.drew.alloc (.cells #[.int .i64 (cmpI ak bk), .int .i64 (Lib.compareBytes (tx an0) (tx bn0))] 3))) (fun _ h => h) (hSw) (fun hSw => ?_)
  clear hK K
  try simp only [Act.put, List.setIfInBounds_toArray, List.set_cons_zero, List.set_cons_succ]
  refine wpS_take 12 (v := ?_) hSw rfl (by kernel_rfl) (by kernel_rfl) (by kernel_rfl) (by rfl) (fun w' hin => ?_) ?_
  rotate_left
  · (try simp only [] at hin); go_simp <;> with_reducible rfl
  try simp only [Act.put, List.setIfInBounds_toArray, List.set_cons_zero, List.set_cons_succ]
  refine wpS_done (by kernel_rfl) ?_
  clear t0 t1 p0 p1
  have EF := Lib.hid (EW.out.trans ((Ext.refl W).drew.trans (Ext.new W.drew (.cells #[.int .i64 (cmpI ak bk), .int .i64 (Lib.compareBytes (tx an0) (tx bn0))] 3))))
  go_wp2_with fail
  go_ret
  exact ⟨ret_int HR.out.symm, EF.out⟩
end Go.Proofs.YtfdjbnofcniodaaGreatDoor
