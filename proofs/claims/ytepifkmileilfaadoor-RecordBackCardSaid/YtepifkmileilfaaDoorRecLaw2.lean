/- The law RecordNone of layer 4. -/
import Derived.Test.YtepifkmileilfaaDoorRecLaw1
import Derived.Test.YtepifkmileilfaaDoorGround
namespace Go.Proofs.YtepifkmileilfaaDoor
set_option linter.unusedVariables false
open Go.RowKit

set_option maxHeartbeats 400000 in
theorem take_nil (w : World) : Calls Tryd.prog 28 #[.pointer none] w fun e w' => e = .returned (.agg #[.int .i64 0, .string ⟨#[]⟩, .int .i64 0, .int .i64 0, .string ⟨#[]⟩, .slice none 0 0, .slice none 0 0]) ∧ Ext w w' := by
  go_enter Tryd.func28, Tryd.ntmps28
  go_wp2_with fail
  exact bodyPost_ret (v := .agg #[.int .i64 0, .string ⟨#[]⟩, .int .i64 0, .int .i64 0, .string ⟨#[]⟩, .slice none 0 0, .slice none 0 0]) (by simp [results, Tryd.results28, go_sem]) rfl ⟨rfl, Ext.new _ _⟩
set_option maxHeartbeats 400000 in
theorem takeKey_nil (w : World) : Calls Tryd.prog 41 #[.pointer none] w fun e w' => e = .returned (.agg #[.int .i64 0, .string ⟨#[]⟩]) ∧ Ext w w' := by
  go_enter Tryd.func41, Tryd.ntmps41
  go_wp2_with fail
  exact bodyPost_ret (v := .agg #[.int .i64 0, .string ⟨#[]⟩]) (by simp [results, Tryd.results41, go_sem]) rfl ⟨rfl, Ext.new _ _⟩
set_option maxHeartbeats 400000 in
theorem takeAll_nil (w : World) : Calls Tryd.prog 45 #[.pointer none] w fun e w' => e = .returned (.slice none 0 0) ∧ w = w' := by
  go_enter Tryd.func45, Tryd.ntmps45
  go_wp2_with fail
  go_ret
  exact ⟨rfl, rfl⟩
set_option maxHeartbeats 400000 in
theorem takeKeys_nil (w : World) : Calls Tryd.prog 46 #[.pointer none] w fun e w' => e = .returned (.slice none 0 0) ∧ w = w' := by
  go_enter Tryd.func46, Tryd.ntmps46
  go_wp2_with fail
  go_ret
  exact ⟨rfl, rfl⟩
theorem convR {w : World} {A : Option Addr} {n : Nat} {bs : List UInt8} (h : Byts w A n bs) (c : Nat) : (convert 40 9 (.slice A n c)).run Tryd.prog w = .ok (.string (bstr bs)) w :=
  run_conv Tryd.underlying40 Tryd.underlying5 Tryd.underlying9 h c

set_option maxRecDepth 100000 in
set_option maxHeartbeats 4000000 in
theorem recordNone_any (A : Option Addr) (n c : Nat) (bs : List UInt8) (w : World) (hB : Byts w A n bs) (hc : A = none → c = 0) (hnc : n ≤ c) (hcm : c ≤ 9223372036854775807) :
    Calls Tryd.prog 9 #[.slice A n c] w fun e w' => e = .returned (.bool true) ∧ Ext w w' := by
  have HB := Lib.hid hB
  have HC := Lib.hid hc
  clear hB hc
  by_cases hn : 1000 < n
  · go_enter Tryd.func9, Tryd.ntmps9
    go_wp2_with fail
    refine (awake04 _).mono ?_
    rintro e w1 ⟨rfl, hb1⟩
    go_wp2_with fail
    go_ret
    exact ⟨rfl, hb1⟩
  go_enter Tryd.func9, Tryd.ntmps9
  go_wp2_with fail
  refine (awake04 _).mono ?_
  rintro e w1 ⟨rfl, hb1⟩
  have E1 := Lib.hid hb1
  clear hb1
  go_wp2_with fail
  have hR := RdAt.box (w := w1) 6 (ArrR.up HB.out E1.out) HC.out hnc hcm
  have HE : Hid ((takeR ⟨bs, 6⟩).1 = ⟨bs, 6⟩) := Lib.hid (codec_r.err ⟨bs, 6⟩ (show (6 : Int) ≠ 0 by decide))
  have HZ : Hid ((takeR ⟨bs, 6⟩).2 = rs0) := Lib.hid (takeR_zero _ (by rw [HE.out]; show (6 : Int) ≠ 0; decide))
  refine ((take_takes w1.heap.size).2 ⟨bs, 6⟩ _ hR).mono ?_
  rw [HZ.out, HE.out]
  rintro e w2 ⟨C, m, f, C', m', f', rfl, hv2, hr2, ho2⟩
  have E2 : Hid (Ext w w2) := Lib.hid (Only.ext (E1.out.alloc _) ho2 E1.out.size)
  have HV2 := Lib.hid hv2
  have z2 : w1.heap.size < w2.heap.size := by have := ho2.size; simp at this; omega
  have HR2 := Lib.hid hr2
  clear hv2 hr2 ho2 hR
  go_wp2_with fail
  have kA := heap_alloc_new w2 (.cells #[.int .i64 rs0.kind, .string rs0.name, .int .i64 rs0.ver, .int .i64 rs0.port, .string rs0.to, .slice C m f, .slice C' m' f'] 36)
  have EW := Lib.hid (Ext.new w2 (.cells #[.int .i64 rs0.kind, .string rs0.name, .int .i64 rs0.ver, .int .i64 rs0.port, .string rs0.to, .slice C m f, .slice C' m' f'] 36))
  have hsW : w2.heap.size < (w2.alloc (.cells #[.int .i64 rs0.kind, .string rs0.name, .int .i64 rs0.ver, .int .i64 rs0.port, .string rs0.to, .slice C m f, .slice C' m' f'] 36)).heap.size := by simp
  generalize w2.alloc (.cells #[.int .i64 rs0.kind, .string rs0.name, .int .i64 rs0.ver, .int .i64 rs0.port, .string rs0.to, .slice C m f, .slice C' m' f'] 36) = W at kA EW hsW ⊢
  have KA := Lib.hid kA
  have HRW := Lib.hid (HR2.out.up EW.out)
  obtain ⟨D, p, d, hg, -, -, -, hBD, -⟩ := HRW.out
  have KG := Lib.hid hg
  have HBD := Lib.hid hBD
  have zg : w1.heap.size < W.heap.size := by omega
  clear kA hg hBD

  have t0 : ∀ w', Ext W.drew w' → w'.cell? ⟨w2.heap.size, 0, none⟩ = some (.int .i64 rs0.kind) := fun w' hx => (blk_rules ((((Ext.refl W).drew.trans hx).block hsW).trans KA.out)).1 0
  have t1 : ∀ w', Ext W.drew w' → w'.cell? ⟨w2.heap.size, 1, none⟩ = some (.string rs0.name) := fun w' hx => (blk_rules ((((Ext.refl W).drew.trans hx).block hsW).trans KA.out)).1 1
  have t2 : ∀ w', Ext W.drew w' → w'.cell? ⟨w2.heap.size, 2, none⟩ = some (.int .i64 rs0.ver) := fun w' hx => (blk_rules ((((Ext.refl W).drew.trans hx).block hsW).trans KA.out)).1 2
  have t3 : ∀ w', Ext W.drew w' → w'.cell? ⟨w2.heap.size, 3, none⟩ = some (.int .i64 rs0.port) := fun w' hx => (blk_rules ((((Ext.refl W).drew.trans hx).block hsW).trans KA.out)).1 3
  have t4 : ∀ w', Ext W.drew w' → w'.cell? ⟨w2.heap.size, 4, none⟩ = some (.string rs0.to) := fun w' hx => (blk_rules ((((Ext.refl W).drew.trans hx).block hsW).trans KA.out)).1 4
  have t5 : ∀ w', Ext W.drew w' → w'.cell? ⟨w2.heap.size, 5, none⟩ = some (.slice C m f) := fun w' hx => (blk_rules ((((Ext.refl W).drew.trans hx).block hsW).trans KA.out)).1 5
  have t6 : ∀ w', Ext W.drew w' → w'.cell? ⟨w2.heap.size, 6, none⟩ = some (.slice C' m' f') := fun w' hx => (blk_rules ((((Ext.refl W).drew.trans hx).block hsW).trans KA.out)).1 6
  have s0 : ∀ w', Ext W.drew w' → w'.cell? ⟨w1.heap.size, 0, none⟩ = some (.slice D p d) := fun w' hx => (blk_rules ((((Ext.refl W).drew.trans hx).block zg).trans KG.out)).1 0
  have s1 : ∀ w', Ext W.drew w' → w'.cell? ⟨w1.heap.size, 1, none⟩ = some (.int .i64 6) := fun w' hx => (blk_rules ((((Ext.refl W).drew.trans hx).block zg).trans KG.out)).1 1
  have v0 : ∀ w', Ext W.drew w' → (convert 40 9 (.slice D p d)).run Tryd.prog w' = .ok (.string (bstr bs)) w' := fun w' hx => convR (ArrR.up HBD.out ((Ext.refl W).drew.trans hx)) d
  have v1 : ∀ w', Ext W.drew w' → (convert 40 9 (.slice A n c)).run Tryd.prog w' = .ok (.string (bstr bs)) w' := fun w' hx => convR (ArrR.up HB.out (E2.out.trans (EW.out.trans ((Ext.refl W).drew.trans hx)))) c
  have hSw : Ext W.drew W.drew := Ext.refl _
  refine wpS_begin (Ext W.drew) (by kernel_rfl) ?_
  refine wpS_take 0 (v := ?_) hSw rfl (by kernel_rfl) (by kernel_rfl) (by kernel_rfl) (by rfl) (fun w' hin => ?_) ?_
  rotate_left
  · (try simp only [] at hin); go_simp <;> with_reducible rfl
  try simp only [Act.put, List.setIfInBounds_toArray, List.set_cons_zero, List.set_cons_succ]
  refine wpS_take 1 (v := ?_) hSw rfl (by kernel_rfl) (by kernel_rfl) (by kernel_rfl) (by rfl) (fun w' hin => ?_) ?_
  rotate_left
  · (try simp only [] at hin); go_simp <;> with_reducible rfl
  try simp only [Act.put, List.setIfInBounds_toArray, List.set_cons_zero, List.set_cons_succ]
  refine wpS_take 2 (v := ?_) hSw rfl (by kernel_rfl) (by kernel_rfl) (by kernel_rfl) (by rfl) (fun w' hin => ?_) ?_
  rotate_left
  · (try simp only [] at hin); go_simp <;> with_reducible rfl
  try simp only [Act.put, List.setIfInBounds_toArray, List.set_cons_zero, List.set_cons_succ]
  refine wpS_take 4 (v := ?_) hSw rfl (by kernel_rfl) (by kernel_rfl) (by kernel_rfl) (by rfl) (fun w' hin => ?_) ?_
  rotate_left
  · (try simp only [] at hin); go_simp <;> with_reducible rfl
  try simp only [Act.put, List.setIfInBounds_toArray, List.set_cons_zero, List.set_cons_succ]
  refine wpS_one 3 rfl (by kernel_rfl) (by rfl) (fun K hK => ?_)
  go_simp
  refine (take_nil _).mono ?_
  rintro e w3 ⟨rfl, hb3⟩
  simp only []
  refine hK.out _ _ (Ext W.drew) (fun _ h => h) (hb3) (fun hSw => ?_)
  clear hK K
  try simp only [Act.put, List.setIfInBounds_toArray, List.set_cons_zero, List.set_cons_succ]
  refine wpS_one 5 rfl (by kernel_rfl) (by rfl) (fun K hK => ?_)
  go_simp
  refine (refSame_eq (fun _ => True) (fun _ => True) rs0 none none 0 0 0 0 none none 0 0 0 0 _ (rs0_V _ _) (rs0_V _ _)).mono ?_
  rintro e w4 ⟨rfl, hb4⟩
  simp only []
  refine hK.out _ _ (Ext W.drew) (fun _ h => h) (hb3.trans hb4) (fun hSw => ?_)
  clear hK K
  try simp only [Act.put, List.setIfInBounds_toArray, List.set_cons_zero, List.set_cons_succ]
  refine wpS_take 6 (v := ?_) hSw rfl (by kernel_rfl) (by kernel_rfl) (by kernel_rfl) (by rfl) (fun w' hin => ?_) ?_
  rotate_left
  · (try simp only [] at hin); go_simp <;> with_reducible rfl
  try simp only [Act.put, List.setIfInBounds_toArray, List.set_cons_zero, List.set_cons_succ]
  refine wpS_take 7 (v := ?_) hSw rfl (by kernel_rfl) (by kernel_rfl) (by kernel_rfl) (by rfl) (fun w' hin => ?_) ?_
  rotate_left
  · (try simp only [] at hin); go_simp <;> with_reducible rfl
  try simp only [Act.put, List.setIfInBounds_toArray, List.set_cons_zero, List.set_cons_succ]
  refine wpS_take 8 (v := ?_) hSw rfl (by kernel_rfl) (by kernel_rfl) (by kernel_rfl) (by rfl) (fun w' hin => ?_) ?_
  rotate_left
  · (try simp only [] at hin); go_simp <;> with_reducible rfl
  try simp only [Act.put, List.setIfInBounds_toArray, List.set_cons_zero, List.set_cons_succ]
  refine wpS_take 10 (v := ?_) hSw rfl (by kernel_rfl) (by kernel_rfl) (by kernel_rfl) (by rfl) (fun w' hin => ?_) ?_
  rotate_left
  · (try simp only [] at hin); go_simp <;> with_reducible rfl
  try simp only [Act.put, List.setIfInBounds_toArray, List.set_cons_zero, List.set_cons_succ]
  refine wpS_one 9 rfl (by kernel_rfl) (by rfl) (fun K hK => ?_)
  go_simp
  refine (takeKey_nil _).mono ?_
  rintro e w5 ⟨rfl, hb5⟩
  simp only []
  refine hK.out _ _ (Ext W.drew) (fun _ h => h) ((hb3.trans hb4).trans hb5) (fun hSw => ?_)
  clear hK K
  try simp only [Act.put, List.setIfInBounds_toArray, List.set_cons_zero, List.set_cons_succ]
  refine wpS_take 11 (v := ?_) hSw rfl (by kernel_rfl) (by kernel_rfl) (by kernel_rfl) (by rfl) (fun w' hin => ?_) ?_
  rotate_left
  · (try simp only [] at hin); go_simp <;> with_reducible rfl
  try simp only [Act.put, List.setIfInBounds_toArray, List.set_cons_zero, List.set_cons_succ]
  refine wpS_take 12 (v := ?_) hSw rfl (by kernel_rfl) (by kernel_rfl) (by kernel_rfl) (by rfl) (fun w' hin => ?_) ?_
  rotate_left
  · (try simp only [] at hin); go_simp <;> with_reducible rfl
  try simp only [Act.put, List.setIfInBounds_toArray, List.set_cons_zero, List.set_cons_succ]
  refine wpS_take 13 (v := ?_) hSw rfl (by kernel_rfl) (by kernel_rfl) (by kernel_rfl) (by rfl) (fun w' hin => ?_) ?_
  rotate_left
  · (try simp only [] at hin); go_simp <;> with_reducible rfl
  try simp only [Act.put, List.setIfInBounds_toArray, List.set_cons_zero, List.set_cons_succ]
  refine wpS_take 14 (v := ?_) hSw rfl (by kernel_rfl) (by kernel_rfl) (by kernel_rfl) (by rfl) (fun w' hin => ?_) ?_
  rotate_left
  · (try simp only [] at hin); go_simp <;> with_reducible rfl
  try simp only [Act.put, List.setIfInBounds_toArray, List.set_cons_zero, List.set_cons_succ]
  refine wpS_one 15 rfl (by kernel_rfl) (by rfl) (fun K hK => ?_)
  go_simp
  refine (takeAll_nil _).mono ?_
  rintro e w6 ⟨rfl, rfl⟩
  simp only []
  refine hK.out _ _ (Ext W.drew) (fun _ h => h) ((hb3.trans hb4).trans hb5) (fun hSw => ?_)
  clear hK K
  try simp only [Act.put, List.setIfInBounds_toArray, List.set_cons_zero, List.set_cons_succ]
  refine wpS_take 16 (v := ?_) hSw rfl (by kernel_rfl) (by kernel_rfl) (by kernel_rfl) (by rfl) (fun w' hin => ?_) ?_
  rotate_left
  · (try simp only [] at hin); go_simp <;> with_reducible rfl
  try simp only [Act.put, List.setIfInBounds_toArray, List.set_cons_zero, List.set_cons_succ]
  refine wpS_take 17 (v := ?_) hSw rfl (by kernel_rfl) (by kernel_rfl) (by kernel_rfl) (by rfl) (fun w' hin => ?_) ?_
  rotate_left
  · (try simp only [] at hin); go_simp <;> with_reducible rfl
  try simp only [Act.put, List.setIfInBounds_toArray, List.set_cons_zero, List.set_cons_succ]
  refine wpS_take 18 (v := ?_) hSw rfl (by kernel_rfl) (by kernel_rfl) (by kernel_rfl) (by rfl) (fun w' hin => ?_) ?_
  rotate_left
  · (try simp only [] at hin); go_simp <;> with_reducible rfl
  try simp only [Act.put, List.setIfInBounds_toArray, List.set_cons_zero, List.set_cons_succ]
  refine wpS_take 19 (v := ?_) hSw rfl (by kernel_rfl) (by kernel_rfl) (by kernel_rfl) (by rfl) (fun w' hin => ?_) ?_
  rotate_left
  · (try simp only [] at hin); go_simp <;> with_reducible rfl
  try simp only [Act.put, List.setIfInBounds_toArray, List.set_cons_zero, List.set_cons_succ]
  refine wpS_take 20 (v := ?_) hSw rfl (by kernel_rfl) (by kernel_rfl) (by kernel_rfl) (by rfl) (fun w' hin => ?_) ?_
  rotate_left
  · (try simp only [] at hin); go_simp <;> with_reducible rfl
  try simp only [Act.put, List.setIfInBounds_toArray, List.set_cons_zero, List.set_cons_succ]
  refine wpS_one 21 rfl (by kernel_rfl) (by rfl) (fun K hK => ?_)
  go_simp
  refine (takeKeys_nil _).mono ?_
  rintro e w7 ⟨rfl, rfl⟩
  simp only []
  refine hK.out _ _ (Ext W.drew) (fun _ h => h) ((hb3.trans hb4).trans hb5) (fun hSw => ?_)
  clear hK K
  try simp only [Act.put, List.setIfInBounds_toArray, List.set_cons_zero, List.set_cons_succ]
  refine wpS_take 22 (v := ?_) hSw rfl (by kernel_rfl) (by kernel_rfl) (by kernel_rfl) (by rfl) (fun w' hin => ?_) ?_
  rotate_left
  · (try simp only [] at hin); go_simp <;> with_reducible rfl
  try simp only [Act.put, List.setIfInBounds_toArray, List.set_cons_zero, List.set_cons_succ]
  refine wpS_take 23 (v := ?_) hSw rfl (by kernel_rfl) (by kernel_rfl) (by kernel_rfl) (by rfl) (fun w' hin => ?_) ?_
  rotate_left
  · (try simp only [] at hin); go_simp <;> with_reducible rfl
  try simp only [Act.put, List.setIfInBounds_toArray, List.set_cons_zero, List.set_cons_succ]
  refine wpS_take 24 (v := ?_) hSw rfl (by kernel_rfl) (by kernel_rfl) (by kernel_rfl) (by rfl) (fun w' hin => ?_) ?_
  rotate_left
  · (try simp only [] at hin); go_simp <;> with_reducible rfl
  try simp only [Act.put, List.setIfInBounds_toArray, List.set_cons_zero, List.set_cons_succ]
  refine wpS_take 25 (v := ?_) hSw rfl (by kernel_rfl) (by kernel_rfl) (by kernel_rfl) (by rfl) (fun w' hin => ?_) ?_
  rotate_left
  · (try simp only [] at hin); go_simp <;> with_reducible rfl
  try simp only [Act.put, List.setIfInBounds_toArray, List.set_cons_zero, List.set_cons_succ]
  refine wpS_take 26 (v := ?_) hSw rfl (by kernel_rfl) (by kernel_rfl) (by kernel_rfl) (by rfl) (fun w' hin => ?_) ?_
  rotate_left
  · (try simp only [] at hin); go_simp <;> with_reducible rfl
  try simp only [Act.put, List.setIfInBounds_toArray, List.set_cons_zero, List.set_cons_succ]
  refine wpS_take 27 (v := ?_) hSw rfl (by kernel_rfl) (by kernel_rfl) (by kernel_rfl) (by rfl) (fun w' hin => ?_) ?_
  rotate_left
  · (try simp only [] at hin); go_simp <;> with_reducible rfl
  try simp only [Act.put, List.setIfInBounds_toArray, List.set_cons_zero, List.set_cons_succ]
  refine wpS_one 28 rfl (by kernel_rfl) (by rfl) (fun K hK => ?_)
  go_simp
  refine (refSame_eq (fun b => (w1.alloc (.cells #[.slice A n c, .int .i64 6] 44)).heap.size ≤ b) (fun _ => True) rs0 C none m f 0 0 C' none m' f' 0 0 _ (HV2.out.up (EW.out.trans ((Ext.refl W).drew.trans hSw))) (rs0_V _ _)).mono ?_
  rintro e w8 ⟨rfl, hb8⟩
  simp only []
  refine hK.out _ _ (Ext W.drew) (fun _ h => h) (((hb3.trans hb4).trans hb5).trans hb8) (fun hSw => ?_)
  clear hK K
  try simp only [Act.put, List.setIfInBounds_toArray, List.set_cons_zero, List.set_cons_succ]
  refine wpS_take 29 (v := ?_) hSw rfl (by kernel_rfl) (by kernel_rfl) (by kernel_rfl) (by rfl) (fun w' hin => ?_) ?_
  rotate_left
  · (try simp only [] at hin); go_simp <;> with_reducible rfl
  try simp only [Act.put, List.setIfInBounds_toArray, List.set_cons_zero, List.set_cons_succ]
  refine wpS_take 30 (v := ?_) hSw rfl (by kernel_rfl) (by kernel_rfl) (by kernel_rfl) (by rfl) (fun w' hin => ?_) ?_
  rotate_left
  · (try simp only [] at hin); go_simp <;> with_reducible rfl
  try simp only [Act.put, List.setIfInBounds_toArray, List.set_cons_zero, List.set_cons_succ]
  refine wpS_take 31 (v := ?_) hSw rfl (by kernel_rfl) (by kernel_rfl) (by kernel_rfl) (by rfl) (fun w' hin => ?_) ?_
  rotate_left
  · (try simp only [] at hin); go_simp <;> with_reducible rfl
  try simp only [Act.put, List.setIfInBounds_toArray, List.set_cons_zero, List.set_cons_succ]
  refine wpS_take 32 (v := ?_) hSw rfl (by kernel_rfl) (by kernel_rfl) (by kernel_rfl) (by rfl) (fun w' hin => ?_) ?_
  rotate_left
  · (try simp only [] at hin); go_simp <;> with_reducible rfl
  try simp only [Act.put, List.setIfInBounds_toArray, List.set_cons_zero, List.set_cons_succ]
  refine wpS_take 33 (v := ?_) hSw rfl (by kernel_rfl) (by kernel_rfl) (by kernel_rfl) (by rfl) (fun w' hin => ?_) ?_
  rotate_left
  · (try simp only [] at hin); go_simp <;> with_reducible rfl
  try simp only [Act.put, List.setIfInBounds_toArray, List.set_cons_zero, List.set_cons_succ]
  refine wpS_take 34 (v := ?_) hSw rfl (by kernel_rfl) (by kernel_rfl) (by kernel_rfl) (by rfl) (fun w' hin => ?_) ?_
  rotate_left
  · (try simp only [] at hin); go_simp <;> with_reducible rfl
  try simp only [Act.put, List.setIfInBounds_toArray, List.set_cons_zero, List.set_cons_succ]
  refine wpS_take 35 (v := ?_) hSw rfl (by kernel_rfl) (by kernel_rfl) (by kernel_rfl) (by rfl) (fun w' hin => ?_) ?_
  rotate_left
  · (try simp only [] at hin); go_simp <;> with_reducible rfl
  try simp only [Act.put, List.setIfInBounds_toArray, List.set_cons_zero, List.set_cons_succ]
  refine wpS_take 36 (v := ?_) hSw rfl (by kernel_rfl) (by kernel_rfl) (by kernel_rfl) (by rfl) (fun w' hin => ?_) ?_
  rotate_left
  · (try simp only [] at hin); go_simp <;> with_reducible rfl
  try simp only [Act.put, List.setIfInBounds_toArray, List.set_cons_zero, List.set_cons_succ]
  refine wpS_take 37 (v := ?_) hSw rfl (by kernel_rfl) (by kernel_rfl) (by kernel_rfl) (by rfl) (fun w' hin => ?_) ?_
  rotate_left
  · (try simp only [] at hin); go_simp <;> with_reducible rfl
  try simp only [Act.put, List.setIfInBounds_toArray, List.set_cons_zero, List.set_cons_succ]
  refine wpS_take 38 (v := ?_) hSw rfl (by kernel_rfl) (by kernel_rfl) (by kernel_rfl) (by rfl) (fun w' hin => ?_) ?_
  rotate_left
  · (try simp only [] at hin); go_simp <;> with_reducible rfl
  try simp only [Act.put, List.setIfInBounds_toArray, List.set_cons_zero, List.set_cons_succ]
  refine wpS_take 39 (v := ?_) hSw rfl (by kernel_rfl) (by kernel_rfl) (by kernel_rfl) (by rfl) (fun w' hin => ?_) ?_
  rotate_left
  · (try simp only [] at hin); go_simp <;> with_reducible rfl
  try simp only [Act.put, List.setIfInBounds_toArray, List.set_cons_zero, List.set_cons_succ]
  refine wpS_take 40 (v := ?_) hSw rfl (by kernel_rfl) (by kernel_rfl) (by kernel_rfl) (by rfl) (fun w' hin => ?_) ?_
  rotate_left
  · (try simp only [] at hin); go_simp <;> with_reducible rfl
  try simp only [Act.put, List.setIfInBounds_toArray, List.set_cons_zero, List.set_cons_succ]
  refine wpS_take 41 (v := ?_) hSw rfl (by kernel_rfl) (by kernel_rfl) (by kernel_rfl) (by rfl) (fun w' hin => ?_) ?_
  rotate_left
  · (try simp only [] at hin); go_simp <;> with_reducible rfl
  try simp only [Act.put, List.setIfInBounds_toArray, List.set_cons_zero, List.set_cons_succ]
  refine wpS_take 42 (v := ?_) hSw rfl (by kernel_rfl) (by kernel_rfl) (by kernel_rfl) (by rfl) (fun w' hin => ?_) ?_
  rotate_left
  · (try simp only [] at hin); go_simp <;> with_reducible rfl
  try simp only [Act.put, List.setIfInBounds_toArray, List.set_cons_zero, List.set_cons_succ]
  refine wpS_take 43 (v := ?_) hSw rfl (by kernel_rfl) (by kernel_rfl) (by kernel_rfl) (by rfl) (fun w' hin => ?_) ?_
  rotate_left
  · (try simp only [] at hin); go_simp <;> with_reducible rfl
  try simp only [Act.put, List.setIfInBounds_toArray, List.set_cons_zero, List.set_cons_succ]
  refine wpS_take 44 (v := ?_) hSw rfl (by kernel_rfl) (by kernel_rfl) (by kernel_rfl) (by rfl) (fun w' hin => ?_) ?_
  rotate_left
  · (try simp only [] at hin); go_simp <;> with_reducible rfl
  try simp only [Act.put, List.setIfInBounds_toArray, List.set_cons_zero, List.set_cons_succ]
  refine wpS_take 45 (v := ?_) hSw rfl (by kernel_rfl) (by kernel_rfl) (by kernel_rfl) (by rfl) (fun w' hin => ?_) ?_
  rotate_left
  · (try simp only [] at hin); go_simp <;> with_reducible rfl
  try simp only [Act.put, List.setIfInBounds_toArray, List.set_cons_zero, List.set_cons_succ]
  refine wpS_take 46 (v := ?_) hSw rfl (by kernel_rfl) (by kernel_rfl) (by kernel_rfl) (by rfl) (fun w' hin => ?_) ?_
  rotate_left
  · (try simp only [] at hin); go_simp <;> with_reducible rfl
  try simp only [Act.put, List.setIfInBounds_toArray, List.set_cons_zero, List.set_cons_succ]
  refine wpS_take 47 (v := ?_) hSw rfl (by kernel_rfl) (by kernel_rfl) (by kernel_rfl) (by rfl) (fun w' hin => ?_) ?_
  rotate_left
  · (try simp only [] at hin); go_simp <;> with_reducible rfl
  try simp only [Act.put, List.setIfInBounds_toArray, List.set_cons_zero, List.set_cons_succ]
  refine wpS_done (by kernel_rfl) ?_
  clear t0 t1 t2 t3 t4 t5 t6 s0 s1 v0 v1
  have EF := Lib.hid (E2.out.trans (EW.out.trans ((Ext.refl W).drew.trans (((hb3.trans hb4).trans hb5).trans hb8))))
  go_wp2_with fail
  go_ret
  exact ⟨rfl, EF.out⟩
end Go.Proofs.YtepifkmileilfaaDoor
