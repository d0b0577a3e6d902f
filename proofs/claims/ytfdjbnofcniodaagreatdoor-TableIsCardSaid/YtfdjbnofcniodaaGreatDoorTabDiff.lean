/- What package table's Diff computes. -/
import Derived.Test.YtfdjbnofcniodaaGreatDoorTabIx
import Derived.Test.YtfdjbnofcniodaaGreatDoorDelK
import Derived.Test.YtfdjbnofcniodaaGreatDoorGround
namespace Go.Proofs.YtfdjbnofcniodaaGreatDoor
set_option linter.unusedVariables false
open Go.RowKit Go.Maps

/-- a box that holds a map of some resources -/
structure MapBox (w : World) (g mb n : Nat) (l : List Rs) (f : Ky → Option Value) : Prop where
  box : w.heap[g]? = some (.cells #[.map (some mb)] 136 (0, 0))
  map : MapOf w mb n f
  holds : Holds w l f
theorem MapBox.up {w w' : World} {g mb n : Nat} {l : List Rs} {f : Ky → Option Value} (h : MapBox w g mb n l f) (he : Ext w w') : MapBox w' g mb n l f :=
  ⟨(he.block (Array.getElem?_eq_some_iff.1 h.box).1).trans h.box, h.map.up he, h.holds.up he⟩
def newP (a : List Rs) (r : Rs) : Bool := match getT a r.key with | none => true | some x => !sameR x r
section
theorem wpS_two {P : Program} {Q : Exit → Act → World → Prop} {md : Region.Mode} (i j : Nat) {S : World → Prop} {l : List Oper} {oi oj : Oper} {fuel : Nat} {listed : Array Bool} {a : Act} {w : World} (hi : l[i]? = some oi) (hj : l[j]? = some oj)
    (hr : Region.ready md l.toArray listed = [i, j]) (hwi : Region.wanted oi (yielded l.toArray a.tmps) = true) (hwj : Region.wanted oj (yielded l.toArray a.tmps) = true)
    (h1 : ∀ K : Act → World → Prop, Shut (∀ a w' (S' : World → Prop), (∀ x, S' x → S x) → S' w' → (S' w' → wpS P md l.toArray Q S' fuel (listed.setIfInBounds i true) a w') → K a w') → Oper.wp P oi a w K Q)
    (h2 : ∀ K : Act → World → Prop, Shut (∀ a w' (S' : World → Prop), (∀ x, S' x → S x) → S' w' → (S' w' → wpS P md l.toArray Q S' fuel (listed.setIfInBounds j true) a w') → K a w') → Oper.wp P oj a w K Q) : wpS P md l.toArray Q S (fuel + 1) listed a w := by
  refine wpAnyH_all hr (by simp) fun k hk => ?_
  rcases (by simpa using hk : k = i ∨ k = j) with rfl | rfl
  · refine wpOp_step (o := oi) (by simpa using hi) fun K hK => ?_
    rw [if_pos hwi]
    exact h1 K fun a w' S' hSS hS hh => hK a w' ⟨hSS _ hS, wpAnyH_stronger hSS _ _ _ _ (hh hS)⟩
  · refine wpOp_step (o := oj) (by simpa using hj) fun K hK => ?_
    rw [if_pos hwj]
    exact h2 K fun a w' S' hSS hS hh => hK a w' ⟨hSS _ hS, wpAnyH_stronger hSS _ _ _ _ (hh hS)⟩
end
set_option maxRecDepth 100000 in
set_option maxHeartbeats 4000000 in
theorem diff1_pred (a l : List Rs) (f : Ky → Option Value) (g mb n : Nat) (w0 : World) (hM : MapBox w0 g mb n a f) (hwf : ∀ x ∈ l, wfK x.key) : PredRs w0 111 #[.pointer (some ⟨g, 0, none⟩)] (newP a) l := by
  refine ⟨Tryz.call111, fun r hr B m d B' m' d' w he hv => ?_⟩
  show Calls Tryz.prog 111 #[rsVal r B m d B' m' d', .pointer (some ⟨g, 0, none⟩)] w _
  have HM := Lib.hid (hM.up he)
  have HV := Lib.hid hv
  have HWK := Lib.hid (hwf r hr)
  clear hM hv hwf hr he
  unfold rsVal
  go_enter Tryz.func111, Tryz.ntmps111
  go_wp2_with fail
  have KB := Lib.hid (heap_alloc_new w (.cells #[.int .i64 r.kind, .string r.name, .int .i64 r.ver, .int .i64 r.port, .string r.to, .slice B m d, .slice B' m' d'] 34))
  have EW := Lib.hid (Ext.new w (.cells #[.int .i64 r.kind, .string r.name, .int .i64 r.ver, .int .i64 r.port, .string r.to, .slice B m d, .slice B' m' d'] 34))
  have hzW : w.heap.size < (w.alloc (.cells #[.int .i64 r.kind, .string r.name, .int .i64 r.ver, .int .i64 r.port, .string r.to, .slice B m d, .slice B' m' d'] 34)).heap.size := by simp
  generalize w.alloc (.cells #[.int .i64 r.kind, .string r.name, .int .i64 r.ver, .int .i64 r.port, .string r.to, .slice B m d, .slice B' m' d'] 34) = W at KB EW hzW ⊢
  have HMW := Lib.hid (HM.out.up EW.out)
  have hgW : g < W.heap.size := (Array.getElem?_eq_some_iff.1 HMW.out.box).1
  obtain ⟨qb, -⟩ := blk_rules KB.out
  obtain ⟨qg, -⟩ := blk_rules HMW.out.box
  have g0 : ∀ w', Ext W.drew w' → w'.cell? ⟨g, 0, none⟩ = some (.map (some mb)) := fun w' h => (((Ext.refl W).drew.trans h).cell hgW).trans (qg 0)
  have t0 : ∀ w', Ext W.drew w' → w'.cell? ⟨w.heap.size, 0, none⟩ = some (.int .i64 r.kind) := fun w' h => (((Ext.refl W).drew.trans h).cell hzW).trans (qb 0)
  have t1 : ∀ w', Ext W.drew w' → w'.cell? ⟨w.heap.size, 1, none⟩ = some (.string r.name) := fun w' h => (((Ext.refl W).drew.trans h).cell hzW).trans (qb 1)
  have t2 : ∀ w', Ext W.drew w' → w'.cell? ⟨w.heap.size, 2, none⟩ = some (.int .i64 r.ver) := fun w' h => (((Ext.refl W).drew.trans h).cell hzW).trans (qb 2)
  have t3 : ∀ w', Ext W.drew w' → w'.cell? ⟨w.heap.size, 3, none⟩ = some (.int .i64 r.port) := fun w' h => (((Ext.refl W).drew.trans h).cell hzW).trans (qb 3)
  have t4 : ∀ w', Ext W.drew w' → w'.cell? ⟨w.heap.size, 4, none⟩ = some (.string r.to) := fun w' h => (((Ext.refl W).drew.trans h).cell hzW).trans (qb 4)
  have t5 : ∀ w', Ext W.drew w' → w'.cell? ⟨w.heap.size, 5, none⟩ = some (.slice B m d) := fun w' h => (((Ext.refl W).drew.trans h).cell hzW).trans (qb 5)
  have t6 : ∀ w', Ext W.drew w' → w'.cell? ⟨w.heap.size, 6, none⟩ = some (.slice B' m' d') := fun w' h => (((Ext.refl W).drew.trans h).cell hzW).trans (qb 6)
  have L0 : ∀ w', Ext W.drew w' → (Instr.lookup 136 (.map (some mb)) (.agg #[.int .i64 r.kind, .string r.name]) true).run Tryz.prog w' = .ok (.tuple #[(f r.key).getD zRes, .bool (f r.key).isSome]) w' := fun w' h => (HMW.out.map.up ((Ext.refl W).drew.trans h)).look HWK.out
  clear qb qg
  have HH := HMW.out.holds r.key
  cases hg : getT a r.key with
  | none =>
    have hf := HH.1 hg
    have HR : Hid (newP a r = true) := Lib.hid (by unfold newP; rw [hg])
    rw [hf] at L0
    simp only [Option.getD_none, Option.isSome_none, zRes] at L0
    clear HH hg hf
    go_wp2_with fail
    have hSw : Ext W.drew W.drew := Ext.refl _
    refine wpS_begin (Ext W.drew) (by kernel_rfl) ?_
    refine wpS_take 0 (v := ?_) hSw rfl (by kernel_rfl) (by kernel_rfl) (by kernel_rfl) (by rfl) (fun w' hin => ?_) ?_
    rotate_left
    · (try simp only [] at hin); go_simp <;> with_reducible rfl
    try simp only [Act.put, List.setIfInBounds_toArray, List.set_cons_zero, List.set_cons_succ]
    refine wpS_take 1 (v := ?_) hSw rfl (by kernel_rfl) (by kernel_rfl) (by kernel_rfl) (by rfl) (fun w' hin => ?_) ?_
    rotate_left
    · (try simp only [] at hin); go_simp <;> with_reducible rfl
    try simp only [Act.put, List.setIfInBounds_toArray, List.set_cons_zero, List.set_cons_succ]
    refine wpS_two 2 7 rfl rfl (by kernel_rfl) (by rfl) (by rfl) (fun K hK => ?_) (fun K hK => ?_)
    · go_simp
      refine (key_any r B m d B' m' d' _).mono ?_
      rintro e w5 ⟨rfl, hb5⟩
      have E5 : Ext W.drew w5 := hSw.trans hb5
      simp only []
      refine hK.out _ _ (Ext W.drew) (fun _ h => h) E5 (fun hSw => ?_)
      clear hK K
      try simp only [Act.put, List.setIfInBounds_toArray, List.set_cons_zero, List.set_cons_succ]
      refine wpS_take 3 (v := ?_) hSw rfl (by kernel_rfl) (by kernel_rfl) (by kernel_rfl) (by rfl) (fun w' hin => ?_) ?_
      rotate_left
      · (try simp only [] at hin); go_simp <;> with_reducible rfl
      try simp only [Act.put, List.setIfInBounds_toArray, List.set_cons_zero, List.set_cons_succ]
      refine wpS_take 4 (v := ?_) hSw rfl (by kernel_rfl) (by kernel_rfl) (by kernel_rfl) (by rfl) (fun w' hin => ?_) ?_
      rotate_left
      · (try simp only [] at hin); go_simp <;> with_reducible rfl
      try simp only [Act.put, List.setIfInBounds_toArray, List.set_cons_zero, List.set_cons_succ]
      refine wpS_take 5 (v := ?_) hSw rfl (by kernel_rfl) (by kernel_rfl) (by kernel_rfl) (by rfl) (fun w' hin => ?_) ?_
      rotate_left
      · (try simp only [] at hin); go_simp <;> with_reducible rfl
      try simp only [Act.put, List.setIfInBounds_toArray, List.set_cons_zero, List.set_cons_succ]
      refine wpS_take 6 (v := ?_) hSw rfl (by kernel_rfl) (by kernel_rfl) (by kernel_rfl) (by rfl) (fun w' hin => ?_) ?_
      rotate_left
      · (try simp only [] at hin); go_simp <;> with_reducible rfl
      try simp only [Act.put, List.setIfInBounds_toArray, List.set_cons_zero, List.set_cons_succ]
      refine wpS_one 7 rfl (by kernel_rfl) (by rfl) (fun K hK => ?_)
      go_simp
      refine hK.out _ _ (Ext W.drew) (fun _ h => h) (E5.trans (Ext.new _ _)) (fun hSw => ?_)
      clear hK K
      try simp only [Act.put, List.setIfInBounds_toArray, List.set_cons_zero, List.set_cons_succ]
      refine wpS_one 8 rfl (by kernel_rfl) (by rfl) (fun K hK => ?_)
      go_simp
      refine hK.out _ _ (Ext W.drew) (fun _ h => h) (E5.trans (Ext.new w5 (.cells #[.int .i64 0, .string ⟨#[]⟩, .int .i64 0, .int .i64 0, .string ⟨#[]⟩, .slice none 0 0, .slice none 0 0] 34))) (fun hSw => ?_)
      clear hK K
      try simp only [Act.put, List.setIfInBounds_toArray, List.set_cons_zero, List.set_cons_succ]
      refine wpS_take 9 (v := ?_) hSw rfl (by kernel_rfl) (by kernel_rfl) (by kernel_rfl) (by rfl) (fun w' hin => ?_) ?_
      rotate_left
      · (try simp only [] at hin); go_simp <;> with_reducible rfl
      try simp only [Act.put, List.setIfInBounds_toArray, List.set_cons_zero, List.set_cons_succ]
      refine wpS_done (by kernel_rfl) ?_
      have EX : Hid (Ext W (w5.alloc (.cells #[.int .i64 0, .string ⟨#[]⟩, .int .i64 0, .int .i64 0, .string ⟨#[]⟩, .slice none 0 0, .slice none 0 0] 34))) := Lib.hid ((Ext.refl W).drew.trans (E5.trans (Ext.new _ _)))
      have KX := Lib.hid (heap_alloc_new w5 (.cells #[.int .i64 0, .string ⟨#[]⟩, .int .i64 0, .int .i64 0, .string ⟨#[]⟩, .slice none 0 0, .slice none 0 0] 34))
      clear g0 L0 t0 t1 t2 t3 t4 t5 t6 hSw hb5 E5
      generalize w5.alloc (.cells #[.int .i64 0, .string ⟨#[]⟩, .int .i64 0, .int .i64 0, .string ⟨#[]⟩, .slice none 0 0, .slice none 0 0] 34) = Wf at EX KX ⊢
      go_wp2_with fail
      go_ret
      exact ⟨ret_bool HR.out.symm, EW.out.trans EX.out⟩
    · go_simp
      refine hK.out _ _ (Ext W.drew) (fun _ h => h) (Ext.new _ _) (fun hSw => ?_)
      clear hK K
      try simp only [Act.put, List.setIfInBounds_toArray, List.set_cons_zero, List.set_cons_succ]
      refine wpS_one 2 rfl (by kernel_rfl) (by rfl) (fun K hK => ?_)
      go_simp
      refine (key_any r B m d B' m' d' _).mono ?_
      rintro e w5 ⟨rfl, hb5⟩
      have E5 : Ext W.drew w5 := hSw.trans hb5
      have KZ : w5.heap[W.heap.size]? = some (.cells #[.int .i64 0, .string ⟨#[]⟩, .int .i64 0, .int .i64 0, .string ⟨#[]⟩, .slice none 0 0, .slice none 0 0] 34 (0, 0)) := box_at (w := W.drew) hb5
      simp only []
      refine hK.out _ _ (Ext W.drew) (fun _ h => h) E5 (fun hSw => ?_)
      clear hK K
      try simp only [Act.put, List.setIfInBounds_toArray, List.set_cons_zero, List.set_cons_succ]
      refine wpS_take 3 (v := ?_) hSw rfl (by kernel_rfl) (by kernel_rfl) (by kernel_rfl) (by rfl) (fun w' hin => ?_) ?_
      rotate_left
      · (try simp only [] at hin); go_simp <;> with_reducible rfl
      try simp only [Act.put, List.setIfInBounds_toArray, List.set_cons_zero, List.set_cons_succ]
      refine wpS_take 4 (v := ?_) hSw rfl (by kernel_rfl) (by kernel_rfl) (by kernel_rfl) (by rfl) (fun w' hin => ?_) ?_
      rotate_left
      · (try simp only [] at hin); go_simp <;> with_reducible rfl
      try simp only [Act.put, List.setIfInBounds_toArray, List.set_cons_zero, List.set_cons_succ]
      refine wpS_take 5 (v := ?_) hSw rfl (by kernel_rfl) (by kernel_rfl) (by kernel_rfl) (by rfl) (fun w' hin => ?_) ?_
      rotate_left
      · (try simp only [] at hin); go_simp <;> with_reducible rfl
      try simp only [Act.put, List.setIfInBounds_toArray, List.set_cons_zero, List.set_cons_succ]
      refine wpS_take 6 (v := ?_) hSw rfl (by kernel_rfl) (by kernel_rfl) (by kernel_rfl) (by rfl) (fun w' hin => ?_) ?_
      rotate_left
      · (try simp only [] at hin); go_simp <;> with_reducible rfl
      try simp only [Act.put, List.setIfInBounds_toArray, List.set_cons_zero, List.set_cons_succ]
      obtain ⟨z0, z1⟩ := blk_rules KZ
      have hz5 : W.heap.size < w5.heap.size := (Array.getElem?_eq_some_iff.1 KZ).1
      refine wpS_one 8 rfl (by kernel_rfl) (by rfl) (fun K hK => ?_)
      go_simp
      clear z0 z1
      generalize hVV : ((((((w5.setCell ⟨W.heap.size, 0, none⟩ (.int .i64 0)).setCell ⟨W.heap.size, 1, none⟩ (.string ⟨#[]⟩)).setCell ⟨W.heap.size, 2, none⟩ (.int .i64 0)).setCell ⟨W.heap.size, 3, none⟩ (.int .i64 0)).setCell ⟨W.heap.size, 4, none⟩ (.string ⟨#[]⟩)).setCell ⟨W.heap.size, 5, none⟩ (.slice none 0 0)).setCell ⟨W.heap.size, 6, none⟩ (.slice none 0 0) = Wf
      obtain ⟨KX, oV, -⟩ := set7 KZ (.int .i64 0) (.string ⟨#[]⟩) (.int .i64 0) (.int .i64 0) (.string ⟨#[]⟩) (.slice none 0 0) (.slice none 0 0) hVV
      have EV : Ext W.drew Wf := oV W.drew E5 (Nat.le_refl _)
      clear hVV oV
      refine hK.out _ _ (Ext W.drew) (fun _ h => h) EV (fun hSw => ?_)
      clear hK K
      try simp only [Act.put, List.setIfInBounds_toArray, List.set_cons_zero, List.set_cons_succ]
      refine wpS_take 9 (v := ?_) hSw rfl (by kernel_rfl) (by kernel_rfl) (by kernel_rfl) (by rfl) (fun w' hin => ?_) ?_
      rotate_left
      · (try simp only [] at hin); go_simp <;> with_reducible rfl
      try simp only [Act.put, List.setIfInBounds_toArray, List.set_cons_zero, List.set_cons_succ]
      refine wpS_done (by kernel_rfl) ?_
      have EX : Hid (Ext W Wf) := Lib.hid ((Ext.refl W).drew.trans EV)
      have KX := Lib.hid KX
      clear g0 L0 t0 t1 t2 t3 t4 t5 t6 hSw hb5 E5 KZ EV hz5
      go_wp2_with fail
      go_ret
      exact ⟨ret_bool HR.out.symm, EW.out.trans EX.out⟩
  | some x =>
    obtain ⟨C, p, e, C', p', e', hf, hvx⟩ := HH.2 x hg
    have HR : Hid ((!sameR x r) = newP a r) := Lib.hid (by unfold newP; rw [hg])
    have HVX := Lib.hid hvx
    rw [hf] at L0
    simp only [Option.getD_some, Option.isSome_some, rsVal] at L0
    clear HH hg hf hvx
    go_wp2_with fail
    have hSw : Ext W.drew W.drew := Ext.refl _
    refine wpS_begin (Ext W.drew) (by kernel_rfl) ?_
    refine wpS_take 0 (v := ?_) hSw rfl (by kernel_rfl) (by kernel_rfl) (by kernel_rfl) (by rfl) (fun w' hin => ?_) ?_
    rotate_left
    · (try simp only [] at hin); go_simp <;> with_reducible rfl
    try simp only [Act.put, List.setIfInBounds_toArray, List.set_cons_zero, List.set_cons_succ]
    refine wpS_take 1 (v := ?_) hSw rfl (by kernel_rfl) (by kernel_rfl) (by kernel_rfl) (by rfl) (fun w' hin => ?_) ?_
    rotate_left
    · (try simp only [] at hin); go_simp <;> with_reducible rfl
    try simp only [Act.put, List.setIfInBounds_toArray, List.set_cons_zero, List.set_cons_succ]
    refine wpS_two 2 7 rfl rfl (by kernel_rfl) (by rfl) (by rfl) (fun K hK => ?_) (fun K hK => ?_)
    · go_simp
      refine (key_any r B m d B' m' d' _).mono ?_
      rintro e w5 ⟨rfl, hb5⟩
      have E5 : Ext W.drew w5 := hSw.trans hb5
      simp only []
      refine hK.out _ _ (Ext W.drew) (fun _ h => h) E5 (fun hSw => ?_)
      clear hK K
      try simp only [Act.put, List.setIfInBounds_toArray, List.set_cons_zero, List.set_cons_succ]
      refine wpS_take 3 (v := ?_) hSw rfl (by kernel_rfl) (by kernel_rfl) (by kernel_rfl) (by rfl) (fun w' hin => ?_) ?_
      rotate_left
      · (try simp only [] at hin); go_simp <;> with_reducible rfl
      try simp only [Act.put, List.setIfInBounds_toArray, List.set_cons_zero, List.set_cons_succ]
      refine wpS_take 4 (v := ?_) hSw rfl (by kernel_rfl) (by kernel_rfl) (by kernel_rfl) (by rfl) (fun w' hin => ?_) ?_
      rotate_left
      · (try simp only [] at hin); go_simp <;> with_reducible rfl
      try simp only [Act.put, List.setIfInBounds_toArray, List.set_cons_zero, List.set_cons_succ]
      refine wpS_take 5 (v := ?_) hSw rfl (by kernel_rfl) (by kernel_rfl) (by kernel_rfl) (by rfl) (fun w' hin => ?_) ?_
      rotate_left
      · (try simp only [] at hin); go_simp <;> with_reducible rfl
      try simp only [Act.put, List.setIfInBounds_toArray, List.set_cons_zero, List.set_cons_succ]
      refine wpS_take 6 (v := ?_) hSw rfl (by kernel_rfl) (by kernel_rfl) (by kernel_rfl) (by rfl) (fun w' hin => ?_) ?_
      rotate_left
      · (try simp only [] at hin); go_simp <;> with_reducible rfl
      try simp only [Act.put, List.setIfInBounds_toArray, List.set_cons_zero, List.set_cons_succ]
      refine wpS_one 7 rfl (by kernel_rfl) (by rfl) (fun K hK => ?_)
      go_simp
      refine hK.out _ _ (Ext W.drew) (fun _ h => h) (E5.trans (Ext.new _ _)) (fun hSw => ?_)
      clear hK K
      try simp only [Act.put, List.setIfInBounds_toArray, List.set_cons_zero, List.set_cons_succ]
      refine wpS_one 8 rfl (by kernel_rfl) (by rfl) (fun K hK => ?_)
      go_simp
      refine hK.out _ _ (Ext W.drew) (fun _ h => h) (E5.trans (Ext.new w5 (.cells #[.int .i64 x.kind, .string x.name, .int .i64 x.ver, .int .i64 x.port, .string x.to, .slice C p e, .slice C' p' e'] 34))) (fun hSw => ?_)
      clear hK K
      try simp only [Act.put, List.setIfInBounds_toArray, List.set_cons_zero, List.set_cons_succ]
      refine wpS_take 9 (v := ?_) hSw rfl (by kernel_rfl) (by kernel_rfl) (by kernel_rfl) (by rfl) (fun w' hin => ?_) ?_
      rotate_left
      · (try simp only [] at hin); go_simp <;> with_reducible rfl
      try simp only [Act.put, List.setIfInBounds_toArray, List.set_cons_zero, List.set_cons_succ]
      refine wpS_done (by kernel_rfl) ?_
      have EX : Hid (Ext W (w5.alloc (.cells #[.int .i64 x.kind, .string x.name, .int .i64 x.ver, .int .i64 x.port, .string x.to, .slice C p e, .slice C' p' e'] 34))) := Lib.hid ((Ext.refl W).drew.trans (E5.trans (Ext.new _ _)))
      have KX := Lib.hid (heap_alloc_new w5 (.cells #[.int .i64 x.kind, .string x.name, .int .i64 x.ver, .int .i64 x.port, .string x.to, .slice C p e, .slice C' p' e'] 34))
      clear g0 L0 t0 t1 t2 t3 t4 t5 t6 hSw hb5 E5
      generalize w5.alloc (.cells #[.int .i64 x.kind, .string x.name, .int .i64 x.ver, .int .i64 x.port, .string x.to, .slice C p e, .slice C' p' e'] 34) = Wf at EX KX ⊢
      have KBf := Lib.hid ((EX.out.block hzW).trans KB.out)
      obtain ⟨x0, -⟩ := blk_rules KX.out
      obtain ⟨y0, -⟩ := blk_rules KBf.out
      go_wp2_with fail
      refine (same_any All All x r C p e C' p' e' B m d B' m' d' _ (HVX.out.up EX.out) (HV.out.up (EW.out.trans EX.out))).mono ?_
      rintro e9 w9 ⟨rfl, hb9⟩
      have E9 := Lib.hid ((EW.out.trans EX.out).trans hb9)
      generalize sameR x r = v at HR ⊢
      clear hb9 x0 y0
      go_wp2_with fail
      go_ret
      exact ⟨ret_bool HR.out, E9.out⟩
    · go_simp
      refine hK.out _ _ (Ext W.drew) (fun _ h => h) (Ext.new _ _) (fun hSw => ?_)
      clear hK K
      try simp only [Act.put, List.setIfInBounds_toArray, List.set_cons_zero, List.set_cons_succ]
      refine wpS_one 2 rfl (by kernel_rfl) (by rfl) (fun K hK => ?_)
      go_simp
      refine (key_any r B m d B' m' d' _).mono ?_
      rintro e w5 ⟨rfl, hb5⟩
      have E5 : Ext W.drew w5 := hSw.trans hb5
      have KZ : w5.heap[W.heap.size]? = some (.cells #[.int .i64 0, .string ⟨#[]⟩, .int .i64 0, .int .i64 0, .string ⟨#[]⟩, .slice none 0 0, .slice none 0 0] 34 (0, 0)) := box_at (w := W.drew) hb5
      simp only []
      refine hK.out _ _ (Ext W.drew) (fun _ h => h) E5 (fun hSw => ?_)
      clear hK K
      try simp only [Act.put, List.setIfInBounds_toArray, List.set_cons_zero, List.set_cons_succ]
      refine wpS_take 3 (v := ?_) hSw rfl (by kernel_rfl) (by kernel_rfl) (by kernel_rfl) (by rfl) (fun w' hin => ?_) ?_
      rotate_left
      · (try simp only [] at hin); go_simp <;> with_reducible rfl
      try simp only [Act.put, List.setIfInBounds_toArray, List.set_cons_zero, List.set_cons_succ]
      refine wpS_take 4 (v := ?_) hSw rfl (by kernel_rfl) (by kernel_rfl) (by kernel_rfl) (by rfl) (fun w' hin => ?_) ?_
      rotate_left
      · (try simp only [] at hin); go_simp <;> with_reducible rfl
      try simp only [Act.put, List.setIfInBounds_toArray, List.set_cons_zero, List.set_cons_succ]
      refine wpS_take 5 (v := ?_) hSw rfl (by kernel_rfl) (by kernel_rfl) (by kernel_rfl) (by rfl) (fun w' hin => ?_) ?_
      rotate_left
      · (try simp only [] at hin); go_simp <;> with_reducible rfl
      try simp only [Act.put, List.setIfInBounds_toArray, List.set_cons_zero, List.set_cons_succ]
      refine wpS_take 6 (v := ?_) hSw rfl (by kernel_rfl) (by kernel_rfl) (by kernel_rfl) (by rfl) (fun w' hin => ?_) ?_
      rotate_left
      · (try simp only [] at hin); go_simp <;> with_reducible rfl
      try simp only [Act.put, List.setIfInBounds_toArray, List.set_cons_zero, List.set_cons_succ]
      obtain ⟨z0, z1⟩ := blk_rules KZ
      have hz5 : W.heap.size < w5.heap.size := (Array.getElem?_eq_some_iff.1 KZ).1
      refine wpS_one 8 rfl (by kernel_rfl) (by rfl) (fun K hK => ?_)
      go_simp
      clear z0 z1
      generalize hVV : ((((((w5.setCell ⟨W.heap.size, 0, none⟩ (.int .i64 x.kind)).setCell ⟨W.heap.size, 1, none⟩ (.string x.name)).setCell ⟨W.heap.size, 2, none⟩ (.int .i64 x.ver)).setCell ⟨W.heap.size, 3, none⟩ (.int .i64 x.port)).setCell ⟨W.heap.size, 4, none⟩ (.string x.to)).setCell ⟨W.heap.size, 5, none⟩ (.slice C p e)).setCell ⟨W.heap.size, 6, none⟩ (.slice C' p' e') = Wf
      obtain ⟨KX, oV, -⟩ := set7 KZ (.int .i64 x.kind) (.string x.name) (.int .i64 x.ver) (.int .i64 x.port) (.string x.to) (.slice C p e) (.slice C' p' e') hVV
      have EV : Ext W.drew Wf := oV W.drew E5 (Nat.le_refl _)
      clear hVV oV
      refine hK.out _ _ (Ext W.drew) (fun _ h => h) EV (fun hSw => ?_)
      clear hK K
      try simp only [Act.put, List.setIfInBounds_toArray, List.set_cons_zero, List.set_cons_succ]
      refine wpS_take 9 (v := ?_) hSw rfl (by kernel_rfl) (by kernel_rfl) (by kernel_rfl) (by rfl) (fun w' hin => ?_) ?_
      rotate_left
      · (try simp only [] at hin); go_simp <;> with_reducible rfl
      try simp only [Act.put, List.setIfInBounds_toArray, List.set_cons_zero, List.set_cons_succ]
      refine wpS_done (by kernel_rfl) ?_
      have EX : Hid (Ext W Wf) := Lib.hid ((Ext.refl W).drew.trans EV)
      have KX := Lib.hid KX
      clear g0 L0 t0 t1 t2 t3 t4 t5 t6 hSw hb5 E5 KZ EV hz5
      have KBf := Lib.hid ((EX.out.block hzW).trans KB.out)
      obtain ⟨x0, -⟩ := blk_rules KX.out
      obtain ⟨y0, -⟩ := blk_rules KBf.out
      go_wp2_with fail
      refine (same_any All All x r C p e C' p' e' B m d B' m' d' _ (HVX.out.up EX.out) (HV.out.up (EW.out.trans EX.out))).mono ?_
      rintro e9 w9 ⟨rfl, hb9⟩
      have E9 := Lib.hid ((EW.out.trans EX.out).trans hb9)
      generalize sameR x r = v at HR ⊢
      clear hb9 x0 y0
      go_wp2_with fail
      go_ret
      exact ⟨ret_bool HR.out, E9.out⟩

set_option maxRecDepth 100000 in
set_option maxHeartbeats 2000000 in
theorem diff2_pred (b : List Rs) (ks : List Ky) (f : Ky → Option Value) (g mb n : Nat) (w0 : World) (hM : MapBox w0 g mb n b f) (hwf : ∀ x ∈ ks, wfK x) : PredKL w0 114 #[.pointer (some ⟨g, 0, none⟩)] (fun k => (getT b k).isSome) ks := by
  refine ⟨Tryz.call114, fun k hk w he hv => ?_⟩
  show Calls Tryz.prog 114 #[.agg #[.int .i64 k.kind, .string k.name], .pointer (some ⟨g, 0, none⟩)] w _
  have HM := hM.up he
  have hgw : g < w.heap.size := (Array.getElem?_eq_some_iff.1 HM.box).1
  have g0 : w.cell? ⟨g, 0, none⟩ = some (.map (some mb)) := (blk_rules HM.box).1 0
  have L0 : (Instr.lookup 136 (.map (some mb)) (.agg #[.int .i64 k.kind, .string k.name]) true).run Tryz.prog (w.alloc (.cells #[.int .i64 k.kind, .string k.name] 38)) = .ok (.tuple #[(f k).getD zRes, .bool (f k).isSome]) (w.alloc (.cells #[.int .i64 k.kind, .string k.name] 38)) := (HM.map.up (Ext.new _ _)).look (hwf k hk)
  have HH := HM.holds k
  have HR : Hid ((f k).isSome = (getT b k).isSome) := Lib.hid (by
    cases hg : getT b k with
    | none => rw [HH.1 hg]; rfl
    | some x =>
      obtain ⟨C, p, e, C', p', e', hf, -⟩ := HH.2 x hg
      rw [hf]; rfl)
  obtain ⟨a0, s1, a2, a3, s4, A5, n5, c5, A6, n6, c6, hx⟩ : ∃ (a0 : Int) (s1 : ByteArray) (a2 a3 : Int) (s4 : ByteArray) (A5 : Option Addr) (n5 c5 : Nat) (A6 : Option Addr) (n6 c6 : Nat), (f k).getD zRes = .agg #[.int .i64 a0, .string s1, .int .i64 a2, .int .i64 a3, .string s4, .slice A5 n5 c5, .slice A6 n6 c6] := by
    cases hg : getT b k with
    | none => rw [HH.1 hg]; exact ⟨_, _, _, _, _, _, _, _, _, _, _, rfl⟩
    | some x =>
      obtain ⟨C, p, e, C', p', e', hf, -⟩ := HH.2 x hg
      rw [hf]; exact ⟨_, _, _, _, _, _, _, _, _, _, _, rfl⟩
  rw [hx] at L0
  generalize (f k).isSome = v at HR L0
  clear HM HH hx hv he hM
  go_enter Tryz.func114, Tryz.ntmps114
  go_wp2_with fail
  go_ret
  exact ⟨ret_bool HR.out, (Ext.new _ _).alloc _⟩
def DiffPost (w : World) (a b : List Rs) (e : Ending) (w' : World) : Prop := ∃ A n c B m d, e = .returned (.tuple #[.slice A n c, .slice B m d]) ∧ SlW A n c ∧ SlW B m d ∧ ResL All w' A n (addsT a b) ∧ KeyL All w' B m (goneT a b) ∧ Ext w w'
set_option maxRecDepth 100000 in
set_option maxHeartbeats 4000000 in
theorem diff_any (A : Option Addr) (n c : Nat) (a : List Rs) (B : Option Addr) (m d : Nat) (b : List Rs) (w : World) (hn : n ≤ 1000000) (hm : m ≤ 1000000) (hA : ResL All w A n a) (hB : ResL All w B m b) (hwa : ∀ x ∈ a, wfK x.key) (hwb : ∀ x ∈ b, wfK x.key) :
    Calls Tryz.prog 35 #[.slice A n c, .slice B m d] w (DiffPost w a b) := by
  have hmf : ∀ (fn : Fn) (first cap : Array Value) (w : World), (Instr.makeFunc fn first cap).run Tryz.prog w = .ok (.func fn first cap) w := fun _ _ _ _ => rfl
  have HA := Lib.hid hA
  have HB := Lib.hid hB
  have HWA := Lib.hid hwa
  have HWB := Lib.hid hwb
  clear hA hB hwa hwb
  go_enter Tryz.func35, Tryz.ntmps35
  go_wp2_with fail
  refine (index_any A n c a _ hn HA.out HWA.out).mono ?_
  rintro e w1 ⟨f1, rfl, hM1, hH1, hb1⟩
  have E1 := Lib.hid hb1
  have HM1 := Lib.hid hM1
  have HH1 := Lib.hid (hH1.up hb1)
  clear hM1 hH1 hb1
  go_wp2_with fail
  refine (index_any B m d b _ hm (HB.out.keep E1.out.keep) HWB.out).mono ?_
  rintro e w2 ⟨f2, rfl, hM2, hH2, hb2⟩
  have F2 := Lib.hid hb2
  have E2 := Lib.hid (E1.out.trans hb2)
  have HM2 := Lib.hid hM2
  have HH2 := Lib.hid (hH2.up hb2)
  clear hM2 hH2 hb2
  go_wp2_with fail
  have KA := Lib.hid (two_blocks w2 (.cells #[.map (some w.heap.size)] 136) (.cells #[.map (some w1.heap.size)] 136)).1
  have KBx := Lib.hid (two_blocks w2 (.cells #[.map (some w.heap.size)] 136) (.cells #[.map (some w1.heap.size)] 136)).2
  have EX := Lib.hid ((Ext.new w2 (.cells #[.map (some w.heap.size)] 136)).alloc (.cells #[.map (some w1.heap.size)] 136))
  generalize (w2.alloc (.cells #[.map (some w.heap.size)] 136)).alloc (.cells #[.map (some w1.heap.size)] 136) = W at KA KBx EX ⊢
  have HMA : Hid (MapBox W w2.heap.size w.heap.size n a f1) := Lib.hid ⟨KA.out, HM1.out.up (F2.out.trans EX.out), HH1.out.up (F2.out.trans EX.out)⟩
  have HMB : Hid (MapBox W (w2.heap.size + 1) w1.heap.size m b f2) := Lib.hid ⟨KBx.out, HM2.out.up EX.out, HH2.out.up EX.out⟩
  have EW := Lib.hid (E2.out.trans EX.out)
  clear KA KBx
  refine (filter_any 111 _ (newP a) B m d b _ hm (ResL.keep HB.out EW.out.keep) (diff1_pred a b f1 w2.heap.size w.heap.size n W HMA.out HWB.out)).mono ?_
  rintro e w3 ⟨C, p, q, rfl, hs3, hL3, hb3⟩
  have F3 := Lib.hid hb3
  have E3 := Lib.hid (EW.out.trans hb3)
  have HS3 := Lib.hid hs3
  have HL3 := Lib.hid hL3
  clear hs3 hL3 hb3
  go_wp2_with fail
  refine (keys_any A n c a _ hn (ResL.keep HA.out E3.out.keep)).mono ?_
  rintro e w4 ⟨v4, us, rfl, hO4, hU4, hb4⟩
  have F4 := Lib.hid hb4
  have HO4 := Lib.hid hO4
  have HU4 := Lib.hid hU4
  clear hO4 hU4 hb4
  go_wp2_with fail
  refine (deleteKL_any All 114 _ (fun k => (getT b k).isSome) v4 n us (a.map Rs.key) w3 w4 F4.out hn HO4.out HU4.out (diff2_pred b (a.map Rs.key) f2 (w2.heap.size + 1) w1.heap.size m w3 (HMB.out.up F3.out) (fun k hk => by
    obtain ⟨x, hx, rfl⟩ := List.mem_map.1 hk
    exact HWA.out x hx))).mono ?_
  rintro e w5 ⟨D, j, h, rfl, hs5, hL5, hb5⟩
  have E5 := Lib.hid (E3.out.trans hb5)
  have F5 := Lib.hid hb5
  have HS5 := Lib.hid hs5
  have HL5 := Lib.hid hL5
  clear hs5 hL5 hb5
  go_wp2_with fail
  exact bodyPost_ret (v := .tuple #[.slice C p q, .slice D j h]) (by simp [results, Tryz.results35, go_sem]) rfl ⟨C, p, q, D, j, h, rfl, HS3.out, HS5.out, ResL.keep HL3.out F5.out.keep, ArrQ.weak (ArrR.q HL5.out) (fun _ _ h => h) (fun _ _ _ => trivial), E5.out⟩

end Go.Proofs.YtfdjbnofcniodaaGreatDoor
