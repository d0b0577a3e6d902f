/- The example of layer 5. -/
import Derived.Test.YtfdjbnofcniodaaGreatDoorTabSane
import Derived.Test.YtfdjbnofcniodaaGreatDoorGround
namespace Go.Proofs.YtfdjbnofcniodaaGreatDoor
set_option linter.unusedVariables false
open Go.RowKit

theorem wpS_three {P : Program} {Q : Exit → Act → World → Prop} {md : Region.Mode} (i j k : Nat) {S : World → Prop} {l : List Oper} {oi oj ok : Oper} {fuel : Nat} {listed : Array Bool} {a : Act} {w : World} (hi : l[i]? = some oi) (hj : l[j]? = some oj) (hk : l[k]? = some ok)
    (hr : Region.ready md l.toArray listed = [i, j, k]) (hwi : Region.wanted oi (yielded l.toArray a.tmps) = true) (hwj : Region.wanted oj (yielded l.toArray a.tmps) = true) (hwk : Region.wanted ok (yielded l.toArray a.tmps) = true)
    (h1 : ∀ K : Act → World → Prop, Shut (∀ a w' (S' : World → Prop), (∀ x, S' x → S x) → S' w' → (S' w' → wpS P md l.toArray Q S' fuel (listed.setIfInBounds i true) a w') → K a w') → Oper.wp P oi a w K Q)
    (h2 : ∀ K : Act → World → Prop, Shut (∀ a w' (S' : World → Prop), (∀ x, S' x → S x) → S' w' → (S' w' → wpS P md l.toArray Q S' fuel (listed.setIfInBounds j true) a w') → K a w') → Oper.wp P oj a w K Q)
    (h3 : ∀ K : Act → World → Prop, Shut (∀ a w' (S' : World → Prop), (∀ x, S' x → S x) → S' w' → (S' w' → wpS P md l.toArray Q S' fuel (listed.setIfInBounds k true) a w') → K a w') → Oper.wp P ok a w K Q) : wpS P md l.toArray Q S (fuel + 1) listed a w := by
  refine wpAnyH_all hr (by simp) fun q hq => ?_
  rcases (by simpa using hq : q = i ∨ q = j ∨ q = k) with rfl | rfl | rfl
  · refine wpOp_step (o := oi) (by simpa using hi) fun K hK => ?_
    rw [if_pos hwi]
    exact h1 K fun a w' S' hSS hS hh => hK a w' ⟨hSS _ hS, wpAnyH_stronger hSS _ _ _ _ (hh hS)⟩
  · refine wpOp_step (o := oj) (by simpa using hj) fun K hK => ?_
    rw [if_pos hwj]
    exact h2 K fun a w' S' hSS hS hh => hK a w' ⟨hSS _ hS, wpAnyH_stronger hSS _ _ _ _ (hh hS)⟩
  · refine wpOp_step (o := ok) (by simpa using hk) fun K hK => ?_
    rw [if_pos hwk]
    exact h3 K fun a w' S' hSS hS hh => hK a w' ⟨hSS _ hS, wpAnyH_stronger hSS _ _ _ _ (hh hS)⟩
def wk05 : Rs := ⟨2, ⟨#[99]⟩, 0, 0, ⟨#[101]⟩, [], []⟩
theorem wk05_V (S : Nat → Prop) (w : World) : RsV S w wk05 none 0 0 none 0 0 := ⟨by decide, by decide, SlW.nil_, SlW.nil_, ArrQ.nil_, ArrQ.nil_⟩
theorem wk05_sane : saneR wk05 = 0 := by
  rw [sane_iff]
  exact ⟨⟨by decide, by decide⟩, by decide, by decide, by decide, by decide, by decide⟩
theorem wk05_T : saneT [wk05] = 0 := by
  unfold saneT
  rw [if_neg (by decide), if_neg (by unfold firstE; rw [wk05_sane]; decide), if_neg (by decide), if_neg (by decide)]
theorem gO : getT [wk05] ⟨2, ⟨#[99]⟩⟩ = some wk05 := by decide
/-- a row of one resource -/
theorem one_L {w : World} {q : Nat} {r : Rs} {B : Option Addr} {m d : Nat} {B' : Option Addr} {m' d' : Nat} (hq : w.heap[q]? = some (.cells #[.int .i64 r.kind, .string r.name, .int .i64 r.ver, .int .i64 r.port, .string r.to, .slice B m d, .slice B' m' d'] 34 (0, 0))) (hv : RsV All w r B m d B' m' d') : ResL All w (some ⟨q, 0, none⟩) 1 [r] := by
  have hf := flat_at (cs := [.int .i64 r.kind, .string r.name, .int .i64 r.ver, .int .i64 r.port, .string r.to, .slice B m d, .slice B' m' d']) hq (k := 7) rfl
  exact hf.arrQ (S := All) (RowsOf.snoc (R := RsQ All w) (xs := []) (us := []) rfl (show RsQ All w _ r from ⟨_, _, _, _, _, _, rfl, hv⟩) rfl) (by omega) (fun _ _ _ _ => trivial)

set_option maxRecDepth 100000 in
set_option maxHeartbeats 16000000 in
theorem awake05 (w : World) : Calls Tryz.prog 32 #[] w fun e w' => e = .returned (.bool true) ∧ Ext w w' := by
  go_enter Tryz.func32, Tryz.ntmps32
  go_wp2_with fail
  have hsz : (w.alloc (.cells #[.int .i64 2, .string ⟨#[99]⟩, .int .i64 0, .int .i64 0, .string ⟨#[101]⟩, .slice none 0 0, .slice none 0 0] 34)).heap.size = w.heap.size + 1 := by simp
  have hq1 := heap_alloc_new (w.alloc (.cells #[.int .i64 2, .string ⟨#[99]⟩, .int .i64 0, .int .i64 0, .string ⟨#[101]⟩, .slice none 0 0, .slice none 0 0] 34)) (.cells #[.int .i64 2, .string ⟨#[99]⟩, .int .i64 0, .int .i64 0, .string ⟨#[101]⟩, .slice none 0 0, .slice none 0 0] 34)
  rw [hsz] at hq1
  refine (diff_any none 0 0 [] (some ⟨w.heap.size + 1, 0, none⟩) 1 1 [wk05] _ (by omega) (by omega) ArrQ.nil_ (one_L hq1 (wk05_V _ _)) (fun x hx => by cases hx) (fun x hx => by
    obtain rfl := List.mem_singleton.1 hx
    exact ⟨⟨by decide, by decide⟩, by decide⟩)).mono ?_
  rintro e W ⟨A, n, c, C, p, f, rfl, -, -, hA, hC, hb⟩
  have hn1 : (addsT [] [wk05]).length = n := hA.len
  have hp1 : (goneT [] [wk05]).length = p := hC.len
  obtain rfl : n = 1 := hn1.symm
  obtain rfl : p = 0 := hp1.symm
  have EW := Lib.hid (((Ext.new w (.cells #[.int .i64 2, .string ⟨#[99]⟩, .int .i64 0, .int .i64 0, .string ⟨#[101]⟩, .slice none 0 0, .slice none 0 0] 34)).alloc (.cells #[.int .i64 2, .string ⟨#[99]⟩, .int .i64 0, .int .i64 0, .string ⟨#[101]⟩, .slice none 0 0, .slice none 0 0] 34)).trans hb)
  have KW := Lib.hid ((hb.block (by rw [World.size_alloc, hsz]; omega)).trans (two_blocks w (.cells #[.int .i64 2, .string ⟨#[99]⟩, .int .i64 0, .int .i64 0, .string ⟨#[101]⟩, .slice none 0 0, .slice none 0 0] 34) (.cells #[.int .i64 2, .string ⟨#[99]⟩, .int .i64 0, .int .i64 0, .string ⟨#[101]⟩, .slice none 0 0, .slice none 0 0] 34)).1)
  have hzW : w.heap.size < W.heap.size := (Array.getElem?_eq_some_iff.1 KW.out).1
  clear hA hC hb hn1 hp1 hq1 hsz
  obtain ⟨qb, -⟩ := blk_rules KW.out
  have t0 : ∀ w', Ext W.drew w' → w'.cell? ⟨w.heap.size, 0, none⟩ = some (.int .i64 2) := fun w' h => (((Ext.refl W).drew.trans h).cell hzW).trans (qb 0)
  have t1 : ∀ w', Ext W.drew w' → w'.cell? ⟨w.heap.size, 1, none⟩ = some (.string ⟨#[99]⟩) := fun w' h => (((Ext.refl W).drew.trans h).cell hzW).trans (qb 1)
  have t2 : ∀ w', Ext W.drew w' → w'.cell? ⟨w.heap.size, 2, none⟩ = some (.int .i64 0) := fun w' h => (((Ext.refl W).drew.trans h).cell hzW).trans (qb 2)
  have t3 : ∀ w', Ext W.drew w' → w'.cell? ⟨w.heap.size, 3, none⟩ = some (.int .i64 0) := fun w' h => (((Ext.refl W).drew.trans h).cell hzW).trans (qb 3)
  have t4 : ∀ w', Ext W.drew w' → w'.cell? ⟨w.heap.size, 4, none⟩ = some (.string ⟨#[101]⟩) := fun w' h => (((Ext.refl W).drew.trans h).cell hzW).trans (qb 4)
  have t5 : ∀ w', Ext W.drew w' → w'.cell? ⟨w.heap.size, 5, none⟩ = some (.slice none 0 0) := fun w' h => (((Ext.refl W).drew.trans h).cell hzW).trans (qb 5)
  have t6 : ∀ w', Ext W.drew w' → w'.cell? ⟨w.heap.size, 6, none⟩ = some (.slice none 0 0) := fun w' h => (((Ext.refl W).drew.trans h).cell hzW).trans (qb 6)
  clear qb
  go_wp2_with fail
  have hSw : Ext W.drew W.drew := Ext.refl _
  refine wpS_begin (Ext W.drew) (by kernel_rfl) ?_
  refine wpS_take 0 (v := ?_) hSw rfl (by kernel_rfl) (by kernel_rfl) (by kernel_rfl) (by rfl) (fun w' hin => ?_) ?_
  rotate_left
  · (try simp only [] at hin); go_simp <;> with_reducible rfl
  try simp only [Act.put, List.setIfInBounds_toArray, List.set_cons_zero, List.set_cons_succ]
  refine wpS_take 2 (v := ?_) hSw rfl (by kernel_rfl) (by kernel_rfl) (by kernel_rfl) (by rfl) (fun w' hin => ?_) ?_
  rotate_left
  · (try simp only [] at hin); go_simp <;> with_reducible rfl
  try simp only [Act.put, List.setIfInBounds_toArray, List.set_cons_zero, List.set_cons_succ]
  refine wpS_three 1 3 8 rfl rfl rfl (by kernel_rfl) (by rfl) (by rfl) (by rfl) (fun K hK => ?_) (fun K hK => ?_) (fun K hK => ?_) 
  · go_simp
    have EV0 : Ext W.drew (W.alloc (.cells #[.int .i64 2, .string ⟨#[99]⟩, .int .i64 0, .int .i64 0, .string ⟨#[101]⟩, .slice none 0 0, .slice none 0 0] 34)).drew := Ext.new W.drew (.cells #[.int .i64 2, .string ⟨#[99]⟩, .int .i64 0, .int .i64 0, .string ⟨#[101]⟩, .slice none 0 0, .slice none 0 0] 34)
    refine hK.out _ _ (Ext W.drew) (fun _ h => h) EV0 (fun hSw => ?_)
    clear hK K
    try simp only [Act.put, List.setIfInBounds_toArray, List.set_cons_zero, List.set_cons_succ]
    have F1 : (W.alloc (.cells #[.int .i64 2, .string ⟨#[99]⟩, .int .i64 0, .int .i64 0, .string ⟨#[101]⟩, .slice none 0 0, .slice none 0 0] 34)).drew.heap[W.heap.size]? = some (.cells #[.int .i64 2, .string ⟨#[99]⟩, .int .i64 0, .int .i64 0, .string ⟨#[101]⟩, .slice none 0 0, .slice none 0 0] 34 (0, 0)) := heap_alloc_new W.drew _
    have EV := EV0
    clear EV0
    generalize (W.alloc (.cells #[.int .i64 2, .string ⟨#[99]⟩, .int .i64 0, .int .i64 0, .string ⟨#[101]⟩, .slice none 0 0, .slice none 0 0] 34)).drew = V1 at F1 EV hSw ⊢
    refine wpS_two 3 8 rfl rfl (by kernel_rfl) (by rfl) (by rfl) (fun K hK => ?_) (fun K hK => ?_) 
    · go_simp
      refine (key_any wk05 none 0 0 none 0 0 _).mono ?_
      rintro e V2 ⟨rfl, hb⟩
      have E2 : Ext W.drew V2 := Ext.trans EV hb
      replace F1 := (hb.block (Array.getElem?_eq_some_iff.1 F1).1).trans F1
      simp only []
      refine hK.out _ _ (Ext W.drew) (fun _ h => h) E2 (fun hSw => ?_)
      clear hK K
      try simp only [Act.put, List.setIfInBounds_toArray, List.set_cons_zero, List.set_cons_succ]
      replace EV := E2
      clear E2 hb
      refine wpS_two 4 8 rfl rfl (by kernel_rfl) (by rfl) (by rfl) (fun K hK => ?_) (fun K hK => ?_) 
      · go_simp
        refine (get_any ⟨2, ⟨#[99]⟩⟩ (some ⟨W.heap.size, 0, none⟩) 1 1 [wk05] _ (by omega) (one_L F1 (wk05_V _ _))).mono ?_
        rintro e V3 ⟨r, B, m, d, B', m', d', rfl, hr, -, hb⟩
        obtain rfl : wk05 = r := hr
        have E2 : Ext W.drew V3 := Ext.trans EV hb
        replace F1 := (hb.block (Array.getElem?_eq_some_iff.1 F1).1).trans F1
        simp only [rsVal, wk05]
        refine hK.out _ _ (Ext W.drew) (fun _ h => h) E2 (fun hSw => ?_)
        clear hK K
        try simp only [Act.put, List.setIfInBounds_toArray, List.set_cons_zero, List.set_cons_succ]
        replace EV := E2
        clear E2 hb
        refine wpS_take 5 (v := ?_) hSw rfl (by kernel_rfl) (by kernel_rfl) (by kernel_rfl) (by rfl) (fun w' hin => ?_) ?_
        rotate_left
        · (try simp only [] at hin); go_simp <;> with_reducible rfl
        try simp only [Act.put, List.setIfInBounds_toArray, List.set_cons_zero, List.set_cons_succ]
        refine wpS_take 6 (v := ?_) hSw rfl (by kernel_rfl) (by kernel_rfl) (by kernel_rfl) (by rfl) (fun w' hin => ?_) ?_
        rotate_left
        · (try simp only [] at hin); go_simp <;> with_reducible rfl
        try simp only [Act.put, List.setIfInBounds_toArray, List.set_cons_zero, List.set_cons_succ]
        refine wpS_take 7 (v := ?_) hSw rfl (by kernel_rfl) (by kernel_rfl) (by kernel_rfl) (by rfl) (fun w' hin => ?_) ?_
        rotate_left
        · (try simp only [] at hin); go_simp <;> with_reducible rfl
        try simp only [Act.put, List.setIfInBounds_toArray, List.set_cons_zero, List.set_cons_succ]
        refine wpS_one 8 rfl (by kernel_rfl) (by rfl) (fun K hK => ?_)
        go_simp
        refine hK.out _ _ (Ext W.drew) (fun _ h => h) (EV.trans (Ext.new _ _)) (fun hSw => ?_)
        clear hK K
        try simp only [Act.put, List.setIfInBounds_toArray, List.set_cons_zero, List.set_cons_succ]
        have F8 : (V3.alloc (.cells #[.int .i64 0, .string ⟨#[]⟩, .int .i64 0, .int .i64 0, .string ⟨#[]⟩, .slice none 0 0, .slice none 0 0] 34)).heap[V3.heap.size]? = some (.cells #[.int .i64 0, .string ⟨#[]⟩, .int .i64 0, .int .i64 0, .string ⟨#[]⟩, .slice none 0 0, .slice none 0 0] 34 (0, 0)) := heap_alloc_new V3 _
        have HQ8 : W.drew.heap.size ≤ V3.heap.size := EV.size
        replace F1 := ((Ext.new V3 (.cells #[.int .i64 0, .string ⟨#[]⟩, .int .i64 0, .int .i64 0, .string ⟨#[]⟩, .slice none 0 0, .slice none 0 0] 34)).block (Array.getElem?_eq_some_iff.1 F1).1).trans F1
        replace EV := EV.trans (Ext.new V3 (.cells #[.int .i64 0, .string ⟨#[]⟩, .int .i64 0, .int .i64 0, .string ⟨#[]⟩, .slice none 0 0, .slice none 0 0] 34))
        generalize (V3.alloc (.cells #[.int .i64 0, .string ⟨#[]⟩, .int .i64 0, .int .i64 0, .string ⟨#[]⟩, .slice none 0 0, .slice none 0 0] 34)) = V4 at F1 F8 EV hSw ⊢
        obtain ⟨z0, z1⟩ := blk_rules F8
        have hz8 : V3.heap.size < V4.heap.size := (Array.getElem?_eq_some_iff.1 F8).1
        refine wpS_one 9 rfl (by kernel_rfl) (by rfl) (fun K hK => ?_)
        go_simp
        clear z0 z1
        generalize hVV : ((((((V4.setCell ⟨V3.heap.size, 0, none⟩ (.int .i64 2)).setCell ⟨V3.heap.size, 1, none⟩ (.string ⟨#[99]⟩)).setCell ⟨V3.heap.size, 2, none⟩ (.int .i64 0)).setCell ⟨V3.heap.size, 3, none⟩ (.int .i64 0)).setCell ⟨V3.heap.size, 4, none⟩ (.string ⟨#[101]⟩)).setCell ⟨V3.heap.size, 5, none⟩ (.slice B m d)).setCell ⟨V3.heap.size, 6, none⟩ (.slice B' m' d') = Vf
        obtain ⟨KX, oV, -⟩ := set7 F8 (.int .i64 2) (.string ⟨#[99]⟩) (.int .i64 0) (.int .i64 0) (.string ⟨#[101]⟩) (.slice B m d) (.slice B' m' d') hVV
        have EF : Ext W.drew Vf := oV W.drew EV HQ8
        clear hVV oV
        refine hK.out _ _ (Ext W.drew) (fun _ h => h) EF (fun hSw => ?_)
        clear hK K
        try simp only [Act.put, List.setIfInBounds_toArray, List.set_cons_zero, List.set_cons_succ]
        refine wpS_take 10 (v := ?_) hSw rfl (by kernel_rfl) (by kernel_rfl) (by kernel_rfl) (by rfl) (fun w' hin => ?_) ?_
        rotate_left
        · (try simp only [] at hin); go_simp <;> with_reducible rfl
        try simp only [Act.put, List.setIfInBounds_toArray, List.set_cons_zero, List.set_cons_succ]
        refine wpS_done (by kernel_rfl) ?_
        have EX : Hid (Ext W Vf) := Lib.hid ((Ext.refl W).drew.trans EF)
        have KX := Lib.hid KX
        clear t0 t1 t2 t3 t4 t5 t6 hSw EF EV F1 F8 HQ8 hz8
        have KC := Lib.hid ((EX.out.block hzW).trans KW.out)
        have EE := Lib.hid (EW.out.trans EX.out)
        obtain ⟨x0, -⟩ := blk_rules KX.out
        obtain ⟨c0, -⟩ := blk_rules KC.out
        go_wp2_with fail
        refine (tabSane_any _ 1 1 [wk05] _ (by unfold maxLen; omega) (one_L (heap_alloc_new Vf _) (wk05_V _ _))).mono ?_
        rintro e w9 ⟨rfl, hb9⟩
        rw [wk05_T]
        have E9 := Lib.hid ((EE.out.alloc _).trans hb9)
        clear hb9 x0 c0
        go_wp2_with fail
        go_ret
        exact ⟨rfl, E9.out⟩
      · go_simp
        refine hK.out _ _ (Ext W.drew) (fun _ h => h) (EV.trans (Ext.new _ _)) (fun hSw => ?_)
        clear hK K
        try simp only [Act.put, List.setIfInBounds_toArray, List.set_cons_zero, List.set_cons_succ]
        have F8 : (V2.alloc (.cells #[.int .i64 0, .string ⟨#[]⟩, .int .i64 0, .int .i64 0, .string ⟨#[]⟩, .slice none 0 0, .slice none 0 0] 34)).heap[V2.heap.size]? = some (.cells #[.int .i64 0, .string ⟨#[]⟩, .int .i64 0, .int .i64 0, .string ⟨#[]⟩, .slice none 0 0, .slice none 0 0] 34 (0, 0)) := heap_alloc_new V2 _
        have HQ8 : W.drew.heap.size ≤ V2.heap.size := EV.size
        replace F1 := ((Ext.new V2 (.cells #[.int .i64 0, .string ⟨#[]⟩, .int .i64 0, .int .i64 0, .string ⟨#[]⟩, .slice none 0 0, .slice none 0 0] 34)).block (Array.getElem?_eq_some_iff.1 F1).1).trans F1
        replace EV := EV.trans (Ext.new V2 (.cells #[.int .i64 0, .string ⟨#[]⟩, .int .i64 0, .int .i64 0, .string ⟨#[]⟩, .slice none 0 0, .slice none 0 0] 34))
        generalize (V2.alloc (.cells #[.int .i64 0, .string ⟨#[]⟩, .int .i64 0, .int .i64 0, .string ⟨#[]⟩, .slice none 0 0, .slice none 0 0] 34)) = V5 at F1 F8 EV hSw ⊢
        refine wpS_one 4 rfl (by kernel_rfl) (by rfl) (fun K hK => ?_)
        go_simp
        refine (get_any ⟨2, ⟨#[99]⟩⟩ (some ⟨W.heap.size, 0, none⟩) 1 1 [wk05] _ (by omega) (one_L F1 (wk05_V _ _))).mono ?_
        rintro e V6 ⟨r, B, m, d, B', m', d', rfl, hr, -, hb⟩
        obtain rfl : wk05 = r := hr
        have E2 : Ext W.drew V6 := Ext.trans EV hb
        replace F1 := (hb.block (Array.getElem?_eq_some_iff.1 F1).1).trans F1
        replace F8 := (hb.block (Array.getElem?_eq_some_iff.1 F8).1).trans F8
        simp only [rsVal, wk05]
        refine hK.out _ _ (Ext W.drew) (fun _ h => h) E2 (fun hSw => ?_)
        clear hK K
        try simp only [Act.put, List.setIfInBounds_toArray, List.set_cons_zero, List.set_cons_succ]
        replace EV := E2
        clear E2 hb
        refine wpS_take 5 (v := ?_) hSw rfl (by kernel_rfl) (by kernel_rfl) (by kernel_rfl) (by rfl) (fun w' hin => ?_) ?_
        rotate_left
        · (try simp only [] at hin); go_simp <;> with_reducible rfl
        try simp only [Act.put, List.setIfInBounds_toArray, List.set_cons_zero, List.set_cons_succ]
        refine wpS_take 6 (v := ?_) hSw rfl (by kernel_rfl) (by kernel_rfl) (by kernel_rfl) (by rfl) (fun w' hin => ?_) ?_
        rotate_left
        · (try simp only [] at hin); go_simp <;> with_reducible rfl
        try simp only [Act.put, List.setIfInBounds_toArray, List.set_cons_zero, List.set_cons_succ]
        refine wpS_take 7 (v := ?_) hSw rfl (by kernel_rfl) (by kernel_rfl) (by kernel_rfl) (by rfl) (fun w' hin => ?_) ?_
        rotate_left
        · (try simp only [] at hin); go_simp <;> with_reducible rfl
        try simp only [Act.put, List.setIfInBounds_toArray, List.set_cons_zero, List.set_cons_succ]
        obtain ⟨z0, z1⟩ := blk_rules F8
        have hz8 : V2.heap.size < V6.heap.size := (Array.getElem?_eq_some_iff.1 F8).1
        refine wpS_one 9 rfl (by kernel_rfl) (by rfl) (fun K hK => ?_)
        go_simp
        clear z0 z1
        generalize hVV : ((((((V6.setCell ⟨V2.heap.size, 0, none⟩ (.int .i64 2)).setCell ⟨V2.heap.size, 1, none⟩ (.string ⟨#[99]⟩)).setCell ⟨V2.heap.size, 2, none⟩ (.int .i64 0)).setCell ⟨V2.heap.size, 3, none⟩ (.int .i64 0)).setCell ⟨V2.heap.size, 4, none⟩ (.string ⟨#[101]⟩)).setCell ⟨V2.heap.size, 5, none⟩ (.slice B m d)).setCell ⟨V2.heap.size, 6, none⟩ (.slice B' m' d') = Vf
        obtain ⟨KX, oV, -⟩ := set7 F8 (.int .i64 2) (.string ⟨#[99]⟩) (.int .i64 0) (.int .i64 0) (.string ⟨#[101]⟩) (.slice B m d) (.slice B' m' d') hVV
        have EF : Ext W.drew Vf := oV W.drew EV HQ8
        clear hVV oV
        refine hK.out _ _ (Ext W.drew) (fun _ h => h) EF (fun hSw => ?_)
        clear hK K
        try simp only [Act.put, List.setIfInBounds_toArray, List.set_cons_zero, List.set_cons_succ]
        refine wpS_take 10 (v := ?_) hSw rfl (by kernel_rfl) (by kernel_rfl) (by kernel_rfl) (by rfl) (fun w' hin => ?_) ?_
        rotate_left
        · (try simp only [] at hin); go_simp <;> with_reducible rfl
        try simp only [Act.put, List.setIfInBounds_toArray, List.set_cons_zero, List.set_cons_succ]
        refine wpS_done (by kernel_rfl) ?_
        have EX : Hid (Ext W Vf) := Lib.hid ((Ext.refl W).drew.trans EF)
        have KX := Lib.hid KX
        clear t0 t1 t2 t3 t4 t5 t6 hSw EF EV F1 F8 HQ8 hz8
        have KC := Lib.hid ((EX.out.block hzW).trans KW.out)
        have EE := Lib.hid (EW.out.trans EX.out)
        obtain ⟨x0, -⟩ := blk_rules KX.out
        obtain ⟨c0, -⟩ := blk_rules KC.out
        go_wp2_with fail
        refine (tabSane_any _ 1 1 [wk05] _ (by unfold maxLen; omega) (one_L (heap_alloc_new Vf _) (wk05_V _ _))).mono ?_
        rintro e w9 ⟨rfl, hb9⟩
        rw [wk05_T]
        have E9 := Lib.hid ((EE.out.alloc _).trans hb9)
        clear hb9 x0 c0
        go_wp2_with fail
        go_ret
        exact ⟨rfl, E9.out⟩
    · go_simp
      refine hK.out _ _ (Ext W.drew) (fun _ h => h) (EV.trans (Ext.new _ _)) (fun hSw => ?_)
      clear hK K
      try simp only [Act.put, List.setIfInBounds_toArray, List.set_cons_zero, List.set_cons_succ]
      have F8 : (V1.alloc (.cells #[.int .i64 0, .string ⟨#[]⟩, .int .i64 0, .int .i64 0, .string ⟨#[]⟩, .slice none 0 0, .slice none 0 0] 34)).heap[V1.heap.size]? = some (.cells #[.int .i64 0, .string ⟨#[]⟩, .int .i64 0, .int .i64 0, .string ⟨#[]⟩, .slice none 0 0, .slice none 0 0] 34 (0, 0)) := heap_alloc_new V1 _
      have HQ8 : W.drew.heap.size ≤ V1.heap.size := EV.size
      replace F1 := ((Ext.new V1 (.cells #[.int .i64 0, .string ⟨#[]⟩, .int .i64 0, .int .i64 0, .string ⟨#[]⟩, .slice none 0 0, .slice none 0 0] 34)).block (Array.getElem?_eq_some_iff.1 F1).1).trans F1
      replace EV := EV.trans (Ext.new V1 (.cells #[.int .i64 0, .string ⟨#[]⟩, .int .i64 0, .int .i64 0, .string ⟨#[]⟩, .slice none 0 0, .slice none 0 0] 34))
      generalize (V1.alloc (.cells #[.int .i64 0, .string ⟨#[]⟩, .int .i64 0, .int .i64 0, .string ⟨#[]⟩, .slice none 0 0, .slice none 0 0] 34)) = V7 at F1 F8 EV hSw ⊢
      refine wpS_one 3 rfl (by kernel_rfl) (by rfl) (fun K hK => ?_)
      go_simp
      refine (key_any wk05 none 0 0 none 0 0 _).mono ?_
      rintro e V8 ⟨rfl, hb⟩
      have E2 : Ext W.drew V8 := Ext.trans EV hb
      replace F1 := (hb.block (Array.getElem?_eq_some_iff.1 F1).1).trans F1
      replace F8 := (hb.block (Array.getElem?_eq_some_iff.1 F8).1).trans F8
      simp only []
      refine hK.out _ _ (Ext W.drew) (fun _ h => h) E2 (fun hSw => ?_)
      clear hK K
      try simp only [Act.put, List.setIfInBounds_toArray, List.set_cons_zero, List.set_cons_succ]
      replace EV := E2
      clear E2 hb
      refine wpS_one 4 rfl (by kernel_rfl) (by rfl) (fun K hK => ?_)
      go_simp
      refine (get_any ⟨2, ⟨#[99]⟩⟩ (some ⟨W.heap.size, 0, none⟩) 1 1 [wk05] _ (by omega) (one_L F1 (wk05_V _ _))).mono ?_
      rintro e V9 ⟨r, B, m, d, B', m', d', rfl, hr, -, hb⟩
      obtain rfl : wk05 = r := hr
      have E2 : Ext W.drew V9 := Ext.trans EV hb
      replace F1 := (hb.block (Array.getElem?_eq_some_iff.1 F1).1).trans F1
      replace F8 := (hb.block (Array.getElem?_eq_some_iff.1 F8).1).trans F8
      simp only [rsVal, wk05]
      refine hK.out _ _ (Ext W.drew) (fun _ h => h) E2 (fun hSw => ?_)
      clear hK K
      try simp only [Act.put, List.setIfInBounds_toArray, List.set_cons_zero, List.set_cons_succ]
      replace EV := E2
      clear E2 hb
      refine wpS_take 5 (v := ?_) hSw rfl (by kernel_rfl) (by kernel_rfl) (by kernel_rfl) (by rfl) (fun w' hin => ?_) ?_
      rotate_left
      · (try simp only [] at hin); go_simp <;> with_reducible rfl
      try simp only [Act.put, List.setIfInBounds_toArray, List.set_cons_zero, List.set_cons_succ]
      refine wpS_take 6 (v := ?_) hSw rfl (by kernel_rfl) (by kernel_rfl) (by kernel_rfl) (by rfl) (fun w' hin => ?_) ?_
      rotate_left
      · (try simp only [] at hin); go_simp <;> with_reducible rfl
      try simp only [Act.put, List.setIfInBounds_toArray, List.set_cons_zero, List.set_cons_succ]
      refine wpS_take 7 (v := ?_) hSw rfl (by kernel_rfl) (by kernel_rfl) (by kernel_rfl) (by rfl) (fun w' hin => ?_) ?_
      rotate_left
      · (try simp only [] at hin); go_simp <;> with_reducible rfl
      try simp only [Act.put, List.setIfInBounds_toArray, List.set_cons_zero, List.set_cons_succ]
      obtain ⟨z0, z1⟩ := blk_rules F8
      have hz8 : V1.heap.size < V9.heap.size := (Array.getElem?_eq_some_iff.1 F8).1
      refine wpS_one 9 rfl (by kernel_rfl) (by rfl) (fun K hK => ?_)
      go_simp
      clear z0 z1
      generalize hVV : ((((((V9.setCell ⟨V1.heap.size, 0, none⟩ (.int .i64 2)).setCell ⟨V1.heap.size, 1, none⟩ (.string ⟨#[99]⟩)).setCell ⟨V1.heap.size, 2, none⟩ (.int .i64 0)).setCell ⟨V1.heap.size, 3, none⟩ (.int .i64 0)).setCell ⟨V1.heap.size, 4, none⟩ (.string ⟨#[101]⟩)).setCell ⟨V1.heap.size, 5, none⟩ (.slice B m d)).setCell ⟨V1.heap.size, 6, none⟩ (.slice B' m' d') = Vf
      obtain ⟨KX, oV, -⟩ := set7 F8 (.int .i64 2) (.string ⟨#[99]⟩) (.int .i64 0) (.int .i64 0) (.string ⟨#[101]⟩) (.slice B m d) (.slice B' m' d') hVV
      have EF : Ext W.drew Vf := oV W.drew EV HQ8
      clear hVV oV
      refine hK.out _ _ (Ext W.drew) (fun _ h => h) EF (fun hSw => ?_)
      clear hK K
      try simp only [Act.put, List.setIfInBounds_toArray, List.set_cons_zero, List.set_cons_succ]
      refine wpS_take 10 (v := ?_) hSw rfl (by kernel_rfl) (by kernel_rfl) (by kernel_rfl) (by rfl) (fun w' hin => ?_) ?_
      rotate_left
      · (try simp only [] at hin); go_simp <;> with_reducible rfl
      try simp only [Act.put, List.setIfInBounds_toArray, List.set_cons_zero, List.set_cons_succ]
      refine wpS_done (by kernel_rfl) ?_
      have EX : Hid (Ext W Vf) := Lib.hid ((Ext.refl W).drew.trans EF)
      have KX := Lib.hid KX
      clear t0 t1 t2 t3 t4 t5 t6 hSw EF EV F1 F8 HQ8 hz8
      have KC := Lib.hid ((EX.out.block hzW).trans KW.out)
      have EE := Lib.hid (EW.out.trans EX.out)
      obtain ⟨x0, -⟩ := blk_rules KX.out
      obtain ⟨c0, -⟩ := blk_rules KC.out
      go_wp2_with fail
      refine (tabSane_any _ 1 1 [wk05] _ (by unfold maxLen; omega) (one_L (heap_alloc_new Vf _) (wk05_V _ _))).mono ?_
      rintro e w9 ⟨rfl, hb9⟩
      rw [wk05_T]
      have E9 := Lib.hid ((EE.out.alloc _).trans hb9)
      clear hb9 x0 c0
      go_wp2_with fail
      go_ret
      exact ⟨rfl, E9.out⟩
  · go_simp
    refine (key_any wk05 none 0 0 none 0 0 _).mono ?_
    rintro e V10 ⟨rfl, hb⟩
    have E2 : Ext W.drew V10 := Ext.trans (Ext.refl W.drew) hb
    simp only []
    refine hK.out _ _ (Ext W.drew) (fun _ h => h) E2 (fun hSw => ?_)
    clear hK K
    try simp only [Act.put, List.setIfInBounds_toArray, List.set_cons_zero, List.set_cons_succ]
    have EV := E2
    clear E2 hb
    refine wpS_two 1 8 rfl rfl (by kernel_rfl) (by rfl) (by rfl) (fun K hK => ?_) (fun K hK => ?_) 
    · go_simp
      refine hK.out _ _ (Ext W.drew) (fun _ h => h) (EV.trans (Ext.new _ _)) (fun hSw => ?_)
      clear hK K
      try simp only [Act.put, List.setIfInBounds_toArray, List.set_cons_zero, List.set_cons_succ]
      have F1 : (V10.alloc (.cells #[.int .i64 2, .string ⟨#[99]⟩, .int .i64 0, .int .i64 0, .string ⟨#[101]⟩, .slice none 0 0, .slice none 0 0] 34)).heap[V10.heap.size]? = some (.cells #[.int .i64 2, .string ⟨#[99]⟩, .int .i64 0, .int .i64 0, .string ⟨#[101]⟩, .slice none 0 0, .slice none 0 0] 34 (0, 0)) := heap_alloc_new V10 _
      replace EV := EV.trans (Ext.new V10 (.cells #[.int .i64 2, .string ⟨#[99]⟩, .int .i64 0, .int .i64 0, .string ⟨#[101]⟩, .slice none 0 0, .slice none 0 0] 34))
      generalize (V10.alloc (.cells #[.int .i64 2, .string ⟨#[99]⟩, .int .i64 0, .int .i64 0, .string ⟨#[101]⟩, .slice none 0 0, .slice none 0 0] 34)) = V11 at F1 EV hSw ⊢
      refine wpS_two 4 8 rfl rfl (by kernel_rfl) (by rfl) (by rfl) (fun K hK => ?_) (fun K hK => ?_) 
      · go_simp
        refine (get_any ⟨2, ⟨#[99]⟩⟩ (some ⟨V10.heap.size, 0, none⟩) 1 1 [wk05] _ (by omega) (one_L F1 (wk05_V _ _))).mono ?_
        rintro e V12 ⟨r, B, m, d, B', m', d', rfl, hr, -, hb⟩
        obtain rfl : wk05 = r := hr
        have E2 : Ext W.drew V12 := Ext.trans EV hb
        replace F1 := (hb.block (Array.getElem?_eq_some_iff.1 F1).1).trans F1
        simp only [rsVal, wk05]
        refine hK.out _ _ (Ext W.drew) (fun _ h => h) E2 (fun hSw => ?_)
        clear hK K
        try simp only [Act.put, List.setIfInBounds_toArray, List.set_cons_zero, List.set_cons_succ]
        replace EV := E2
        clear E2 hb
        refine wpS_take 5 (v := ?_) hSw rfl (by kernel_rfl) (by kernel_rfl) (by kernel_rfl) (by rfl) (fun w' hin => ?_) ?_
        rotate_left
        · (try simp only [] at hin); go_simp <;> with_reducible rfl
        try simp only [Act.put, List.setIfInBounds_toArray, List.set_cons_zero, List.set_cons_succ]
        refine wpS_take 6 (v := ?_) hSw rfl (by kernel_rfl) (by kernel_rfl) (by kernel_rfl) (by rfl) (fun w' hin => ?_) ?_
        rotate_left
        · (try simp only [] at hin); go_simp <;> with_reducible rfl
        try simp only [Act.put, List.setIfInBounds_toArray, List.set_cons_zero, List.set_cons_succ]
        refine wpS_take 7 (v := ?_) hSw rfl (by kernel_rfl) (by kernel_rfl) (by kernel_rfl) (by rfl) (fun w' hin => ?_) ?_
        rotate_left
        · (try simp only [] at hin); go_simp <;> with_reducible rfl
        try simp only [Act.put, List.setIfInBounds_toArray, List.set_cons_zero, List.set_cons_succ]
        refine wpS_one 8 rfl (by kernel_rfl) (by rfl) (fun K hK => ?_)
        go_simp
        refine hK.out _ _ (Ext W.drew) (fun _ h => h) (EV.trans (Ext.new _ _)) (fun hSw => ?_)
        clear hK K
        try simp only [Act.put, List.setIfInBounds_toArray, List.set_cons_zero, List.set_cons_succ]
        have F8 : (V12.alloc (.cells #[.int .i64 0, .string ⟨#[]⟩, .int .i64 0, .int .i64 0, .string ⟨#[]⟩, .slice none 0 0, .slice none 0 0] 34)).heap[V12.heap.size]? = some (.cells #[.int .i64 0, .string ⟨#[]⟩, .int .i64 0, .int .i64 0, .string ⟨#[]⟩, .slice none 0 0, .slice none 0 0] 34 (0, 0)) := heap_alloc_new V12 _
        have HQ8 : W.drew.heap.size ≤ V12.heap.size := EV.size
        replace F1 := ((Ext.new V12 (.cells #[.int .i64 0, .string ⟨#[]⟩, .int .i64 0, .int .i64 0, .string ⟨#[]⟩, .slice none 0 0, .slice none 0 0] 34)).block (Array.getElem?_eq_some_iff.1 F1).1).trans F1
        replace EV := EV.trans (Ext.new V12 (.cells #[.int .i64 0, .string ⟨#[]⟩, .int .i64 0, .int .i64 0, .string ⟨#[]⟩, .slice none 0 0, .slice none 0 0] 34))
        generalize (V12.alloc (.cells #[.int .i64 0, .string ⟨#[]⟩, .int .i64 0, .int .i64 0, .string ⟨#[]⟩, .slice none 0 0, .slice none 0 0] 34)) = V13 at F1 F8 EV hSw ⊢
        obtain ⟨z0, z1⟩ := blk_rules F8
        have hz8 : V12.heap.size < V13.heap.size := (Array.getElem?_eq_some_iff.1 F8).1
        refine wpS_one 9 rfl (by kernel_rfl) (by rfl) (fun K hK => ?_)
        go_simp
        clear z0 z1
        generalize hVV : ((((((V13.setCell ⟨V12.heap.size, 0, none⟩ (.int .i64 2)).setCell ⟨V12.heap.size, 1, none⟩ (.string ⟨#[99]⟩)).setCell ⟨V12.heap.size, 2, none⟩ (.int .i64 0)).setCell ⟨V12.heap.size, 3, none⟩ (.int .i64 0)).setCell ⟨V12.heap.size, 4, none⟩ (.string ⟨#[101]⟩)).setCell ⟨V12.heap.size, 5, none⟩ (.slice B m d)).setCell ⟨V12.heap.size, 6, none⟩ (.slice B' m' d') = Vf
        obtain ⟨KX, oV, -⟩ := set7 F8 (.int .i64 2) (.string ⟨#[99]⟩) (.int .i64 0) (.int .i64 0) (.string ⟨#[101]⟩) (.slice B m d) (.slice B' m' d') hVV
        have EF : Ext W.drew Vf := oV W.drew EV HQ8
        clear hVV oV
        refine hK.out _ _ (Ext W.drew) (fun _ h => h) EF (fun hSw => ?_)
        clear hK K
        try simp only [Act.put, List.setIfInBounds_toArray, List.set_cons_zero, List.set_cons_succ]
        refine wpS_take 10 (v := ?_) hSw rfl (by kernel_rfl) (by kernel_rfl) (by kernel_rfl) (by rfl) (fun w' hin => ?_) ?_
        rotate_left
        · (try simp only [] at hin); go_simp <;> with_reducible rfl
        try simp only [Act.put, List.setIfInBounds_toArray, List.set_cons_zero, List.set_cons_succ]
        refine wpS_done (by kernel_rfl) ?_
        have EX : Hid (Ext W Vf) := Lib.hid ((Ext.refl W).drew.trans EF)
        have KX := Lib.hid KX
        clear t0 t1 t2 t3 t4 t5 t6 hSw EF EV F1 F8 HQ8 hz8
        have KC := Lib.hid ((EX.out.block hzW).trans KW.out)
        have EE := Lib.hid (EW.out.trans EX.out)
        obtain ⟨x0, -⟩ := blk_rules KX.out
        obtain ⟨c0, -⟩ := blk_rules KC.out
        go_wp2_with fail
        refine (tabSane_any _ 1 1 [wk05] _ (by unfold maxLen; omega) (one_L (heap_alloc_new Vf _) (wk05_V _ _))).mono ?_
        rintro e w9 ⟨rfl, hb9⟩
        rw [wk05_T]
        have E9 := Lib.hid ((EE.out.alloc _).trans hb9)
        clear hb9 x0 c0
        go_wp2_with fail
        go_ret
        exact ⟨rfl, E9.out⟩
      · go_simp
        refine hK.out _ _ (Ext W.drew) (fun _ h => h) (EV.trans (Ext.new _ _)) (fun hSw => ?_)
        clear hK K
        try simp only [Act.put, List.setIfInBounds_toArray, List.set_cons_zero, List.set_cons_succ]
        have F8 : (V11.alloc (.cells #[.int .i64 0, .string ⟨#[]⟩, .int .i64 0, .int .i64 0, .string ⟨#[]⟩, .slice none 0 0, .slice none 0 0] 34)).heap[V11.heap.size]? = some (.cells #[.int .i64 0, .string ⟨#[]⟩, .int .i64 0, .int .i64 0, .string ⟨#[]⟩, .slice none 0 0, .slice none 0 0] 34 (0, 0)) := heap_alloc_new V11 _
        have HQ8 : W.drew.heap.size ≤ V11.heap.size := EV.size
        replace F1 := ((Ext.new V11 (.cells #[.int .i64 0, .string ⟨#[]⟩, .int .i64 0, .int .i64 0, .string ⟨#[]⟩, .slice none 0 0, .slice none 0 0] 34)).block (Array.getElem?_eq_some_iff.1 F1).1).trans F1
        replace EV := EV.trans (Ext.new V11 (.cells #[.int .i64 0, .string ⟨#[]⟩, .int .i64 0, .int .i64 0, .string ⟨#[]⟩, .slice none 0 0, .slice none 0 0] 34))
        generalize (V11.alloc (.cells #[.int .i64 0, .string ⟨#[]⟩, .int .i64 0, .int .i64 0, .string ⟨#[]⟩, .slice none 0 0, .slice none 0 0] 34)) = V14 at F1 F8 EV hSw ⊢
        refine wpS_one 4 rfl (by kernel_rfl) (by rfl) (fun K hK => ?_)
        go_simp
        refine (get_any ⟨2, ⟨#[99]⟩⟩ (some ⟨V10.heap.size, 0, none⟩) 1 1 [wk05] _ (by omega) (one_L F1 (wk05_V _ _))).mono ?_
        rintro e V15 ⟨r, B, m, d, B', m', d', rfl, hr, -, hb⟩
        obtain rfl : wk05 = r := hr
        have E2 : Ext W.drew V15 := Ext.trans EV hb
        replace F1 := (hb.block (Array.getElem?_eq_some_iff.1 F1).1).trans F1
        replace F8 := (hb.block (Array.getElem?_eq_some_iff.1 F8).1).trans F8
        simp only [rsVal, wk05]
        refine hK.out _ _ (Ext W.drew) (fun _ h => h) E2 (fun hSw => ?_)
        clear hK K
        try simp only [Act.put, List.setIfInBounds_toArray, List.set_cons_zero, List.set_cons_succ]
        replace EV := E2
        clear E2 hb
        refine wpS_take 5 (v := ?_) hSw rfl (by kernel_rfl) (by kernel_rfl) (by kernel_rfl) (by rfl) (fun w' hin => ?_) ?_
        rotate_left
        · (try simp only [] at hin); go_simp <;> with_reducible rfl
        try simp only [Act.put, List.setIfInBounds_toArray, List.set_cons_zero, List.set_cons_succ]
        refine wpS_take 6 (v := ?_) hSw rfl (by kernel_rfl) (by kernel_rfl) (by kernel_rfl) (by rfl) (fun w' hin => ?_) ?_
        rotate_left
        · (try simp only [] at hin); go_simp <;> with_reducible rfl
        try simp only [Act.put, List.setIfInBounds_toArray, List.set_cons_zero, List.set_cons_succ]
        refine wpS_take 7 (v := ?_) hSw rfl (by kernel_rfl) (by kernel_rfl) (by kernel_rfl) (by rfl) (fun w' hin => ?_) ?_
        rotate_left
        · (try simp only [] at hin); go_simp <;> with_reducible rfl
        try simp only [Act.put, List.setIfInBounds_toArray, List.set_cons_zero, List.set_cons_succ]
        obtain ⟨z0, z1⟩ := blk_rules F8
        have hz8 : V11.heap.size < V15.heap.size := (Array.getElem?_eq_some_iff.1 F8).1
        refine wpS_one 9 rfl (by kernel_rfl) (by rfl) (fun K hK => ?_)
        go_simp
        clear z0 z1
        generalize hVV : ((((((V15.setCell ⟨V11.heap.size, 0, none⟩ (.int .i64 2)).setCell ⟨V11.heap.size, 1, none⟩ (.string ⟨#[99]⟩)).setCell ⟨V11.heap.size, 2, none⟩ (.int .i64 0)).setCell ⟨V11.heap.size, 3, none⟩ (.int .i64 0)).setCell ⟨V11.heap.size, 4, none⟩ (.string ⟨#[101]⟩)).setCell ⟨V11.heap.size, 5, none⟩ (.slice B m d)).setCell ⟨V11.heap.size, 6, none⟩ (.slice B' m' d') = Vf
        obtain ⟨KX, oV, -⟩ := set7 F8 (.int .i64 2) (.string ⟨#[99]⟩) (.int .i64 0) (.int .i64 0) (.string ⟨#[101]⟩) (.slice B m d) (.slice B' m' d') hVV
        have EF : Ext W.drew Vf := oV W.drew EV HQ8
        clear hVV oV
        refine hK.out _ _ (Ext W.drew) (fun _ h => h) EF (fun hSw => ?_)
        clear hK K
        try simp only [Act.put, List.setIfInBounds_toArray, List.set_cons_zero, List.set_cons_succ]
        refine wpS_take 10 (v := ?_) hSw rfl (by kernel_rfl) (by kernel_rfl) (by kernel_rfl) (by rfl) (fun w' hin => ?_) ?_
        rotate_left
        · (try simp only [] at hin); go_simp <;> with_reducible rfl
        try simp only [Act.put, List.setIfInBounds_toArray, List.set_cons_zero, List.set_cons_succ]
        refine wpS_done (by kernel_rfl) ?_
        have EX : Hid (Ext W Vf) := Lib.hid ((Ext.refl W).drew.trans EF)
        have KX := Lib.hid KX
        clear t0 t1 t2 t3 t4 t5 t6 hSw EF EV F1 F8 HQ8 hz8
        have KC := Lib.hid ((EX.out.block hzW).trans KW.out)
        have EE := Lib.hid (EW.out.trans EX.out)
        obtain ⟨x0, -⟩ := blk_rules KX.out
        obtain ⟨c0, -⟩ := blk_rules KC.out
        go_wp2_with fail
        refine (tabSane_any _ 1 1 [wk05] _ (by unfold maxLen; omega) (one_L (heap_alloc_new Vf _) (wk05_V _ _))).mono ?_
        rintro e w9 ⟨rfl, hb9⟩
        rw [wk05_T]
        have E9 := Lib.hid ((EE.out.alloc _).trans hb9)
        clear hb9 x0 c0
        go_wp2_with fail
        go_ret
        exact ⟨rfl, E9.out⟩
    · go_simp
      refine hK.out _ _ (Ext W.drew) (fun _ h => h) (EV.trans (Ext.new _ _)) (fun hSw => ?_)
      clear hK K
      try simp only [Act.put, List.setIfInBounds_toArray, List.set_cons_zero, List.set_cons_succ]
      have F8 : (V10.alloc (.cells #[.int .i64 0, .string ⟨#[]⟩, .int .i64 0, .int .i64 0, .string ⟨#[]⟩, .slice none 0 0, .slice none 0 0] 34)).heap[V10.heap.size]? = some (.cells #[.int .i64 0, .string ⟨#[]⟩, .int .i64 0, .int .i64 0, .string ⟨#[]⟩, .slice none 0 0, .slice none 0 0] 34 (0, 0)) := heap_alloc_new V10 _
      have HQ8 : W.drew.heap.size ≤ V10.heap.size := EV.size
      replace EV := EV.trans (Ext.new V10 (.cells #[.int .i64 0, .string ⟨#[]⟩, .int .i64 0, .int .i64 0, .string ⟨#[]⟩, .slice none 0 0, .slice none 0 0] 34))
      generalize (V10.alloc (.cells #[.int .i64 0, .string ⟨#[]⟩, .int .i64 0, .int .i64 0, .string ⟨#[]⟩, .slice none 0 0, .slice none 0 0] 34)) = V16 at F8 EV hSw ⊢
      refine wpS_one 1 rfl (by kernel_rfl) (by rfl) (fun K hK => ?_)
      go_simp
      refine hK.out _ _ (Ext W.drew) (fun _ h => h) (EV.trans (Ext.new _ _)) (fun hSw => ?_)
      clear hK K
      try simp only [Act.put, List.setIfInBounds_toArray, List.set_cons_zero, List.set_cons_succ]
      have F1 : (V16.alloc (.cells #[.int .i64 2, .string ⟨#[99]⟩, .int .i64 0, .int .i64 0, .string ⟨#[101]⟩, .slice none 0 0, .slice none 0 0] 34)).heap[V16.heap.size]? = some (.cells #[.int .i64 2, .string ⟨#[99]⟩, .int .i64 0, .int .i64 0, .string ⟨#[101]⟩, .slice none 0 0, .slice none 0 0] 34 (0, 0)) := heap_alloc_new V16 _
      replace F8 := ((Ext.new V16 (.cells #[.int .i64 2, .string ⟨#[99]⟩, .int .i64 0, .int .i64 0, .string ⟨#[101]⟩, .slice none 0 0, .slice none 0 0] 34)).block (Array.getElem?_eq_some_iff.1 F8).1).trans F8
      replace EV := EV.trans (Ext.new V16 (.cells #[.int .i64 2, .string ⟨#[99]⟩, .int .i64 0, .int .i64 0, .string ⟨#[101]⟩, .slice none 0 0, .slice none 0 0] 34))
      generalize (V16.alloc (.cells #[.int .i64 2, .string ⟨#[99]⟩, .int .i64 0, .int .i64 0, .string ⟨#[101]⟩, .slice none 0 0, .slice none 0 0] 34)) = V17 at F1 F8 EV hSw ⊢
      refine wpS_one 4 rfl (by kernel_rfl) (by rfl) (fun K hK => ?_)
      go_simp
      refine (get_any ⟨2, ⟨#[99]⟩⟩ (some ⟨V16.heap.size, 0, none⟩) 1 1 [wk05] _ (by omega) (one_L F1 (wk05_V _ _))).mono ?_
      rintro e V18 ⟨r, B, m, d, B', m', d', rfl, hr, -, hb⟩
      obtain rfl : wk05 = r := hr
      have E2 : Ext W.drew V18 := Ext.trans EV hb
      replace F1 := (hb.block (Array.getElem?_eq_some_iff.1 F1).1).trans F1
      replace F8 := (hb.block (Array.getElem?_eq_some_iff.1 F8).1).trans F8
      simp only [rsVal, wk05]
      refine hK.out _ _ (Ext W.drew) (fun _ h => h) E2 (fun hSw => ?_)
      clear hK K
      try simp only [Act.put, List.setIfInBounds_toArray, List.set_cons_zero, List.set_cons_succ]
      replace EV := E2
      clear E2 hb
      refine wpS_take 5 (v := ?_) hSw rfl (by kernel_rfl) (by kernel_rfl) (by kernel_rfl) (by rfl) (fun w' hin => ?_) ?_
      rotate_left
      · (try simp only [] at hin); go_simp <;> with_reducible rfl
      try simp only [Act.put, List.setIfInBounds_toArray, List.set_cons_zero, List.set_cons_succ]
      refine wpS_take 6 (v := ?_) hSw rfl (by kernel_rfl) (by kernel_rfl) (by kernel_rfl) (by rfl) (fun w' hin => ?_) ?_
      rotate_left
      · (try simp only [] at hin); go_simp <;> with_reducible rfl
      try simp only [Act.put, List.setIfInBounds_toArray, List.set_cons_zero, List.set_cons_succ]
      refine wpS_take 7 (v := ?_) hSw rfl (by kernel_rfl) (by kernel_rfl) (by kernel_rfl) (by rfl) (fun w' hin => ?_) ?_
      rotate_left
      · (try simp only [] at hin); go_simp <;> with_reducible rfl
      try simp only [Act.put, List.setIfInBounds_toArray, List.set_cons_zero, List.set_cons_succ]
      obtain ⟨z0, z1⟩ := blk_rules F8
      have hz8 : V10.heap.size < V18.heap.size := (Array.getElem?_eq_some_iff.1 F8).1
      refine wpS_one 9 rfl (by kernel_rfl) (by rfl) (fun K hK => ?_)
      go_simp
      clear z0 z1
      generalize hVV : ((((((V18.setCell ⟨V10.heap.size, 0, none⟩ (.int .i64 2)).setCell ⟨V10.heap.size, 1, none⟩ (.string ⟨#[99]⟩)).setCell ⟨V10.heap.size, 2, none⟩ (.int .i64 0)).setCell ⟨V10.heap.size, 3, none⟩ (.int .i64 0)).setCell ⟨V10.heap.size, 4, none⟩ (.string ⟨#[101]⟩)).setCell ⟨V10.heap.size, 5, none⟩ (.slice B m d)).setCell ⟨V10.heap.size, 6, none⟩ (.slice B' m' d') = Vf
      obtain ⟨KX, oV, -⟩ := set7 F8 (.int .i64 2) (.string ⟨#[99]⟩) (.int .i64 0) (.int .i64 0) (.string ⟨#[101]⟩) (.slice B m d) (.slice B' m' d') hVV
      have EF : Ext W.drew Vf := oV W.drew EV HQ8
      clear hVV oV
      refine hK.out _ _ (Ext W.drew) (fun _ h => h) EF (fun hSw => ?_)
      clear hK K
      try simp only [Act.put, List.setIfInBounds_toArray, List.set_cons_zero, List.set_cons_succ]
      refine wpS_take 10 (v := ?_) hSw rfl (by kernel_rfl) (by kernel_rfl) (by kernel_rfl) (by rfl) (fun w' hin => ?_) ?_
      rotate_left
      · (try simp only [] at hin); go_simp <;> with_reducible rfl
      try simp only [Act.put, List.setIfInBounds_toArray, List.set_cons_zero, List.set_cons_succ]
      refine wpS_done (by kernel_rfl) ?_
      have EX : Hid (Ext W Vf) := Lib.hid ((Ext.refl W).drew.trans EF)
      have KX := Lib.hid KX
      clear t0 t1 t2 t3 t4 t5 t6 hSw EF EV F1 F8 HQ8 hz8
      have KC := Lib.hid ((EX.out.block hzW).trans KW.out)
      have EE := Lib.hid (EW.out.trans EX.out)
      obtain ⟨x0, -⟩ := blk_rules KX.out
      obtain ⟨c0, -⟩ := blk_rules KC.out
      go_wp2_with fail
      refine (tabSane_any _ 1 1 [wk05] _ (by unfold maxLen; omega) (one_L (heap_alloc_new Vf _) (wk05_V _ _))).mono ?_
      rintro e w9 ⟨rfl, hb9⟩
      rw [wk05_T]
      have E9 := Lib.hid ((EE.out.alloc _).trans hb9)
      clear hb9 x0 c0
      go_wp2_with fail
      go_ret
      exact ⟨rfl, E9.out⟩
  · go_simp
    have EV0 : Ext W.drew (W.alloc (.cells #[.int .i64 0, .string ⟨#[]⟩, .int .i64 0, .int .i64 0, .string ⟨#[]⟩, .slice none 0 0, .slice none 0 0] 34)).drew := Ext.new W.drew (.cells #[.int .i64 0, .string ⟨#[]⟩, .int .i64 0, .int .i64 0, .string ⟨#[]⟩, .slice none 0 0, .slice none 0 0] 34)
    refine hK.out _ _ (Ext W.drew) (fun _ h => h) EV0 (fun hSw => ?_)
    clear hK K
    try simp only [Act.put, List.setIfInBounds_toArray, List.set_cons_zero, List.set_cons_succ]
    have F8 : (W.alloc (.cells #[.int .i64 0, .string ⟨#[]⟩, .int .i64 0, .int .i64 0, .string ⟨#[]⟩, .slice none 0 0, .slice none 0 0] 34)).drew.heap[W.heap.size]? = some (.cells #[.int .i64 0, .string ⟨#[]⟩, .int .i64 0, .int .i64 0, .string ⟨#[]⟩, .slice none 0 0, .slice none 0 0] 34 (0, 0)) := heap_alloc_new W.drew _
    have HQ8 : W.drew.heap.size ≤ W.heap.size := (Ext.refl W.drew).size
    have EV := EV0
    clear EV0
    generalize (W.alloc (.cells #[.int .i64 0, .string ⟨#[]⟩, .int .i64 0, .int .i64 0, .string ⟨#[]⟩, .slice none 0 0, .slice none 0 0] 34)).drew = V19 at F8 EV hSw ⊢
    refine wpS_two 1 3 rfl rfl (by kernel_rfl) (by rfl) (by rfl) (fun K hK => ?_) (fun K hK => ?_) 
    · go_simp
      refine hK.out _ _ (Ext W.drew) (fun _ h => h) (EV.trans (Ext.new _ _)) (fun hSw => ?_)
      clear hK K
      try simp only [Act.put, List.setIfInBounds_toArray, List.set_cons_zero, List.set_cons_succ]
      have F1 : (V19.alloc (.cells #[.int .i64 2, .string ⟨#[99]⟩, .int .i64 0, .int .i64 0, .string ⟨#[101]⟩, .slice none 0 0, .slice none 0 0] 34)).heap[V19.heap.size]? = some (.cells #[.int .i64 2, .string ⟨#[99]⟩, .int .i64 0, .int .i64 0, .string ⟨#[101]⟩, .slice none 0 0, .slice none 0 0] 34 (0, 0)) := heap_alloc_new V19 _
      replace F8 := ((Ext.new V19 (.cells #[.int .i64 2, .string ⟨#[99]⟩, .int .i64 0, .int .i64 0, .string ⟨#[101]⟩, .slice none 0 0, .slice none 0 0] 34)).block (Array.getElem?_eq_some_iff.1 F8).1).trans F8
      replace EV := EV.trans (Ext.new V19 (.cells #[.int .i64 2, .string ⟨#[99]⟩, .int .i64 0, .int .i64 0, .string ⟨#[101]⟩, .slice none 0 0, .slice none 0 0] 34))
      generalize (V19.alloc (.cells #[.int .i64 2, .string ⟨#[99]⟩, .int .i64 0, .int .i64 0, .string ⟨#[101]⟩, .slice none 0 0, .slice none 0 0] 34)) = V20 at F1 F8 EV hSw ⊢
      refine wpS_one 3 rfl (by kernel_rfl) (by rfl) (fun K hK => ?_)
      go_simp
      refine (key_any wk05 none 0 0 none 0 0 _).mono ?_
      rintro e V21 ⟨rfl, hb⟩
      have E2 : Ext W.drew V21 := Ext.trans EV hb
      replace F1 := (hb.block (Array.getElem?_eq_some_iff.1 F1).1).trans F1
      replace F8 := (hb.block (Array.getElem?_eq_some_iff.1 F8).1).trans F8
      simp only []
      refine hK.out _ _ (Ext W.drew) (fun _ h => h) E2 (fun hSw => ?_)
      clear hK K
      try simp only [Act.put, List.setIfInBounds_toArray, List.set_cons_zero, List.set_cons_succ]
      replace EV := E2
      clear E2 hb
      refine wpS_one 4 rfl (by kernel_rfl) (by rfl) (fun K hK => ?_)
      go_simp
      refine (get_any ⟨2, ⟨#[99]⟩⟩ (some ⟨V19.heap.size, 0, none⟩) 1 1 [wk05] _ (by omega) (one_L F1 (wk05_V _ _))).mono ?_
      rintro e V22 ⟨r, B, m, d, B', m', d', rfl, hr, -, hb⟩
      obtain rfl : wk05 = r := hr
      have E2 : Ext W.drew V22 := Ext.trans EV hb
      replace F1 := (hb.block (Array.getElem?_eq_some_iff.1 F1).1).trans F1
      replace F8 := (hb.block (Array.getElem?_eq_some_iff.1 F8).1).trans F8
      simp only [rsVal, wk05]
      refine hK.out _ _ (Ext W.drew) (fun _ h => h) E2 (fun hSw => ?_)
      clear hK K
      try simp only [Act.put, List.setIfInBounds_toArray, List.set_cons_zero, List.set_cons_succ]
      replace EV := E2
      clear E2 hb
      refine wpS_take 5 (v := ?_) hSw rfl (by kernel_rfl) (by kernel_rfl) (by kernel_rfl) (by rfl) (fun w' hin => ?_) ?_
      rotate_left
      · (try simp only [] at hin); go_simp <;> with_reducible rfl
      try simp only [Act.put, List.setIfInBounds_toArray, List.set_cons_zero, List.set_cons_succ]
      refine wpS_take 6 (v := ?_) hSw rfl (by kernel_rfl) (by kernel_rfl) (by kernel_rfl) (by rfl) (fun w' hin => ?_) ?_
      rotate_left
      · (try simp only [] at hin); go_simp <;> with_reducible rfl
      try simp only [Act.put, List.setIfInBounds_toArray, List.set_cons_zero, List.set_cons_succ]
      refine wpS_take 7 (v := ?_) hSw rfl (by kernel_rfl) (by kernel_rfl) (by kernel_rfl) (by rfl) (fun w' hin => ?_) ?_
      rotate_left
      · (try simp only [] at hin); go_simp <;> with_reducible rfl
      try simp only [Act.put, List.setIfInBounds_toArray, List.set_cons_zero, List.set_cons_succ]
      obtain ⟨z0, z1⟩ := blk_rules F8
      have hz8 : W.heap.size < V22.heap.size := (Array.getElem?_eq_some_iff.1 F8).1
      refine wpS_one 9 rfl (by kernel_rfl) (by rfl) (fun K hK => ?_)
      go_simp
      clear z0 z1
      generalize hVV : ((((((V22.setCell ⟨W.heap.size, 0, none⟩ (.int .i64 2)).setCell ⟨W.heap.size, 1, none⟩ (.string ⟨#[99]⟩)).setCell ⟨W.heap.size, 2, none⟩ (.int .i64 0)).setCell ⟨W.heap.size, 3, none⟩ (.int .i64 0)).setCell ⟨W.heap.size, 4, none⟩ (.string ⟨#[101]⟩)).setCell ⟨W.heap.size, 5, none⟩ (.slice B m d)).setCell ⟨W.heap.size, 6, none⟩ (.slice B' m' d') = Vf
      obtain ⟨KX, oV, -⟩ := set7 F8 (.int .i64 2) (.string ⟨#[99]⟩) (.int .i64 0) (.int .i64 0) (.string ⟨#[101]⟩) (.slice B m d) (.slice B' m' d') hVV
      have EF : Ext W.drew Vf := oV W.drew EV HQ8
      clear hVV oV
      refine hK.out _ _ (Ext W.drew) (fun _ h => h) EF (fun hSw => ?_)
      clear hK K
      try simp only [Act.put, List.setIfInBounds_toArray, List.set_cons_zero, List.set_cons_succ]
      refine wpS_take 10 (v := ?_) hSw rfl (by kernel_rfl) (by kernel_rfl) (by kernel_rfl) (by rfl) (fun w' hin => ?_) ?_
      rotate_left
      · (try simp only [] at hin); go_simp <;> with_reducible rfl
      try simp only [Act.put, List.setIfInBounds_toArray, List.set_cons_zero, List.set_cons_succ]
      refine wpS_done (by kernel_rfl) ?_
      have EX : Hid (Ext W Vf) := Lib.hid ((Ext.refl W).drew.trans EF)
      have KX := Lib.hid KX
      clear t0 t1 t2 t3 t4 t5 t6 hSw EF EV F1 F8 HQ8 hz8
      have KC := Lib.hid ((EX.out.block hzW).trans KW.out)
      have EE := Lib.hid (EW.out.trans EX.out)
      obtain ⟨x0, -⟩ := blk_rules KX.out
      obtain ⟨c0, -⟩ := blk_rules KC.out
      go_wp2_with fail
      refine (tabSane_any _ 1 1 [wk05] _ (by unfold maxLen; omega) (one_L (heap_alloc_new Vf _) (wk05_V _ _))).mono ?_
      rintro e w9 ⟨rfl, hb9⟩
      rw [wk05_T]
      have E9 := Lib.hid ((EE.out.alloc _).trans hb9)
      clear hb9 x0 c0
      go_wp2_with fail
      go_ret
      exact ⟨rfl, E9.out⟩
    · go_simp
      refine (key_any wk05 none 0 0 none 0 0 _).mono ?_
      rintro e V23 ⟨rfl, hb⟩
      have E2 : Ext W.drew V23 := Ext.trans EV hb
      replace F8 := (hb.block (Array.getElem?_eq_some_iff.1 F8).1).trans F8
      simp only []
      refine hK.out _ _ (Ext W.drew) (fun _ h => h) E2 (fun hSw => ?_)
      clear hK K
      try simp only [Act.put, List.setIfInBounds_toArray, List.set_cons_zero, List.set_cons_succ]
      replace EV := E2
      clear E2 hb
      refine wpS_one 1 rfl (by kernel_rfl) (by rfl) (fun K hK => ?_)
      go_simp
      refine hK.out _ _ (Ext W.drew) (fun _ h => h) (EV.trans (Ext.new _ _)) (fun hSw => ?_)
      clear hK K
      try simp only [Act.put, List.setIfInBounds_toArray, List.set_cons_zero, List.set_cons_succ]
      have F1 : (V23.alloc (.cells #[.int .i64 2, .string ⟨#[99]⟩, .int .i64 0, .int .i64 0, .string ⟨#[101]⟩, .slice none 0 0, .slice none 0 0] 34)).heap[V23.heap.size]? = some (.cells #[.int .i64 2, .string ⟨#[99]⟩, .int .i64 0, .int .i64 0, .string ⟨#[101]⟩, .slice none 0 0, .slice none 0 0] 34 (0, 0)) := heap_alloc_new V23 _
      replace F8 := ((Ext.new V23 (.cells #[.int .i64 2, .string ⟨#[99]⟩, .int .i64 0, .int .i64 0, .string ⟨#[101]⟩, .slice none 0 0, .slice none 0 0] 34)).block (Array.getElem?_eq_some_iff.1 F8).1).trans F8
      replace EV := EV.trans (Ext.new V23 (.cells #[.int .i64 2, .string ⟨#[99]⟩, .int .i64 0, .int .i64 0, .string ⟨#[101]⟩, .slice none 0 0, .slice none 0 0] 34))
      generalize (V23.alloc (.cells #[.int .i64 2, .string ⟨#[99]⟩, .int .i64 0, .int .i64 0, .string ⟨#[101]⟩, .slice none 0 0, .slice none 0 0] 34)) = V24 at F1 F8 EV hSw ⊢
      refine wpS_one 4 rfl (by kernel_rfl) (by rfl) (fun K hK => ?_)
      go_simp
      refine (get_any ⟨2, ⟨#[99]⟩⟩ (some ⟨V23.heap.size, 0, none⟩) 1 1 [wk05] _ (by omega) (one_L F1 (wk05_V _ _))).mono ?_
      rintro e V25 ⟨r, B, m, d, B', m', d', rfl, hr, -, hb⟩
      obtain rfl : wk05 = r := hr
      have E2 : Ext W.drew V25 := Ext.trans EV hb
      replace F1 := (hb.block (Array.getElem?_eq_some_iff.1 F1).1).trans F1
      replace F8 := (hb.block (Array.getElem?_eq_some_iff.1 F8).1).trans F8
      simp only [rsVal, wk05]
      refine hK.out _ _ (Ext W.drew) (fun _ h => h) E2 (fun hSw => ?_)
      clear hK K
      try simp only [Act.put, List.setIfInBounds_toArray, List.set_cons_zero, List.set_cons_succ]
      replace EV := E2
      clear E2 hb
      refine wpS_take 5 (v := ?_) hSw rfl (by kernel_rfl) (by kernel_rfl) (by kernel_rfl) (by rfl) (fun w' hin => ?_) ?_
      rotate_left
      · (try simp only [] at hin); go_simp <;> with_reducible rfl
      try simp only [Act.put, List.setIfInBounds_toArray, List.set_cons_zero, List.set_cons_succ]
      refine wpS_take 6 (v := ?_) hSw rfl (by kernel_rfl) (by kernel_rfl) (by kernel_rfl) (by rfl) (fun w' hin => ?_) ?_
      rotate_left
      · (try simp only [] at hin); go_simp <;> with_reducible rfl
      try simp only [Act.put, List.setIfInBounds_toArray, List.set_cons_zero, List.set_cons_succ]
      refine wpS_take 7 (v := ?_) hSw rfl (by kernel_rfl) (by kernel_rfl) (by kernel_rfl) (by rfl) (fun w' hin => ?_) ?_
      rotate_left
      · (try simp only [] at hin); go_simp <;> with_reducible rfl
      try simp only [Act.put, List.setIfInBounds_toArray, List.set_cons_zero, List.set_cons_succ]
      obtain ⟨z0, z1⟩ := blk_rules F8
      have hz8 : W.heap.size < V25.heap.size := (Array.getElem?_eq_some_iff.1 F8).1
      refine wpS_one 9 rfl (by kernel_rfl) (by rfl) (fun K hK => ?_)
      go_simp
      clear z0 z1
      generalize hVV : ((((((V25.setCell ⟨W.heap.size, 0, none⟩ (.int .i64 2)).setCell ⟨W.heap.size, 1, none⟩ (.string ⟨#[99]⟩)).setCell ⟨W.heap.size, 2, none⟩ (.int .i64 0)).setCell ⟨W.heap.size, 3, none⟩ (.int .i64 0)).setCell ⟨W.heap.size, 4, none⟩ (.string ⟨#[101]⟩)).setCell ⟨W.heap.size, 5, none⟩ (.slice B m d)).setCell ⟨W.heap.size, 6, none⟩ (.slice B' m' d') = Vf
      obtain ⟨KX, oV, -⟩ := set7 F8 (.int .i64 2) (.string ⟨#[99]⟩) (.int .i64 0) (.int .i64 0) (.string ⟨#[101]⟩) (.slice B m d) (.slice B' m' d') hVV
      have EF : Ext W.drew Vf := oV W.drew EV HQ8
      clear hVV oV
      refine hK.out _ _ (Ext W.drew) (fun _ h => h) EF (fun hSw => ?_)
      clear hK K
      try simp only [Act.put, List.setIfInBounds_toArray, List.set_cons_zero, List.set_cons_succ]
      refine wpS_take 10 (v := ?_) hSw rfl (by kernel_rfl) (by kernel_rfl) (by kernel_rfl) (by rfl) (fun w' hin => ?_) ?_
      rotate_left
      · (try simp only [] at hin); go_simp <;> with_reducible rfl
      try simp only [Act.put, List.setIfInBounds_toArray, List.set_cons_zero, List.set_cons_succ]
      refine wpS_done (by kernel_rfl) ?_
      have EX : Hid (Ext W Vf) := Lib.hid ((Ext.refl W).drew.trans EF)
      have KX := Lib.hid KX
      clear t0 t1 t2 t3 t4 t5 t6 hSw EF EV F1 F8 HQ8 hz8
      have KC := Lib.hid ((EX.out.block hzW).trans KW.out)
      have EE := Lib.hid (EW.out.trans EX.out)
      obtain ⟨x0, -⟩ := blk_rules KX.out
      obtain ⟨c0, -⟩ := blk_rules KC.out
      go_wp2_with fail
      refine (tabSane_any _ 1 1 [wk05] _ (by unfold maxLen; omega) (one_L (heap_alloc_new Vf _) (wk05_V _ _))).mono ?_
      rintro e w9 ⟨rfl, hb9⟩
      rw [wk05_T]
      have E9 := Lib.hid ((EE.out.alloc _).trans hb9)
      clear hb9 x0 c0
      go_wp2_with fail
      go_ret
      exact ⟨rfl, E9.out⟩
end Go.Proofs.YtfdjbnofcniodaaGreatDoor
