/- The law LinkPlays: its walk. -/
import Derived.Test.YtjomoannlpadnaaLinkStep
import Derived.Test.YtjomoannlpadnaaLinkAct
import Derived.Test.YtjomoannlpadnaaRegion
import Derived.Outline
namespace Go.Proofs.Ytjomoannlpadnaa
set_option linter.unusedVariables false
open Go.RowKit Go.Sort
attribute [local go_sem ↓] run_max2 run_min2
attribute [local go_sem ↓] Go.wp_at_zero Go.wp_at_succ

set_option maxRecDepth 100000 in
set_option maxHeartbeats 400000 in
theorem linkPlays_few (ep : Int) (A Aa : Option Addr) (n c na ca : Nat) (l : Lk) (w : World) (h : LkR w noX ep A n c l) (hm : n ≤ 9223372036854775807) (hf : fewB l.q = false) :
    Calls Try.prog 14 #[.agg #[.int .i64 ep, .slice A n c], .slice Aa na ca] w fun e w' => e = .returned (.bool true) ∧ Ext w w' := by
  have H := Lib.hid h
  clear h
  go_enter Try.func14, Try.ntmps14
  go_wp2_with fail
  refine (awake12 _).mono ?_
  rintro e w1 ⟨rfl, hb1⟩
  obtain ⟨x0, x1, x2⟩ := box1 hb1
  have E1 := (Ext.new w _).trans hb1
  go_wp2_with fail
  refine (few12_any noX _ _ _ _ l.q _ (H.out.2.1.up E1) hm).mono ?_
  rintro e w2 ⟨rfl, hb2⟩
  go_wp2_with fail
  go_ret
  exact ⟨rfl, E1.trans hb2⟩
set_option maxRecDepth 100000 in
set_option maxHeartbeats 400000 in
theorem linkPlays_many (ep : Int) (A Aa : Option Addr) (n c na ca : Nat) (l : Lk) (w : World) (h : LkR w noX ep A n c l) (hm : n ≤ 9223372036854775807) (hf : fewB l.q = true) (hb : 60 < na) :
    Calls Try.prog 14 #[.agg #[.int .i64 ep, .slice A n c], .slice Aa na ca] w fun e w' => e = .returned (.bool true) ∧ Ext w w' := by
  have H := Lib.hid h
  clear h
  go_enter Try.func14, Try.ntmps14
  go_wp2_with fail
  refine (awake12 _).mono ?_
  rintro e w1 ⟨rfl, hb1⟩
  obtain ⟨x0, x1, x2⟩ := box1 hb1
  have E1 := (Ext.new w _).trans hb1
  go_wp2_with fail
  refine (few12_any noX _ _ _ _ l.q _ (H.out.2.1.up E1) hm).mono ?_
  rintro e w2 ⟨rfl, hb2⟩
  rw [hf]
  go_wp2_with fail
  go_ret
  exact ⟨rfl, E1.trans hb2⟩

/-- the two boxes -/
def OffAB (ga gb : Nat) (b : Nat) : Prop := b = ga ∨ b = gb
def OffW (ga gb B N : Nat) (b : Nat) : Prop := b = ga ∨ b = gb ∨ (B ≤ b ∧ b < N)
theorem offw_fresh {ga gb : Nat} {w : World} {N : Nat} : ∀ b, OffW ga gb w.heap.size N b → OffAB ga gb b ∨ w.heap.size ≤ b := by
  rintro b (hb | hb | hb)
  · exact .inl (.inl hb)
  · exact .inl (.inr hb)
  · exact .inr hb.1
theorem offw_ab {ga gb B N : Nat} : ∀ b, OffAB ga gb b → OffW ga gb B N b := by
  rintro b (hb | hb)
  · exact .inl hb
  · exact .inr (.inl hb)
def XS (ga gb : Nat) (gs : List Nat) (b : Nat) : Prop := OffAB ga gb b ∨ b ∈ gs
theorem xs_offw {ga gb B N : Nat} {gs : List Nat} (h : ∀ g ∈ gs, B ≤ g ∧ g < N) : ∀ b, XS ga gb gs b → OffW ga gb B N b := by
  rintro b (hb | hb)
  · exact offw_ab b hb
  · exact .inr (.inr (h b hb))
theorem xs_cons {ga gb g : Nat} {gs : List Nat} {w : World} (hg : w.heap.size ≤ g) : ∀ b, XS ga gb (g :: gs) b → XS ga gb gs b ∨ w.heap.size ≤ b := by
  rintro b (hb | hb)
  · exact .inl (.inl hb)
  · rcases List.mem_cons.1 hb with rfl | hb
    · exact .inr hg
    · exact .inl (.inr hb)
theorem wpS_three {P : Program} {Q : Exit → Act → World → Prop} {md : Region.Mode} (i j m : Nat) {S : World → Prop} {l : List Oper} {oi oj om : Oper} {fuel : Nat} {listed : Array Bool} {a : Act} {w : World} (hi : l[i]? = some oi) (hj : l[j]? = some oj) (hm : l[m]? = some om)
    (hr : Region.ready md l.toArray listed = [i, j, m]) (hwi : Region.wanted oi (yielded l.toArray a.tmps) = true) (hwj : Region.wanted oj (yielded l.toArray a.tmps) = true) (hwm : Region.wanted om (yielded l.toArray a.tmps) = true)
    (h1 : ∀ K : Act → World → Prop, Shut (∀ a w' (S' : World → Prop), (∀ x, S' x → S x) → S' w' → (S' w' → wpS P md l.toArray Q S' fuel (listed.setIfInBounds i true) a w') → K a w') → Oper.wp P oi a w K Q)
    (h2 : ∀ K : Act → World → Prop, Shut (∀ a w' (S' : World → Prop), (∀ x, S' x → S x) → S' w' → (S' w' → wpS P md l.toArray Q S' fuel (listed.setIfInBounds j true) a w') → K a w') → Oper.wp P oj a w K Q)
    (h3 : ∀ K : Act → World → Prop, Shut (∀ a w' (S' : World → Prop), (∀ x, S' x → S x) → S' w' → (S' w' → wpS P md l.toArray Q S' fuel (listed.setIfInBounds m true) a w') → K a w') → Oper.wp P om a w K Q) : wpS P md l.toArray Q S (fuel + 1) listed a w := by
  refine wpAnyH_all hr (by simp) fun k hk => ?_
  rcases (by simpa using hk : k = i ∨ k = j ∨ k = m) with rfl | rfl | rfl
  · refine wpOp_step (o := oi) (by simpa using hi) fun K hK => ?_
    rw [if_pos hwi]
    exact h1 K fun a w' S' hSS hS hh => hK a w' ⟨hSS _ hS, wpAnyH_stronger hSS _ _ _ _ (hh hS)⟩
  · refine wpOp_step (o := oj) (by simpa using hj) fun K hK => ?_
    rw [if_pos hwj]
    exact h2 K fun a w' S' hSS hS hh => hK a w' ⟨hSS _ hS, wpAnyH_stronger hSS _ _ _ _ (hh hS)⟩
  · refine wpOp_step (o := om) (by simpa using hm) fun K hK => ?_
    rw [if_pos hwm]
    exact h3 K fun a w' S' hSS hS hh => hK a w' ⟨hSS _ hS, wpAnyH_stronger hSS _ _ _ _ (hh hS)⟩
theorem wpS_two {P : Program} {Q : Exit → Act → World → Prop} {md : Region.Mode} (i j : Nat) {S : World → Prop} {l : List Oper} {oi oj : Oper} {fuel : Nat} {listed : Array Bool} {a : Act} {w : World} (hi : l[i]? = some oi) (hj : l[j]? = some oj)
    (hr : Region.ready md l.toArray listed = [i, j]) (hwi : Region.wanted oi (yielded l.toArray a.tmps) = true) (hwj : Region.wanted oj (yielded l.toArray a.tmps) = true)
    (h1 : ∀ K : Act → World → Prop, Shut (∀ a w' (S' : World → Prop), (∀ x, S' x → S x) → S' w' → (S' w' → wpS P md l.toArray Q S' fuel (listed.setIfInBounds i true) a w') → K a w') → Oper.wp P oi a w K Q)
    (h2 : ∀ K : Act → World → Prop, Shut (∀ a w' (S' : World → Prop), (∀ x, S' x → S x) → S' w' → (S' w' → wpS P md l.toArray Q S' fuel (listed.setIfInBounds j true) a w') → K a w') → Oper.wp P oj a w K Q) : wpS P md l.toArray Q S (fuel + 1) listed a w := by
  refine wpAnyH_all hr (by simp) fun k hk => ?_
  rcases (by simpa using hk : k = i ∨ k = j) with rfl | rfl
  · refine wpOp_step (o := oi) (by simpa using hi) fun K hK => ?_
    rw [if_pos hwi]
    exact h1 K fun a w' S' hSS hS hh => hK a w' ⟨hSS _ hS, wpAnyH_stronger hSS _ _ _ _ (hh hS)⟩
  · refine wpOp_step (o := oj) (by simpa using hj) fun K hK => ?_
    rw [if_pos hwj]
    exact h2 K fun a w' S' hSS hS hh => hK a w' ⟨hSS _ hS, wpAnyH_stronger hSS _ _ _ _ (hh hS)⟩
set_option maxRecDepth 100000 in
set_option maxHeartbeats 20000000 in
theorem linkPlays_main (ep : Int) (A Aa : Option Addr) (n c na ca : Nat) (l : Lk) (ys : List Ac) (w : World) (h : LkR w noX ep A n c l) (hm : n ≤ 9223372036854775807) (hf : fewB l.q = true) (hb : na ≤ 60) (hA : ArrR w 3 (ActR w) Aa na ys) :
    Calls Try.prog 14 #[.agg #[.int .i64 ep, .slice A n c], .slice Aa na ca] w fun e w' => e = .returned (.bool true) ∧ Ext w w' := by
  have H := Lib.hid h
  have HA := Lib.hid hA
  have HFW := Lib.hid (fewB_len hf).2
  clear h hA
  have hcmp : ¬ (60 : Int) < na := by omega
  go_enter Try.func14, Try.ntmps14
  go_wp2_with fail
  refine (awake12 _).mono ?_
  rintro e w1 ⟨rfl, hb1⟩
  obtain ⟨x0, x1, x2⟩ := box1 hb1
  have k0 := Lib.hid (box1b hb1).1
  have E1 := Lib.hid ((Ext.new w _).trans hb1)
  clear hb1
  go_wp2_with fail
  refine (few12_any noX _ _ _ _ l.q _ (H.out.2.1.up E1.out) hm).mono ?_
  rintro e w2 ⟨rfl, hb2⟩
  obtain ⟨c2, f2⟩ := bcell hb2
  rw [hf]
  go_wp2_with fail
  refine (ours_any _ _ _ _ _).mono ?_
  rintro e w3 ⟨rfl, hb3⟩
  have E3' := Lib.hid (hb2.trans hb3)
  clear c2 f2 hb2 hb3 x0 x1
  obtain ⟨y0, -⟩ := blk_rules ((E3'.out.block x2).trans k0.out)
  have x3 := Nat.lt_of_lt_of_le x2 E3'.out.size
  obtain ⟨kA, kB⟩ := two_blocks w3 (.cells #[.int .i64 ep, .slice A n c] 40) (.cells #[.int .i64 ep, .slice A n c] 37)
  obtain ⟨W, hW⟩ : ∃ W, W = (w3.alloc (.cells #[.int .i64 ep, .slice A n c] 40)).alloc (.cells #[.int .i64 ep, .slice A n c] 37) := ⟨_, rfl⟩
  have EW : Hid (Ext w W) := Lib.hid (by rw [hW]; exact ((E1.out.trans E3'.out).alloc _).alloc _)
  have hsW : w3.heap.size + 1 < W.heap.size := by rw [hW]; simp
  have hsW' : w3.heap.size < W.heap.size := by omega
  rw [← hW] at kA kB
  have KA := Lib.hid kA
  have KB := Lib.hid kB
  have hg3 : w.heap.size ≤ w3.heap.size := by omega
  have la0 : ∀ w', Ext W.drew w' → w'.cell? ⟨w3.heap.size, 0, none⟩ = some (.int .i64 ep) := fun w' hx => (((Ext.refl W).drew.trans hx).cell hsW').trans ((blk_rules KA.out).1 0)
  have la1 : ∀ w', Ext W.drew w' → w'.cell? ⟨w3.heap.size, 1, none⟩ = some (.slice A n c) := fun w' hx => (((Ext.refl W).drew.trans hx).cell hsW').trans ((blk_rules KA.out).1 1)
  have lb0 : ∀ w', Ext W.drew w' → w'.cell? ⟨w3.heap.size + 1, 0, none⟩ = some (.int .i64 ep) := fun w' hx => (((Ext.refl W).drew.trans hx).cell hsW).trans ((blk_rules KB.out).1 0)
  have lb1 : ∀ w', Ext W.drew w' → w'.cell? ⟨w3.heap.size + 1, 1, none⟩ = some (.slice A n c) := fun w' hx => (((Ext.refl W).drew.trans hx).cell hsW).trans ((blk_rules KB.out).1 1)
  have hnn : (okL ep n != okL ep n) = false := by simp
  clear kA kB
  go_wp2_with fail
  rw [← hW]
  clear hW y0
  have hSw : Ext W.drew W.drew := Ext.refl _
  refine wpS_begin (Ext W.drew) (by kernel_rfl) ?_
  refine wpS_take 0 (v := ?_) hSw rfl (by kernel_rfl) (by kernel_rfl) (by kernel_rfl) (by rfl) (fun w' hin => ?_) ?_
  rotate_left
  · (try simp only [] at hin); go_simp <;> with_reducible rfl
  try simp only [Act.put, List.setIfInBounds_toArray, List.set_cons_zero, List.set_cons_succ]
  refine wpS_take 2 (v := ?_) hSw rfl (by kernel_rfl) (by kernel_rfl) (by kernel_rfl) (by rfl) (fun w' hin => ?_) ?_
  rotate_left
  · (try simp only [] at hin); go_simp <;> with_reducible rfl
  try simp only [Act.put, List.setIfInBounds_toArray, List.set_cons_zero, List.set_cons_succ]
  refine wpS_one 1 rfl (by kernel_rfl) (by rfl) (fun K hK => ?_)
  go_simp
  refine (linkSane_any _ _ _ _ _).mono ?_
  rintro e w7 ⟨rfl, hb7⟩
  simp only []
  refine hK.out _ _ (Ext W.drew) (fun _ h => h) (hb7) (fun hSw => ?_)
  clear hK K
  try simp only [Act.put, List.setIfInBounds_toArray, List.set_cons_zero, List.set_cons_succ]
  refine wpS_one 3 rfl (by kernel_rfl) (by rfl) (fun K hK => ?_)
  go_simp
  refine (refSane12_any _ _ _ _ _).mono ?_
  rintro e w8 ⟨rfl, hb8⟩
  simp only []
  refine hK.out _ _ (Ext W.drew) (fun _ h => h) (hb7.trans hb8) (fun hSw => ?_)
  clear hK K
  try simp only [Act.put, List.setIfInBounds_toArray, List.set_cons_zero, List.set_cons_succ]
  refine wpS_take 4 (v := ?_) hSw rfl (by kernel_rfl) (by kernel_rfl) (by kernel_rfl) (by rfl) (fun w' hin => ?_) ?_
  rotate_left
  · (try simp only [] at hin); go_simp <;> with_reducible rfl
  try simp only [Act.put, List.setIfInBounds_toArray, List.set_cons_zero, List.set_cons_succ]
  refine wpS_done (by kernel_rfl) ?_
  have E8 := Lib.hid (((Ext.refl W).drew.trans hb7).trans hb8)
  have hz8 : w3.heap.size + 1 < w8.heap.size := Nat.lt_of_lt_of_le hsW E8.out.size
  have BA8 := Lib.hid ((E8.out.block hsW').trans KA.out)
  have BB8 := Lib.hid ((E8.out.block hsW).trans KB.out)
  have EW8 := Lib.hid (EW.out.trans E8.out)
  have LK8 : Hid (LkR w8 (OffAB w3.heap.size (w3.heap.size + 1)) ep A n c l) := Lib.hid ((H.out.fresh (fun b hb => .inr (by rcases hb with hb | hb <;> omega))).up EW8.out)
  have HFS : Hid (∀ b ∈ l.sane.q, b.length ≤ 300) := Lib.hid (by
    unfold Lk.sane
    split
    · exact HFW.out
    · simp)
  clear hb7 hb8 la0 la1 lb0 lb1 hSw E8 KA KB EW hsW hsW'
  go_wp2_with fail
  go_loopw [8] (fun i wr => ∃ (j : Nat) (l' : Lk) (e1 : Int) (A1 : Option Addr) (n1 c1 : Nat) (e2 : Int) (A2 : Option Addr) (n2 c2 : Nat), j ≤ na ∧ i = .int .i64 j ∧ Hid (∀ b ∈ l'.sane.q, b.length ≤ 300) ∧
    Hid (wr.heap[w3.heap.size]? = some (.cells #[.int .i64 e1, .slice A1 n1 c1] 40 (0, 0))) ∧ Hid (wr.heap[w3.heap.size + 1]? = some (.cells #[.int .i64 e2, .slice A2 n2 c2] 37 (0, 0))) ∧
    Hid (LkR wr (OffAB w3.heap.size (w3.heap.size + 1)) e1 A1 n1 c1 l') ∧ Hid (LkR wr (OffAB w3.heap.size (w3.heap.size + 1)) e2 A2 n2 c2 l') ∧ Hid (Ext w wr) ∧ w3.heap.size + 1 < wr.heap.size) (fun i _ => na - (intOf i).toNat)
  case atStart => exact ⟨0, l, ep, A, n, c, ep, A, n, c, Nat.zero_le _, rfl, HFS, BA8, BB8, LK8, LK8, EW8, hz8⟩
  case round =>
    obtain ⟨j, l', e1, A1, n1, c1, e2, A2, n2, c2, hj, rfl, HF', BA, BB, LA, LB, EW', hz'⟩ := hrel
    have hz'' : w3.heap.size < wr.heap.size := by omega
    by_cases hlt : j < na
    · obtain ⟨b, o, y, cs, rfl, hb0, hyj, hcs, hR, hcells⟩ := HA.out.at_ hlt
      obtain ⟨what, i, vb, xs⟩ := y
      obtain ⟨rfl, hbv⟩ := hR
      have c0 := (EW'.out.cell hb0).trans (hcells 0 _ rfl)
      have c1' := (EW'.out.cell hb0).trans (hcells 1 _ rfl)
      have c2' := (EW'.out.cell hb0).trans (hcells 2 _ rfl)
      simp only [Nat.add_zero] at c0
      obtain ⟨Ax, nx, cx, hv, hx1, hx2, hx3, -⟩ := hbv
      simp only at hv hx3 c0 c1' c2'
      rw [hv] at c2'
      have HX3 := Lib.hid hx3
      have HC0 := Lib.hid c0
      have HC1 := Lib.hid c1'
      have i1 : (0 : Int) ≤ (j : Int) := by omega
      have i2 : (j : Int) < (na : Int) := by omega
      clear hcells hyj hcs hx3 hv
      by_cases hbig : 300 < nx
      · go_wp2_with fail
        go_ret
        exact ⟨rfl, EW'.out⟩
      have HST : Hid (∀ V, Ext wr V → ∃ l2 : Lk, l2.ok = true ∧ (∀ b ∈ l2.q, b.length ≤ 300) ∧ Calls Try.prog 48 #[.agg #[.int .i64 e1, .slice A1 n1 c1], .agg #[.int .i64 e2, .slice A2 n2 c2], .agg #[.int .i64 what, .int .i64 i, .slice Ax nx cx]] V (GivesStep V (OffW w3.heap.size (w3.heap.size + 1) wr.heap.size V.heap.size) l2)) := Lib.hid fun V hE =>
        step_any _ e1 e2 A1 A2 Ax n1 c1 n2 c2 nx cx l' what i xs V ((LA.out.fresh offw_fresh).up hE) ((LB.out.fresh offw_fresh).up hE) (fun b hb => by
          have := hE.size
          rcases hb with hb | hb | hb
          · omega
          · omega
          · omega) HF'.out (ArrR.up HX3.out (EW'.out.trans hE)) hx1 (by omega)
      have hbA := (Array.getElem?_eq_some_iff.1 BA.out).1
      have hbb : b < wr.heap.size := Nat.lt_of_lt_of_le hb0 EW'.out.size
      have la0 : ∀ w', Ext wr.drew w' → w'.cell? ⟨w3.heap.size, 0, none⟩ = some (.int .i64 e1) := fun w' hx => (((Ext.refl wr).drew.trans hx).cell hz'').trans ((blk_rules BA.out).1 0)
      have la1 : ∀ w', Ext wr.drew w' → w'.cell? ⟨w3.heap.size, 1, none⟩ = some (.slice A1 n1 c1) := fun w' hx => (((Ext.refl wr).drew.trans hx).cell hz'').trans ((blk_rules BA.out).1 1)
      have lb0 : ∀ w', Ext wr.drew w' → w'.cell? ⟨w3.heap.size + 1, 0, none⟩ = some (.int .i64 e2) := fun w' hx => (((Ext.refl wr).drew.trans hx).cell hz').trans ((blk_rules BB.out).1 0)
      have lb1 : ∀ w', Ext wr.drew w' → w'.cell? ⟨w3.heap.size + 1, 1, none⟩ = some (.slice A2 n2 c2) := fun w' hx => (((Ext.refl wr).drew.trans hx).cell hz').trans ((blk_rules BB.out).1 1)
      have lx0 : ∀ w', Ext wr.drew w' → w'.cell? ⟨b, o + j * 3, none⟩ = some (.int .i64 what) := fun w' hx => (((Ext.refl wr).drew.trans hx).cell hbb).trans HC0.out
      have lx1 : ∀ w', Ext wr.drew w' → w'.cell? ⟨b, o + j * 3 + 1, none⟩ = some (.int .i64 i) := fun w' hx => (((Ext.refl wr).drew.trans hx).cell hbb).trans HC1.out
      have lx2 : ∀ w', Ext wr.drew w' → w'.cell? ⟨b, o + j * 3 + 2, none⟩ = some (.slice Ax nx cx) := fun w' hx => (((Ext.refl wr).drew.trans hx).cell hbb).trans c2'
      go_wp2_with fail
      have hSw : Ext wr.drew wr.drew := Ext.refl _
      refine wpS_begin (Ext wr.drew) (by kernel_rfl) ?_
      refine wpS_take 0 (v := ?_) hSw rfl (by kernel_rfl) (by kernel_rfl) (by kernel_rfl) (by rfl) (fun w' hin => ?_) ?_
      rotate_left
      · (try simp only [] at hin); go_simp <;> with_reducible rfl
      try simp only [Act.put, List.setIfInBounds_toArray, List.set_cons_zero, List.set_cons_succ]
      refine wpS_take 1 (v := ?_) hSw rfl (by kernel_rfl) (by kernel_rfl) (by kernel_rfl) (by rfl) (fun w' hin => ?_) ?_
      rotate_left
      · (try simp only [] at hin); go_simp <;> with_reducible rfl
      try simp only [Act.put, List.setIfInBounds_toArray, List.set_cons_zero, List.set_cons_succ]
      refine wpS_take 2 (v := ?_) hSw rfl (by kernel_rfl) (by kernel_rfl) (by kernel_rfl) (by rfl) (fun w' hin => ?_) ?_
      rotate_left
      · (try simp only [] at hin); go_simp <;> with_reducible rfl
      try simp only [Act.put, List.setIfInBounds_toArray, List.set_cons_zero, List.set_cons_succ]
      refine wpS_take 3 (v := ?_) hSw rfl (by kernel_rfl) (by kernel_rfl) (by kernel_rfl) (by rfl) (fun w' hin => ?_) ?_
      rotate_left
      · (try simp only [] at hin); go_simp <;> with_reducible rfl
      try simp only [Act.put, List.setIfInBounds_toArray, List.set_cons_zero, List.set_cons_succ]
      refine wpS_take 4 (v := ?_) hSw rfl (by kernel_rfl) (by kernel_rfl) (by kernel_rfl) (by rfl) (fun w' hin => ?_) ?_
      rotate_left
      · (try simp only [] at hin); go_simp <;> with_reducible rfl
      try simp only [Act.put, List.setIfInBounds_toArray, List.set_cons_zero, List.set_cons_succ]
      refine wpS_take 5 (v := ?_) hSw rfl (by kernel_rfl) (by kernel_rfl) (by kernel_rfl) (by rfl) (fun w' hin => ?_) ?_
      rotate_left
      · (try simp only [] at hin); go_simp <;> with_reducible rfl
      try simp only [Act.put, List.setIfInBounds_toArray, List.set_cons_zero, List.set_cons_succ]

      have drew_ext : Ext wr wr.drew := (Ext.refl wr).drew
      refine wpS_three 6 11 12 rfl rfl rfl (by kernel_rfl) (by rfl) (by rfl) (by rfl) (fun K hK => ?_) (fun K hK => ?_) (fun K hK => ?_)
      · go_simp
        obtain ⟨l2, hok2, hf2, hcall⟩ := HST.out wr.drew (drew_ext.trans hSw)
        refine hcall.mono ?_
        rintro e v1 ⟨e3, A3, n3, c3, e4, A4, n4, c4, rfl, hl3, hl4, ex1⟩
        have HOK2 := Lib.hid hok2
        have HF2 := Lib.hid hf2
        have LA3 := Lib.hid (hl3.fresh (X' := XS w3.heap.size (w3.heap.size + 1) []) fun b hb => .inl (xs_offw (fun g hg => by simp at hg) b hb))
        have LB3 := Lib.hid (hl4.fresh (X' := XS w3.heap.size (w3.heap.size + 1) []) fun b hb => .inl (xs_offw (fun g hg => by simp at hg) b hb))
        have hs1 := hSw.trans ex1
        clear hl3 hl4 hok2 hf2 hcall
        simp only []
        refine hK.out _ _ (Ext wr.drew) (fun _ h => h) hs1 (fun hSw => ?_)
        clear hK K
        try simp only [Act.put, List.setIfInBounds_toArray, List.set_cons_zero, List.set_cons_succ]
        refine wpS_take 7 (v := ?_) hSw rfl (by kernel_rfl) (by kernel_rfl) (by kernel_rfl) (by rfl) (fun w' hin => ?_) ?_
        rotate_left
        · (try simp only [] at hin); go_simp <;> with_reducible rfl
        try simp only [Act.put, List.setIfInBounds_toArray, List.set_cons_zero, List.set_cons_succ]
        refine wpS_take 8 (v := ?_) hSw rfl (by kernel_rfl) (by kernel_rfl) (by kernel_rfl) (by rfl) (fun w' hin => ?_) ?_
        rotate_left
        · (try simp only [] at hin); go_simp <;> with_reducible rfl
        try simp only [Act.put, List.setIfInBounds_toArray, List.set_cons_zero, List.set_cons_succ]
        refine wpS_take 9 (v := ?_) hSw rfl (by kernel_rfl) (by kernel_rfl) (by kernel_rfl) (by rfl) (fun w' hin => ?_) ?_
        rotate_left
        · (try simp only [] at hin); go_simp <;> with_reducible rfl
        try simp only [Act.put, List.setIfInBounds_toArray, List.set_cons_zero, List.set_cons_succ]
        refine wpS_take 10 (v := ?_) hSw rfl (by kernel_rfl) (by kernel_rfl) (by kernel_rfl) (by rfl) (fun w' hin => ?_) ?_
        rotate_left
        · (try simp only [] at hin); go_simp <;> with_reducible rfl
        try simp only [Act.put, List.setIfInBounds_toArray, List.set_cons_zero, List.set_cons_succ]
        refine wpS_two 11 12 rfl rfl (by kernel_rfl) (by rfl) (by rfl) (fun K hK => ?_) (fun K hK => ?_)
        · go_simp
          have ex2 : Ext v1 (v1.alloc (.cells #[.int .i64 0, .slice none 0 0] 40)) := Ext.new _ _
          have pn2 := heap_alloc_new v1 (.cells #[.int .i64 0, .slice none 0 0] 40)
          have ln2 : wr.heap.size ≤ v1.heap.size := hSw.size
          have lt2 : v1.heap.size < (v1.alloc (.cells #[.int .i64 0, .slice none 0 0] 40)).heap.size := by rw [World.size_alloc]; omega
          have hs2 := hSw.alloc (.cells #[.int .i64 0, .slice none 0 0] 40)
          obtain ⟨v2, hv2⟩ : ∃ v, v = v1.alloc (.cells #[.int .i64 0, .slice none 0 0] 40) := ⟨_, rfl⟩
          obtain ⟨g9, hg2⟩ : ∃ g, g = v1.heap.size := ⟨_, rfl⟩
          rw [← hv2] at ex2 pn2 lt2 hs2 ⊢
          rw [← hg2] at pn2 ln2 lt2 ⊢
          have LA3 := Lib.hid ((LA3.out.fresh (xs_cons (g := g9) (Nat.le_of_eq hg2.symm))).up ex2)
          have LB3 := Lib.hid ((LB3.out.fresh (xs_cons (g := g9) (Nat.le_of_eq hg2.symm))).up ex2)
          clear hv2 hg2
          refine hK.out _ _ (Ext wr.drew) (fun _ h => h) hs2 (fun hSw => ?_)
          clear hK K
          try simp only [Act.put, List.setIfInBounds_toArray, List.set_cons_zero, List.set_cons_succ]
          refine wpS_one 12 rfl (by kernel_rfl) (by rfl) (fun K hK => ?_)
          go_simp
          have ex3 : Ext v2 (v2.alloc (.cells #[.int .i64 0, .slice none 0 0] 37)) := Ext.new _ _
          have pn3 := heap_alloc_new v2 (.cells #[.int .i64 0, .slice none 0 0] 37)
          have ln3 : wr.heap.size ≤ v2.heap.size := hSw.size
          have lt3 : v2.heap.size < (v2.alloc (.cells #[.int .i64 0, .slice none 0 0] 37)).heap.size := by rw [World.size_alloc]; omega
          have hs3 := hSw.alloc (.cells #[.int .i64 0, .slice none 0 0] 37)
          obtain ⟨v3, hv3⟩ : ∃ v, v = v2.alloc (.cells #[.int .i64 0, .slice none 0 0] 37) := ⟨_, rfl⟩
          obtain ⟨g10, hg3⟩ : ∃ g, g = v2.heap.size := ⟨_, rfl⟩
          rw [← hv3] at ex3 pn3 lt3 hs3 ⊢
          rw [← hg3] at pn3 ln3 lt3 ⊢
          have ne3_9 : g9 < g10 := by rw [hg3]; exact lt2
          have pc3_9 := (ex3.block lt2).trans pn2
          have lc3_9 := Nat.lt_of_lt_of_le lt2 ex3.size
          have LA3 := Lib.hid ((LA3.out.fresh (xs_cons (g := g10) (Nat.le_of_eq hg3.symm))).up ex3)
          have LB3 := Lib.hid ((LB3.out.fresh (xs_cons (g := g10) (Nat.le_of_eq hg3.symm))).up ex3)
          clear hv3 hg3
          refine hK.out _ _ (Ext wr.drew) (fun _ h => h) hs3 (fun hSw => ?_)
          clear hK K
          try simp only [Act.put, List.setIfInBounds_toArray, List.set_cons_zero, List.set_cons_succ]
          have P9 := Lib.hid pc3_9
          have P10 := Lib.hid pn3
          have L9 := lc3_9
          have L10 := lt3
          skip
          have hg9 : wr.heap.size ≤ g9 := by assumption
          have hg10 : wr.heap.size ≤ g10 := by assumption
          have LA4 : Hid (LkR v3 (XS w3.heap.size (w3.heap.size + 1) [g9, g10]) e3 A3 n3 c3 l2) := Lib.hid (LA3.out.fresh fun b hb => .inl (by rcases hb with hb | hb; exact .inl hb; right; simp at hb ⊢; omega))
          have LB4 : Hid (LkR v3 (XS w3.heap.size (w3.heap.size + 1) [g9, g10]) e4 A4 n4 c4 l2) := Lib.hid (LB3.out.fresh fun b hb => .inl (by rcases hb with hb | hb; exact .inl hb; right; simp at hb ⊢; omega))
          have hne910 : g9 ≠ g10 := by omega
          clear LA3 LB3
          obtain ⟨q9, q9f⟩ := blk_rules P9.out
          obtain ⟨q10, q10f⟩ := blk_rules P10.out
          refine wpS_one 13 rfl (by kernel_rfl) (by rfl) (fun K hK => ?_)
          go_simp
          have hs13 := (hSw.set (p := ⟨g9, 0, none⟩) hg9 (.int .i64 e3)).set (p := ⟨g9, 1, none⟩) hg9 (.slice A3 n3 c3)
          refine hK.out _ _ (Ext wr.drew) (fun _ h => h) hs13 (fun hSw => ?_)
          clear hK K
          try simp only [Act.put, List.setIfInBounds_toArray, List.set_cons_zero, List.set_cons_succ]
          have P9' : Hid (((v3.setCell ⟨g9, 0, none⟩ (.int .i64 e3)).setCell ⟨g9, 1, none⟩ (.slice A3 n3 c3)).heap[g9]? = some (.cells #[.int .i64 e3, .slice A3 n3 c3] 40 (0, 0))) := Lib.hid (blk_set (blk_set P9.out _) _)
          have P10' : Hid (((v3.setCell ⟨g9, 0, none⟩ (.int .i64 e3)).setCell ⟨g9, 1, none⟩ (.slice A3 n3 c3)).heap[g10]? = some (.cells #[.int .i64 0, .slice none 0 0] 37 (0, 0))) := Lib.hid ((blk_far (Ne.symm hne910) _).trans ((blk_far (Ne.symm hne910) _).trans P10.out))
          have LA5 := Lib.hid ((LA4.out.set (g := g9) (i := 0) (.inr (by simp)) (.int .i64 e3)).set (g := g9) (i := 1) (.inr (by simp)) (.slice A3 n3 c3))
          have LB5 := Lib.hid ((LB4.out.set (g := g9) (i := 0) (.inr (by simp)) (.int .i64 e3)).set (g := g9) (i := 1) (.inr (by simp)) (.slice A3 n3 c3))
          obtain ⟨U, hU⟩ : ∃ U, U = (v3.setCell ⟨g9, 0, none⟩ (.int .i64 e3)).setCell ⟨g9, 1, none⟩ (.slice A3 n3 c3) := ⟨_, rfl⟩
          rw [← hU] at P9' P10' LA5 LB5 hSw ⊢
          clear hU q9 q9f q10 q10f hs13
          obtain ⟨q10, q10f⟩ := blk_rules P10'.out
          refine wpS_one 14 rfl (by kernel_rfl) (by rfl) (fun K hK => ?_)
          go_simp
          have hs14 := (hSw.set (p := ⟨g10, 0, none⟩) hg10 (.int .i64 e4)).set (p := ⟨g10, 1, none⟩) hg10 (.slice A4 n4 c4)
          refine hK.out _ _ (Ext wr.drew) (fun _ h => h) hs14 (fun hSw => ?_)
          clear hK K
          try simp only [Act.put, List.setIfInBounds_toArray, List.set_cons_zero, List.set_cons_succ]
          refine wpS_take 15 (v := ?_) hSw rfl (by kernel_rfl) (by kernel_rfl) (by kernel_rfl) (by rfl) (fun w' hin => ?_) ?_
          rotate_left
          · (try simp only [] at hin); go_simp <;> with_reducible rfl
          try simp only [Act.put, List.setIfInBounds_toArray, List.set_cons_zero, List.set_cons_succ]
          refine wpS_done (by kernel_rfl) ?_
          have P9'' : Hid (((U.setCell ⟨g10, 0, none⟩ (.int .i64 e4)).setCell ⟨g10, 1, none⟩ (.slice A4 n4 c4)).heap[g9]? = some (.cells #[.int .i64 e3, .slice A3 n3 c3] 40 (0, 0))) := Lib.hid ((blk_far hne910 _).trans ((blk_far hne910 _).trans P9'.out))
          have P10'' : Hid (((U.setCell ⟨g10, 0, none⟩ (.int .i64 e4)).setCell ⟨g10, 1, none⟩ (.slice A4 n4 c4)).heap[g10]? = some (.cells #[.int .i64 e4, .slice A4 n4 c4] 37 (0, 0))) := Lib.hid (blk_set (blk_set P10'.out _) _)
          have LA6 := Lib.hid ((LA5.out.set (g := g10) (i := 0) (.inr (by simp)) (.int .i64 e4)).set (g := g10) (i := 1) (.inr (by simp)) (.slice A4 n4 c4))
          have LB6 := Lib.hid ((LB5.out.set (g := g10) (i := 0) (.inr (by simp)) (.int .i64 e4)).set (g := g10) (i := 1) (.inr (by simp)) (.slice A4 n4 c4))
          obtain ⟨U2, hU2⟩ : ∃ U2, U2 = (U.setCell ⟨g10, 0, none⟩ (.int .i64 e4)).setCell ⟨g10, 1, none⟩ (.slice A4 n4 c4) := ⟨_, rfl⟩
          rw [← hU2] at P9'' P10'' LA6 LB6 hSw ⊢
          have EU := Lib.hid ((Ext.refl wr).drew.trans hSw)
          have zA : w3.heap.size < U2.heap.size := Nat.lt_of_lt_of_le hz'' EU.out.size
          have zB : w3.heap.size + 1 < U2.heap.size := Nat.lt_of_lt_of_le hz' EU.out.size
          have BA2 := Lib.hid ((EU.out.block hz'').trans BA.out)
          have BB2 := Lib.hid ((EU.out.block hz').trans BB.out)
          have EWU := Lib.hid (EW'.out.trans EU.out)
          clear hU2 q10 q10f hs14 la0 la1 lb0 lb1 lx0 lx1 lx2
          obtain ⟨r9, -⟩ := blk_rules P9''.out
          obtain ⟨r10, -⟩ := blk_rules P10''.out
          obtain ⟨ra, raf⟩ := blk_rules BA2.out
          obtain ⟨rb, rbf⟩ := blk_rules BB2.out
          obtain ⟨F1, F2, F3⟩ : LkR ((((U2.setCell ⟨w3.heap.size, 0, none⟩ (.int .i64 e3)).setCell ⟨w3.heap.size, 1, none⟩ (.slice A3 n3 c3)).setCell ⟨w3.heap.size + 1, 0, none⟩ (.int .i64 e4)).setCell ⟨w3.heap.size + 1, 1, none⟩ (.slice A4 n4 c4)) (OffAB w3.heap.size (w3.heap.size + 1)) e3 A3 n3 c3 l2 ∧ LkR ((((U2.setCell ⟨w3.heap.size, 0, none⟩ (.int .i64 e3)).setCell ⟨w3.heap.size, 1, none⟩ (.slice A3 n3 c3)).setCell ⟨w3.heap.size + 1, 0, none⟩ (.int .i64 e4)).setCell ⟨w3.heap.size + 1, 1, none⟩ (.slice A4 n4 c4)) (OffAB w3.heap.size (w3.heap.size + 1)) e4 A4 n4 c4 l2 ∧ Ext w ((((U2.setCell ⟨w3.heap.size, 0, none⟩ (.int .i64 e3)).setCell ⟨w3.heap.size, 1, none⟩ (.slice A3 n3 c3)).setCell ⟨w3.heap.size + 1, 0, none⟩ (.int .i64 e4)).setCell ⟨w3.heap.size + 1, 1, none⟩ (.slice A4 n4 c4)) :=
            ⟨((((LA6.out.fresh (fun b hb => .inl (.inl hb))).set (.inl rfl) _).set (.inl rfl) _).set (.inr rfl) _).set (.inr rfl) _, ((((LB6.out.fresh (fun b hb => .inl (.inl hb))).set (.inl rfl) _).set (.inl rfl) _).set (.inr rfl) _).set (.inr rfl) _,
              (((EWU.out.set hg3 _).set hg3 _).set (Nat.le_trans hg3 (Nat.le_succ _)) _).set (Nat.le_trans hg3 (Nat.le_succ _)) _⟩
          have F4 : ((((U2.setCell ⟨w3.heap.size, 0, none⟩ (.int .i64 e3)).setCell ⟨w3.heap.size, 1, none⟩ (.slice A3 n3 c3)).setCell ⟨w3.heap.size + 1, 0, none⟩ (.int .i64 e4)).setCell ⟨w3.heap.size + 1, 1, none⟩ (.slice A4 n4 c4)).heap[w3.heap.size]? = some (.cells #[.int .i64 e3, .slice A3 n3 c3] 40 (0, 0)) := (blk_far (by omega) _).trans ((blk_far (by omega) _).trans (blk_set (blk_set BA2.out _) _))
          have F5 : ((((U2.setCell ⟨w3.heap.size, 0, none⟩ (.int .i64 e3)).setCell ⟨w3.heap.size, 1, none⟩ (.slice A3 n3 c3)).setCell ⟨w3.heap.size + 1, 0, none⟩ (.int .i64 e4)).setCell ⟨w3.heap.size + 1, 1, none⟩ (.slice A4 n4 c4)).heap[w3.heap.size + 1]? = some (.cells #[.int .i64 e4, .slice A4 n4 c4] 37 (0, 0)) := blk_set (blk_set ((blk_far (by omega) _).trans ((blk_far (by omega) _).trans BB2.out)) _) _
          have F6 : w3.heap.size + 1 < ((((U2.setCell ⟨w3.heap.size, 0, none⟩ (.int .i64 e3)).setCell ⟨w3.heap.size, 1, none⟩ (.slice A3 n3 c3)).setCell ⟨w3.heap.size + 1, 0, none⟩ (.int .i64 e4)).setCell ⟨w3.heap.size + 1, 1, none⟩ (.slice A4 n4 c4)).heap.size := by simpa [World.setCell] using zB
          obtain ⟨V6, hV6⟩ : ∃ V6, V6 = (((U2.setCell ⟨w3.heap.size, 0, none⟩ (.int .i64 e3)).setCell ⟨w3.heap.size, 1, none⟩ (.slice A3 n3 c3)).setCell ⟨w3.heap.size + 1, 0, none⟩ (.int .i64 e4)).setCell ⟨w3.heap.size + 1, 1, none⟩ (.slice A4 n4 c4) := ⟨_, rfl⟩
          rw [← hV6] at F1 F2 F3 F4 F5 F6
          have LA7 := Lib.hid F1
          have LB7 := Lib.hid F2
          have EV6 := Lib.hid F3
          have BA7 := Lib.hid F4
          have BB7 := Lib.hid F5
          have HV6 := Lib.hid hV6
          clear F1 F2 F3 F4 F5 hV6
          go_wp2_with fail
          rw [← HV6.out]
          clear HV6 r9 r10 ra raf rb rbf P9'' P10'' LA6 LB6 LA5 LB5 LA4 LB4 P9' P10' P9 P10
          have HOK3 : Hid (okL e3 n3 = true) := Lib.hid (by have := HOK2.out; unfold Lk.ok at this; rw [LA7.out.1, LA7.out.len] at this; exact this)
          have hn3 : n3 ≤ 32 := by have := l2.sane_len; rw [Lk.sane_of HOK2.out, LA7.out.len] at this; exact this
          have hV6 : w3.heap.size < V6.heap.size := by omega
          have m0 : ∀ w', Ext V6.drew w' → w'.cell? ⟨w3.heap.size, 0, none⟩ = some (.int .i64 e3) := fun w' hx => (((Ext.refl V6).drew.trans hx).cell hV6).trans ((blk_rules BA7.out).1 0)
          have m1 : ∀ w', Ext V6.drew w' → w'.cell? ⟨w3.heap.size, 1, none⟩ = some (.slice A3 n3 c3) := fun w' hx => (((Ext.refl V6).drew.trans hx).cell hV6).trans ((blk_rules BA7.out).1 1)
          have m2 : ∀ w', Ext V6.drew w' → w'.cell? ⟨w3.heap.size + 1, 0, none⟩ = some (.int .i64 e4) := fun w' hx => (((Ext.refl V6).drew.trans hx).cell F6).trans ((blk_rules BB7.out).1 0)
          have m3 : ∀ w', Ext V6.drew w' → w'.cell? ⟨w3.heap.size + 1, 1, none⟩ = some (.slice A4 n4 c4) := fun w' hx => (((Ext.refl V6).drew.trans hx).cell F6).trans ((blk_rules BB7.out).1 1)
          have hSw : Ext V6.drew V6.drew := Ext.refl _
          refine wpS_begin (Ext V6.drew) (by kernel_rfl) ?_
          refine wpS_take 0 (v := ?_) hSw rfl (by kernel_rfl) (by kernel_rfl) (by kernel_rfl) (by rfl) (fun w' hin => ?_) ?_
          rotate_left
          · (try simp only [] at hin); go_simp <;> with_reducible rfl
          try simp only [Act.put, List.setIfInBounds_toArray, List.set_cons_zero, List.set_cons_succ]
          refine wpS_take 1 (v := ?_) hSw rfl (by kernel_rfl) (by kernel_rfl) (by kernel_rfl) (by rfl) (fun w' hin => ?_) ?_
          rotate_left
          · (try simp only [] at hin); go_simp <;> with_reducible rfl
          try simp only [Act.put, List.setIfInBounds_toArray, List.set_cons_zero, List.set_cons_succ]
          refine wpS_take 2 (v := ?_) hSw rfl (by kernel_rfl) (by kernel_rfl) (by kernel_rfl) (by rfl) (fun w' hin => ?_) ?_
          rotate_left
          · (try simp only [] at hin); go_simp <;> with_reducible rfl
          try simp only [Act.put, List.setIfInBounds_toArray, List.set_cons_zero, List.set_cons_succ]
          refine wpS_take 3 (v := ?_) hSw rfl (by kernel_rfl) (by kernel_rfl) (by kernel_rfl) (by rfl) (fun w' hin => ?_) ?_
          rotate_left
          · (try simp only [] at hin); go_simp <;> with_reducible rfl
          try simp only [Act.put, List.setIfInBounds_toArray, List.set_cons_zero, List.set_cons_succ]
          refine wpS_take 5 (v := ?_) hSw rfl (by kernel_rfl) (by kernel_rfl) (by kernel_rfl) (by rfl) (fun w' hin => ?_) ?_
          rotate_left
          · (try simp only [] at hin); go_simp <;> with_reducible rfl
          try simp only [Act.put, List.setIfInBounds_toArray, List.set_cons_zero, List.set_cons_succ]
          refine wpS_one 4 rfl (by kernel_rfl) (by rfl) (fun K hK => ?_)
          go_simp
          refine (theirs_any _ _ _ _ _).mono ?_
          rintro e u1 ⟨rfl, hu1⟩
          simp only []
          refine hK.out _ _ (Ext V6.drew) (fun _ h => h) (hu1) (fun hSw => ?_)
          clear hK K
          try simp only [Act.put, List.setIfInBounds_toArray, List.set_cons_zero, List.set_cons_succ]
          refine wpS_one 6 rfl (by kernel_rfl) (by rfl) (fun K hK => ?_)
          go_simp
          refine (same12_any (OffAB w3.heap.size (w3.heap.size + 1)) _ _ _ _ _ _ _ _ l2 l2 _ (LA7.out.up ((Ext.refl V6).drew.trans hu1)) (LB7.out.up ((Ext.refl V6).drew.trans hu1)) (by omega)).mono ?_
          rintro e u2 ⟨rfl, hu2⟩
          rw [sameB_true rfl]
          simp only []
          refine hK.out _ _ (Ext V6.drew) (fun _ h => h) (hu1.trans hu2) (fun hSw => ?_)
          clear hK K
          try simp only [Act.put, List.setIfInBounds_toArray, List.set_cons_zero, List.set_cons_succ]
          refine wpS_take 7 (v := ?_) hSw rfl (by kernel_rfl) (by kernel_rfl) (by kernel_rfl) (by rfl) (fun w' hin => ?_) ?_
          rotate_left
          · (try simp only [] at hin); go_simp <;> with_reducible rfl
          try simp only [Act.put, List.setIfInBounds_toArray, List.set_cons_zero, List.set_cons_succ]
          refine wpS_take 8 (v := ?_) hSw rfl (by kernel_rfl) (by kernel_rfl) (by kernel_rfl) (by rfl) (fun w' hin => ?_) ?_
          rotate_left
          · (try simp only [] at hin); go_simp <;> with_reducible rfl
          try simp only [Act.put, List.setIfInBounds_toArray, List.set_cons_zero, List.set_cons_succ]
          refine wpS_take 9 (v := ?_) hSw rfl (by kernel_rfl) (by kernel_rfl) (by kernel_rfl) (by rfl) (fun w' hin => ?_) ?_
          rotate_left
          · (try simp only [] at hin); go_simp <;> with_reducible rfl
          try simp only [Act.put, List.setIfInBounds_toArray, List.set_cons_zero, List.set_cons_succ]
          refine wpS_take 10 (v := ?_) hSw rfl (by kernel_rfl) (by kernel_rfl) (by kernel_rfl) (by rfl) (fun w' hin => ?_) ?_
          rotate_left
          · (try simp only [] at hin); go_simp <;> with_reducible rfl
          try simp only [Act.put, List.setIfInBounds_toArray, List.set_cons_zero, List.set_cons_succ]
          refine wpS_one 11 rfl (by kernel_rfl) (by rfl) (fun K hK => ?_)
          go_simp
          refine (linkSane_any _ _ _ _ _).mono ?_
          rintro e u3 ⟨rfl, hu3⟩
          rw [HOK3.out]
          simp only []
          refine hK.out _ _ (Ext V6.drew) (fun _ h => h) ((hu1.trans hu2).trans hu3) (fun hSw => ?_)
          clear hK K
          try simp only [Act.put, List.setIfInBounds_toArray, List.set_cons_zero, List.set_cons_succ]
          refine wpS_take 12 (v := ?_) hSw rfl (by kernel_rfl) (by kernel_rfl) (by kernel_rfl) (by rfl) (fun w' hin => ?_) ?_
          rotate_left
          · (try simp only [] at hin); go_simp <;> with_reducible rfl
          try simp only [Act.put, List.setIfInBounds_toArray, List.set_cons_zero, List.set_cons_succ]
          refine wpS_take 13 (v := ?_) hSw rfl (by kernel_rfl) (by kernel_rfl) (by kernel_rfl) (by rfl) (fun w' hin => ?_) ?_
          rotate_left
          · (try simp only [] at hin); go_simp <;> with_reducible rfl
          try simp only [Act.put, List.setIfInBounds_toArray, List.set_cons_zero, List.set_cons_succ]
          refine wpS_done (by kernel_rfl) ?_
          have E9 := Lib.hid ((((Ext.refl V6).drew.trans hu1).trans hu2).trans hu3)
          have HFS2 : Hid (∀ b ∈ l2.sane.q, b.length ≤ 300) := Lib.hid (by rw [Lk.sane_of HOK2.out]; exact HF2.out)
          have BA9 := Lib.hid ((E9.out.block hV6).trans BA7.out)
          have BB9 := Lib.hid ((E9.out.block F6).trans BB7.out)
          have LA9 := Lib.hid (LA7.out.up E9.out)
          have LB9 := Lib.hid (LB7.out.up E9.out)
          have EW9 := Lib.hid (EV6.out.trans E9.out)
          have hz9 : w3.heap.size + 1 < u3.heap.size := Nat.lt_of_lt_of_le F6 E9.out.size
          clear m0 m1 m2 m3 hu1 hu2 hu3 hSw
          go_wp2_with fail
          go_roundw
          case rel => exact ⟨j + 1, l2, e3, A3, n3, c3, e4, A4, n4, c4, by omega, by go_num, HFS2, BA9, BB9, LA9, LB9, EW9, hz9⟩
          case measure => simp [intOf]; omega
        · go_simp
          have ex4 : Ext v1 (v1.alloc (.cells #[.int .i64 0, .slice none 0 0] 37)) := Ext.new _ _
          have pn4 := heap_alloc_new v1 (.cells #[.int .i64 0, .slice none 0 0] 37)
          have ln4 : wr.heap.size ≤ v1.heap.size := hSw.size
          have lt4 : v1.heap.size < (v1.alloc (.cells #[.int .i64 0, .slice none 0 0] 37)).heap.size := by rw [World.size_alloc]; omega
          have hs4 := hSw.alloc (.cells #[.int .i64 0, .slice none 0 0] 37)
          obtain ⟨v4, hv4⟩ : ∃ v, v = v1.alloc (.cells #[.int .i64 0, .slice none 0 0] 37) := ⟨_, rfl⟩
          obtain ⟨g10, hg4⟩ : ∃ g, g = v1.heap.size := ⟨_, rfl⟩
          rw [← hv4] at ex4 pn4 lt4 hs4 ⊢
          rw [← hg4] at pn4 ln4 lt4 ⊢
          have LA3 := Lib.hid ((LA3.out.fresh (xs_cons (g := g10) (Nat.le_of_eq hg4.symm))).up ex4)
          have LB3 := Lib.hid ((LB3.out.fresh (xs_cons (g := g10) (Nat.le_of_eq hg4.symm))).up ex4)
          clear hv4 hg4
          refine hK.out _ _ (Ext wr.drew) (fun _ h => h) hs4 (fun hSw => ?_)
          clear hK K
          try simp only [Act.put, List.setIfInBounds_toArray, List.set_cons_zero, List.set_cons_succ]
          refine wpS_one 11 rfl (by kernel_rfl) (by rfl) (fun K hK => ?_)
          go_simp
          have ex5 : Ext v4 (v4.alloc (.cells #[.int .i64 0, .slice none 0 0] 40)) := Ext.new _ _
          have pn5 := heap_alloc_new v4 (.cells #[.int .i64 0, .slice none 0 0] 40)
          have ln5 : wr.heap.size ≤ v4.heap.size := hSw.size
          have lt5 : v4.heap.size < (v4.alloc (.cells #[.int .i64 0, .slice none 0 0] 40)).heap.size := by rw [World.size_alloc]; omega
          have hs5 := hSw.alloc (.cells #[.int .i64 0, .slice none 0 0] 40)
          obtain ⟨v5, hv5⟩ : ∃ v, v = v4.alloc (.cells #[.int .i64 0, .slice none 0 0] 40) := ⟨_, rfl⟩
          obtain ⟨g9, hg5⟩ : ∃ g, g = v4.heap.size := ⟨_, rfl⟩
          rw [← hv5] at ex5 pn5 lt5 hs5 ⊢
          rw [← hg5] at pn5 ln5 lt5 ⊢
          have ne5_10 : g10 < g9 := by rw [hg5]; exact lt4
          have pc5_10 := (ex5.block lt4).trans pn4
          have lc5_10 := Nat.lt_of_lt_of_le lt4 ex5.size
          have LA3 := Lib.hid ((LA3.out.fresh (xs_cons (g := g9) (Nat.le_of_eq hg5.symm))).up ex5)
          have LB3 := Lib.hid ((LB3.out.fresh (xs_cons (g := g9) (Nat.le_of_eq hg5.symm))).up ex5)
          clear hv5 hg5
          refine hK.out _ _ (Ext wr.drew) (fun _ h => h) hs5 (fun hSw => ?_)
          clear hK K
          try simp only [Act.put, List.setIfInBounds_toArray, List.set_cons_zero, List.set_cons_succ]
          have P9 := Lib.hid pn5
          have P10 := Lib.hid pc5_10
          have L9 := lt5
          have L10 := lc5_10
          skip
          have hg9 : wr.heap.size ≤ g9 := by assumption
          have hg10 : wr.heap.size ≤ g10 := by assumption
          have LA4 : Hid (LkR v5 (XS w3.heap.size (w3.heap.size + 1) [g9, g10]) e3 A3 n3 c3 l2) := Lib.hid (LA3.out.fresh fun b hb => .inl (by rcases hb with hb | hb; exact .inl hb; right; simp at hb ⊢; omega))
          have LB4 : Hid (LkR v5 (XS w3.heap.size (w3.heap.size + 1) [g9, g10]) e4 A4 n4 c4 l2) := Lib.hid (LB3.out.fresh fun b hb => .inl (by rcases hb with hb | hb; exact .inl hb; right; simp at hb ⊢; omega))
          have hne910 : g9 ≠ g10 := by omega
          clear LA3 LB3
          obtain ⟨q9, q9f⟩ := blk_rules P9.out
          obtain ⟨q10, q10f⟩ := blk_rules P10.out
          refine wpS_one 13 rfl (by kernel_rfl) (by rfl) (fun K hK => ?_)
          go_simp
          have hs13 := (hSw.set (p := ⟨g9, 0, none⟩) hg9 (.int .i64 e3)).set (p := ⟨g9, 1, none⟩) hg9 (.slice A3 n3 c3)
          refine hK.out _ _ (Ext wr.drew) (fun _ h => h) hs13 (fun hSw => ?_)
          clear hK K
          try simp only [Act.put, List.setIfInBounds_toArray, List.set_cons_zero, List.set_cons_succ]
          have P9' : Hid (((v5.setCell ⟨g9, 0, none⟩ (.int .i64 e3)).setCell ⟨g9, 1, none⟩ (.slice A3 n3 c3)).heap[g9]? = some (.cells #[.int .i64 e3, .slice A3 n3 c3] 40 (0, 0))) := Lib.hid (blk_set (blk_set P9.out _) _)
          have P10' : Hid (((v5.setCell ⟨g9, 0, none⟩ (.int .i64 e3)).setCell ⟨g9, 1, none⟩ (.slice A3 n3 c3)).heap[g10]? = some (.cells #[.int .i64 0, .slice none 0 0] 37 (0, 0))) := Lib.hid ((blk_far (Ne.symm hne910) _).trans ((blk_far (Ne.symm hne910) _).trans P10.out))
          have LA5 := Lib.hid ((LA4.out.set (g := g9) (i := 0) (.inr (by simp)) (.int .i64 e3)).set (g := g9) (i := 1) (.inr (by simp)) (.slice A3 n3 c3))
          have LB5 := Lib.hid ((LB4.out.set (g := g9) (i := 0) (.inr (by simp)) (.int .i64 e3)).set (g := g9) (i := 1) (.inr (by simp)) (.slice A3 n3 c3))
          obtain ⟨U, hU⟩ : ∃ U, U = (v5.setCell ⟨g9, 0, none⟩ (.int .i64 e3)).setCell ⟨g9, 1, none⟩ (.slice A3 n3 c3) := ⟨_, rfl⟩
          rw [← hU] at P9' P10' LA5 LB5 hSw ⊢
          clear hU q9 q9f q10 q10f hs13
          obtain ⟨q10, q10f⟩ := blk_rules P10'.out
          refine wpS_one 14 rfl (by kernel_rfl) (by rfl) (fun K hK => ?_)
          go_simp
          have hs14 := (hSw.set (p := ⟨g10, 0, none⟩) hg10 (.int .i64 e4)).set (p := ⟨g10, 1, none⟩) hg10 (.slice A4 n4 c4)
          refine hK.out _ _ (Ext wr.drew) (fun _ h => h) hs14 (fun hSw => ?_)
          clear hK K
          try simp only [Act.put, List.setIfInBounds_toArray, List.set_cons_zero, List.set_cons_succ]
          refine wpS_take 15 (v := ?_) hSw rfl (by kernel_rfl) (by kernel_rfl) (by kernel_rfl) (by rfl) (fun w' hin => ?_) ?_
          rotate_left
          · (try simp only [] at hin); go_simp <;> with_reducible rfl
          try simp only [Act.put, List.setIfInBounds_toArray, List.set_cons_zero, List.set_cons_succ]
          refine wpS_done (by kernel_rfl) ?_
          have P9'' : Hid (((U.setCell ⟨g10, 0, none⟩ (.int .i64 e4)).setCell ⟨g10, 1, none⟩ (.slice A4 n4 c4)).heap[g9]? = some (.cells #[.int .i64 e3, .slice A3 n3 c3] 40 (0, 0))) := Lib.hid ((blk_far hne910 _).trans ((blk_far hne910 _).trans P9'.out))
          have P10'' : Hid (((U.setCell ⟨g10, 0, none⟩ (.int .i64 e4)).setCell ⟨g10, 1, none⟩ (.slice A4 n4 c4)).heap[g10]? = some (.cells #[.int .i64 e4, .slice A4 n4 c4] 37 (0, 0))) := Lib.hid (blk_set (blk_set P10'.out _) _)
          have LA6 := Lib.hid ((LA5.out.set (g := g10) (i := 0) (.inr (by simp)) (.int .i64 e4)).set (g := g10) (i := 1) (.inr (by simp)) (.slice A4 n4 c4))
          have LB6 := Lib.hid ((LB5.out.set (g := g10) (i := 0) (.inr (by simp)) (.int .i64 e4)).set (g := g10) (i := 1) (.inr (by simp)) (.slice A4 n4 c4))
          obtain ⟨U2, hU2⟩ : ∃ U2, U2 = (U.setCell ⟨g10, 0, none⟩ (.int .i64 e4)).setCell ⟨g10, 1, none⟩ (.slice A4 n4 c4) := ⟨_, rfl⟩
          rw [← hU2] at P9'' P10'' LA6 LB6 hSw ⊢
          have EU := Lib.hid ((Ext.refl wr).drew.trans hSw)
          have zA : w3.heap.size < U2.heap.size := Nat.lt_of_lt_of_le hz'' EU.out.size
          have zB : w3.heap.size + 1 < U2.heap.size := Nat.lt_of_lt_of_le hz' EU.out.size
          have BA2 := Lib.hid ((EU.out.block hz'').trans BA.out)
          have BB2 := Lib.hid ((EU.out.block hz').trans BB.out)
          have EWU := Lib.hid (EW'.out.trans EU.out)
          clear hU2 q10 q10f hs14 la0 la1 lb0 lb1 lx0 lx1 lx2
          obtain ⟨r9, -⟩ := blk_rules P9''.out
          obtain ⟨r10, -⟩ := blk_rules P10''.out
          obtain ⟨ra, raf⟩ := blk_rules BA2.out
          obtain ⟨rb, rbf⟩ := blk_rules BB2.out
          obtain ⟨F1, F2, F3⟩ : LkR ((((U2.setCell ⟨w3.heap.size, 0, none⟩ (.int .i64 e3)).setCell ⟨w3.heap.size, 1, none⟩ (.slice A3 n3 c3)).setCell ⟨w3.heap.size + 1, 0, none⟩ (.int .i64 e4)).setCell ⟨w3.heap.size + 1, 1, none⟩ (.slice A4 n4 c4)) (OffAB w3.heap.size (w3.heap.size + 1)) e3 A3 n3 c3 l2 ∧ LkR ((((U2.setCell ⟨w3.heap.size, 0, none⟩ (.int .i64 e3)).setCell ⟨w3.heap.size, 1, none⟩ (.slice A3 n3 c3)).setCell ⟨w3.heap.size + 1, 0, none⟩ (.int .i64 e4)).setCell ⟨w3.heap.size + 1, 1, none⟩ (.slice A4 n4 c4)) (OffAB w3.heap.size (w3.heap.size + 1)) e4 A4 n4 c4 l2 ∧ Ext w ((((U2.setCell ⟨w3.heap.size, 0, none⟩ (.int .i64 e3)).setCell ⟨w3.heap.size, 1, none⟩ (.slice A3 n3 c3)).setCell ⟨w3.heap.size + 1, 0, none⟩ (.int .i64 e4)).setCell ⟨w3.heap.size + 1, 1, none⟩ (.slice A4 n4 c4)) :=
            ⟨((((LA6.out.fresh (fun b hb => .inl (.inl hb))).set (.inl rfl) _).set (.inl rfl) _).set (.inr rfl) _).set (.inr rfl) _, ((((LB6.out.fresh (fun b hb => .inl (.inl hb))).set (.inl rfl) _).set (.inl rfl) _).set (.inr rfl) _).set (.inr rfl) _,
              (((EWU.out.set hg3 _).set hg3 _).set (Nat.le_trans hg3 (Nat.le_succ _)) _).set (Nat.le_trans hg3 (Nat.le_succ _)) _⟩
          have F4 : ((((U2.setCell ⟨w3.heap.size, 0, none⟩ (.int .i64 e3)).setCell ⟨w3.heap.size, 1, none⟩ (.slice A3 n3 c3)).setCell ⟨w3.heap.size + 1, 0, none⟩ (.int .i64 e4)).setCell ⟨w3.heap.size + 1, 1, none⟩ (.slice A4 n4 c4)).heap[w3.heap.size]? = some (.cells #[.int .i64 e3, .slice A3 n3 c3] 40 (0, 0)) := (blk_far (by omega) _).trans ((blk_far (by omega) _).trans (blk_set (blk_set BA2.out _) _))
          have F5 : ((((U2.setCell ⟨w3.heap.size, 0, none⟩ (.int .i64 e3)).setCell ⟨w3.heap.size, 1, none⟩ (.slice A3 n3 c3)).setCell ⟨w3.heap.size + 1, 0, none⟩ (.int .i64 e4)).setCell ⟨w3.heap.size + 1, 1, none⟩ (.slice A4 n4 c4)).heap[w3.heap.size + 1]? = some (.cells #[.int .i64 e4, .slice A4 n4 c4] 37 (0, 0)) := blk_set (blk_set ((blk_far (by omega) _).trans ((blk_far (by omega) _).trans BB2.out)) _) _
          have F6 : w3.heap.size + 1 < ((((U2.setCell ⟨w3.heap.size, 0, none⟩ (.int .i64 e3)).setCell ⟨w3.heap.size, 1, none⟩ (.slice A3 n3 c3)).setCell ⟨w3.heap.size + 1, 0, none⟩ (.int .i64 e4)).setCell ⟨w3.heap.size + 1, 1, none⟩ (.slice A4 n4 c4)).heap.size := by simpa [World.setCell] using zB
          obtain ⟨V6, hV6⟩ : ∃ V6, V6 = (((U2.setCell ⟨w3.heap.size, 0, none⟩ (.int .i64 e3)).setCell ⟨w3.heap.size, 1, none⟩ (.slice A3 n3 c3)).setCell ⟨w3.heap.size + 1, 0, none⟩ (.int .i64 e4)).setCell ⟨w3.heap.size + 1, 1, none⟩ (.slice A4 n4 c4) := ⟨_, rfl⟩
          rw [← hV6] at F1 F2 F3 F4 F5 F6
          have LA7 := Lib.hid F1
          have LB7 := Lib.hid F2
          have EV6 := Lib.hid F3
          have BA7 := Lib.hid F4
          have BB7 := Lib.hid F5
          have HV6 := Lib.hid hV6
          clear F1 F2 F3 F4 F5 hV6
          go_wp2_with fail
          rw [← HV6.out]
          clear HV6 r9 r10 ra raf rb rbf P9'' P10'' LA6 LB6 LA5 LB5 LA4 LB4 P9' P10' P9 P10
          have HOK3 : Hid (okL e3 n3 = true) := Lib.hid (by have := HOK2.out; unfold Lk.ok at this; rw [LA7.out.1, LA7.out.len] at this; exact this)
          have hn3 : n3 ≤ 32 := by have := l2.sane_len; rw [Lk.sane_of HOK2.out, LA7.out.len] at this; exact this
          have hV6 : w3.heap.size < V6.heap.size := by omega
          have m0 : ∀ w', Ext V6.drew w' → w'.cell? ⟨w3.heap.size, 0, none⟩ = some (.int .i64 e3) := fun w' hx => (((Ext.refl V6).drew.trans hx).cell hV6).trans ((blk_rules BA7.out).1 0)
          have m1 : ∀ w', Ext V6.drew w' → w'.cell? ⟨w3.heap.size, 1, none⟩ = some (.slice A3 n3 c3) := fun w' hx => (((Ext.refl V6).drew.trans hx).cell hV6).trans ((blk_rules BA7.out).1 1)
          have m2 : ∀ w', Ext V6.drew w' → w'.cell? ⟨w3.heap.size + 1, 0, none⟩ = some (.int .i64 e4) := fun w' hx => (((Ext.refl V6).drew.trans hx).cell F6).trans ((blk_rules BB7.out).1 0)
          have m3 : ∀ w', Ext V6.drew w' → w'.cell? ⟨w3.heap.size + 1, 1, none⟩ = some (.slice A4 n4 c4) := fun w' hx => (((Ext.refl V6).drew.trans hx).cell F6).trans ((blk_rules BB7.out).1 1)
          have hSw : Ext V6.drew V6.drew := Ext.refl _
          refine wpS_begin (Ext V6.drew) (by kernel_rfl) ?_
          refine wpS_take 0 (v := ?_) hSw rfl (by kernel_rfl) (by kernel_rfl) (by kernel_rfl) (by rfl) (fun w' hin => ?_) ?_
          rotate_left
          · (try simp only [] at hin); go_simp <;> with_reducible rfl
          try simp only [Act.put, List.setIfInBounds_toArray, List.set_cons_zero, List.set_cons_succ]
          refine wpS_take 1 (v := ?_) hSw rfl (by kernel_rfl) (by kernel_rfl) (by kernel_rfl) (by rfl) (fun w' hin => ?_) ?_
          rotate_left
          · (try simp only [] at hin); go_simp <;> with_reducible rfl
          try simp only [Act.put, List.setIfInBounds_toArray, List.set_cons_zero, List.set_cons_succ]
          refine wpS_take 2 (v := ?_) hSw rfl (by kernel_rfl) (by kernel_rfl) (by kernel_rfl) (by rfl) (fun w' hin => ?_) ?_
          rotate_left
          · (try simp only [] at hin); go_simp <;> with_reducible rfl
          try simp only [Act.put, List.setIfInBounds_toArray, List.set_cons_zero, List.set_cons_succ]
          refine wpS_take 3 (v := ?_) hSw rfl (by kernel_rfl) (by kernel_rfl) (by kernel_rfl) (by rfl) (fun w' hin => ?_) ?_
          rotate_left
          · (try simp only [] at hin); go_simp <;> with_reducible rfl
          try simp only [Act.put, List.setIfInBounds_toArray, List.set_cons_zero, List.set_cons_succ]
          refine wpS_take 5 (v := ?_) hSw rfl (by kernel_rfl) (by kernel_rfl) (by kernel_rfl) (by rfl) (fun w' hin => ?_) ?_
          rotate_left
          · (try simp only [] at hin); go_simp <;> with_reducible rfl
          try simp only [Act.put, List.setIfInBounds_toArray, List.set_cons_zero, List.set_cons_succ]
          refine wpS_one 4 rfl (by kernel_rfl) (by rfl) (fun K hK => ?_)
          go_simp
          refine (theirs_any _ _ _ _ _).mono ?_
          rintro e u1 ⟨rfl, hu1⟩
          simp only []
          refine hK.out _ _ (Ext V6.drew) (fun _ h => h) (hu1) (fun hSw => ?_)
          clear hK K
          try simp only [Act.put, List.setIfInBounds_toArray, List.set_cons_zero, List.set_cons_succ]
          refine wpS_one 6 rfl (by kernel_rfl) (by rfl) (fun K hK => ?_)
          go_simp
          refine (same12_any (OffAB w3.heap.size (w3.heap.size + 1)) _ _ _ _ _ _ _ _ l2 l2 _ (LA7.out.up ((Ext.refl V6).drew.trans hu1)) (LB7.out.up ((Ext.refl V6).drew.trans hu1)) (by omega)).mono ?_
          rintro e u2 ⟨rfl, hu2⟩
          rw [sameB_true rfl]
          simp only []
          refine hK.out _ _ (Ext V6.drew) (fun _ h => h) (hu1.trans hu2) (fun hSw => ?_)
          clear hK K
          try simp only [Act.put, List.setIfInBounds_toArray, List.set_cons_zero, List.set_cons_succ]
          refine wpS_take 7 (v := ?_) hSw rfl (by kernel_rfl) (by kernel_rfl) (by kernel_rfl) (by rfl) (fun w' hin => ?_) ?_
          rotate_left
          · (try simp only [] at hin); go_simp <;> with_reducible rfl
          try simp only [Act.put, List.setIfInBounds_toArray, List.set_cons_zero, List.set_cons_succ]
          refine wpS_take 8 (v := ?_) hSw rfl (by kernel_rfl) (by kernel_rfl) (by kernel_rfl) (by rfl) (fun w' hin => ?_) ?_
          rotate_left
          · (try simp only [] at hin); go_simp <;> with_reducible rfl
          try simp only [Act.put, List.setIfInBounds_toArray, List.set_cons_zero, List.set_cons_succ]
          refine wpS_take 9 (v := ?_) hSw rfl (by kernel_rfl) (by kernel_rfl) (by kernel_rfl) (by rfl) (fun w' hin => ?_) ?_
          rotate_left
          · (try simp only [] at hin); go_simp <;> with_reducible rfl
          try simp only [Act.put, List.setIfInBounds_toArray, List.set_cons_zero, List.set_cons_succ]
          refine wpS_take 10 (v := ?_) hSw rfl (by kernel_rfl) (by kernel_rfl) (by kernel_rfl) (by rfl) (fun w' hin => ?_) ?_
          rotate_left
          · (try simp only [] at hin); go_simp <;> with_reducible rfl
          try simp only [Act.put, List.setIfInBounds_toArray, List.set_cons_zero, List.set_cons_succ]
          refine wpS_one 11 rfl (by kernel_rfl) (by rfl) (fun K hK => ?_)
          go_simp
          refine (linkSane_any _ _ _ _ _).mono ?_
          rintro e u3 ⟨rfl, hu3⟩
          rw [HOK3.out]
          simp only []
          refine hK.out _ _ (Ext V6.drew) (fun _ h => h) ((hu1.trans hu2).trans hu3) (fun hSw => ?_)
          clear hK K
          try simp only [Act.put, List.setIfInBounds_toArray, List.set_cons_zero, List.set_cons_succ]
          refine wpS_take 12 (v := ?_) hSw rfl (by kernel_rfl) (by kernel_rfl) (by kernel_rfl) (by rfl) (fun w' hin => ?_) ?_
          rotate_left
          · (try simp only [] at hin); go_simp <;> with_reducible rfl
          try simp only [Act.put, List.setIfInBounds_toArray, List.set_cons_zero, List.set_cons_succ]
          refine wpS_take 13 (v := ?_) hSw rfl (by kernel_rfl) (by kernel_rfl) (by kernel_rfl) (by rfl) (fun w' hin => ?_) ?_
          rotate_left
          · (try simp only [] at hin); go_simp <;> with_reducible rfl
          try simp only [Act.put, List.setIfInBounds_toArray, List.set_cons_zero, List.set_cons_succ]
          refine wpS_done (by kernel_rfl) ?_
          have E9 := Lib.hid ((((Ext.refl V6).drew.trans hu1).trans hu2).trans hu3)
          have HFS2 : Hid (∀ b ∈ l2.sane.q, b.length ≤ 300) := Lib.hid (by rw [Lk.sane_of HOK2.out]; exact HF2.out)
          have BA9 := Lib.hid ((E9.out.block hV6).trans BA7.out)
          have BB9 := Lib.hid ((E9.out.block F6).trans BB7.out)
          have LA9 := Lib.hid (LA7.out.up E9.out)
          have LB9 := Lib.hid (LB7.out.up E9.out)
          have EW9 := Lib.hid (EV6.out.trans E9.out)
          have hz9 : w3.heap.size + 1 < u3.heap.size := Nat.lt_of_lt_of_le F6 E9.out.size
          clear m0 m1 m2 m3 hu1 hu2 hu3 hSw
          go_wp2_with fail
          go_roundw
          case rel => exact ⟨j + 1, l2, e3, A3, n3, c3, e4, A4, n4, c4, by omega, by go_num, HFS2, BA9, BB9, LA9, LB9, EW9, hz9⟩
          case measure => simp [intOf]; omega
      · go_simp
        have ex6 : Ext wr.drew ((wr.alloc (.cells #[.int .i64 0, .slice none 0 0] 40)).drew) := Ext.new wr.drew (.cells #[.int .i64 0, .slice none 0 0] 40)
        have pn6 : ((wr.alloc (.cells #[.int .i64 0, .slice none 0 0] 40)).drew).heap[wr.heap.size]? = some (Obj.cells #[.int .i64 0, .slice none 0 0] 40) := heap_alloc_new wr (.cells #[.int .i64 0, .slice none 0 0] 40)
        have ln6 : wr.heap.size ≤ wr.heap.size := Nat.le_refl _
        have lt6 : wr.heap.size < ((wr.alloc (.cells #[.int .i64 0, .slice none 0 0] 40)).drew).heap.size := (show wr.heap.size < (wr.alloc (.cells #[.int .i64 0, .slice none 0 0] 40)).heap.size by rw [World.size_alloc]; omega)
        have hs6 : Ext wr.drew ((wr.alloc (.cells #[.int .i64 0, .slice none 0 0] 40)).drew) := Ext.new wr.drew (.cells #[.int .i64 0, .slice none 0 0] 40)
        obtain ⟨v6, hv6⟩ : ∃ v, v = (wr.alloc (.cells #[.int .i64 0, .slice none 0 0] 40)).drew := ⟨_, rfl⟩
        obtain ⟨g9, hg6⟩ : ∃ g, g = wr.heap.size := ⟨_, rfl⟩
        rw [← hv6] at ex6 pn6 lt6 hs6 ⊢
        have pn6 : v6.heap[g9]? = some (.cells #[.int .i64 0, .slice none 0 0] 40) := by rw [hg6]; exact pn6
        have lt6 : g9 < v6.heap.size := by rw [hg6]; exact lt6
        have ln6 : wr.heap.size ≤ g9 := by rw [hg6]; exact Nat.le_refl _
        rw [show (Value.pointer (some (⟨wr.heap.size, 0, none⟩ : Addr))) = Value.pointer (some ⟨g9, 0, none⟩) by rw [hg6]]
        clear hv6 hg6
        refine hK.out _ _ (Ext wr.drew) (fun _ h => h) hs6 (fun hSw => ?_)
        clear hK K
        try simp only [Act.put, List.setIfInBounds_toArray, List.set_cons_zero, List.set_cons_succ]
        refine wpS_two 6 12 rfl rfl (by kernel_rfl) (by rfl) (by rfl) (fun K hK => ?_) (fun K hK => ?_)
        · go_simp
          obtain ⟨l2, hok2, hf2, hcall⟩ := HST.out v6 (drew_ext.trans hSw)
          refine hcall.mono ?_
          rintro e v7 ⟨e3, A3, n3, c3, e4, A4, n4, c4, rfl, hl3, hl4, ex7⟩
          have HOK2 := Lib.hid hok2
          have HF2 := Lib.hid hf2
          have LA3 := Lib.hid (hl3.fresh (X' := XS w3.heap.size (w3.heap.size + 1) [g9]) fun b hb => .inl (xs_offw (fun g hg => by simp at hg; subst hg; constructor <;> omega) b hb))
          have LB3 := Lib.hid (hl4.fresh (X' := XS w3.heap.size (w3.heap.size + 1) [g9]) fun b hb => .inl (xs_offw (fun g hg => by simp at hg; subst hg; constructor <;> omega) b hb))
          have hs7 := hSw.trans ex7
          have pc7_9 := (ex7.block lt6).trans pn6
          have lc7_9 := Nat.lt_of_lt_of_le lt6 ex7.size
          clear hl3 hl4 hok2 hf2 hcall
          simp only []
          refine hK.out _ _ (Ext wr.drew) (fun _ h => h) hs7 (fun hSw => ?_)
          clear hK K
          try simp only [Act.put, List.setIfInBounds_toArray, List.set_cons_zero, List.set_cons_succ]
          refine wpS_take 7 (v := ?_) hSw rfl (by kernel_rfl) (by kernel_rfl) (by kernel_rfl) (by rfl) (fun w' hin => ?_) ?_
          rotate_left
          · (try simp only [] at hin); go_simp <;> with_reducible rfl
          try simp only [Act.put, List.setIfInBounds_toArray, List.set_cons_zero, List.set_cons_succ]
          refine wpS_take 8 (v := ?_) hSw rfl (by kernel_rfl) (by kernel_rfl) (by kernel_rfl) (by rfl) (fun w' hin => ?_) ?_
          rotate_left
          · (try simp only [] at hin); go_simp <;> with_reducible rfl
          try simp only [Act.put, List.setIfInBounds_toArray, List.set_cons_zero, List.set_cons_succ]
          refine wpS_take 9 (v := ?_) hSw rfl (by kernel_rfl) (by kernel_rfl) (by kernel_rfl) (by rfl) (fun w' hin => ?_) ?_
          rotate_left
          · (try simp only [] at hin); go_simp <;> with_reducible rfl
          try simp only [Act.put, List.setIfInBounds_toArray, List.set_cons_zero, List.set_cons_succ]
          refine wpS_take 10 (v := ?_) hSw rfl (by kernel_rfl) (by kernel_rfl) (by kernel_rfl) (by rfl) (fun w' hin => ?_) ?_
          rotate_left
          · (try simp only [] at hin); go_simp <;> with_reducible rfl
          try simp only [Act.put, List.setIfInBounds_toArray, List.set_cons_zero, List.set_cons_succ]
          refine wpS_one 12 rfl (by kernel_rfl) (by rfl) (fun K hK => ?_)
          go_simp
          have ex8 : Ext v7 (v7.alloc (.cells #[.int .i64 0, .slice none 0 0] 37)) := Ext.new _ _
          have pn8 := heap_alloc_new v7 (.cells #[.int .i64 0, .slice none 0 0] 37)
          have ln8 : wr.heap.size ≤ v7.heap.size := hSw.size
          have lt8 : v7.heap.size < (v7.alloc (.cells #[.int .i64 0, .slice none 0 0] 37)).heap.size := by rw [World.size_alloc]; omega
          have hs8 := hSw.alloc (.cells #[.int .i64 0, .slice none 0 0] 37)
          obtain ⟨v8, hv8⟩ : ∃ v, v = v7.alloc (.cells #[.int .i64 0, .slice none 0 0] 37) := ⟨_, rfl⟩
          obtain ⟨g10, hg8⟩ : ∃ g, g = v7.heap.size := ⟨_, rfl⟩
          rw [← hv8] at ex8 pn8 lt8 hs8 ⊢
          rw [← hg8] at pn8 ln8 lt8 ⊢
          have ne8_9 : g9 < g10 := by rw [hg8]; exact lc7_9
          have pc8_9 := (ex8.block lc7_9).trans pc7_9
          have lc8_9 := Nat.lt_of_lt_of_le lc7_9 ex8.size
          have LA3 := Lib.hid ((LA3.out.fresh (xs_cons (g := g10) (Nat.le_of_eq hg8.symm))).up ex8)
          have LB3 := Lib.hid ((LB3.out.fresh (xs_cons (g := g10) (Nat.le_of_eq hg8.symm))).up ex8)
          clear hv8 hg8
          refine hK.out _ _ (Ext wr.drew) (fun _ h => h) hs8 (fun hSw => ?_)
          clear hK K
          try simp only [Act.put, List.setIfInBounds_toArray, List.set_cons_zero, List.set_cons_succ]
          have P9 := Lib.hid pc8_9
          have P10 := Lib.hid pn8
          have L9 := lc8_9
          have L10 := lt8
          skip
          have hg9 : wr.heap.size ≤ g9 := by assumption
          have hg10 : wr.heap.size ≤ g10 := by assumption
          have LA4 : Hid (LkR v8 (XS w3.heap.size (w3.heap.size + 1) [g9, g10]) e3 A3 n3 c3 l2) := Lib.hid (LA3.out.fresh fun b hb => .inl (by rcases hb with hb | hb; exact .inl hb; right; simp at hb ⊢; omega))
          have LB4 : Hid (LkR v8 (XS w3.heap.size (w3.heap.size + 1) [g9, g10]) e4 A4 n4 c4 l2) := Lib.hid (LB3.out.fresh fun b hb => .inl (by rcases hb with hb | hb; exact .inl hb; right; simp at hb ⊢; omega))
          have hne910 : g9 ≠ g10 := by omega
          clear LA3 LB3
          obtain ⟨q9, q9f⟩ := blk_rules P9.out
          obtain ⟨q10, q10f⟩ := blk_rules P10.out
          refine wpS_one 13 rfl (by kernel_rfl) (by rfl) (fun K hK => ?_)
          go_simp
          have hs13 := (hSw.set (p := ⟨g9, 0, none⟩) hg9 (.int .i64 e3)).set (p := ⟨g9, 1, none⟩) hg9 (.slice A3 n3 c3)
          refine hK.out _ _ (Ext wr.drew) (fun _ h => h) hs13 (fun hSw => ?_)
          clear hK K
          try simp only [Act.put, List.setIfInBounds_toArray, List.set_cons_zero, List.set_cons_succ]
          have P9' : Hid (((v8.setCell ⟨g9, 0, none⟩ (.int .i64 e3)).setCell ⟨g9, 1, none⟩ (.slice A3 n3 c3)).heap[g9]? = some (.cells #[.int .i64 e3, .slice A3 n3 c3] 40 (0, 0))) := Lib.hid (blk_set (blk_set P9.out _) _)
          have P10' : Hid (((v8.setCell ⟨g9, 0, none⟩ (.int .i64 e3)).setCell ⟨g9, 1, none⟩ (.slice A3 n3 c3)).heap[g10]? = some (.cells #[.int .i64 0, .slice none 0 0] 37 (0, 0))) := Lib.hid ((blk_far (Ne.symm hne910) _).trans ((blk_far (Ne.symm hne910) _).trans P10.out))
          have LA5 := Lib.hid ((LA4.out.set (g := g9) (i := 0) (.inr (by simp)) (.int .i64 e3)).set (g := g9) (i := 1) (.inr (by simp)) (.slice A3 n3 c3))
          have LB5 := Lib.hid ((LB4.out.set (g := g9) (i := 0) (.inr (by simp)) (.int .i64 e3)).set (g := g9) (i := 1) (.inr (by simp)) (.slice A3 n3 c3))
          obtain ⟨U, hU⟩ : ∃ U, U = (v8.setCell ⟨g9, 0, none⟩ (.int .i64 e3)).setCell ⟨g9, 1, none⟩ (.slice A3 n3 c3) := ⟨_, rfl⟩
          rw [← hU] at P9' P10' LA5 LB5 hSw ⊢
          clear hU q9 q9f q10 q10f hs13
          obtain ⟨q10, q10f⟩ := blk_rules P10'.out
          refine wpS_one 14 rfl (by kernel_rfl) (by rfl) (fun K hK => ?_)
          go_simp
          have hs14 := (hSw.set (p := ⟨g10, 0, none⟩) hg10 (.int .i64 e4)).set (p := ⟨g10, 1, none⟩) hg10 (.slice A4 n4 c4)
          refine hK.out _ _ (Ext wr.drew) (fun _ h => h) hs14 (fun hSw => ?_)
          clear hK K
          try simp only [Act.put, List.setIfInBounds_toArray, List.set_cons_zero, List.set_cons_succ]
          refine wpS_take 15 (v := ?_) hSw rfl (by kernel_rfl) (by kernel_rfl) (by kernel_rfl) (by rfl) (fun w' hin => ?_) ?_
          rotate_left
          · (try simp only [] at hin); go_simp <;> with_reducible rfl
          try simp only [Act.put, List.setIfInBounds_toArray, List.set_cons_zero, List.set_cons_succ]
          refine wpS_done (by kernel_rfl) ?_
          have P9'' : Hid (((U.setCell ⟨g10, 0, none⟩ (.int .i64 e4)).setCell ⟨g10, 1, none⟩ (.slice A4 n4 c4)).heap[g9]? = some (.cells #[.int .i64 e3, .slice A3 n3 c3] 40 (0, 0))) := Lib.hid ((blk_far hne910 _).trans ((blk_far hne910 _).trans P9'.out))
          have P10'' : Hid (((U.setCell ⟨g10, 0, none⟩ (.int .i64 e4)).setCell ⟨g10, 1, none⟩ (.slice A4 n4 c4)).heap[g10]? = some (.cells #[.int .i64 e4, .slice A4 n4 c4] 37 (0, 0))) := Lib.hid (blk_set (blk_set P10'.out _) _)
          have LA6 := Lib.hid ((LA5.out.set (g := g10) (i := 0) (.inr (by simp)) (.int .i64 e4)).set (g := g10) (i := 1) (.inr (by simp)) (.slice A4 n4 c4))
          have LB6 := Lib.hid ((LB5.out.set (g := g10) (i := 0) (.inr (by simp)) (.int .i64 e4)).set (g := g10) (i := 1) (.inr (by simp)) (.slice A4 n4 c4))
          obtain ⟨U2, hU2⟩ : ∃ U2, U2 = (U.setCell ⟨g10, 0, none⟩ (.int .i64 e4)).setCell ⟨g10, 1, none⟩ (.slice A4 n4 c4) := ⟨_, rfl⟩
          rw [← hU2] at P9'' P10'' LA6 LB6 hSw ⊢
          have EU := Lib.hid ((Ext.refl wr).drew.trans hSw)
          have zA : w3.heap.size < U2.heap.size := Nat.lt_of_lt_of_le hz'' EU.out.size
          have zB : w3.heap.size + 1 < U2.heap.size := Nat.lt_of_lt_of_le hz' EU.out.size
          have BA2 := Lib.hid ((EU.out.block hz'').trans BA.out)
          have BB2 := Lib.hid ((EU.out.block hz').trans BB.out)
          have EWU := Lib.hid (EW'.out.trans EU.out)
          clear hU2 q10 q10f hs14 la0 la1 lb0 lb1 lx0 lx1 lx2
          obtain ⟨r9, -⟩ := blk_rules P9''.out
          obtain ⟨r10, -⟩ := blk_rules P10''.out
          obtain ⟨ra, raf⟩ := blk_rules BA2.out
          obtain ⟨rb, rbf⟩ := blk_rules BB2.out
          obtain ⟨F1, F2, F3⟩ : LkR ((((U2.setCell ⟨w3.heap.size, 0, none⟩ (.int .i64 e3)).setCell ⟨w3.heap.size, 1, none⟩ (.slice A3 n3 c3)).setCell ⟨w3.heap.size + 1, 0, none⟩ (.int .i64 e4)).setCell ⟨w3.heap.size + 1, 1, none⟩ (.slice A4 n4 c4)) (OffAB w3.heap.size (w3.heap.size + 1)) e3 A3 n3 c3 l2 ∧ LkR ((((U2.setCell ⟨w3.heap.size, 0, none⟩ (.int .i64 e3)).setCell ⟨w3.heap.size, 1, none⟩ (.slice A3 n3 c3)).setCell ⟨w3.heap.size + 1, 0, none⟩ (.int .i64 e4)).setCell ⟨w3.heap.size + 1, 1, none⟩ (.slice A4 n4 c4)) (OffAB w3.heap.size (w3.heap.size + 1)) e4 A4 n4 c4 l2 ∧ Ext w ((((U2.setCell ⟨w3.heap.size, 0, none⟩ (.int .i64 e3)).setCell ⟨w3.heap.size, 1, none⟩ (.slice A3 n3 c3)).setCell ⟨w3.heap.size + 1, 0, none⟩ (.int .i64 e4)).setCell ⟨w3.heap.size + 1, 1, none⟩ (.slice A4 n4 c4)) :=
            ⟨((((LA6.out.fresh (fun b hb => .inl (.inl hb))).set (.inl rfl) _).set (.inl rfl) _).set (.inr rfl) _).set (.inr rfl) _, ((((LB6.out.fresh (fun b hb => .inl (.inl hb))).set (.inl rfl) _).set (.inl rfl) _).set (.inr rfl) _).set (.inr rfl) _,
              (((EWU.out.set hg3 _).set hg3 _).set (Nat.le_trans hg3 (Nat.le_succ _)) _).set (Nat.le_trans hg3 (Nat.le_succ _)) _⟩
          have F4 : ((((U2.setCell ⟨w3.heap.size, 0, none⟩ (.int .i64 e3)).setCell ⟨w3.heap.size, 1, none⟩ (.slice A3 n3 c3)).setCell ⟨w3.heap.size + 1, 0, none⟩ (.int .i64 e4)).setCell ⟨w3.heap.size + 1, 1, none⟩ (.slice A4 n4 c4)).heap[w3.heap.size]? = some (.cells #[.int .i64 e3, .slice A3 n3 c3] 40 (0, 0)) := (blk_far (by omega) _).trans ((blk_far (by omega) _).trans (blk_set (blk_set BA2.out _) _))
          have F5 : ((((U2.setCell ⟨w3.heap.size, 0, none⟩ (.int .i64 e3)).setCell ⟨w3.heap.size, 1, none⟩ (.slice A3 n3 c3)).setCell ⟨w3.heap.size + 1, 0, none⟩ (.int .i64 e4)).setCell ⟨w3.heap.size + 1, 1, none⟩ (.slice A4 n4 c4)).heap[w3.heap.size + 1]? = some (.cells #[.int .i64 e4, .slice A4 n4 c4] 37 (0, 0)) := blk_set (blk_set ((blk_far (by omega) _).trans ((blk_far (by omega) _).trans BB2.out)) _) _
          have F6 : w3.heap.size + 1 < ((((U2.setCell ⟨w3.heap.size, 0, none⟩ (.int .i64 e3)).setCell ⟨w3.heap.size, 1, none⟩ (.slice A3 n3 c3)).setCell ⟨w3.heap.size + 1, 0, none⟩ (.int .i64 e4)).setCell ⟨w3.heap.size + 1, 1, none⟩ (.slice A4 n4 c4)).heap.size := by simpa [World.setCell] using zB
          obtain ⟨V6, hV6⟩ : ∃ V6, V6 = (((U2.setCell ⟨w3.heap.size, 0, none⟩ (.int .i64 e3)).setCell ⟨w3.heap.size, 1, none⟩ (.slice A3 n3 c3)).setCell ⟨w3.heap.size + 1, 0, none⟩ (.int .i64 e4)).setCell ⟨w3.heap.size + 1, 1, none⟩ (.slice A4 n4 c4) := ⟨_, rfl⟩
          rw [← hV6] at F1 F2 F3 F4 F5 F6
          have LA7 := Lib.hid F1
          have LB7 := Lib.hid F2
          have EV6 := Lib.hid F3
          have BA7 := Lib.hid F4
          have BB7 := Lib.hid F5
          have HV6 := Lib.hid hV6
          clear F1 F2 F3 F4 F5 hV6
          go_wp2_with fail
          rw [← HV6.out]
          clear HV6 r9 r10 ra raf rb rbf P9'' P10'' LA6 LB6 LA5 LB5 LA4 LB4 P9' P10' P9 P10
          have HOK3 : Hid (okL e3 n3 = true) := Lib.hid (by have := HOK2.out; unfold Lk.ok at this; rw [LA7.out.1, LA7.out.len] at this; exact this)
          have hn3 : n3 ≤ 32 := by have := l2.sane_len; rw [Lk.sane_of HOK2.out, LA7.out.len] at this; exact this
          have hV6 : w3.heap.size < V6.heap.size := by omega
          have m0 : ∀ w', Ext V6.drew w' → w'.cell? ⟨w3.heap.size, 0, none⟩ = some (.int .i64 e3) := fun w' hx => (((Ext.refl V6).drew.trans hx).cell hV6).trans ((blk_rules BA7.out).1 0)
          have m1 : ∀ w', Ext V6.drew w' → w'.cell? ⟨w3.heap.size, 1, none⟩ = some (.slice A3 n3 c3) := fun w' hx => (((Ext.refl V6).drew.trans hx).cell hV6).trans ((blk_rules BA7.out).1 1)
          have m2 : ∀ w', Ext V6.drew w' → w'.cell? ⟨w3.heap.size + 1, 0, none⟩ = some (.int .i64 e4) := fun w' hx => (((Ext.refl V6).drew.trans hx).cell F6).trans ((blk_rules BB7.out).1 0)
          have m3 : ∀ w', Ext V6.drew w' → w'.cell? ⟨w3.heap.size + 1, 1, none⟩ = some (.slice A4 n4 c4) := fun w' hx => (((Ext.refl V6).drew.trans hx).cell F6).trans ((blk_rules BB7.out).1 1)
          have hSw : Ext V6.drew V6.drew := Ext.refl _
          refine wpS_begin (Ext V6.drew) (by kernel_rfl) ?_
          refine wpS_take 0 (v := ?_) hSw rfl (by kernel_rfl) (by kernel_rfl) (by kernel_rfl) (by rfl) (fun w' hin => ?_) ?_
          rotate_left
          · (try simp only [] at hin); go_simp <;> with_reducible rfl
          try simp only [Act.put, List.setIfInBounds_toArray, List.set_cons_zero, List.set_cons_succ]
          refine wpS_take 1 (v := ?_) hSw rfl (by kernel_rfl) (by kernel_rfl) (by kernel_rfl) (by rfl) (fun w' hin => ?_) ?_
          rotate_left
          · (try simp only [] at hin); go_simp <;> with_reducible rfl
          try simp only [Act.put, List.setIfInBounds_toArray, List.set_cons_zero, List.set_cons_succ]
          refine wpS_take 2 (v := ?_) hSw rfl (by kernel_rfl) (by kernel_rfl) (by kernel_rfl) (by rfl) (fun w' hin => ?_) ?_
          rotate_left
          · (try simp only [] at hin); go_simp <;> with_reducible rfl
          try simp only [Act.put, List.setIfInBounds_toArray, List.set_cons_zero, List.set_cons_succ]
          refine wpS_take 3 (v := ?_) hSw rfl (by kernel_rfl) (by kernel_rfl) (by kernel_rfl) (by rfl) (fun w' hin => ?_) ?_
          rotate_left
          · (try simp only [] at hin); go_simp <;> with_reducible rfl
          try simp only [Act.put, List.setIfInBounds_toArray, List.set_cons_zero, List.set_cons_succ]
          refine wpS_take 5 (v := ?_) hSw rfl (by kernel_rfl) (by kernel_rfl) (by kernel_rfl) (by rfl) (fun w' hin => ?_) ?_
          rotate_left
          · (try simp only [] at hin); go_simp <;> with_reducible rfl
          try simp only [Act.put, List.setIfInBounds_toArray, List.set_cons_zero, List.set_cons_succ]
          refine wpS_one 4 rfl (by kernel_rfl) (by rfl) (fun K hK => ?_)
          go_simp
          refine (theirs_any _ _ _ _ _).mono ?_
          rintro e u1 ⟨rfl, hu1⟩
          simp only []
          refine hK.out _ _ (Ext V6.drew) (fun _ h => h) (hu1) (fun hSw => ?_)
          clear hK K
          try simp only [Act.put, List.setIfInBounds_toArray, List.set_cons_zero, List.set_cons_succ]
          refine wpS_one 6 rfl (by kernel_rfl) (by rfl) (fun K hK => ?_)
          go_simp
          refine (same12_any (OffAB w3.heap.size (w3.heap.size + 1)) _ _ _ _ _ _ _ _ l2 l2 _ (LA7.out.up ((Ext.refl V6).drew.trans hu1)) (LB7.out.up ((Ext.refl V6).drew.trans hu1)) (by omega)).mono ?_
          rintro e u2 ⟨rfl, hu2⟩
          rw [sameB_true rfl]
          simp only []
          refine hK.out _ _ (Ext V6.drew) (fun _ h => h) (hu1.trans hu2) (fun hSw => ?_)
          clear hK K
          try simp only [Act.put, List.setIfInBounds_toArray, List.set_cons_zero, List.set_cons_succ]
          refine wpS_take 7 (v := ?_) hSw rfl (by kernel_rfl) (by kernel_rfl) (by kernel_rfl) (by rfl) (fun w' hin => ?_) ?_
          rotate_left
          · (try simp only [] at hin); go_simp <;> with_reducible rfl
          try simp only [Act.put, List.setIfInBounds_toArray, List.set_cons_zero, List.set_cons_succ]
          refine wpS_take 8 (v := ?_) hSw rfl (by kernel_rfl) (by kernel_rfl) (by kernel_rfl) (by rfl) (fun w' hin => ?_) ?_
          rotate_left
          · (try simp only [] at hin); go_simp <;> with_reducible rfl
          try simp only [Act.put, List.setIfInBounds_toArray, List.set_cons_zero, List.set_cons_succ]
          refine wpS_take 9 (v := ?_) hSw rfl (by kernel_rfl) (by kernel_rfl) (by kernel_rfl) (by rfl) (fun w' hin => ?_) ?_
          rotate_left
          · (try simp only [] at hin); go_simp <;> with_reducible rfl
          try simp only [Act.put, List.setIfInBounds_toArray, List.set_cons_zero, List.set_cons_succ]
          refine wpS_take 10 (v := ?_) hSw rfl (by kernel_rfl) (by kernel_rfl) (by kernel_rfl) (by rfl) (fun w' hin => ?_) ?_
          rotate_left
          · (try simp only [] at hin); go_simp <;> with_reducible rfl
          try simp only [Act.put, List.setIfInBounds_toArray, List.set_cons_zero, List.set_cons_succ]
          refine wpS_one 11 rfl (by kernel_rfl) (by rfl) (fun K hK => ?_)
          go_simp
          refine (linkSane_any _ _ _ _ _).mono ?_
          rintro e u3 ⟨rfl, hu3⟩
          rw [HOK3.out]
          simp only []
          refine hK.out _ _ (Ext V6.drew) (fun _ h => h) ((hu1.trans hu2).trans hu3) (fun hSw => ?_)
          clear hK K
          try simp only [Act.put, List.setIfInBounds_toArray, List.set_cons_zero, List.set_cons_succ]
          refine wpS_take 12 (v := ?_) hSw rfl (by kernel_rfl) (by kernel_rfl) (by kernel_rfl) (by rfl) (fun w' hin => ?_) ?_
          rotate_left
          · (try simp only [] at hin); go_simp <;> with_reducible rfl
          try simp only [Act.put, List.setIfInBounds_toArray, List.set_cons_zero, List.set_cons_succ]
          refine wpS_take 13 (v := ?_) hSw rfl (by kernel_rfl) (by kernel_rfl) (by kernel_rfl) (by rfl) (fun w' hin => ?_) ?_
          rotate_left
          · (try simp only [] at hin); go_simp <;> with_reducible rfl
          try simp only [Act.put, List.setIfInBounds_toArray, List.set_cons_zero, List.set_cons_succ]
          refine wpS_done (by kernel_rfl) ?_
          have E9 := Lib.hid ((((Ext.refl V6).drew.trans hu1).trans hu2).trans hu3)
          have HFS2 : Hid (∀ b ∈ l2.sane.q, b.length ≤ 300) := Lib.hid (by rw [Lk.sane_of HOK2.out]; exact HF2.out)
          have BA9 := Lib.hid ((E9.out.block hV6).trans BA7.out)
          have BB9 := Lib.hid ((E9.out.block F6).trans BB7.out)
          have LA9 := Lib.hid (LA7.out.up E9.out)
          have LB9 := Lib.hid (LB7.out.up E9.out)
          have EW9 := Lib.hid (EV6.out.trans E9.out)
          have hz9 : w3.heap.size + 1 < u3.heap.size := Nat.lt_of_lt_of_le F6 E9.out.size
          clear m0 m1 m2 m3 hu1 hu2 hu3 hSw
          go_wp2_with fail
          go_roundw
          case rel => exact ⟨j + 1, l2, e3, A3, n3, c3, e4, A4, n4, c4, by omega, by go_num, HFS2, BA9, BB9, LA9, LB9, EW9, hz9⟩
          case measure => simp [intOf]; omega
        · go_simp
          have ex9 : Ext v6 (v6.alloc (.cells #[.int .i64 0, .slice none 0 0] 37)) := Ext.new _ _
          have pn9 := heap_alloc_new v6 (.cells #[.int .i64 0, .slice none 0 0] 37)
          have ln9 : wr.heap.size ≤ v6.heap.size := hSw.size
          have lt9 : v6.heap.size < (v6.alloc (.cells #[.int .i64 0, .slice none 0 0] 37)).heap.size := by rw [World.size_alloc]; omega
          have hs9 := hSw.alloc (.cells #[.int .i64 0, .slice none 0 0] 37)
          obtain ⟨v9, hv9⟩ : ∃ v, v = v6.alloc (.cells #[.int .i64 0, .slice none 0 0] 37) := ⟨_, rfl⟩
          obtain ⟨g10, hg9⟩ : ∃ g, g = v6.heap.size := ⟨_, rfl⟩
          rw [← hv9] at ex9 pn9 lt9 hs9 ⊢
          rw [← hg9] at pn9 ln9 lt9 ⊢
          have ne9_9 : g9 < g10 := by rw [hg9]; exact lt6
          have pc9_9 := (ex9.block lt6).trans pn6
          have lc9_9 := Nat.lt_of_lt_of_le lt6 ex9.size
          clear hv9 hg9
          refine hK.out _ _ (Ext wr.drew) (fun _ h => h) hs9 (fun hSw => ?_)
          clear hK K
          try simp only [Act.put, List.setIfInBounds_toArray, List.set_cons_zero, List.set_cons_succ]
          refine wpS_one 6 rfl (by kernel_rfl) (by rfl) (fun K hK => ?_)
          go_simp
          obtain ⟨l2, hok2, hf2, hcall⟩ := HST.out v9 (drew_ext.trans hSw)
          refine hcall.mono ?_
          rintro e v10 ⟨e3, A3, n3, c3, e4, A4, n4, c4, rfl, hl3, hl4, ex10⟩
          have HOK2 := Lib.hid hok2
          have HF2 := Lib.hid hf2
          have LA3 := Lib.hid (hl3.fresh (X' := XS w3.heap.size (w3.heap.size + 1) [g9, g10]) fun b hb => .inl (xs_offw (fun g hg => by simp at hg; rcases hg with rfl | rfl <;> constructor <;> omega) b hb))
          have LB3 := Lib.hid (hl4.fresh (X' := XS w3.heap.size (w3.heap.size + 1) [g9, g10]) fun b hb => .inl (xs_offw (fun g hg => by simp at hg; rcases hg with rfl | rfl <;> constructor <;> omega) b hb))
          have hs10 := hSw.trans ex10
          have pc10_9 := (ex10.block lc9_9).trans pc9_9
          have lc10_9 := Nat.lt_of_lt_of_le lc9_9 ex10.size
          have pc10_10 := (ex10.block lt9).trans pn9
          have lc10_10 := Nat.lt_of_lt_of_le lt9 ex10.size
          clear hl3 hl4 hok2 hf2 hcall
          simp only []
          refine hK.out _ _ (Ext wr.drew) (fun _ h => h) hs10 (fun hSw => ?_)
          clear hK K
          try simp only [Act.put, List.setIfInBounds_toArray, List.set_cons_zero, List.set_cons_succ]
          refine wpS_take 7 (v := ?_) hSw rfl (by kernel_rfl) (by kernel_rfl) (by kernel_rfl) (by rfl) (fun w' hin => ?_) ?_
          rotate_left
          · (try simp only [] at hin); go_simp <;> with_reducible rfl
          try simp only [Act.put, List.setIfInBounds_toArray, List.set_cons_zero, List.set_cons_succ]
          refine wpS_take 8 (v := ?_) hSw rfl (by kernel_rfl) (by kernel_rfl) (by kernel_rfl) (by rfl) (fun w' hin => ?_) ?_
          rotate_left
          · (try simp only [] at hin); go_simp <;> with_reducible rfl
          try simp only [Act.put, List.setIfInBounds_toArray, List.set_cons_zero, List.set_cons_succ]
          refine wpS_take 9 (v := ?_) hSw rfl (by kernel_rfl) (by kernel_rfl) (by kernel_rfl) (by rfl) (fun w' hin => ?_) ?_
          rotate_left
          · (try simp only [] at hin); go_simp <;> with_reducible rfl
          try simp only [Act.put, List.setIfInBounds_toArray, List.set_cons_zero, List.set_cons_succ]
          refine wpS_take 10 (v := ?_) hSw rfl (by kernel_rfl) (by kernel_rfl) (by kernel_rfl) (by rfl) (fun w' hin => ?_) ?_
          rotate_left
          · (try simp only [] at hin); go_simp <;> with_reducible rfl
          try simp only [Act.put, List.setIfInBounds_toArray, List.set_cons_zero, List.set_cons_succ]
          have P9 := Lib.hid pc10_9
          have P10 := Lib.hid pc10_10
          have L9 := lc10_9
          have L10 := lc10_10
          skip
          have hg9 : wr.heap.size ≤ g9 := by assumption
          have hg10 : wr.heap.size ≤ g10 := by assumption
          have LA4 : Hid (LkR v10 (XS w3.heap.size (w3.heap.size + 1) [g9, g10]) e3 A3 n3 c3 l2) := Lib.hid (LA3.out.fresh fun b hb => .inl (by rcases hb with hb | hb; exact .inl hb; right; simp at hb ⊢; omega))
          have LB4 : Hid (LkR v10 (XS w3.heap.size (w3.heap.size + 1) [g9, g10]) e4 A4 n4 c4 l2) := Lib.hid (LB3.out.fresh fun b hb => .inl (by rcases hb with hb | hb; exact .inl hb; right; simp at hb ⊢; omega))
          have hne910 : g9 ≠ g10 := by omega
          clear LA3 LB3
          obtain ⟨q9, q9f⟩ := blk_rules P9.out
          obtain ⟨q10, q10f⟩ := blk_rules P10.out
          refine wpS_one 13 rfl (by kernel_rfl) (by rfl) (fun K hK => ?_)
          go_simp
          have hs13 := (hSw.set (p := ⟨g9, 0, none⟩) hg9 (.int .i64 e3)).set (p := ⟨g9, 1, none⟩) hg9 (.slice A3 n3 c3)
          refine hK.out _ _ (Ext wr.drew) (fun _ h => h) hs13 (fun hSw => ?_)
          clear hK K
          try simp only [Act.put, List.setIfInBounds_toArray, List.set_cons_zero, List.set_cons_succ]
          have P9' : Hid (((v10.setCell ⟨g9, 0, none⟩ (.int .i64 e3)).setCell ⟨g9, 1, none⟩ (.slice A3 n3 c3)).heap[g9]? = some (.cells #[.int .i64 e3, .slice A3 n3 c3] 40 (0, 0))) := Lib.hid (blk_set (blk_set P9.out _) _)
          have P10' : Hid (((v10.setCell ⟨g9, 0, none⟩ (.int .i64 e3)).setCell ⟨g9, 1, none⟩ (.slice A3 n3 c3)).heap[g10]? = some (.cells #[.int .i64 0, .slice none 0 0] 37 (0, 0))) := Lib.hid ((blk_far (Ne.symm hne910) _).trans ((blk_far (Ne.symm hne910) _).trans P10.out))
          have LA5 := Lib.hid ((LA4.out.set (g := g9) (i := 0) (.inr (by simp)) (.int .i64 e3)).set (g := g9) (i := 1) (.inr (by simp)) (.slice A3 n3 c3))
          have LB5 := Lib.hid ((LB4.out.set (g := g9) (i := 0) (.inr (by simp)) (.int .i64 e3)).set (g := g9) (i := 1) (.inr (by simp)) (.slice A3 n3 c3))
          obtain ⟨U, hU⟩ : ∃ U, U = (v10.setCell ⟨g9, 0, none⟩ (.int .i64 e3)).setCell ⟨g9, 1, none⟩ (.slice A3 n3 c3) := ⟨_, rfl⟩
          rw [← hU] at P9' P10' LA5 LB5 hSw ⊢
          clear hU q9 q9f q10 q10f hs13
          obtain ⟨q10, q10f⟩ := blk_rules P10'.out
          refine wpS_one 14 rfl (by kernel_rfl) (by rfl) (fun K hK => ?_)
          go_simp
          have hs14 := (hSw.set (p := ⟨g10, 0, none⟩) hg10 (.int .i64 e4)).set (p := ⟨g10, 1, none⟩) hg10 (.slice A4 n4 c4)
          refine hK.out _ _ (Ext wr.drew) (fun _ h => h) hs14 (fun hSw => ?_)
          clear hK K
          try simp only [Act.put, List.setIfInBounds_toArray, List.set_cons_zero, List.set_cons_succ]
          refine wpS_take 15 (v := ?_) hSw rfl (by kernel_rfl) (by kernel_rfl) (by kernel_rfl) (by rfl) (fun w' hin => ?_) ?_
          rotate_left
          · (try simp only [] at hin); go_simp <;> with_reducible rfl
          try simp only [Act.put, List.setIfInBounds_toArray, List.set_cons_zero, List.set_cons_succ]
          refine wpS_done (by kernel_rfl) ?_
          have P9'' : Hid (((U.setCell ⟨g10, 0, none⟩ (.int .i64 e4)).setCell ⟨g10, 1, none⟩ (.slice A4 n4 c4)).heap[g9]? = some (.cells #[.int .i64 e3, .slice A3 n3 c3] 40 (0, 0))) := Lib.hid ((blk_far hne910 _).trans ((blk_far hne910 _).trans P9'.out))
          have P10'' : Hid (((U.setCell ⟨g10, 0, none⟩ (.int .i64 e4)).setCell ⟨g10, 1, none⟩ (.slice A4 n4 c4)).heap[g10]? = some (.cells #[.int .i64 e4, .slice A4 n4 c4] 37 (0, 0))) := Lib.hid (blk_set (blk_set P10'.out _) _)
          have LA6 := Lib.hid ((LA5.out.set (g := g10) (i := 0) (.inr (by simp)) (.int .i64 e4)).set (g := g10) (i := 1) (.inr (by simp)) (.slice A4 n4 c4))
          have LB6 := Lib.hid ((LB5.out.set (g := g10) (i := 0) (.inr (by simp)) (.int .i64 e4)).set (g := g10) (i := 1) (.inr (by simp)) (.slice A4 n4 c4))
          obtain ⟨U2, hU2⟩ : ∃ U2, U2 = (U.setCell ⟨g10, 0, none⟩ (.int .i64 e4)).setCell ⟨g10, 1, none⟩ (.slice A4 n4 c4) := ⟨_, rfl⟩
          rw [← hU2] at P9'' P10'' LA6 LB6 hSw ⊢
          have EU := Lib.hid ((Ext.refl wr).drew.trans hSw)
          have zA : w3.heap.size < U2.heap.size := Nat.lt_of_lt_of_le hz'' EU.out.size
          have zB : w3.heap.size + 1 < U2.heap.size := Nat.lt_of_lt_of_le hz' EU.out.size
          have BA2 := Lib.hid ((EU.out.block hz'').trans BA.out)
          have BB2 := Lib.hid ((EU.out.block hz').trans BB.out)
          have EWU := Lib.hid (EW'.out.trans EU.out)
          clear hU2 q10 q10f hs14 la0 la1 lb0 lb1 lx0 lx1 lx2
          obtain ⟨r9, -⟩ := blk_rules P9''.out
          obtain ⟨r10, -⟩ := blk_rules P10''.out
          obtain ⟨ra, raf⟩ := blk_rules BA2.out
          obtain ⟨rb, rbf⟩ := blk_rules BB2.out
          obtain ⟨F1, F2, F3⟩ : LkR ((((U2.setCell ⟨w3.heap.size, 0, none⟩ (.int .i64 e3)).setCell ⟨w3.heap.size, 1, none⟩ (.slice A3 n3 c3)).setCell ⟨w3.heap.size + 1, 0, none⟩ (.int .i64 e4)).setCell ⟨w3.heap.size + 1, 1, none⟩ (.slice A4 n4 c4)) (OffAB w3.heap.size (w3.heap.size + 1)) e3 A3 n3 c3 l2 ∧ LkR ((((U2.setCell ⟨w3.heap.size, 0, none⟩ (.int .i64 e3)).setCell ⟨w3.heap.size, 1, none⟩ (.slice A3 n3 c3)).setCell ⟨w3.heap.size + 1, 0, none⟩ (.int .i64 e4)).setCell ⟨w3.heap.size + 1, 1, none⟩ (.slice A4 n4 c4)) (OffAB w3.heap.size (w3.heap.size + 1)) e4 A4 n4 c4 l2 ∧ Ext w ((((U2.setCell ⟨w3.heap.size, 0, none⟩ (.int .i64 e3)).setCell ⟨w3.heap.size, 1, none⟩ (.slice A3 n3 c3)).setCell ⟨w3.heap.size + 1, 0, none⟩ (.int .i64 e4)).setCell ⟨w3.heap.size + 1, 1, none⟩ (.slice A4 n4 c4)) :=
            ⟨((((LA6.out.fresh (fun b hb => .inl (.inl hb))).set (.inl rfl) _).set (.inl rfl) _).set (.inr rfl) _).set (.inr rfl) _, ((((LB6.out.fresh (fun b hb => .inl (.inl hb))).set (.inl rfl) _).set (.inl rfl) _).set (.inr rfl) _).set (.inr rfl) _,
              (((EWU.out.set hg3 _).set hg3 _).set (Nat.le_trans hg3 (Nat.le_succ _)) _).set (Nat.le_trans hg3 (Nat.le_succ _)) _⟩
          have F4 : ((((U2.setCell ⟨w3.heap.size, 0, none⟩ (.int .i64 e3)).setCell ⟨w3.heap.size, 1, none⟩ (.slice A3 n3 c3)).setCell ⟨w3.heap.size + 1, 0, none⟩ (.int .i64 e4)).setCell ⟨w3.heap.size + 1, 1, none⟩ (.slice A4 n4 c4)).heap[w3.heap.size]? = some (.cells #[.int .i64 e3, .slice A3 n3 c3] 40 (0, 0)) := (blk_far (by omega) _).trans ((blk_far (by omega) _).trans (blk_set (blk_set BA2.out _) _))
          have F5 : ((((U2.setCell ⟨w3.heap.size, 0, none⟩ (.int .i64 e3)).setCell ⟨w3.heap.size, 1, none⟩ (.slice A3 n3 c3)).setCell ⟨w3.heap.size + 1, 0, none⟩ (.int .i64 e4)).setCell ⟨w3.heap.size + 1, 1, none⟩ (.slice A4 n4 c4)).heap[w3.heap.size + 1]? = some (.cells #[.int .i64 e4, .slice A4 n4 c4] 37 (0, 0)) := blk_set (blk_set ((blk_far (by omega) _).trans ((blk_far (by omega) _).trans BB2.out)) _) _
          have F6 : w3.heap.size + 1 < ((((U2.setCell ⟨w3.heap.size, 0, none⟩ (.int .i64 e3)).setCell ⟨w3.heap.size, 1, none⟩ (.slice A3 n3 c3)).setCell ⟨w3.heap.size + 1, 0, none⟩ (.int .i64 e4)).setCell ⟨w3.heap.size + 1, 1, none⟩ (.slice A4 n4 c4)).heap.size := by simpa [World.setCell] using zB
          obtain ⟨V6, hV6⟩ : ∃ V6, V6 = (((U2.setCell ⟨w3.heap.size, 0, none⟩ (.int .i64 e3)).setCell ⟨w3.heap.size, 1, none⟩ (.slice A3 n3 c3)).setCell ⟨w3.heap.size + 1, 0, none⟩ (.int .i64 e4)).setCell ⟨w3.heap.size + 1, 1, none⟩ (.slice A4 n4 c4) := ⟨_, rfl⟩
          rw [← hV6] at F1 F2 F3 F4 F5 F6
          have LA7 := Lib.hid F1
          have LB7 := Lib.hid F2
          have EV6 := Lib.hid F3
          have BA7 := Lib.hid F4
          have BB7 := Lib.hid F5
          have HV6 := Lib.hid hV6
          clear F1 F2 F3 F4 F5 hV6
          go_wp2_with fail
          rw [← HV6.out]
          clear HV6 r9 r10 ra raf rb rbf P9'' P10'' LA6 LB6 LA5 LB5 LA4 LB4 P9' P10' P9 P10
          have HOK3 : Hid (okL e3 n3 = true) := Lib.hid (by have := HOK2.out; unfold Lk.ok at this; rw [LA7.out.1, LA7.out.len] at this; exact this)
          have hn3 : n3 ≤ 32 := by have := l2.sane_len; rw [Lk.sane_of HOK2.out, LA7.out.len] at this; exact this
          have hV6 : w3.heap.size < V6.heap.size := by omega
          have m0 : ∀ w', Ext V6.drew w' → w'.cell? ⟨w3.heap.size, 0, none⟩ = some (.int .i64 e3) := fun w' hx => (((Ext.refl V6).drew.trans hx).cell hV6).trans ((blk_rules BA7.out).1 0)
          have m1 : ∀ w', Ext V6.drew w' → w'.cell? ⟨w3.heap.size, 1, none⟩ = some (.slice A3 n3 c3) := fun w' hx => (((Ext.refl V6).drew.trans hx).cell hV6).trans ((blk_rules BA7.out).1 1)
          have m2 : ∀ w', Ext V6.drew w' → w'.cell? ⟨w3.heap.size + 1, 0, none⟩ = some (.int .i64 e4) := fun w' hx => (((Ext.refl V6).drew.trans hx).cell F6).trans ((blk_rules BB7.out).1 0)
          have m3 : ∀ w', Ext V6.drew w' → w'.cell? ⟨w3.heap.size + 1, 1, none⟩ = some (.slice A4 n4 c4) := fun w' hx => (((Ext.refl V6).drew.trans hx).cell F6).trans ((blk_rules BB7.out).1 1)
          have hSw : Ext V6.drew V6.drew := Ext.refl _
          refine wpS_begin (Ext V6.drew) (by kernel_rfl) ?_
          refine wpS_take 0 (v := ?_) hSw rfl (by kernel_rfl) (by kernel_rfl) (by kernel_rfl) (by rfl) (fun w' hin => ?_) ?_
          rotate_left
          · (try simp only [] at hin); go_simp <;> with_reducible rfl
          try simp only [Act.put, List.setIfInBounds_toArray, List.set_cons_zero, List.set_cons_succ]
          refine wpS_take 1 (v := ?_) hSw rfl (by kernel_rfl) (by kernel_rfl) (by kernel_rfl) (by rfl) (fun w' hin => ?_) ?_
          rotate_left
          · (try simp only [] at hin); go_simp <;> with_reducible rfl
          try simp only [Act.put, List.setIfInBounds_toArray, List.set_cons_zero, List.set_cons_succ]
          refine wpS_take 2 (v := ?_) hSw rfl (by kernel_rfl) (by kernel_rfl) (by kernel_rfl) (by rfl) (fun w' hin => ?_) ?_
          rotate_left
          · (try simp only [] at hin); go_simp <;> with_reducible rfl
          try simp only [Act.put, List.setIfInBounds_toArray, List.set_cons_zero, List.set_cons_succ]
          refine wpS_take 3 (v := ?_) hSw rfl (by kernel_rfl) (by kernel_rfl) (by kernel_rfl) (by rfl) (fun w' hin => ?_) ?_
          rotate_left
          · (try simp only [] at hin); go_simp <;> with_reducible rfl
          try simp only [Act.put, List.setIfInBounds_toArray, List.set_cons_zero, List.set_cons_succ]
          refine wpS_take 5 (v := ?_) hSw rfl (by kernel_rfl) (by kernel_rfl) (by kernel_rfl) (by rfl) (fun w' hin => ?_) ?_
          rotate_left
          · (try simp only [] at hin); go_simp <;> with_reducible rfl
          try simp only [Act.put, List.setIfInBounds_toArray, List.set_cons_zero, List.set_cons_succ]
          refine wpS_one 4 rfl (by kernel_rfl) (by rfl) (fun K hK => ?_)
          go_simp
          refine (theirs_any _ _ _ _ _).mono ?_
          rintro e u1 ⟨rfl, hu1⟩
          simp only []
          refine hK.out _ _ (Ext V6.drew) (fun _ h => h) (hu1) (fun hSw => ?_)
          clear hK K
          try simp only [Act.put, List.setIfInBounds_toArray, List.set_cons_zero, List.set_cons_succ]
          refine wpS_one 6 rfl (by kernel_rfl) (by rfl) (fun K hK => ?_)
          go_simp
          refine (same12_any (OffAB w3.heap.size (w3.heap.size + 1)) _ _ _ _ _ _ _ _ l2 l2 _ (LA7.out.up ((Ext.refl V6).drew.trans hu1)) (LB7.out.up ((Ext.refl V6).drew.trans hu1)) (by omega)).mono ?_
          rintro e u2 ⟨rfl, hu2⟩
          rw [sameB_true rfl]
          simp only []
          refine hK.out _ _ (Ext V6.drew) (fun _ h => h) (hu1.trans hu2) (fun hSw => ?_)
          clear hK K
          try simp only [Act.put, List.setIfInBounds_toArray, List.set_cons_zero, List.set_cons_succ]
          refine wpS_take 7 (v := ?_) hSw rfl (by kernel_rfl) (by kernel_rfl) (by kernel_rfl) (by rfl) (fun w' hin => ?_) ?_
          rotate_left
          · (try simp only [] at hin); go_simp <;> with_reducible rfl
          try simp only [Act.put, List.setIfInBounds_toArray, List.set_cons_zero, List.set_cons_succ]
          refine wpS_take 8 (v := ?_) hSw rfl (by kernel_rfl) (by kernel_rfl) (by kernel_rfl) (by rfl) (fun w' hin => ?_) ?_
          rotate_left
          · (try simp only [] at hin); go_simp <;> with_reducible rfl
          try simp only [Act.put, List.setIfInBounds_toArray, List.set_cons_zero, List.set_cons_succ]
          refine wpS_take 9 (v := ?_) hSw rfl (by kernel_rfl) (by kernel_rfl) (by kernel_rfl) (by rfl) (fun w' hin => ?_) ?_
          rotate_left
          · (try simp only [] at hin); go_simp <;> with_reducible rfl
          try simp only [Act.put, List.setIfInBounds_toArray, List.set_cons_zero, List.set_cons_succ]
          refine wpS_take 10 (v := ?_) hSw rfl (by kernel_rfl) (by kernel_rfl) (by kernel_rfl) (by rfl) (fun w' hin => ?_) ?_
          rotate_left
          · (try simp only [] at hin); go_simp <;> with_reducible rfl
          try simp only [Act.put, List.setIfInBounds_toArray, List.set_cons_zero, List.set_cons_succ]
          refine wpS_one 11 rfl (by kernel_rfl) (by rfl) (fun K hK => ?_)
          go_simp
          refine (linkSane_any _ _ _ _ _).mono ?_
          rintro e u3 ⟨rfl, hu3⟩
          rw [HOK3.out]
          simp only []
          refine hK.out _ _ (Ext V6.drew) (fun _ h => h) ((hu1.trans hu2).trans hu3) (fun hSw => ?_)
          clear hK K
          try simp only [Act.put, List.setIfInBounds_toArray, List.set_cons_zero, List.set_cons_succ]
          refine wpS_take 12 (v := ?_) hSw rfl (by kernel_rfl) (by kernel_rfl) (by kernel_rfl) (by rfl) (fun w' hin => ?_) ?_
          rotate_left
          · (try simp only [] at hin); go_simp <;> with_reducible rfl
          try simp only [Act.put, List.setIfInBounds_toArray, List.set_cons_zero, List.set_cons_succ]
          refine wpS_take 13 (v := ?_) hSw rfl (by kernel_rfl) (by kernel_rfl) (by kernel_rfl) (by rfl) (fun w' hin => ?_) ?_
          rotate_left
          · (try simp only [] at hin); go_simp <;> with_reducible rfl
          try simp only [Act.put, List.setIfInBounds_toArray, List.set_cons_zero, List.set_cons_succ]
          refine wpS_done (by kernel_rfl) ?_
          have E9 := Lib.hid ((((Ext.refl V6).drew.trans hu1).trans hu2).trans hu3)
          have HFS2 : Hid (∀ b ∈ l2.sane.q, b.length ≤ 300) := Lib.hid (by rw [Lk.sane_of HOK2.out]; exact HF2.out)
          have BA9 := Lib.hid ((E9.out.block hV6).trans BA7.out)
          have BB9 := Lib.hid ((E9.out.block F6).trans BB7.out)
          have LA9 := Lib.hid (LA7.out.up E9.out)
          have LB9 := Lib.hid (LB7.out.up E9.out)
          have EW9 := Lib.hid (EV6.out.trans E9.out)
          have hz9 : w3.heap.size + 1 < u3.heap.size := Nat.lt_of_lt_of_le F6 E9.out.size
          clear m0 m1 m2 m3 hu1 hu2 hu3 hSw
          go_wp2_with fail
          go_roundw
          case rel => exact ⟨j + 1, l2, e3, A3, n3, c3, e4, A4, n4, c4, by omega, by go_num, HFS2, BA9, BB9, LA9, LB9, EW9, hz9⟩
          case measure => simp [intOf]; omega
      · go_simp
        have ex11 : Ext wr.drew ((wr.alloc (.cells #[.int .i64 0, .slice none 0 0] 37)).drew) := Ext.new wr.drew (.cells #[.int .i64 0, .slice none 0 0] 37)
        have pn11 : ((wr.alloc (.cells #[.int .i64 0, .slice none 0 0] 37)).drew).heap[wr.heap.size]? = some (Obj.cells #[.int .i64 0, .slice none 0 0] 37) := heap_alloc_new wr (.cells #[.int .i64 0, .slice none 0 0] 37)
        have ln11 : wr.heap.size ≤ wr.heap.size := Nat.le_refl _
        have lt11 : wr.heap.size < ((wr.alloc (.cells #[.int .i64 0, .slice none 0 0] 37)).drew).heap.size := (show wr.heap.size < (wr.alloc (.cells #[.int .i64 0, .slice none 0 0] 37)).heap.size by rw [World.size_alloc]; omega)
        have hs11 : Ext wr.drew ((wr.alloc (.cells #[.int .i64 0, .slice none 0 0] 37)).drew) := Ext.new wr.drew (.cells #[.int .i64 0, .slice none 0 0] 37)
        obtain ⟨v11, hv11⟩ : ∃ v, v = (wr.alloc (.cells #[.int .i64 0, .slice none 0 0] 37)).drew := ⟨_, rfl⟩
        obtain ⟨g10, hg11⟩ : ∃ g, g = wr.heap.size := ⟨_, rfl⟩
        rw [← hv11] at ex11 pn11 lt11 hs11 ⊢
        have pn11 : v11.heap[g10]? = some (.cells #[.int .i64 0, .slice none 0 0] 37) := by rw [hg11]; exact pn11
        have lt11 : g10 < v11.heap.size := by rw [hg11]; exact lt11
        have ln11 : wr.heap.size ≤ g10 := by rw [hg11]; exact Nat.le_refl _
        rw [show (Value.pointer (some (⟨wr.heap.size, 0, none⟩ : Addr))) = Value.pointer (some ⟨g10, 0, none⟩) by rw [hg11]]
        clear hv11 hg11
        refine hK.out _ _ (Ext wr.drew) (fun _ h => h) hs11 (fun hSw => ?_)
        clear hK K
        try simp only [Act.put, List.setIfInBounds_toArray, List.set_cons_zero, List.set_cons_succ]
        refine wpS_two 6 11 rfl rfl (by kernel_rfl) (by rfl) (by rfl) (fun K hK => ?_) (fun K hK => ?_)
        · go_simp
          obtain ⟨l2, hok2, hf2, hcall⟩ := HST.out v11 (drew_ext.trans hSw)
          refine hcall.mono ?_
          rintro e v12 ⟨e3, A3, n3, c3, e4, A4, n4, c4, rfl, hl3, hl4, ex12⟩
          have HOK2 := Lib.hid hok2
          have HF2 := Lib.hid hf2
          have LA3 := Lib.hid (hl3.fresh (X' := XS w3.heap.size (w3.heap.size + 1) [g10]) fun b hb => .inl (xs_offw (fun g hg => by simp at hg; subst hg; constructor <;> omega) b hb))
          have LB3 := Lib.hid (hl4.fresh (X' := XS w3.heap.size (w3.heap.size + 1) [g10]) fun b hb => .inl (xs_offw (fun g hg => by simp at hg; subst hg; constructor <;> omega) b hb))
          have hs12 := hSw.trans ex12
          have pc12_10 := (ex12.block lt11).trans pn11
          have lc12_10 := Nat.lt_of_lt_of_le lt11 ex12.size
          clear hl3 hl4 hok2 hf2 hcall
          simp only []
          refine hK.out _ _ (Ext wr.drew) (fun _ h => h) hs12 (fun hSw => ?_)
          clear hK K
          try simp only [Act.put, List.setIfInBounds_toArray, List.set_cons_zero, List.set_cons_succ]
          refine wpS_take 7 (v := ?_) hSw rfl (by kernel_rfl) (by kernel_rfl) (by kernel_rfl) (by rfl) (fun w' hin => ?_) ?_
          rotate_left
          · (try simp only [] at hin); go_simp <;> with_reducible rfl
          try simp only [Act.put, List.setIfInBounds_toArray, List.set_cons_zero, List.set_cons_succ]
          refine wpS_take 8 (v := ?_) hSw rfl (by kernel_rfl) (by kernel_rfl) (by kernel_rfl) (by rfl) (fun w' hin => ?_) ?_
          rotate_left
          · (try simp only [] at hin); go_simp <;> with_reducible rfl
          try simp only [Act.put, List.setIfInBounds_toArray, List.set_cons_zero, List.set_cons_succ]
          refine wpS_take 9 (v := ?_) hSw rfl (by kernel_rfl) (by kernel_rfl) (by kernel_rfl) (by rfl) (fun w' hin => ?_) ?_
          rotate_left
          · (try simp only [] at hin); go_simp <;> with_reducible rfl
          try simp only [Act.put, List.setIfInBounds_toArray, List.set_cons_zero, List.set_cons_succ]
          refine wpS_take 10 (v := ?_) hSw rfl (by kernel_rfl) (by kernel_rfl) (by kernel_rfl) (by rfl) (fun w' hin => ?_) ?_
          rotate_left
          · (try simp only [] at hin); go_simp <;> with_reducible rfl
          try simp only [Act.put, List.setIfInBounds_toArray, List.set_cons_zero, List.set_cons_succ]
          refine wpS_one 11 rfl (by kernel_rfl) (by rfl) (fun K hK => ?_)
          go_simp
          have ex13 : Ext v12 (v12.alloc (.cells #[.int .i64 0, .slice none 0 0] 40)) := Ext.new _ _
          have pn13 := heap_alloc_new v12 (.cells #[.int .i64 0, .slice none 0 0] 40)
          have ln13 : wr.heap.size ≤ v12.heap.size := hSw.size
          have lt13 : v12.heap.size < (v12.alloc (.cells #[.int .i64 0, .slice none 0 0] 40)).heap.size := by rw [World.size_alloc]; omega
          have hs13 := hSw.alloc (.cells #[.int .i64 0, .slice none 0 0] 40)
          obtain ⟨v13, hv13⟩ : ∃ v, v = v12.alloc (.cells #[.int .i64 0, .slice none 0 0] 40) := ⟨_, rfl⟩
          obtain ⟨g9, hg13⟩ : ∃ g, g = v12.heap.size := ⟨_, rfl⟩
          rw [← hv13] at ex13 pn13 lt13 hs13 ⊢
          rw [← hg13] at pn13 ln13 lt13 ⊢
          have ne13_10 : g10 < g9 := by rw [hg13]; exact lc12_10
          have pc13_10 := (ex13.block lc12_10).trans pc12_10
          have lc13_10 := Nat.lt_of_lt_of_le lc12_10 ex13.size
          have LA3 := Lib.hid ((LA3.out.fresh (xs_cons (g := g9) (Nat.le_of_eq hg13.symm))).up ex13)
          have LB3 := Lib.hid ((LB3.out.fresh (xs_cons (g := g9) (Nat.le_of_eq hg13.symm))).up ex13)
          clear hv13 hg13
          refine hK.out _ _ (Ext wr.drew) (fun _ h => h) hs13 (fun hSw => ?_)
          clear hK K
          try simp only [Act.put, List.setIfInBounds_toArray, List.set_cons_zero, List.set_cons_succ]
          have P9 := Lib.hid pn13
          have P10 := Lib.hid pc13_10
          have L9 := lt13
          have L10 := lc13_10
          skip
          have hg9 : wr.heap.size ≤ g9 := by assumption
          have hg10 : wr.heap.size ≤ g10 := by assumption
          have LA4 : Hid (LkR v13 (XS w3.heap.size (w3.heap.size + 1) [g9, g10]) e3 A3 n3 c3 l2) := Lib.hid (LA3.out.fresh fun b hb => .inl (by rcases hb with hb | hb; exact .inl hb; right; simp at hb ⊢; omega))
          have LB4 : Hid (LkR v13 (XS w3.heap.size (w3.heap.size + 1) [g9, g10]) e4 A4 n4 c4 l2) := Lib.hid (LB3.out.fresh fun b hb => .inl (by rcases hb with hb | hb; exact .inl hb; right; simp at hb ⊢; omega))
          have hne910 : g9 ≠ g10 := by omega
          clear LA3 LB3
          obtain ⟨q9, q9f⟩ := blk_rules P9.out
          obtain ⟨q10, q10f⟩ := blk_rules P10.out
          refine wpS_one 13 rfl (by kernel_rfl) (by rfl) (fun K hK => ?_)
          go_simp
          have hs13 := (hSw.set (p := ⟨g9, 0, none⟩) hg9 (.int .i64 e3)).set (p := ⟨g9, 1, none⟩) hg9 (.slice A3 n3 c3)
          refine hK.out _ _ (Ext wr.drew) (fun _ h => h) hs13 (fun hSw => ?_)
          clear hK K
          try simp only [Act.put, List.setIfInBounds_toArray, List.set_cons_zero, List.set_cons_succ]
          have P9' : Hid (((v13.setCell ⟨g9, 0, none⟩ (.int .i64 e3)).setCell ⟨g9, 1, none⟩ (.slice A3 n3 c3)).heap[g9]? = some (.cells #[.int .i64 e3, .slice A3 n3 c3] 40 (0, 0))) := Lib.hid (blk_set (blk_set P9.out _) _)
          have P10' : Hid (((v13.setCell ⟨g9, 0, none⟩ (.int .i64 e3)).setCell ⟨g9, 1, none⟩ (.slice A3 n3 c3)).heap[g10]? = some (.cells #[.int .i64 0, .slice none 0 0] 37 (0, 0))) := Lib.hid ((blk_far (Ne.symm hne910) _).trans ((blk_far (Ne.symm hne910) _).trans P10.out))
          have LA5 := Lib.hid ((LA4.out.set (g := g9) (i := 0) (.inr (by simp)) (.int .i64 e3)).set (g := g9) (i := 1) (.inr (by simp)) (.slice A3 n3 c3))
          have LB5 := Lib.hid ((LB4.out.set (g := g9) (i := 0) (.inr (by simp)) (.int .i64 e3)).set (g := g9) (i := 1) (.inr (by simp)) (.slice A3 n3 c3))
          obtain ⟨U, hU⟩ : ∃ U, U = (v13.setCell ⟨g9, 0, none⟩ (.int .i64 e3)).setCell ⟨g9, 1, none⟩ (.slice A3 n3 c3) := ⟨_, rfl⟩
          rw [← hU] at P9' P10' LA5 LB5 hSw ⊢
          clear hU q9 q9f q10 q10f hs13
          obtain ⟨q10, q10f⟩ := blk_rules P10'.out
          refine wpS_one 14 rfl (by kernel_rfl) (by rfl) (fun K hK => ?_)
          go_simp
          have hs14 := (hSw.set (p := ⟨g10, 0, none⟩) hg10 (.int .i64 e4)).set (p := ⟨g10, 1, none⟩) hg10 (.slice A4 n4 c4)
          refine hK.out _ _ (Ext wr.drew) (fun _ h => h) hs14 (fun hSw => ?_)
          clear hK K
          try simp only [Act.put, List.setIfInBounds_toArray, List.set_cons_zero, List.set_cons_succ]
          refine wpS_take 15 (v := ?_) hSw rfl (by kernel_rfl) (by kernel_rfl) (by kernel_rfl) (by rfl) (fun w' hin => ?_) ?_
          rotate_left
          · (try simp only [] at hin); go_simp <;> with_reducible rfl
          try simp only [Act.put, List.setIfInBounds_toArray, List.set_cons_zero, List.set_cons_succ]
          refine wpS_done (by kernel_rfl) ?_
          have P9'' : Hid (((U.setCell ⟨g10, 0, none⟩ (.int .i64 e4)).setCell ⟨g10, 1, none⟩ (.slice A4 n4 c4)).heap[g9]? = some (.cells #[.int .i64 e3, .slice A3 n3 c3] 40 (0, 0))) := Lib.hid ((blk_far hne910 _).trans ((blk_far hne910 _).trans P9'.out))
          have P10'' : Hid (((U.setCell ⟨g10, 0, none⟩ (.int .i64 e4)).setCell ⟨g10, 1, none⟩ (.slice A4 n4 c4)).heap[g10]? = some (.cells #[.int .i64 e4, .slice A4 n4 c4] 37 (0, 0))) := Lib.hid (blk_set (blk_set P10'.out _) _)
          have LA6 := Lib.hid ((LA5.out.set (g := g10) (i := 0) (.inr (by simp)) (.int .i64 e4)).set (g := g10) (i := 1) (.inr (by simp)) (.slice A4 n4 c4))
          have LB6 := Lib.hid ((LB5.out.set (g := g10) (i := 0) (.inr (by simp)) (.int .i64 e4)).set (g := g10) (i := 1) (.inr (by simp)) (.slice A4 n4 c4))
          obtain ⟨U2, hU2⟩ : ∃ U2, U2 = (U.setCell ⟨g10, 0, none⟩ (.int .i64 e4)).setCell ⟨g10, 1, none⟩ (.slice A4 n4 c4) := ⟨_, rfl⟩
          rw [← hU2] at P9'' P10'' LA6 LB6 hSw ⊢
          have EU := Lib.hid ((Ext.refl wr).drew.trans hSw)
          have zA : w3.heap.size < U2.heap.size := Nat.lt_of_lt_of_le hz'' EU.out.size
          have zB : w3.heap.size + 1 < U2.heap.size := Nat.lt_of_lt_of_le hz' EU.out.size
          have BA2 := Lib.hid ((EU.out.block hz'').trans BA.out)
          have BB2 := Lib.hid ((EU.out.block hz').trans BB.out)
          have EWU := Lib.hid (EW'.out.trans EU.out)
          clear hU2 q10 q10f hs14 la0 la1 lb0 lb1 lx0 lx1 lx2
          obtain ⟨r9, -⟩ := blk_rules P9''.out
          obtain ⟨r10, -⟩ := blk_rules P10''.out
          obtain ⟨ra, raf⟩ := blk_rules BA2.out
          obtain ⟨rb, rbf⟩ := blk_rules BB2.out
          obtain ⟨F1, F2, F3⟩ : LkR ((((U2.setCell ⟨w3.heap.size, 0, none⟩ (.int .i64 e3)).setCell ⟨w3.heap.size, 1, none⟩ (.slice A3 n3 c3)).setCell ⟨w3.heap.size + 1, 0, none⟩ (.int .i64 e4)).setCell ⟨w3.heap.size + 1, 1, none⟩ (.slice A4 n4 c4)) (OffAB w3.heap.size (w3.heap.size + 1)) e3 A3 n3 c3 l2 ∧ LkR ((((U2.setCell ⟨w3.heap.size, 0, none⟩ (.int .i64 e3)).setCell ⟨w3.heap.size, 1, none⟩ (.slice A3 n3 c3)).setCell ⟨w3.heap.size + 1, 0, none⟩ (.int .i64 e4)).setCell ⟨w3.heap.size + 1, 1, none⟩ (.slice A4 n4 c4)) (OffAB w3.heap.size (w3.heap.size + 1)) e4 A4 n4 c4 l2 ∧ Ext w ((((U2.setCell ⟨w3.heap.size, 0, none⟩ (.int .i64 e3)).setCell ⟨w3.heap.size, 1, none⟩ (.slice A3 n3 c3)).setCell ⟨w3.heap.size + 1, 0, none⟩ (.int .i64 e4)).setCell ⟨w3.heap.size + 1, 1, none⟩ (.slice A4 n4 c4)) :=
            ⟨((((LA6.out.fresh (fun b hb => .inl (.inl hb))).set (.inl rfl) _).set (.inl rfl) _).set (.inr rfl) _).set (.inr rfl) _, ((((LB6.out.fresh (fun b hb => .inl (.inl hb))).set (.inl rfl) _).set (.inl rfl) _).set (.inr rfl) _).set (.inr rfl) _,
              (((EWU.out.set hg3 _).set hg3 _).set (Nat.le_trans hg3 (Nat.le_succ _)) _).set (Nat.le_trans hg3 (Nat.le_succ _)) _⟩
          have F4 : ((((U2.setCell ⟨w3.heap.size, 0, none⟩ (.int .i64 e3)).setCell ⟨w3.heap.size, 1, none⟩ (.slice A3 n3 c3)).setCell ⟨w3.heap.size + 1, 0, none⟩ (.int .i64 e4)).setCell ⟨w3.heap.size + 1, 1, none⟩ (.slice A4 n4 c4)).heap[w3.heap.size]? = some (.cells #[.int .i64 e3, .slice A3 n3 c3] 40 (0, 0)) := (blk_far (by omega) _).trans ((blk_far (by omega) _).trans (blk_set (blk_set BA2.out _) _))
          have F5 : ((((U2.setCell ⟨w3.heap.size, 0, none⟩ (.int .i64 e3)).setCell ⟨w3.heap.size, 1, none⟩ (.slice A3 n3 c3)).setCell ⟨w3.heap.size + 1, 0, none⟩ (.int .i64 e4)).setCell ⟨w3.heap.size + 1, 1, none⟩ (.slice A4 n4 c4)).heap[w3.heap.size + 1]? = some (.cells #[.int .i64 e4, .slice A4 n4 c4] 37 (0, 0)) := blk_set (blk_set ((blk_far (by omega) _).trans ((blk_far (by omega) _).trans BB2.out)) _) _
          have F6 : w3.heap.size + 1 < ((((U2.setCell ⟨w3.heap.size, 0, none⟩ (.int .i64 e3)).setCell ⟨w3.heap.size, 1, none⟩ (.slice A3 n3 c3)).setCell ⟨w3.heap.size + 1, 0, none⟩ (.int .i64 e4)).setCell ⟨w3.heap.size + 1, 1, none⟩ (.slice A4 n4 c4)).heap.size := by simpa [World.setCell] using zB
          obtain ⟨V6, hV6⟩ : ∃ V6, V6 = (((U2.setCell ⟨w3.heap.size, 0, none⟩ (.int .i64 e3)).setCell ⟨w3.heap.size, 1, none⟩ (.slice A3 n3 c3)).setCell ⟨w3.heap.size + 1, 0, none⟩ (.int .i64 e4)).setCell ⟨w3.heap.size + 1, 1, none⟩ (.slice A4 n4 c4) := ⟨_, rfl⟩
          rw [← hV6] at F1 F2 F3 F4 F5 F6
          have LA7 := Lib.hid F1
          have LB7 := Lib.hid F2
          have EV6 := Lib.hid F3
          have BA7 := Lib.hid F4
          have BB7 := Lib.hid F5
          have HV6 := Lib.hid hV6
          clear F1 F2 F3 F4 F5 hV6
          go_wp2_with fail
          rw [← HV6.out]
          clear HV6 r9 r10 ra raf rb rbf P9'' P10'' LA6 LB6 LA5 LB5 LA4 LB4 P9' P10' P9 P10
          have HOK3 : Hid (okL e3 n3 = true) := Lib.hid (by have := HOK2.out; unfold Lk.ok at this; rw [LA7.out.1, LA7.out.len] at this; exact this)
          have hn3 : n3 ≤ 32 := by have := l2.sane_len; rw [Lk.sane_of HOK2.out, LA7.out.len] at this; exact this
          have hV6 : w3.heap.size < V6.heap.size := by omega
          have m0 : ∀ w', Ext V6.drew w' → w'.cell? ⟨w3.heap.size, 0, none⟩ = some (.int .i64 e3) := fun w' hx => (((Ext.refl V6).drew.trans hx).cell hV6).trans ((blk_rules BA7.out).1 0)
          have m1 : ∀ w', Ext V6.drew w' → w'.cell? ⟨w3.heap.size, 1, none⟩ = some (.slice A3 n3 c3) := fun w' hx => (((Ext.refl V6).drew.trans hx).cell hV6).trans ((blk_rules BA7.out).1 1)
          have m2 : ∀ w', Ext V6.drew w' → w'.cell? ⟨w3.heap.size + 1, 0, none⟩ = some (.int .i64 e4) := fun w' hx => (((Ext.refl V6).drew.trans hx).cell F6).trans ((blk_rules BB7.out).1 0)
          have m3 : ∀ w', Ext V6.drew w' → w'.cell? ⟨w3.heap.size + 1, 1, none⟩ = some (.slice A4 n4 c4) := fun w' hx => (((Ext.refl V6).drew.trans hx).cell F6).trans ((blk_rules BB7.out).1 1)
          have hSw : Ext V6.drew V6.drew := Ext.refl _
          refine wpS_begin (Ext V6.drew) (by kernel_rfl) ?_
          refine wpS_take 0 (v := ?_) hSw rfl (by kernel_rfl) (by kernel_rfl) (by kernel_rfl) (by rfl) (fun w' hin => ?_) ?_
          rotate_left
          · (try simp only [] at hin); go_simp <;> with_reducible rfl
          try simp only [Act.put, List.setIfInBounds_toArray, List.set_cons_zero, List.set_cons_succ]
          refine wpS_take 1 (v := ?_) hSw rfl (by kernel_rfl) (by kernel_rfl) (by kernel_rfl) (by rfl) (fun w' hin => ?_) ?_
          rotate_left
          · (try simp only [] at hin); go_simp <;> with_reducible rfl
          try simp only [Act.put, List.setIfInBounds_toArray, List.set_cons_zero, List.set_cons_succ]
          refine wpS_take 2 (v := ?_) hSw rfl (by kernel_rfl) (by kernel_rfl) (by kernel_rfl) (by rfl) (fun w' hin => ?_) ?_
          rotate_left
          · (try simp only [] at hin); go_simp <;> with_reducible rfl
          try simp only [Act.put, List.setIfInBounds_toArray, List.set_cons_zero, List.set_cons_succ]
          refine wpS_take 3 (v := ?_) hSw rfl (by kernel_rfl) (by kernel_rfl) (by kernel_rfl) (by rfl) (fun w' hin => ?_) ?_
          rotate_left
          · (try simp only [] at hin); go_simp <;> with_reducible rfl
          try simp only [Act.put, List.setIfInBounds_toArray, List.set_cons_zero, List.set_cons_succ]
          refine wpS_take 5 (v := ?_) hSw rfl (by kernel_rfl) (by kernel_rfl) (by kernel_rfl) (by rfl) (fun w' hin => ?_) ?_
          rotate_left
          · (try simp only [] at hin); go_simp <;> with_reducible rfl
          try simp only [Act.put, List.setIfInBounds_toArray, List.set_cons_zero, List.set_cons_succ]
          refine wpS_one 4 rfl (by kernel_rfl) (by rfl) (fun K hK => ?_)
          go_simp
          refine (theirs_any _ _ _ _ _).mono ?_
          rintro e u1 ⟨rfl, hu1⟩
          simp only []
          refine hK.out _ _ (Ext V6.drew) (fun _ h => h) (hu1) (fun hSw => ?_)
          clear hK K
          try simp only [Act.put, List.setIfInBounds_toArray, List.set_cons_zero, List.set_cons_succ]
          refine wpS_one 6 rfl (by kernel_rfl) (by rfl) (fun K hK => ?_)
          go_simp
          refine (same12_any (OffAB w3.heap.size (w3.heap.size + 1)) _ _ _ _ _ _ _ _ l2 l2 _ (LA7.out.up ((Ext.refl V6).drew.trans hu1)) (LB7.out.up ((Ext.refl V6).drew.trans hu1)) (by omega)).mono ?_
          rintro e u2 ⟨rfl, hu2⟩
          rw [sameB_true rfl]
          simp only []
          refine hK.out _ _ (Ext V6.drew) (fun _ h => h) (hu1.trans hu2) (fun hSw => ?_)
          clear hK K
          try simp only [Act.put, List.setIfInBounds_toArray, List.set_cons_zero, List.set_cons_succ]
          refine wpS_take 7 (v := ?_) hSw rfl (by kernel_rfl) (by kernel_rfl) (by kernel_rfl) (by rfl) (fun w' hin => ?_) ?_
          rotate_left
          · (try simp only [] at hin); go_simp <;> with_reducible rfl
          try simp only [Act.put, List.setIfInBounds_toArray, List.set_cons_zero, List.set_cons_succ]
          refine wpS_take 8 (v := ?_) hSw rfl (by kernel_rfl) (by kernel_rfl) (by kernel_rfl) (by rfl) (fun w' hin => ?_) ?_
          rotate_left
          · (try simp only [] at hin); go_simp <;> with_reducible rfl
          try simp only [Act.put, List.setIfInBounds_toArray, List.set_cons_zero, List.set_cons_succ]
          refine wpS_take 9 (v := ?_) hSw rfl (by kernel_rfl) (by kernel_rfl) (by kernel_rfl) (by rfl) (fun w' hin => ?_) ?_
          rotate_left
          · (try simp only [] at hin); go_simp <;> with_reducible rfl
          try simp only [Act.put, List.setIfInBounds_toArray, List.set_cons_zero, List.set_cons_succ]
          refine wpS_take 10 (v := ?_) hSw rfl (by kernel_rfl) (by kernel_rfl) (by kernel_rfl) (by rfl) (fun w' hin => ?_) ?_
          rotate_left
          · (try simp only [] at hin); go_simp <;> with_reducible rfl
          try simp only [Act.put, List.setIfInBounds_toArray, List.set_cons_zero, List.set_cons_succ]
          refine wpS_one 11 rfl (by kernel_rfl) (by rfl) (fun K hK => ?_)
          go_simp
          refine (linkSane_any _ _ _ _ _).mono ?_
          rintro e u3 ⟨rfl, hu3⟩
          rw [HOK3.out]
          simp only []
          refine hK.out _ _ (Ext V6.drew) (fun _ h => h) ((hu1.trans hu2).trans hu3) (fun hSw => ?_)
          clear hK K
          try simp only [Act.put, List.setIfInBounds_toArray, List.set_cons_zero, List.set_cons_succ]
          refine wpS_take 12 (v := ?_) hSw rfl (by kernel_rfl) (by kernel_rfl) (by kernel_rfl) (by rfl) (fun w' hin => ?_) ?_
          rotate_left
          · (try simp only [] at hin); go_simp <;> with_reducible rfl
          try simp only [Act.put, List.setIfInBounds_toArray, List.set_cons_zero, List.set_cons_succ]
          refine wpS_take 13 (v := ?_) hSw rfl (by kernel_rfl) (by kernel_rfl) (by kernel_rfl) (by rfl) (fun w' hin => ?_) ?_
          rotate_left
          · (try simp only [] at hin); go_simp <;> with_reducible rfl
          try simp only [Act.put, List.setIfInBounds_toArray, List.set_cons_zero, List.set_cons_succ]
          refine wpS_done (by kernel_rfl) ?_
          have E9 := Lib.hid ((((Ext.refl V6).drew.trans hu1).trans hu2).trans hu3)
          have HFS2 : Hid (∀ b ∈ l2.sane.q, b.length ≤ 300) := Lib.hid (by rw [Lk.sane_of HOK2.out]; exact HF2.out)
          have BA9 := Lib.hid ((E9.out.block hV6).trans BA7.out)
          have BB9 := Lib.hid ((E9.out.block F6).trans BB7.out)
          have LA9 := Lib.hid (LA7.out.up E9.out)
          have LB9 := Lib.hid (LB7.out.up E9.out)
          have EW9 := Lib.hid (EV6.out.trans E9.out)
          have hz9 : w3.heap.size + 1 < u3.heap.size := Nat.lt_of_lt_of_le F6 E9.out.size
          clear m0 m1 m2 m3 hu1 hu2 hu3 hSw
          go_wp2_with fail
          go_roundw
          case rel => exact ⟨j + 1, l2, e3, A3, n3, c3, e4, A4, n4, c4, by omega, by go_num, HFS2, BA9, BB9, LA9, LB9, EW9, hz9⟩
          case measure => simp [intOf]; omega
        · go_simp
          have ex14 : Ext v11 (v11.alloc (.cells #[.int .i64 0, .slice none 0 0] 40)) := Ext.new _ _
          have pn14 := heap_alloc_new v11 (.cells #[.int .i64 0, .slice none 0 0] 40)
          have ln14 : wr.heap.size ≤ v11.heap.size := hSw.size
          have lt14 : v11.heap.size < (v11.alloc (.cells #[.int .i64 0, .slice none 0 0] 40)).heap.size := by rw [World.size_alloc]; omega
          have hs14 := hSw.alloc (.cells #[.int .i64 0, .slice none 0 0] 40)
          obtain ⟨v14, hv14⟩ : ∃ v, v = v11.alloc (.cells #[.int .i64 0, .slice none 0 0] 40) := ⟨_, rfl⟩
          obtain ⟨g9, hg14⟩ : ∃ g, g = v11.heap.size := ⟨_, rfl⟩
          rw [← hv14] at ex14 pn14 lt14 hs14 ⊢
          rw [← hg14] at pn14 ln14 lt14 ⊢
          have ne14_10 : g10 < g9 := by rw [hg14]; exact lt11
          have pc14_10 := (ex14.block lt11).trans pn11
          have lc14_10 := Nat.lt_of_lt_of_le lt11 ex14.size
          clear hv14 hg14
          refine hK.out _ _ (Ext wr.drew) (fun _ h => h) hs14 (fun hSw => ?_)
          clear hK K
          try simp only [Act.put, List.setIfInBounds_toArray, List.set_cons_zero, List.set_cons_succ]
          refine wpS_one 6 rfl (by kernel_rfl) (by rfl) (fun K hK => ?_)
          go_simp
          obtain ⟨l2, hok2, hf2, hcall⟩ := HST.out v14 (drew_ext.trans hSw)
          refine hcall.mono ?_
          rintro e v15 ⟨e3, A3, n3, c3, e4, A4, n4, c4, rfl, hl3, hl4, ex15⟩
          have HOK2 := Lib.hid hok2
          have HF2 := Lib.hid hf2
          have LA3 := Lib.hid (hl3.fresh (X' := XS w3.heap.size (w3.heap.size + 1) [g10, g9]) fun b hb => .inl (xs_offw (fun g hg => by simp at hg; rcases hg with rfl | rfl <;> constructor <;> omega) b hb))
          have LB3 := Lib.hid (hl4.fresh (X' := XS w3.heap.size (w3.heap.size + 1) [g10, g9]) fun b hb => .inl (xs_offw (fun g hg => by simp at hg; rcases hg with rfl | rfl <;> constructor <;> omega) b hb))
          have hs15 := hSw.trans ex15
          have pc15_10 := (ex15.block lc14_10).trans pc14_10
          have lc15_10 := Nat.lt_of_lt_of_le lc14_10 ex15.size
          have pc15_9 := (ex15.block lt14).trans pn14
          have lc15_9 := Nat.lt_of_lt_of_le lt14 ex15.size
          clear hl3 hl4 hok2 hf2 hcall
          simp only []
          refine hK.out _ _ (Ext wr.drew) (fun _ h => h) hs15 (fun hSw => ?_)
          clear hK K
          try simp only [Act.put, List.setIfInBounds_toArray, List.set_cons_zero, List.set_cons_succ]
          refine wpS_take 7 (v := ?_) hSw rfl (by kernel_rfl) (by kernel_rfl) (by kernel_rfl) (by rfl) (fun w' hin => ?_) ?_
          rotate_left
          · (try simp only [] at hin); go_simp <;> with_reducible rfl
          try simp only [Act.put, List.setIfInBounds_toArray, List.set_cons_zero, List.set_cons_succ]
          refine wpS_take 8 (v := ?_) hSw rfl (by kernel_rfl) (by kernel_rfl) (by kernel_rfl) (by rfl) (fun w' hin => ?_) ?_
          rotate_left
          · (try simp only [] at hin); go_simp <;> with_reducible rfl
          try simp only [Act.put, List.setIfInBounds_toArray, List.set_cons_zero, List.set_cons_succ]
          refine wpS_take 9 (v := ?_) hSw rfl (by kernel_rfl) (by kernel_rfl) (by kernel_rfl) (by rfl) (fun w' hin => ?_) ?_
          rotate_left
          · (try simp only [] at hin); go_simp <;> with_reducible rfl
          try simp only [Act.put, List.setIfInBounds_toArray, List.set_cons_zero, List.set_cons_succ]
          refine wpS_take 10 (v := ?_) hSw rfl (by kernel_rfl) (by kernel_rfl) (by kernel_rfl) (by rfl) (fun w' hin => ?_) ?_
          rotate_left
          · (try simp only [] at hin); go_simp <;> with_reducible rfl
          try simp only [Act.put, List.setIfInBounds_toArray, List.set_cons_zero, List.set_cons_succ]
          have P9 := Lib.hid pc15_9
          have P10 := Lib.hid pc15_10
          have L9 := lc15_9
          have L10 := lc15_10
          skip
          have hg9 : wr.heap.size ≤ g9 := by assumption
          have hg10 : wr.heap.size ≤ g10 := by assumption
          have LA4 : Hid (LkR v15 (XS w3.heap.size (w3.heap.size + 1) [g9, g10]) e3 A3 n3 c3 l2) := Lib.hid (LA3.out.fresh fun b hb => .inl (by rcases hb with hb | hb; exact .inl hb; right; simp at hb ⊢; omega))
          have LB4 : Hid (LkR v15 (XS w3.heap.size (w3.heap.size + 1) [g9, g10]) e4 A4 n4 c4 l2) := Lib.hid (LB3.out.fresh fun b hb => .inl (by rcases hb with hb | hb; exact .inl hb; right; simp at hb ⊢; omega))
          have hne910 : g9 ≠ g10 := by omega
          clear LA3 LB3
          obtain ⟨q9, q9f⟩ := blk_rules P9.out
          obtain ⟨q10, q10f⟩ := blk_rules P10.out
          refine wpS_one 13 rfl (by kernel_rfl) (by rfl) (fun K hK => ?_)
          go_simp
          have hs13 := (hSw.set (p := ⟨g9, 0, none⟩) hg9 (.int .i64 e3)).set (p := ⟨g9, 1, none⟩) hg9 (.slice A3 n3 c3)
          refine hK.out _ _ (Ext wr.drew) (fun _ h => h) hs13 (fun hSw => ?_)
          clear hK K
          try simp only [Act.put, List.setIfInBounds_toArray, List.set_cons_zero, List.set_cons_succ]
          have P9' : Hid (((v15.setCell ⟨g9, 0, none⟩ (.int .i64 e3)).setCell ⟨g9, 1, none⟩ (.slice A3 n3 c3)).heap[g9]? = some (.cells #[.int .i64 e3, .slice A3 n3 c3] 40 (0, 0))) := Lib.hid (blk_set (blk_set P9.out _) _)
          have P10' : Hid (((v15.setCell ⟨g9, 0, none⟩ (.int .i64 e3)).setCell ⟨g9, 1, none⟩ (.slice A3 n3 c3)).heap[g10]? = some (.cells #[.int .i64 0, .slice none 0 0] 37 (0, 0))) := Lib.hid ((blk_far (Ne.symm hne910) _).trans ((blk_far (Ne.symm hne910) _).trans P10.out))
          have LA5 := Lib.hid ((LA4.out.set (g := g9) (i := 0) (.inr (by simp)) (.int .i64 e3)).set (g := g9) (i := 1) (.inr (by simp)) (.slice A3 n3 c3))
          have LB5 := Lib.hid ((LB4.out.set (g := g9) (i := 0) (.inr (by simp)) (.int .i64 e3)).set (g := g9) (i := 1) (.inr (by simp)) (.slice A3 n3 c3))
          obtain ⟨U, hU⟩ : ∃ U, U = (v15.setCell ⟨g9, 0, none⟩ (.int .i64 e3)).setCell ⟨g9, 1, none⟩ (.slice A3 n3 c3) := ⟨_, rfl⟩
          rw [← hU] at P9' P10' LA5 LB5 hSw ⊢
          clear hU q9 q9f q10 q10f hs13
          obtain ⟨q10, q10f⟩ := blk_rules P10'.out
          refine wpS_one 14 rfl (by kernel_rfl) (by rfl) (fun K hK => ?_)
          go_simp
          have hs14 := (hSw.set (p := ⟨g10, 0, none⟩) hg10 (.int .i64 e4)).set (p := ⟨g10, 1, none⟩) hg10 (.slice A4 n4 c4)
          refine hK.out _ _ (Ext wr.drew) (fun _ h => h) hs14 (fun hSw => ?_)
          clear hK K
          try simp only [Act.put, List.setIfInBounds_toArray, List.set_cons_zero, List.set_cons_succ]
          refine wpS_take 15 (v := ?_) hSw rfl (by kernel_rfl) (by kernel_rfl) (by kernel_rfl) (by rfl) (fun w' hin => ?_) ?_
          rotate_left
          · (try simp only [] at hin); go_simp <;> with_reducible rfl
          try simp only [Act.put, List.setIfInBounds_toArray, List.set_cons_zero, List.set_cons_succ]
          refine wpS_done (by kernel_rfl) ?_
          have P9'' : Hid (((U.setCell ⟨g10, 0, none⟩ (.int .i64 e4)).setCell ⟨g10, 1, none⟩ (.slice A4 n4 c4)).heap[g9]? = some (.cells #[.int .i64 e3, .slice A3 n3 c3] 40 (0, 0))) := Lib.hid ((blk_far hne910 _).trans ((blk_far hne910 _).trans P9'.out))
          have P10'' : Hid (((U.setCell ⟨g10, 0, none⟩ (.int .i64 e4)).setCell ⟨g10, 1, none⟩ (.slice A4 n4 c4)).heap[g10]? = some (.cells #[.int .i64 e4, .slice A4 n4 c4] 37 (0, 0))) := Lib.hid (blk_set (blk_set P10'.out _) _)
          have LA6 := Lib.hid ((LA5.out.set (g := g10) (i := 0) (.inr (by simp)) (.int .i64 e4)).set (g := g10) (i := 1) (.inr (by simp)) (.slice A4 n4 c4))
          have LB6 := Lib.hid ((LB5.out.set (g := g10) (i := 0) (.inr (by simp)) (.int .i64 e4)).set (g := g10) (i := 1) (.inr (by simp)) (.slice A4 n4 c4))
          obtain ⟨U2, hU2⟩ : ∃ U2, U2 = (U.setCell ⟨g10, 0, none⟩ (.int .i64 e4)).setCell ⟨g10, 1, none⟩ (.slice A4 n4 c4) := ⟨_, rfl⟩
          rw [← hU2] at P9'' P10'' LA6 LB6 hSw ⊢
          have EU := Lib.hid ((Ext.refl wr).drew.trans hSw)
          have zA : w3.heap.size < U2.heap.size := Nat.lt_of_lt_of_le hz'' EU.out.size
          have zB : w3.heap.size + 1 < U2.heap.size := Nat.lt_of_lt_of_le hz' EU.out.size
          have BA2 := Lib.hid ((EU.out.block hz'').trans BA.out)
          have BB2 := Lib.hid ((EU.out.block hz').trans BB.out)
          have EWU := Lib.hid (EW'.out.trans EU.out)
          clear hU2 q10 q10f hs14 la0 la1 lb0 lb1 lx0 lx1 lx2
          obtain ⟨r9, -⟩ := blk_rules P9''.out
          obtain ⟨r10, -⟩ := blk_rules P10''.out
          obtain ⟨ra, raf⟩ := blk_rules BA2.out
          obtain ⟨rb, rbf⟩ := blk_rules BB2.out
          obtain ⟨F1, F2, F3⟩ : LkR ((((U2.setCell ⟨w3.heap.size, 0, none⟩ (.int .i64 e3)).setCell ⟨w3.heap.size, 1, none⟩ (.slice A3 n3 c3)).setCell ⟨w3.heap.size + 1, 0, none⟩ (.int .i64 e4)).setCell ⟨w3.heap.size + 1, 1, none⟩ (.slice A4 n4 c4)) (OffAB w3.heap.size (w3.heap.size + 1)) e3 A3 n3 c3 l2 ∧ LkR ((((U2.setCell ⟨w3.heap.size, 0, none⟩ (.int .i64 e3)).setCell ⟨w3.heap.size, 1, none⟩ (.slice A3 n3 c3)).setCell ⟨w3.heap.size + 1, 0, none⟩ (.int .i64 e4)).setCell ⟨w3.heap.size + 1, 1, none⟩ (.slice A4 n4 c4)) (OffAB w3.heap.size (w3.heap.size + 1)) e4 A4 n4 c4 l2 ∧ Ext w ((((U2.setCell ⟨w3.heap.size, 0, none⟩ (.int .i64 e3)).setCell ⟨w3.heap.size, 1, none⟩ (.slice A3 n3 c3)).setCell ⟨w3.heap.size + 1, 0, none⟩ (.int .i64 e4)).setCell ⟨w3.heap.size + 1, 1, none⟩ (.slice A4 n4 c4)) :=
            ⟨((((LA6.out.fresh (fun b hb => .inl (.inl hb))).set (.inl rfl) _).set (.inl rfl) _).set (.inr rfl) _).set (.inr rfl) _, ((((LB6.out.fresh (fun b hb => .inl (.inl hb))).set (.inl rfl) _).set (.inl rfl) _).set (.inr rfl) _).set (.inr rfl) _,
              (((EWU.out.set hg3 _).set hg3 _).set (Nat.le_trans hg3 (Nat.le_succ _)) _).set (Nat.le_trans hg3 (Nat.le_succ _)) _⟩
          have F4 : ((((U2.setCell ⟨w3.heap.size, 0, none⟩ (.int .i64 e3)).setCell ⟨w3.heap.size, 1, none⟩ (.slice A3 n3 c3)).setCell ⟨w3.heap.size + 1, 0, none⟩ (.int .i64 e4)).setCell ⟨w3.heap.size + 1, 1, none⟩ (.slice A4 n4 c4)).heap[w3.heap.size]? = some (.cells #[.int .i64 e3, .slice A3 n3 c3] 40 (0, 0)) := (blk_far (by omega) _).trans ((blk_far (by omega) _).trans (blk_set (blk_set BA2.out _) _))
          have F5 : ((((U2.setCell ⟨w3.heap.size, 0, none⟩ (.int .i64 e3)).setCell ⟨w3.heap.size, 1, none⟩ (.slice A3 n3 c3)).setCell ⟨w3.heap.size + 1, 0, none⟩ (.int .i64 e4)).setCell ⟨w3.heap.size + 1, 1, none⟩ (.slice A4 n4 c4)).heap[w3.heap.size + 1]? = some (.cells #[.int .i64 e4, .slice A4 n4 c4] 37 (0, 0)) := blk_set (blk_set ((blk_far (by omega) _).trans ((blk_far (by omega) _).trans BB2.out)) _) _
          have F6 : w3.heap.size + 1 < ((((U2.setCell ⟨w3.heap.size, 0, none⟩ (.int .i64 e3)).setCell ⟨w3.heap.size, 1, none⟩ (.slice A3 n3 c3)).setCell ⟨w3.heap.size + 1, 0, none⟩ (.int .i64 e4)).setCell ⟨w3.heap.size + 1, 1, none⟩ (.slice A4 n4 c4)).heap.size := by simpa [World.setCell] using zB
          obtain ⟨V6, hV6⟩ : ∃ V6, V6 = (((U2.setCell ⟨w3.heap.size, 0, none⟩ (.int .i64 e3)).setCell ⟨w3.heap.size, 1, none⟩ (.slice A3 n3 c3)).setCell ⟨w3.heap.size + 1, 0, none⟩ (.int .i64 e4)).setCell ⟨w3.heap.size + 1, 1, none⟩ (.slice A4 n4 c4) := ⟨_, rfl⟩
          rw [← hV6] at F1 F2 F3 F4 F5 F6
          have LA7 := Lib.hid F1
          have LB7 := Lib.hid F2
          have EV6 := Lib.hid F3
          have BA7 := Lib.hid F4
          have BB7 := Lib.hid F5
          have HV6 := Lib.hid hV6
          clear F1 F2 F3 F4 F5 hV6
          go_wp2_with fail
          rw [← HV6.out]
          clear HV6 r9 r10 ra raf rb rbf P9'' P10'' LA6 LB6 LA5 LB5 LA4 LB4 P9' P10' P9 P10
          have HOK3 : Hid (okL e3 n3 = true) := Lib.hid (by have := HOK2.out; unfold Lk.ok at this; rw [LA7.out.1, LA7.out.len] at this; exact this)
          have hn3 : n3 ≤ 32 := by have := l2.sane_len; rw [Lk.sane_of HOK2.out, LA7.out.len] at this; exact this
          have hV6 : w3.heap.size < V6.heap.size := by omega
          have m0 : ∀ w', Ext V6.drew w' → w'.cell? ⟨w3.heap.size, 0, none⟩ = some (.int .i64 e3) := fun w' hx => (((Ext.refl V6).drew.trans hx).cell hV6).trans ((blk_rules BA7.out).1 0)
          have m1 : ∀ w', Ext V6.drew w' → w'.cell? ⟨w3.heap.size, 1, none⟩ = some (.slice A3 n3 c3) := fun w' hx => (((Ext.refl V6).drew.trans hx).cell hV6).trans ((blk_rules BA7.out).1 1)
          have m2 : ∀ w', Ext V6.drew w' → w'.cell? ⟨w3.heap.size + 1, 0, none⟩ = some (.int .i64 e4) := fun w' hx => (((Ext.refl V6).drew.trans hx).cell F6).trans ((blk_rules BB7.out).1 0)
          have m3 : ∀ w', Ext V6.drew w' → w'.cell? ⟨w3.heap.size + 1, 1, none⟩ = some (.slice A4 n4 c4) := fun w' hx => (((Ext.refl V6).drew.trans hx).cell F6).trans ((blk_rules BB7.out).1 1)
          have hSw : Ext V6.drew V6.drew := Ext.refl _
          refine wpS_begin (Ext V6.drew) (by kernel_rfl) ?_
          refine wpS_take 0 (v := ?_) hSw rfl (by kernel_rfl) (by kernel_rfl) (by kernel_rfl) (by rfl) (fun w' hin => ?_) ?_
          rotate_left
          · (try simp only [] at hin); go_simp <;> with_reducible rfl
          try simp only [Act.put, List.setIfInBounds_toArray, List.set_cons_zero, List.set_cons_succ]
          refine wpS_take 1 (v := ?_) hSw rfl (by kernel_rfl) (by kernel_rfl) (by kernel_rfl) (by rfl) (fun w' hin => ?_) ?_
          rotate_left
          · (try simp only [] at hin); go_simp <;> with_reducible rfl
          try simp only [Act.put, List.setIfInBounds_toArray, List.set_cons_zero, List.set_cons_succ]
          refine wpS_take 2 (v := ?_) hSw rfl (by kernel_rfl) (by kernel_rfl) (by kernel_rfl) (by rfl) (fun w' hin => ?_) ?_
          rotate_left
          · (try simp only [] at hin); go_simp <;> with_reducible rfl
          try simp only [Act.put, List.setIfInBounds_toArray, List.set_cons_zero, List.set_cons_succ]
          refine wpS_take 3 (v := ?_) hSw rfl (by kernel_rfl) (by kernel_rfl) (by kernel_rfl) (by rfl) (fun w' hin => ?_) ?_
          rotate_left
          · (try simp only [] at hin); go_simp <;> with_reducible rfl
          try simp only [Act.put, List.setIfInBounds_toArray, List.set_cons_zero, List.set_cons_succ]
          refine wpS_take 5 (v := ?_) hSw rfl (by kernel_rfl) (by kernel_rfl) (by kernel_rfl) (by rfl) (fun w' hin => ?_) ?_
          rotate_left
          · (try simp only [] at hin); go_simp <;> with_reducible rfl
          try simp only [Act.put, List.setIfInBounds_toArray, List.set_cons_zero, List.set_cons_succ]
          refine wpS_one 4 rfl (by kernel_rfl) (by rfl) (fun K hK => ?_)
          go_simp
          refine (theirs_any _ _ _ _ _).mono ?_
          rintro e u1 ⟨rfl, hu1⟩
          simp only []
          refine hK.out _ _ (Ext V6.drew) (fun _ h => h) (hu1) (fun hSw => ?_)
          clear hK K
          try simp only [Act.put, List.setIfInBounds_toArray, List.set_cons_zero, List.set_cons_succ]
          refine wpS_one 6 rfl (by kernel_rfl) (by rfl) (fun K hK => ?_)
          go_simp
          refine (same12_any (OffAB w3.heap.size (w3.heap.size + 1)) _ _ _ _ _ _ _ _ l2 l2 _ (LA7.out.up ((Ext.refl V6).drew.trans hu1)) (LB7.out.up ((Ext.refl V6).drew.trans hu1)) (by omega)).mono ?_
          rintro e u2 ⟨rfl, hu2⟩
          rw [sameB_true rfl]
          simp only []
          refine hK.out _ _ (Ext V6.drew) (fun _ h => h) (hu1.trans hu2) (fun hSw => ?_)
          clear hK K
          try simp only [Act.put, List.setIfInBounds_toArray, List.set_cons_zero, List.set_cons_succ]
          refine wpS_take 7 (v := ?_) hSw rfl (by kernel_rfl) (by kernel_rfl) (by kernel_rfl) (by rfl) (fun w' hin => ?_) ?_
          rotate_left
          · (try simp only [] at hin); go_simp <;> with_reducible rfl
          try simp only [Act.put, List.setIfInBounds_toArray, List.set_cons_zero, List.set_cons_succ]
          refine wpS_take 8 (v := ?_) hSw rfl (by kernel_rfl) (by kernel_rfl) (by kernel_rfl) (by rfl) (fun w' hin => ?_) ?_
          rotate_left
          · (try simp only [] at hin); go_simp <;> with_reducible rfl
          try simp only [Act.put, List.setIfInBounds_toArray, List.set_cons_zero, List.set_cons_succ]
          refine wpS_take 9 (v := ?_) hSw rfl (by kernel_rfl) (by kernel_rfl) (by kernel_rfl) (by rfl) (fun w' hin => ?_) ?_
          rotate_left
          · (try simp only [] at hin); go_simp <;> with_reducible rfl
          try simp only [Act.put, List.setIfInBounds_toArray, List.set_cons_zero, List.set_cons_succ]
          refine wpS_take 10 (v := ?_) hSw rfl (by kernel_rfl) (by kernel_rfl) (by kernel_rfl) (by rfl) (fun w' hin => ?_) ?_
          rotate_left
          · (try simp only [] at hin); go_simp <;> with_reducible rfl
          try simp only [Act.put, List.setIfInBounds_toArray, List.set_cons_zero, List.set_cons_succ]
          refine wpS_one 11 rfl (by kernel_rfl) (by rfl) (fun K hK => ?_)
          go_simp
          refine (linkSane_any _ _ _ _ _).mono ?_
          rintro e u3 ⟨rfl, hu3⟩
          rw [HOK3.out]
          simp only []
          refine hK.out _ _ (Ext V6.drew) (fun _ h => h) ((hu1.trans hu2).trans hu3) (fun hSw => ?_)
          clear hK K
          try simp only [Act.put, List.setIfInBounds_toArray, List.set_cons_zero, List.set_cons_succ]
          refine wpS_take 12 (v := ?_) hSw rfl (by kernel_rfl) (by kernel_rfl) (by kernel_rfl) (by rfl) (fun w' hin => ?_) ?_
          rotate_left
          · (try simp only [] at hin); go_simp <;> with_reducible rfl
          try simp only [Act.put, List.setIfInBounds_toArray, List.set_cons_zero, List.set_cons_succ]
          refine wpS_take 13 (v := ?_) hSw rfl (by kernel_rfl) (by kernel_rfl) (by kernel_rfl) (by rfl) (fun w' hin => ?_) ?_
          rotate_left
          · (try simp only [] at hin); go_simp <;> with_reducible rfl
          try simp only [Act.put, List.setIfInBounds_toArray, List.set_cons_zero, List.set_cons_succ]
          refine wpS_done (by kernel_rfl) ?_
          have E9 := Lib.hid ((((Ext.refl V6).drew.trans hu1).trans hu2).trans hu3)
          have HFS2 : Hid (∀ b ∈ l2.sane.q, b.length ≤ 300) := Lib.hid (by rw [Lk.sane_of HOK2.out]; exact HF2.out)
          have BA9 := Lib.hid ((E9.out.block hV6).trans BA7.out)
          have BB9 := Lib.hid ((E9.out.block F6).trans BB7.out)
          have LA9 := Lib.hid (LA7.out.up E9.out)
          have LB9 := Lib.hid (LB7.out.up E9.out)
          have EW9 := Lib.hid (EV6.out.trans E9.out)
          have hz9 : w3.heap.size + 1 < u3.heap.size := Nat.lt_of_lt_of_le F6 E9.out.size
          clear m0 m1 m2 m3 hu1 hu2 hu3 hSw
          go_wp2_with fail
          go_roundw
          case rel => exact ⟨j + 1, l2, e3, A3, n3, c3, e4, A4, n4, c4, by omega, by go_num, HFS2, BA9, BB9, LA9, LB9, EW9, hz9⟩
          case measure => simp [intOf]; omega
    · go_wp2_with fail
      go_ret
      exact ⟨rfl, EW'.out⟩
end Go.Proofs.Ytjomoannlpadnaa
