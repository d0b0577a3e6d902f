/- What the law LinkPlays' step computes. (Printed by mk_linkstep.py.) -/
import Derived.Test.YtjomoannlpadnaaLinkRef3
import Derived.Test.YtjomoannlpadnaaLinkPlain
namespace Go.Proofs.Ytjomoannlpadnaa
set_option linter.unusedVariables false
open Go.RowKit
attribute [local go_sem ↓] run_max2 run_min2
attribute [local go_sem ↓] Go.wp_at_zero Go.wp_at_succ

/-- X and five boxes more -/
def With5 (X : Nat → Prop) (g : Nat) (b : Nat) : Prop := X b ∨ (g ≤ b ∧ b < g + 5)
theorem with5_of {X : Nat → Prop} {w : World} : ∀ b, With5 X w.heap.size b → X b ∨ w.heap.size ≤ b := by
  rintro b (hb | hb)
  · exact .inl hb
  · exact .inr hb.1
theorem with5_lt {X : Nat → Prop} {w w1 : World} (hX : ∀ b, X b → b < w.heap.size) (h : w.heap.size + 5 ≤ w1.heap.size) : ∀ b, With5 X w.heap.size b → b < w1.heap.size := by
  rintro b (hb | hb)
  · have := hX b hb; omega
  · omega
theorem five_blocks (w : World) (o1 o2 o3 o4 o5 : Obj) : ∃ W, W = ((((w.alloc o1).alloc o2).alloc o3).alloc o4).alloc o5 ∧ W.heap[w.heap.size]? = some o1 ∧ W.heap[w.heap.size + 1]? = some o2 ∧ W.heap[w.heap.size + 1 + 1]? = some o3 ∧
    W.heap[w.heap.size + 1 + 1 + 1]? = some o4 ∧ W.heap[w.heap.size + 1 + 1 + 1 + 1]? = some o5 ∧ W.heap.size = w.heap.size + 5 ∧ Ext w W := by
  have h2 := heap_alloc_new (w.alloc o1) o2
  have h3 := heap_alloc_new ((w.alloc o1).alloc o2) o3
  have h4 := heap_alloc_new (((w.alloc o1).alloc o2).alloc o3) o4
  have h5 := heap_alloc_new ((((w.alloc o1).alloc o2).alloc o3).alloc o4) o5
  simp only [World.size_alloc] at h2 h3 h4 h5
  have far : ∀ (W : World) (o : Obj) (k : Nat), k < W.heap.size → (W.alloc o).heap[k]? = W.heap[k]? := fun W o k hk => Below.heap_alloc W o k hk
  refine ⟨_, rfl, ?_, ?_, ?_, ?_, h5, by simp only [World.size_alloc], (((((Ext.new _ _).alloc _).alloc _).alloc _).alloc _)⟩
  · rw [far _ _ _ (by simp only [World.size_alloc]; omega), far _ _ _ (by simp only [World.size_alloc]; omega), far _ _ _ (by simp only [World.size_alloc]; omega), far _ _ _ (by simp only [World.size_alloc]; omega)]; exact heap_alloc_new w o1
  · rw [far _ _ _ (by simp only [World.size_alloc]; omega), far _ _ _ (by simp only [World.size_alloc]; omega), far _ _ _ (by simp only [World.size_alloc]; omega)]; exact h2
  · rw [far _ _ _ (by simp only [World.size_alloc]; omega), far _ _ _ (by simp only [World.size_alloc]; omega)]; exact h3
  · rw [far _ _ _ (by simp only [World.size_alloc]; omega)]; exact h4

def GivesStep (w : World) (X : Nat → Prop) (l2 : Lk) (e : Ending) (w' : World) : Prop := ∃ e1 A1 n1 c1 e2 A2 n2 c2, e = .returned (.tuple #[.agg #[.int .i64 e1, .slice A1 n1 c1], .agg #[.int .i64 e2, .slice A2 n2 c2], .bool true]) ∧
  LkR w' X e1 A1 n1 c1 l2 ∧ LkR w' X e2 A2 n2 c2 l2 ∧ Ext w w'
theorem conv_p {w : World} {A : Option Addr} {n : Nat} {bs : List UInt8} (h : Byts w A n bs) (c : Nat) : (convert 42 9 (.slice A n c)).run Try.prog w = .ok (.string (bstr bs)) w :=
  run_conv Try.underlying42 Try.underlying5 Try.underlying9 h c
set_option maxRecDepth 100000 in
theorem conv_v {w : World} {X : Nat → Prop} {A : Option Addr} {n c : Nat} {bs : List UInt8} (h : BV w X (.slice A n c) bs) : (convert 42 9 (.slice A n c)).run Try.prog w = .ok (.string (bstr bs)) w := by
  obtain ⟨A', n', c', e, _, _, h3, _⟩ := h
  injection e with e1 e2 e3
  subst e1 e2 e3
  exact conv_p h3 _
theorem few_of {l : Lk} (hf : ∀ b ∈ l.sane.q, b.length ≤ 300) : ∀ b ∈ l.sane.q, b.length ≤ 1000000 := fun b hb => by have := hf b hb; omega

set_option maxRecDepth 100000 in
set_option maxHeartbeats 3200000 in
theorem step_send (X : Nat → Prop) (ep ep' : Int) (A A' Ax : Option Addr) (n c n' c' nx cx : Nat) (l : Lk) (what i : Int) (xs : List UInt8) (w : World) (h : LkR w X ep A n c l) (h' : LkR w X ep' A' n' c' l) (hX : ∀ b, X b → b < w.heap.size) (hf : ∀ b ∈ l.sane.q, b.length ≤ 300)
    (hx : Byts w Ax nx xs) (hxc : Ax = none → cx = 0) (hxn : nx ≤ 300) (hwh : what = 0) :
    Calls Try.prog 48 #[.agg #[.int .i64 ep, .slice A n c], .agg #[.int .i64 ep', .slice A' n' c'], .agg #[.int .i64 what, .int .i64 i, .slice Ax nx cx]] w (GivesStep w X (l.send xs).1) := by
  obtain ⟨W5, hW5, B1, B2, B3, B4, B5, hs5, E5⟩ := five_blocks w (.cells #[.int .i64 ep, .slice A n c] 40) (.cells #[.int .i64 ep', .slice A' n' c'] 37) (.cells #[.int .i64 what, .int .i64 i, .slice Ax nx cx] 72) (.cells #[.int .i64 0, .slice none 0 0] 40) (.cells #[.int .i64 0, .slice none 0 0] 37)
  have HX := Lib.hid hX
  have HE5 := Lib.hid E5
  have HLx := Lib.hid ((h.fresh with5_of).up E5)
  have HL' := Lib.hid ((h'.fresh with5_of).up E5)
  have HBX := Lib.hid (ArrR.up hx E5)
  have HF := Lib.hid (few_of hf)
  have H2 := Lib.hid B2
  have H3 := Lib.hid B3
  have H4 := Lib.hid B4
  have H5 := Lib.hid B5
  have HS5 := Lib.hid hs5
  have hX5 : Hid (∀ b, With5 X w.heap.size b → b < W5.heap.size) := Lib.hid (with5_lt hX (by omega))
  clear h h' hX hx hf B1 B2 B3 B4 B5 E5 hs5
  subst hwh
  go_enter Try.func48, Try.ntmps48
  go_wp2_with fail
  rw [← hW5]
  clear hW5
  refine (linkSend_any (With5 X w.heap.size) _ _ _ _ l Ax nx cx xs _ HLx.out hX5.out HBX.out hxc (by omega)).mono ?_
  rintro e w1 ⟨e1, A1, n1, c1, rfl, hl1, hb1⟩
  have HL1 := Lib.hid hl1
  have HE1 := Lib.hid hb1
  have hz1 : w.heap.size + 5 ≤ w1.heap.size := by have := hb1.size; have := HS5.out; omega
  have HT1 := Lib.hid (heap_alloc_new w1 (.cells #[.int .i64 e1, .slice A1 n1 c1] 40))
  have hk2 := (blk_rules ((HE1.out.block (by have := HS5.out; omega)).trans H2.out)).1
  have hk3 := (blk_rules ((HE1.out.block (by have := HS5.out; omega)).trans H3.out)).1
  have hq1 : w.heap.size + 1 < w1.heap.size := by omega
  have hq2 : w.heap.size + 1 + 1 < w1.heap.size := by omega
  have HX1 : Hid (∀ b, With5 X w.heap.size b → b < (w1.alloc (.cells #[.int .i64 e1, .slice A1 n1 c1] 40)).heap.size) := Lib.hid fun b hb => by have := hX5.out b hb; have := HE1.out.size; rw [World.size_alloc]; omega
  have HN1 := Lib.hid (Ext.new w1 (.cells #[.int .i64 e1, .slice A1 n1 c1] 40))
  clear hl1 hb1
  go_wp2_with fail
  refine (refSend12_any (With5 X w.heap.size) _ _ _ _ l Ax nx cx xs _ ((HL'.out.up HE1.out).up HN1.out) HX1.out (ArrR.up HBX.out (HE1.out.trans HN1.out)) hxc (by omega)).mono ?_
  rintro e w2 ⟨e2, A2, n2, c2, rfl, hl2, hb2⟩
  have HL2 := Lib.hid hl2
  have HE2 := Lib.hid hb2
  obtain ⟨W, hW⟩ : ∃ W, W = w2.alloc (.cells #[.int .i64 e2, .slice A2 n2 c2] 37) := ⟨_, rfl⟩
  have EW2 : Ext w2 W := by rw [hW]; exact Ext.new _ _
  have EW1 := HN1.out.trans (HE2.out.trans EW2)
  have EW5 := HE1.out.trans EW1
  have HEW : Hid (Ext w W) := Lib.hid (HE5.out.trans EW5)
  have LA := Lib.hid (HL1.out.up EW1)
  have LB := Lib.hid (HL2.out.up EW2)
  have T1 := ((HE2.out.trans EW2).block (by simp)).trans HT1.out
  have T2 : W.heap[w2.heap.size]? = some (.cells #[.int .i64 e2, .slice A2 n2 c2] 37 (0, 0)) := by rw [hW]; exact heap_alloc_new _ _
  have R4 := (EW5.block (show w.heap.size + 1 + 1 + 1 < W5.heap.size by have := HS5.out; omega)).trans H4.out
  have R5 := (EW5.block (show w.heap.size + 1 + 1 + 1 + 1 < W5.heap.size by have := HS5.out; omega)).trans H5.out
  have hz2 : w1.heap.size < w2.heap.size := Nat.lt_of_lt_of_le (by simp) hb2.size
  have hz3 : w2.heap.size < W.heap.size := by rw [hW]; simp
  have HR4 := Lib.hid R4
  have HR5 := Lib.hid R5
  have HW := Lib.hid hW
  clear hl2 hb2 hW EW2 EW1 EW5 hk2 hk3 hq1 hq2
  go_wp2_with fail
  rw [← HW.out]
  obtain ⟨t1, -⟩ := blk_rules T1
  obtain ⟨t2, -⟩ := blk_rules T2
  obtain ⟨r4, r4f⟩ := blk_rules R4
  obtain ⟨r5, r5f⟩ := blk_rules R5
  clear T1 T2 R4 R5 HT1 HW
  go_region
  all_goals
    go_wp2_with fail
    refine bodyPost_ret (v := .tuple #[.agg #[.int .i64 e1, .slice A1 n1 c1], .agg #[.int .i64 e2, .slice A2 n2 c2], .bool true]) (by simp [results, Try.results48, go_sem, r4, r5]) rfl ⟨e1, A1, n1, c1, e2, A2, n2, c2, rfl, ?_, ?_, ?_⟩
    · exact (((((LA.out.set (.inr ⟨by omega, by omega⟩) _).set (.inr ⟨by omega, by omega⟩) _).set (.inr ⟨by omega, by omega⟩) _).set (.inr ⟨by omega, by omega⟩) _).up (Ext.refl _).drew).fresh fun b hb => .inl (.inl hb)
    · exact (((((LB.out.set (.inr ⟨by omega, by omega⟩) _).set (.inr ⟨by omega, by omega⟩) _).set (.inr ⟨by omega, by omega⟩) _).set (.inr ⟨by omega, by omega⟩) _).up (Ext.refl _).drew).fresh fun b hb => .inl (.inl hb)
    · exact ((((HEW.out.set (show w.heap.size ≤ w.heap.size + 1 + 1 + 1 by omega) _).set (show w.heap.size ≤ w.heap.size + 1 + 1 + 1 by omega) _).set (show w.heap.size ≤ w.heap.size + 1 + 1 + 1 + 1 by omega) _).set (show w.heap.size ≤ w.heap.size + 1 + 1 + 1 + 1 by omega) _).drew
set_option maxRecDepth 100000 in
set_option maxHeartbeats 3200000 in
theorem step_take (X : Nat → Prop) (ep ep' : Int) (A A' Ax : Option Addr) (n c n' c' nx cx : Nat) (l : Lk) (what i : Int) (xs : List UInt8) (w : World) (h : LkR w X ep A n c l) (h' : LkR w X ep' A' n' c' l) (hX : ∀ b, X b → b < w.heap.size) (hf : ∀ b ∈ l.sane.q, b.length ≤ 300)
    (hx : Byts w Ax nx xs) (hxc : Ax = none → cx = 0) (hxn : nx ≤ 300) (hwh : what = 1) :
    Calls Try.prog 48 #[.agg #[.int .i64 ep, .slice A n c], .agg #[.int .i64 ep', .slice A' n' c'], .agg #[.int .i64 what, .int .i64 i, .slice Ax nx cx]] w (GivesStep w X (l.take i).1) := by
  obtain ⟨W5, hW5, B1, B2, B3, B4, B5, hs5, E5⟩ := five_blocks w (.cells #[.int .i64 ep, .slice A n c] 40) (.cells #[.int .i64 ep', .slice A' n' c'] 37) (.cells #[.int .i64 what, .int .i64 i, .slice Ax nx cx] 72) (.cells #[.int .i64 0, .slice none 0 0] 40) (.cells #[.int .i64 0, .slice none 0 0] 37)
  have HX := Lib.hid hX
  have HE5 := Lib.hid E5
  have HLx := Lib.hid ((h.fresh with5_of).up E5)
  have HL' := Lib.hid ((h'.fresh with5_of).up E5)
  have HBX := Lib.hid (ArrR.up hx E5)
  have HF := Lib.hid (few_of hf)
  have H2 := Lib.hid B2
  have H3 := Lib.hid B3
  have H4 := Lib.hid B4
  have H5 := Lib.hid B5
  have HS5 := Lib.hid hs5
  have hX5 : Hid (∀ b, With5 X w.heap.size b → b < W5.heap.size) := Lib.hid (with5_lt hX (by omega))
  clear h h' hX hx hf B1 B2 B3 B4 B5 E5 hs5
  subst hwh
  go_enter Try.func48, Try.ntmps48
  go_wp2_with fail
  rw [← hW5]
  clear hW5
  refine (linkTake_any (With5 X w.heap.size) _ _ _ _ l i _ HLx.out hX5.out).mono ?_
  rintro e w1 ⟨e1, A1, n1, c1, At1, nt1, ct1, rfl, hl1, hbv1, hb1⟩
  have HT_1 := Lib.hid hbv1
  clear hbv1
  have HL1 := Lib.hid hl1
  have HE1 := Lib.hid hb1
  have hz1 : w.heap.size + 5 ≤ w1.heap.size := by have := hb1.size; have := HS5.out; omega
  have HT1 := Lib.hid (heap_alloc_new w1 (.cells #[.int .i64 e1, .slice A1 n1 c1] 40))
  have hk2 := (blk_rules ((HE1.out.block (by have := HS5.out; omega)).trans H2.out)).1
  have hk3 := (blk_rules ((HE1.out.block (by have := HS5.out; omega)).trans H3.out)).1
  have hq1 : w.heap.size + 1 < w1.heap.size := by omega
  have hq2 : w.heap.size + 1 + 1 < w1.heap.size := by omega
  have HX1 : Hid (∀ b, With5 X w.heap.size b → b < (w1.alloc (.cells #[.int .i64 e1, .slice A1 n1 c1] 40)).heap.size) := Lib.hid fun b hb => by have := hX5.out b hb; have := HE1.out.size; rw [World.size_alloc]; omega
  have HN1 := Lib.hid (Ext.new w1 (.cells #[.int .i64 e1, .slice A1 n1 c1] 40))
  clear hl1 hb1
  go_wp2_with fail
  refine (refTake12_any (With5 X w.heap.size) _ _ _ _ l i _ ((HL'.out.up HE1.out).up HN1.out) HX1.out).mono ?_
  rintro e w2 ⟨e2, A2, n2, c2, At2, nt2, ct2, rfl, hl2, hbv2, hb2⟩
  have HT_2 := Lib.hid hbv2
  clear hbv2
  have HL2 := Lib.hid hl2
  have HE2 := Lib.hid hb2
  obtain ⟨W, hW⟩ : ∃ W, W = w2.alloc (.cells #[.int .i64 e2, .slice A2 n2 c2] 37) := ⟨_, rfl⟩
  have EW2 : Ext w2 W := by rw [hW]; exact Ext.new _ _
  have EW1 := HN1.out.trans (HE2.out.trans EW2)
  have EW5 := HE1.out.trans EW1
  have HEW : Hid (Ext w W) := Lib.hid (HE5.out.trans EW5)
  have LA := Lib.hid (HL1.out.up EW1)
  have LB := Lib.hid (HL2.out.up EW2)
  have T1 := ((HE2.out.trans EW2).block (by simp)).trans HT1.out
  have T2 : W.heap[w2.heap.size]? = some (.cells #[.int .i64 e2, .slice A2 n2 c2] 37 (0, 0)) := by rw [hW]; exact heap_alloc_new _ _
  have R4 := (EW5.block (show w.heap.size + 1 + 1 + 1 < W5.heap.size by have := HS5.out; omega)).trans H4.out
  have R5 := (EW5.block (show w.heap.size + 1 + 1 + 1 + 1 < W5.heap.size by have := HS5.out; omega)).trans H5.out
  have hz2 : w1.heap.size < w2.heap.size := Nat.lt_of_lt_of_le (by simp) hb2.size
  have hz3 : w2.heap.size < W.heap.size := by rw [hW]; simp
  have HR4 := Lib.hid R4
  have HR5 := Lib.hid R5
  have HW := Lib.hid hW
  have m3 : With5 X w.heap.size (w.heap.size + 1 + 1 + 1) := .inr ⟨by omega, by omega⟩
  have m4 : With5 X w.heap.size (w.heap.size + 1 + 1 + 1 + 1) := .inr ⟨by omega, by omega⟩
  have bw1 := HT_1.out.up EW1
  have g1_0 := conv_v ((bw1).up (Ext.refl _).drew)
  have g1_3 := conv_v ((((bw1).set (g := w.heap.size + 1 + 1 + 1) (i := 0) m3 (.int .i64 e1)).set (g := w.heap.size + 1 + 1 + 1) (i := 1) m3 (.slice A1 n1 c1)).up (Ext.refl _).drew)
  have g1_4 := conv_v ((((bw1).set (g := w.heap.size + 1 + 1 + 1 + 1) (i := 0) m4 (.int .i64 e2)).set (g := w.heap.size + 1 + 1 + 1 + 1) (i := 1) m4 (.slice A2 n2 c2)).up (Ext.refl _).drew)
  have g1_34 := conv_v ((((((bw1).set (g := w.heap.size + 1 + 1 + 1) (i := 0) m3 (.int .i64 e1)).set (g := w.heap.size + 1 + 1 + 1) (i := 1) m3 (.slice A1 n1 c1)).set (g := w.heap.size + 1 + 1 + 1 + 1) (i := 0) m4 (.int .i64 e2)).set (g := w.heap.size + 1 + 1 + 1 + 1) (i := 1) m4 (.slice A2 n2 c2)).up (Ext.refl _).drew)
  have g1_43 := conv_v ((((((bw1).set (g := w.heap.size + 1 + 1 + 1 + 1) (i := 0) m4 (.int .i64 e2)).set (g := w.heap.size + 1 + 1 + 1 + 1) (i := 1) m4 (.slice A2 n2 c2)).set (g := w.heap.size + 1 + 1 + 1) (i := 0) m3 (.int .i64 e1)).set (g := w.heap.size + 1 + 1 + 1) (i := 1) m3 (.slice A1 n1 c1)).up (Ext.refl _).drew)
  have bw2 := HT_2.out.up EW2
  have g2_0 := conv_v ((bw2).up (Ext.refl _).drew)
  have g2_3 := conv_v ((((bw2).set (g := w.heap.size + 1 + 1 + 1) (i := 0) m3 (.int .i64 e1)).set (g := w.heap.size + 1 + 1 + 1) (i := 1) m3 (.slice A1 n1 c1)).up (Ext.refl _).drew)
  have g2_4 := conv_v ((((bw2).set (g := w.heap.size + 1 + 1 + 1 + 1) (i := 0) m4 (.int .i64 e2)).set (g := w.heap.size + 1 + 1 + 1 + 1) (i := 1) m4 (.slice A2 n2 c2)).up (Ext.refl _).drew)
  have g2_34 := conv_v ((((((bw2).set (g := w.heap.size + 1 + 1 + 1) (i := 0) m3 (.int .i64 e1)).set (g := w.heap.size + 1 + 1 + 1) (i := 1) m3 (.slice A1 n1 c1)).set (g := w.heap.size + 1 + 1 + 1 + 1) (i := 0) m4 (.int .i64 e2)).set (g := w.heap.size + 1 + 1 + 1 + 1) (i := 1) m4 (.slice A2 n2 c2)).up (Ext.refl _).drew)
  have g2_43 := conv_v ((((((bw2).set (g := w.heap.size + 1 + 1 + 1 + 1) (i := 0) m4 (.int .i64 e2)).set (g := w.heap.size + 1 + 1 + 1 + 1) (i := 1) m4 (.slice A2 n2 c2)).set (g := w.heap.size + 1 + 1 + 1) (i := 0) m3 (.int .i64 e1)).set (g := w.heap.size + 1 + 1 + 1) (i := 1) m3 (.slice A1 n1 c1)).up (Ext.refl _).drew)
  have t1' := bstr_toList (l.take i).2.1
  clear bw1 bw2 m3 m4
  clear hl2 hb2 hW EW2 EW1 EW5 hk2 hk3 hq1 hq2
  go_wp2_with fail
  rw [← HW.out]
  obtain ⟨t1, -⟩ := blk_rules T1
  obtain ⟨t2, -⟩ := blk_rules T2
  obtain ⟨r4, r4f⟩ := blk_rules R4
  obtain ⟨r5, r5f⟩ := blk_rules R5
  clear T1 T2 R4 R5 HT1 HW
  go_region
  all_goals
    go_wp2_with fail
    refine bodyPost_ret (v := .tuple #[.agg #[.int .i64 e1, .slice A1 n1 c1], .agg #[.int .i64 e2, .slice A2 n2 c2], .bool true]) (by simp [results, Try.results48, go_sem, r4, r5]) rfl ⟨e1, A1, n1, c1, e2, A2, n2, c2, rfl, ?_, ?_, ?_⟩
    · exact (((((LA.out.set (.inr ⟨by omega, by omega⟩) _).set (.inr ⟨by omega, by omega⟩) _).set (.inr ⟨by omega, by omega⟩) _).set (.inr ⟨by omega, by omega⟩) _).up (Ext.refl _).drew).fresh fun b hb => .inl (.inl hb)
    · exact (((((LB.out.set (.inr ⟨by omega, by omega⟩) _).set (.inr ⟨by omega, by omega⟩) _).set (.inr ⟨by omega, by omega⟩) _).set (.inr ⟨by omega, by omega⟩) _).up (Ext.refl _).drew).fresh fun b hb => .inl (.inl hb)
    · exact ((((HEW.out.set (show w.heap.size ≤ w.heap.size + 1 + 1 + 1 by omega) _).set (show w.heap.size ≤ w.heap.size + 1 + 1 + 1 by omega) _).set (show w.heap.size ≤ w.heap.size + 1 + 1 + 1 + 1 by omega) _).set (show w.heap.size ≤ w.heap.size + 1 + 1 + 1 + 1 by omega) _).drew
set_option maxRecDepth 100000 in
set_option maxHeartbeats 3200000 in
theorem step_drop (X : Nat → Prop) (ep ep' : Int) (A A' Ax : Option Addr) (n c n' c' nx cx : Nat) (l : Lk) (what i : Int) (xs : List UInt8) (w : World) (h : LkR w X ep A n c l) (h' : LkR w X ep' A' n' c' l) (hX : ∀ b, X b → b < w.heap.size) (hf : ∀ b ∈ l.sane.q, b.length ≤ 300)
    (hx : Byts w Ax nx xs) (hxc : Ax = none → cx = 0) (hxn : nx ≤ 300) (hwh : what = 2) :
    Calls Try.prog 48 #[.agg #[.int .i64 ep, .slice A n c], .agg #[.int .i64 ep', .slice A' n' c'], .agg #[.int .i64 what, .int .i64 i, .slice Ax nx cx]] w (GivesStep w X (l.take i).1) := by
  obtain ⟨W5, hW5, B1, B2, B3, B4, B5, hs5, E5⟩ := five_blocks w (.cells #[.int .i64 ep, .slice A n c] 40) (.cells #[.int .i64 ep', .slice A' n' c'] 37) (.cells #[.int .i64 what, .int .i64 i, .slice Ax nx cx] 72) (.cells #[.int .i64 0, .slice none 0 0] 40) (.cells #[.int .i64 0, .slice none 0 0] 37)
  have HX := Lib.hid hX
  have HE5 := Lib.hid E5
  have HLx := Lib.hid ((h.fresh with5_of).up E5)
  have HL' := Lib.hid ((h'.fresh with5_of).up E5)
  have HBX := Lib.hid (ArrR.up hx E5)
  have HF := Lib.hid (few_of hf)
  have H2 := Lib.hid B2
  have H3 := Lib.hid B3
  have H4 := Lib.hid B4
  have H5 := Lib.hid B5
  have HS5 := Lib.hid hs5
  have hX5 : Hid (∀ b, With5 X w.heap.size b → b < W5.heap.size) := Lib.hid (with5_lt hX (by omega))
  clear h h' hX hx hf B1 B2 B3 B4 B5 E5 hs5
  subst hwh
  go_enter Try.func48, Try.ntmps48
  go_wp2_with fail
  rw [← hW5]
  clear hW5
  refine (linkDrop_any (With5 X w.heap.size) _ _ _ _ l i _ HLx.out hX5.out).mono ?_
  rintro e w1 ⟨e1, A1, n1, c1, rfl, hl1, hb1⟩
  have HL1 := Lib.hid hl1
  have HE1 := Lib.hid hb1
  have hz1 : w.heap.size + 5 ≤ w1.heap.size := by have := hb1.size; have := HS5.out; omega
  have HT1 := Lib.hid (heap_alloc_new w1 (.cells #[.int .i64 e1, .slice A1 n1 c1] 40))
  have hk2 := (blk_rules ((HE1.out.block (by have := HS5.out; omega)).trans H2.out)).1
  have hk3 := (blk_rules ((HE1.out.block (by have := HS5.out; omega)).trans H3.out)).1
  have hq1 : w.heap.size + 1 < w1.heap.size := by omega
  have hq2 : w.heap.size + 1 + 1 < w1.heap.size := by omega
  have HX1 : Hid (∀ b, With5 X w.heap.size b → b < (w1.alloc (.cells #[.int .i64 e1, .slice A1 n1 c1] 40)).heap.size) := Lib.hid fun b hb => by have := hX5.out b hb; have := HE1.out.size; rw [World.size_alloc]; omega
  have HN1 := Lib.hid (Ext.new w1 (.cells #[.int .i64 e1, .slice A1 n1 c1] 40))
  clear hl1 hb1
  go_wp2_with fail
  refine (refDrop12_any (With5 X w.heap.size) _ _ _ _ l i _ ((HL'.out.up HE1.out).up HN1.out) HX1.out).mono ?_
  rintro e w2 ⟨e2, A2, n2, c2, rfl, hl2, hb2⟩
  have HL2 := Lib.hid hl2
  have HE2 := Lib.hid hb2
  obtain ⟨W, hW⟩ : ∃ W, W = w2.alloc (.cells #[.int .i64 e2, .slice A2 n2 c2] 37) := ⟨_, rfl⟩
  have EW2 : Ext w2 W := by rw [hW]; exact Ext.new _ _
  have EW1 := HN1.out.trans (HE2.out.trans EW2)
  have EW5 := HE1.out.trans EW1
  have HEW : Hid (Ext w W) := Lib.hid (HE5.out.trans EW5)
  have LA := Lib.hid (HL1.out.up EW1)
  have LB := Lib.hid (HL2.out.up EW2)
  have T1 := ((HE2.out.trans EW2).block (by simp)).trans HT1.out
  have T2 : W.heap[w2.heap.size]? = some (.cells #[.int .i64 e2, .slice A2 n2 c2] 37 (0, 0)) := by rw [hW]; exact heap_alloc_new _ _
  have R4 := (EW5.block (show w.heap.size + 1 + 1 + 1 < W5.heap.size by have := HS5.out; omega)).trans H4.out
  have R5 := (EW5.block (show w.heap.size + 1 + 1 + 1 + 1 < W5.heap.size by have := HS5.out; omega)).trans H5.out
  have hz2 : w1.heap.size < w2.heap.size := Nat.lt_of_lt_of_le (by simp) hb2.size
  have hz3 : w2.heap.size < W.heap.size := by rw [hW]; simp
  have HR4 := Lib.hid R4
  have HR5 := Lib.hid R5
  have HW := Lib.hid hW
  clear hl2 hb2 hW EW2 EW1 EW5 hk2 hk3 hq1 hq2
  go_wp2_with fail
  rw [← HW.out]
  obtain ⟨t1, -⟩ := blk_rules T1
  obtain ⟨t2, -⟩ := blk_rules T2
  obtain ⟨r4, r4f⟩ := blk_rules R4
  obtain ⟨r5, r5f⟩ := blk_rules R5
  clear T1 T2 R4 R5 HT1 HW
  go_region
  all_goals
    go_wp2_with fail
    refine bodyPost_ret (v := .tuple #[.agg #[.int .i64 e1, .slice A1 n1 c1], .agg #[.int .i64 e2, .slice A2 n2 c2], .bool true]) (by simp [results, Try.results48, go_sem, r4, r5]) rfl ⟨e1, A1, n1, c1, e2, A2, n2, c2, rfl, ?_, ?_, ?_⟩
    · exact (((((LA.out.set (.inr ⟨by omega, by omega⟩) _).set (.inr ⟨by omega, by omega⟩) _).set (.inr ⟨by omega, by omega⟩) _).set (.inr ⟨by omega, by omega⟩) _).up (Ext.refl _).drew).fresh fun b hb => .inl (.inl hb)
    · exact (((((LB.out.set (.inr ⟨by omega, by omega⟩) _).set (.inr ⟨by omega, by omega⟩) _).set (.inr ⟨by omega, by omega⟩) _).set (.inr ⟨by omega, by omega⟩) _).up (Ext.refl _).drew).fresh fun b hb => .inl (.inl hb)
    · exact ((((HEW.out.set (show w.heap.size ≤ w.heap.size + 1 + 1 + 1 by omega) _).set (show w.heap.size ≤ w.heap.size + 1 + 1 + 1 by omega) _).set (show w.heap.size ≤ w.heap.size + 1 + 1 + 1 + 1 by omega) _).set (show w.heap.size ≤ w.heap.size + 1 + 1 + 1 + 1 by omega) _).drew
set_option maxRecDepth 100000 in
set_option maxHeartbeats 3200000 in
theorem step_again (X : Nat → Prop) (ep ep' : Int) (A A' Ax : Option Addr) (n c n' c' nx cx : Nat) (l : Lk) (what i : Int) (xs : List UInt8) (w : World) (h : LkR w X ep A n c l) (h' : LkR w X ep' A' n' c' l) (hX : ∀ b, X b → b < w.heap.size) (hf : ∀ b ∈ l.sane.q, b.length ≤ 300)
    (hx : Byts w Ax nx xs) (hxc : Ax = none → cx = 0) (hxn : nx ≤ 300) (hwh : what = 3) :
    Calls Try.prog 48 #[.agg #[.int .i64 ep, .slice A n c], .agg #[.int .i64 ep', .slice A' n' c'], .agg #[.int .i64 what, .int .i64 i, .slice Ax nx cx]] w (GivesStep w X (l.again i).1) := by
  obtain ⟨W5, hW5, B1, B2, B3, B4, B5, hs5, E5⟩ := five_blocks w (.cells #[.int .i64 ep, .slice A n c] 40) (.cells #[.int .i64 ep', .slice A' n' c'] 37) (.cells #[.int .i64 what, .int .i64 i, .slice Ax nx cx] 72) (.cells #[.int .i64 0, .slice none 0 0] 40) (.cells #[.int .i64 0, .slice none 0 0] 37)
  have HX := Lib.hid hX
  have HE5 := Lib.hid E5
  have HLx := Lib.hid ((h.fresh with5_of).up E5)
  have HL' := Lib.hid ((h'.fresh with5_of).up E5)
  have HBX := Lib.hid (ArrR.up hx E5)
  have HF := Lib.hid (few_of hf)
  have H2 := Lib.hid B2
  have H3 := Lib.hid B3
  have H4 := Lib.hid B4
  have H5 := Lib.hid B5
  have HS5 := Lib.hid hs5
  have hX5 : Hid (∀ b, With5 X w.heap.size b → b < W5.heap.size) := Lib.hid (with5_lt hX (by omega))
  clear h h' hX hx hf B1 B2 B3 B4 B5 E5 hs5
  subst hwh
  go_enter Try.func48, Try.ntmps48
  go_wp2_with fail
  rw [← hW5]
  clear hW5
  refine (linkAgain_any (With5 X w.heap.size) _ _ _ _ l i _ HLx.out hX5.out HF.out).mono ?_
  rintro e w1 ⟨e1, A1, n1, c1, rfl, hl1, hb1⟩
  have HL1 := Lib.hid hl1
  have HE1 := Lib.hid hb1
  have hz1 : w.heap.size + 5 ≤ w1.heap.size := by have := hb1.size; have := HS5.out; omega
  have HT1 := Lib.hid (heap_alloc_new w1 (.cells #[.int .i64 e1, .slice A1 n1 c1] 40))
  have hk2 := (blk_rules ((HE1.out.block (by have := HS5.out; omega)).trans H2.out)).1
  have hk3 := (blk_rules ((HE1.out.block (by have := HS5.out; omega)).trans H3.out)).1
  have hq1 : w.heap.size + 1 < w1.heap.size := by omega
  have hq2 : w.heap.size + 1 + 1 < w1.heap.size := by omega
  have HX1 : Hid (∀ b, With5 X w.heap.size b → b < (w1.alloc (.cells #[.int .i64 e1, .slice A1 n1 c1] 40)).heap.size) := Lib.hid fun b hb => by have := hX5.out b hb; have := HE1.out.size; rw [World.size_alloc]; omega
  have HN1 := Lib.hid (Ext.new w1 (.cells #[.int .i64 e1, .slice A1 n1 c1] 40))
  clear hl1 hb1
  go_wp2_with fail
  refine (refAgain12_any (With5 X w.heap.size) _ _ _ _ l i _ ((HL'.out.up HE1.out).up HN1.out) HX1.out HF.out).mono ?_
  rintro e w2 ⟨e2, A2, n2, c2, rfl, hl2, hb2⟩
  have HL2 := Lib.hid hl2
  have HE2 := Lib.hid hb2
  obtain ⟨W, hW⟩ : ∃ W, W = w2.alloc (.cells #[.int .i64 e2, .slice A2 n2 c2] 37) := ⟨_, rfl⟩
  have EW2 : Ext w2 W := by rw [hW]; exact Ext.new _ _
  have EW1 := HN1.out.trans (HE2.out.trans EW2)
  have EW5 := HE1.out.trans EW1
  have HEW : Hid (Ext w W) := Lib.hid (HE5.out.trans EW5)
  have LA := Lib.hid (HL1.out.up EW1)
  have LB := Lib.hid (HL2.out.up EW2)
  have T1 := ((HE2.out.trans EW2).block (by simp)).trans HT1.out
  have T2 : W.heap[w2.heap.size]? = some (.cells #[.int .i64 e2, .slice A2 n2 c2] 37 (0, 0)) := by rw [hW]; exact heap_alloc_new _ _
  have R4 := (EW5.block (show w.heap.size + 1 + 1 + 1 < W5.heap.size by have := HS5.out; omega)).trans H4.out
  have R5 := (EW5.block (show w.heap.size + 1 + 1 + 1 + 1 < W5.heap.size by have := HS5.out; omega)).trans H5.out
  have hz2 : w1.heap.size < w2.heap.size := Nat.lt_of_lt_of_le (by simp) hb2.size
  have hz3 : w2.heap.size < W.heap.size := by rw [hW]; simp
  have HR4 := Lib.hid R4
  have HR5 := Lib.hid R5
  have HW := Lib.hid hW
  clear hl2 hb2 hW EW2 EW1 EW5 hk2 hk3 hq1 hq2
  go_wp2_with fail
  rw [← HW.out]
  obtain ⟨t1, -⟩ := blk_rules T1
  obtain ⟨t2, -⟩ := blk_rules T2
  obtain ⟨r4, r4f⟩ := blk_rules R4
  obtain ⟨r5, r5f⟩ := blk_rules R5
  clear T1 T2 R4 R5 HT1 HW
  go_region
  all_goals
    go_wp2_with fail
    refine bodyPost_ret (v := .tuple #[.agg #[.int .i64 e1, .slice A1 n1 c1], .agg #[.int .i64 e2, .slice A2 n2 c2], .bool true]) (by simp [results, Try.results48, go_sem, r4, r5]) rfl ⟨e1, A1, n1, c1, e2, A2, n2, c2, rfl, ?_, ?_, ?_⟩
    · exact (((((LA.out.set (.inr ⟨by omega, by omega⟩) _).set (.inr ⟨by omega, by omega⟩) _).set (.inr ⟨by omega, by omega⟩) _).set (.inr ⟨by omega, by omega⟩) _).up (Ext.refl _).drew).fresh fun b hb => .inl (.inl hb)
    · exact (((((LB.out.set (.inr ⟨by omega, by omega⟩) _).set (.inr ⟨by omega, by omega⟩) _).set (.inr ⟨by omega, by omega⟩) _).set (.inr ⟨by omega, by omega⟩) _).up (Ext.refl _).drew).fresh fun b hb => .inl (.inl hb)
    · exact ((((HEW.out.set (show w.heap.size ≤ w.heap.size + 1 + 1 + 1 by omega) _).set (show w.heap.size ≤ w.heap.size + 1 + 1 + 1 by omega) _).set (show w.heap.size ≤ w.heap.size + 1 + 1 + 1 + 1 by omega) _).set (show w.heap.size ≤ w.heap.size + 1 + 1 + 1 + 1 by omega) _).drew
set_option maxRecDepth 100000 in
set_option maxHeartbeats 3200000 in
theorem step_late (X : Nat → Prop) (ep ep' : Int) (A A' Ax : Option Addr) (n c n' c' nx cx : Nat) (l : Lk) (what i : Int) (xs : List UInt8) (w : World) (h : LkR w X ep A n c l) (h' : LkR w X ep' A' n' c' l) (hX : ∀ b, X b → b < w.heap.size) (hf : ∀ b ∈ l.sane.q, b.length ≤ 300)
    (hx : Byts w Ax nx xs) (hxc : Ax = none → cx = 0) (hxn : nx ≤ 300) (hwh : what = 4) :
    Calls Try.prog 48 #[.agg #[.int .i64 ep, .slice A n c], .agg #[.int .i64 ep', .slice A' n' c'], .agg #[.int .i64 what, .int .i64 i, .slice Ax nx cx]] w (GivesStep w X (l.late i).1) := by
  obtain ⟨W5, hW5, B1, B2, B3, B4, B5, hs5, E5⟩ := five_blocks w (.cells #[.int .i64 ep, .slice A n c] 40) (.cells #[.int .i64 ep', .slice A' n' c'] 37) (.cells #[.int .i64 what, .int .i64 i, .slice Ax nx cx] 72) (.cells #[.int .i64 0, .slice none 0 0] 40) (.cells #[.int .i64 0, .slice none 0 0] 37)
  have HX := Lib.hid hX
  have HE5 := Lib.hid E5
  have HLx := Lib.hid ((h.fresh with5_of).up E5)
  have HL' := Lib.hid ((h'.fresh with5_of).up E5)
  have HBX := Lib.hid (ArrR.up hx E5)
  have HF := Lib.hid (few_of hf)
  have H2 := Lib.hid B2
  have H3 := Lib.hid B3
  have H4 := Lib.hid B4
  have H5 := Lib.hid B5
  have HS5 := Lib.hid hs5
  have hX5 : Hid (∀ b, With5 X w.heap.size b → b < W5.heap.size) := Lib.hid (with5_lt hX (by omega))
  clear h h' hX hx hf B1 B2 B3 B4 B5 E5 hs5
  subst hwh
  go_enter Try.func48, Try.ntmps48
  go_wp2_with fail
  rw [← hW5]
  clear hW5
  refine (linkLate_any (With5 X w.heap.size) _ _ _ _ l i _ HLx.out hX5.out HF.out).mono ?_
  rintro e w1 ⟨e1, A1, n1, c1, rfl, hl1, hb1⟩
  have HL1 := Lib.hid hl1
  have HE1 := Lib.hid hb1
  have hz1 : w.heap.size + 5 ≤ w1.heap.size := by have := hb1.size; have := HS5.out; omega
  have HT1 := Lib.hid (heap_alloc_new w1 (.cells #[.int .i64 e1, .slice A1 n1 c1] 40))
  have hk2 := (blk_rules ((HE1.out.block (by have := HS5.out; omega)).trans H2.out)).1
  have hk3 := (blk_rules ((HE1.out.block (by have := HS5.out; omega)).trans H3.out)).1
  have hq1 : w.heap.size + 1 < w1.heap.size := by omega
  have hq2 : w.heap.size + 1 + 1 < w1.heap.size := by omega
  have HX1 : Hid (∀ b, With5 X w.heap.size b → b < (w1.alloc (.cells #[.int .i64 e1, .slice A1 n1 c1] 40)).heap.size) := Lib.hid fun b hb => by have := hX5.out b hb; have := HE1.out.size; rw [World.size_alloc]; omega
  have HN1 := Lib.hid (Ext.new w1 (.cells #[.int .i64 e1, .slice A1 n1 c1] 40))
  clear hl1 hb1
  go_wp2_with fail
  refine (refLate12_any (With5 X w.heap.size) _ _ _ _ l i _ ((HL'.out.up HE1.out).up HN1.out) HX1.out HF.out).mono ?_
  rintro e w2 ⟨e2, A2, n2, c2, rfl, hl2, hb2⟩
  have HL2 := Lib.hid hl2
  have HE2 := Lib.hid hb2
  obtain ⟨W, hW⟩ : ∃ W, W = w2.alloc (.cells #[.int .i64 e2, .slice A2 n2 c2] 37) := ⟨_, rfl⟩
  have EW2 : Ext w2 W := by rw [hW]; exact Ext.new _ _
  have EW1 := HN1.out.trans (HE2.out.trans EW2)
  have EW5 := HE1.out.trans EW1
  have HEW : Hid (Ext w W) := Lib.hid (HE5.out.trans EW5)
  have LA := Lib.hid (HL1.out.up EW1)
  have LB := Lib.hid (HL2.out.up EW2)
  have T1 := ((HE2.out.trans EW2).block (by simp)).trans HT1.out
  have T2 : W.heap[w2.heap.size]? = some (.cells #[.int .i64 e2, .slice A2 n2 c2] 37 (0, 0)) := by rw [hW]; exact heap_alloc_new _ _
  have R4 := (EW5.block (show w.heap.size + 1 + 1 + 1 < W5.heap.size by have := HS5.out; omega)).trans H4.out
  have R5 := (EW5.block (show w.heap.size + 1 + 1 + 1 + 1 < W5.heap.size by have := HS5.out; omega)).trans H5.out
  have hz2 : w1.heap.size < w2.heap.size := Nat.lt_of_lt_of_le (by simp) hb2.size
  have hz3 : w2.heap.size < W.heap.size := by rw [hW]; simp
  have HR4 := Lib.hid R4
  have HR5 := Lib.hid R5
  have HW := Lib.hid hW
  clear hl2 hb2 hW EW2 EW1 EW5 hk2 hk3 hq1 hq2
  go_wp2_with fail
  rw [← HW.out]
  obtain ⟨t1, -⟩ := blk_rules T1
  obtain ⟨t2, -⟩ := blk_rules T2
  obtain ⟨r4, r4f⟩ := blk_rules R4
  obtain ⟨r5, r5f⟩ := blk_rules R5
  clear T1 T2 R4 R5 HT1 HW
  go_region
  all_goals
    go_wp2_with fail
    refine bodyPost_ret (v := .tuple #[.agg #[.int .i64 e1, .slice A1 n1 c1], .agg #[.int .i64 e2, .slice A2 n2 c2], .bool true]) (by simp [results, Try.results48, go_sem, r4, r5]) rfl ⟨e1, A1, n1, c1, e2, A2, n2, c2, rfl, ?_, ?_, ?_⟩
    · exact (((((LA.out.set (.inr ⟨by omega, by omega⟩) _).set (.inr ⟨by omega, by omega⟩) _).set (.inr ⟨by omega, by omega⟩) _).set (.inr ⟨by omega, by omega⟩) _).up (Ext.refl _).drew).fresh fun b hb => .inl (.inl hb)
    · exact (((((LB.out.set (.inr ⟨by omega, by omega⟩) _).set (.inr ⟨by omega, by omega⟩) _).set (.inr ⟨by omega, by omega⟩) _).set (.inr ⟨by omega, by omega⟩) _).up (Ext.refl _).drew).fresh fun b hb => .inl (.inl hb)
    · exact ((((HEW.out.set (show w.heap.size ≤ w.heap.size + 1 + 1 + 1 by omega) _).set (show w.heap.size ≤ w.heap.size + 1 + 1 + 1 by omega) _).set (show w.heap.size ≤ w.heap.size + 1 + 1 + 1 + 1 by omega) _).set (show w.heap.size ≤ w.heap.size + 1 + 1 + 1 + 1 by omega) _).drew
set_option maxRecDepth 100000 in
set_option maxHeartbeats 3200000 in
theorem step_reset (X : Nat → Prop) (ep ep' : Int) (A A' Ax : Option Addr) (n c n' c' nx cx : Nat) (l : Lk) (what i : Int) (xs : List UInt8) (w : World) (h : LkR w X ep A n c l) (h' : LkR w X ep' A' n' c' l) (hX : ∀ b, X b → b < w.heap.size) (hf : ∀ b ∈ l.sane.q, b.length ≤ 300)
    (hx : Byts w Ax nx xs) (hxc : Ax = none → cx = 0) (hxn : nx ≤ 300) (h0 : what ≠ 0) (h1 : what ≠ 1) (h2 : what ≠ 2) (h3 : what ≠ 3) (h4 : what ≠ 4) :
    Calls Try.prog 48 #[.agg #[.int .i64 ep, .slice A n c], .agg #[.int .i64 ep', .slice A' n' c'], .agg #[.int .i64 what, .int .i64 i, .slice Ax nx cx]] w (GivesStep w X l.reset.1) := by
  obtain ⟨W5, hW5, B1, B2, B3, B4, B5, hs5, E5⟩ := five_blocks w (.cells #[.int .i64 ep, .slice A n c] 40) (.cells #[.int .i64 ep', .slice A' n' c'] 37) (.cells #[.int .i64 what, .int .i64 i, .slice Ax nx cx] 72) (.cells #[.int .i64 0, .slice none 0 0] 40) (.cells #[.int .i64 0, .slice none 0 0] 37)
  have HX := Lib.hid hX
  have HE5 := Lib.hid E5
  have HLx := Lib.hid ((h.fresh with5_of).up E5)
  have HL' := Lib.hid ((h'.fresh with5_of).up E5)
  have HBX := Lib.hid (ArrR.up hx E5)
  have HF := Lib.hid (few_of hf)
  have H2 := Lib.hid B2
  have H3 := Lib.hid B3
  have H4 := Lib.hid B4
  have H5 := Lib.hid B5
  have HS5 := Lib.hid hs5
  have hX5 : Hid (∀ b, With5 X w.heap.size b → b < W5.heap.size) := Lib.hid (with5_lt hX (by omega))
  clear h h' hX hx hf B1 B2 B3 B4 B5 E5 hs5
  have b0 : (what == 0) = false := by simpa using h0
  have b1 : (what == 1) = false := by simpa using h1
  have b2 : (what == 2) = false := by simpa using h2
  have b3 : (what == 3) = false := by simpa using h3
  have b4 : (what == 4) = false := by simpa using h4
  clear h0 h1 h2 h3 h4
  go_enter Try.func48, Try.ntmps48
  go_wp2_with fail
  rw [← hW5]
  clear hW5
  refine (linkReset_any (With5 X w.heap.size) _ _ _ _ l _ HLx.out hX5.out).mono ?_
  rintro e w1 ⟨e1, A1, n1, c1, rfl, hl1, hb1⟩
  have HL1 := Lib.hid hl1
  have HE1 := Lib.hid hb1
  have hz1 : w.heap.size + 5 ≤ w1.heap.size := by have := hb1.size; have := HS5.out; omega
  have HT1 := Lib.hid (heap_alloc_new w1 (.cells #[.int .i64 e1, .slice A1 n1 c1] 40))
  have hk2 := (blk_rules ((HE1.out.block (by have := HS5.out; omega)).trans H2.out)).1
  have hk3 := (blk_rules ((HE1.out.block (by have := HS5.out; omega)).trans H3.out)).1
  have hq1 : w.heap.size + 1 < w1.heap.size := by omega
  have hq2 : w.heap.size + 1 + 1 < w1.heap.size := by omega
  have HX1 : Hid (∀ b, With5 X w.heap.size b → b < (w1.alloc (.cells #[.int .i64 e1, .slice A1 n1 c1] 40)).heap.size) := Lib.hid fun b hb => by have := hX5.out b hb; have := HE1.out.size; rw [World.size_alloc]; omega
  have HN1 := Lib.hid (Ext.new w1 (.cells #[.int .i64 e1, .slice A1 n1 c1] 40))
  clear hl1 hb1
  go_wp2_with fail
  refine (refReset12_any (With5 X w.heap.size) _ _ _ _ l _ ((HL'.out.up HE1.out).up HN1.out) HX1.out).mono ?_
  rintro e w2 ⟨e2, A2, n2, c2, rfl, hl2, hb2⟩
  have HL2 := Lib.hid hl2
  have HE2 := Lib.hid hb2
  obtain ⟨W, hW⟩ : ∃ W, W = w2.alloc (.cells #[.int .i64 e2, .slice A2 n2 c2] 37) := ⟨_, rfl⟩
  have EW2 : Ext w2 W := by rw [hW]; exact Ext.new _ _
  have EW1 := HN1.out.trans (HE2.out.trans EW2)
  have EW5 := HE1.out.trans EW1
  have HEW : Hid (Ext w W) := Lib.hid (HE5.out.trans EW5)
  have LA := Lib.hid (HL1.out.up EW1)
  have LB := Lib.hid (HL2.out.up EW2)
  have T1 := ((HE2.out.trans EW2).block (by simp)).trans HT1.out
  have T2 : W.heap[w2.heap.size]? = some (.cells #[.int .i64 e2, .slice A2 n2 c2] 37 (0, 0)) := by rw [hW]; exact heap_alloc_new _ _
  have R4 := (EW5.block (show w.heap.size + 1 + 1 + 1 < W5.heap.size by have := HS5.out; omega)).trans H4.out
  have R5 := (EW5.block (show w.heap.size + 1 + 1 + 1 + 1 < W5.heap.size by have := HS5.out; omega)).trans H5.out
  have hz2 : w1.heap.size < w2.heap.size := Nat.lt_of_lt_of_le (by simp) hb2.size
  have hz3 : w2.heap.size < W.heap.size := by rw [hW]; simp
  have HR4 := Lib.hid R4
  have HR5 := Lib.hid R5
  have HW := Lib.hid hW
  clear hl2 hb2 hW EW2 EW1 EW5 hk2 hk3 hq1 hq2
  go_wp2_with fail
  rw [← HW.out]
  obtain ⟨t1, -⟩ := blk_rules T1
  obtain ⟨t2, -⟩ := blk_rules T2
  obtain ⟨r4, r4f⟩ := blk_rules R4
  obtain ⟨r5, r5f⟩ := blk_rules R5
  clear T1 T2 R4 R5 HT1 HW
  go_region
  all_goals
    go_wp2_with fail
    refine bodyPost_ret (v := .tuple #[.agg #[.int .i64 e1, .slice A1 n1 c1], .agg #[.int .i64 e2, .slice A2 n2 c2], .bool true]) (by simp [results, Try.results48, go_sem, r4, r5]) rfl ⟨e1, A1, n1, c1, e2, A2, n2, c2, rfl, ?_, ?_, ?_⟩
    · exact (((((LA.out.set (.inr ⟨by omega, by omega⟩) _).set (.inr ⟨by omega, by omega⟩) _).set (.inr ⟨by omega, by omega⟩) _).set (.inr ⟨by omega, by omega⟩) _).up (Ext.refl _).drew).fresh fun b hb => .inl (.inl hb)
    · exact (((((LB.out.set (.inr ⟨by omega, by omega⟩) _).set (.inr ⟨by omega, by omega⟩) _).set (.inr ⟨by omega, by omega⟩) _).set (.inr ⟨by omega, by omega⟩) _).up (Ext.refl _).drew).fresh fun b hb => .inl (.inl hb)
    · exact ((((HEW.out.set (show w.heap.size ≤ w.heap.size + 1 + 1 + 1 by omega) _).set (show w.heap.size ≤ w.heap.size + 1 + 1 + 1 by omega) _).set (show w.heap.size ≤ w.heap.size + 1 + 1 + 1 + 1 by omega) _).set (show w.heap.size ≤ w.heap.size + 1 + 1 + 1 + 1 by omega) _).drew
theorem steps_send {l : Lk} (h : l.ok = true) (hf : ∀ x ∈ l.q, x.length ≤ 300) {b : List UInt8} (hb : b.length ≤ 300) (t : List UInt8) : ∃ l2 er, l.send b = (l2, er) ∧ l2.ok = true ∧ (∀ x ∈ l2.q, x.length ≤ 300) ∧
    ((er = 0 ∧ cntQ l2.q t = cntQ l.q t + if (b == t) = true then 1 else 0) ∨ (er = 8 ∧ cntQ l2.q t = cntQ l.q t)) := by
  rcases send_cases h b with ⟨hn, e⟩ | ⟨hn, e⟩
  · refine ⟨_, _, e, ?_, ?_, .inl ⟨rfl, ?_⟩⟩
    · unfold Lk.ok okL at h ⊢; simp at h ⊢; omega
    · intro x hx; simp at hx; rcases hx with hx | rfl
      · exact hf x hx
      · exact hb
    · rw [cntQ_append, cntQ_one]
  · exact ⟨_, _, e, h, hf, .inr ⟨rfl, rfl⟩⟩
theorem steps_take2 {l : Lk} (h : l.ok = true) (hf : ∀ x ∈ l.q, x.length ≤ 300) (i : Int) : ∃ l2 b er, l.take i = (l2, b, er) ∧ l2.ok = true ∧ (∀ x ∈ l2.q, x.length ≤ 300) ∧ l2.q.length = l.q.length - 1 := by
  rcases Nat.eq_zero_or_pos l.q.length with h0 | h0
  · exact ⟨_, _, _, take_none h h0 i, h, hf, by omega⟩
  · obtain ⟨k, x, hk, hx, ht, _⟩ := take_some h h0 i
    refine ⟨_, _, _, ht, cut_ok h hk, ?_, cut_len hk⟩
    intro y hy
    simp only [List.mem_append] at hy
    rcases hy with hy | hy
    · exact hf y (List.mem_of_mem_take hy)
    · exact hf y (List.mem_of_mem_drop hy)
theorem steps_again {l : Lk} (h : l.ok = true) (hf : ∀ x ∈ l.q, x.length ≤ 300) (i : Int) : ∃ l2 er, l.again i = (l2, er) ∧ l2.ok = true ∧ (∀ x ∈ l2.q, x.length ≤ 300) ∧
    ((er = 0 ∧ l2.q.length = l.q.length + 1) ∨ (er ≠ 0 ∧ l2.q.length = l.q.length)) := by
  rcases Nat.eq_zero_or_pos l.q.length with h0 | h0
  · exact ⟨_, _, again_none h h0 i, h, hf, .inr ⟨by decide, rfl⟩⟩
  · obtain ⟨k, x, hk, hx, _, ha⟩ := take_some h h0 i
    have hxm := List.mem_of_getElem? hx
    rcases send_cases h x with ⟨hn, e⟩ | ⟨hn, e⟩
    · refine ⟨_, _, ha.trans e, ?_, ?_, .inl ⟨rfl, by simp⟩⟩
      · unfold Lk.ok okL at h ⊢; simp at h ⊢; omega
      · intro y hy; simp at hy; rcases hy with hy | rfl
        · exact hf y hy
        · exact hf y hxm
    · exact ⟨_, _, ha.trans e, h, hf, .inr ⟨by decide, rfl⟩⟩
theorem steps_late {l : Lk} (h : l.ok = true) (hf : ∀ x ∈ l.q, x.length ≤ 300) (i : Int) (t : List UInt8) : ∃ l2 er, l.late i = (l2, er) ∧ l2.ok = true ∧ (∀ x ∈ l2.q, x.length ≤ 300) ∧
    l2.q.length = l.q.length ∧ cntQ l2.q t = cntQ l.q t := by
  rcases Nat.eq_zero_or_pos l.q.length with h0 | h0
  · exact ⟨_, _, late_none h h0 i, h, hf, rfl, rfl⟩
  · obtain ⟨k, x, hk, hx, ht, _⟩ := take_some h h0 i
    have hc := cut_ok h hk
    have hl := cut_len hk
    refine ⟨_, _, late_some h hk ht, ?_, ?_, ?_, ?_⟩
    · unfold Lk.ok okL at hc ⊢
      have := ok_len h
      simp only [List.length_append, List.length_singleton] at hc hl ⊢
      simp at hc ⊢; omega
    · intro y hy
      simp only [List.mem_append, List.mem_singleton] at hy
      rcases hy with (hy | hy) | rfl
      · exact hf y (List.mem_of_mem_take hy)
      · exact hf y (List.mem_of_mem_drop hy)
      · exact hf y (List.mem_of_getElem? hx)
    · simp only [List.length_append, List.length_singleton] at hl ⊢; omega
    · show cntQ ((l.q.take k ++ l.q.drop (k + 1)) ++ [x]) t = _
      rw [cntQ_append, cntQ_one, cut_cnt hx t]
theorem steps_reset {l : Lk} (h : l.ok = true) (hf : ∀ x ∈ l.q, x.length ≤ 300) (t : List UInt8) : ∃ l2 er, l.reset = (l2, er) ∧ l2.ok = true ∧ (∀ x ∈ l2.q, x.length ≤ 300) ∧
    ((er = 0 ∧ cntQ l2.q t = 0) ∨ (er = 14 ∧ cntQ l2.q t = cntQ l.q t)) := by
  rcases reset_cases h with ⟨_, e⟩ | ⟨e, hok⟩
  · exact ⟨_, _, e, h, hf, .inr ⟨rfl, rfl⟩⟩
  · exact ⟨_, _, e, hok, by simp, .inl ⟨rfl, rfl⟩⟩
theorem Lk.sane_ok (l : Lk) : l.sane.ok = true := by
  by_cases h : l.ok = true
  · rw [Lk.sane_of h]; exact h
  · have e : l.sane = ⟨0, []⟩ := by unfold Lk.sane; rw [if_neg h]
    rw [e]; rfl
theorem Lk.sane_take (l : Lk) (i : Int) : l.sane.take i = l.take i := by unfold Lk.take; rw [Lk.sane_sane]
theorem Lk.sane_again (l : Lk) (i : Int) : l.sane.again i = l.again i := by unfold Lk.again; rw [Lk.sane_sane]
theorem Lk.sane_late (l : Lk) (i : Int) : l.sane.late i = l.late i := by unfold Lk.late; rw [Lk.sane_take]
theorem Lk.sane_reset (l : Lk) : l.sane.reset = l.reset := by unfold Lk.reset; rw [Lk.sane_sane]
theorem step_any (X : Nat → Prop) (ep ep' : Int) (A A' Ax : Option Addr) (n c n' c' nx cx : Nat) (l : Lk) (what i : Int) (xs : List UInt8) (w : World) (h : LkR w X ep A n c l) (h' : LkR w X ep' A' n' c' l) (hX : ∀ b, X b → b < w.heap.size) (hf : ∀ b ∈ l.sane.q, b.length ≤ 300)
    (hx : Byts w Ax nx xs) (hxc : Ax = none → cx = 0) (hxn : nx ≤ 300) : ∃ l2 : Lk, l2.ok = true ∧ (∀ b ∈ l2.q, b.length ≤ 300) ∧
    Calls Try.prog 48 #[.agg #[.int .i64 ep, .slice A n c], .agg #[.int .i64 ep', .slice A' n' c'], .agg #[.int .i64 what, .int .i64 i, .slice Ax nx cx]] w (GivesStep w X l2) := by
  have hk := l.sane_ok
  by_cases h0 : what = 0
  · obtain ⟨l2, er, e, h1, h2, _⟩ := steps_send hk hf (b := xs) (by rw [hx.len]; exact hxn) []
    rw [Lk.sane_send] at e
    have := step_send X ep ep' A A' Ax n c n' c' nx cx l what i xs w h h' hX hf hx hxc hxn h0
    rw [e] at this
    exact ⟨l2, h1, h2, this⟩
  by_cases h1 : what = 1
  · obtain ⟨l2, b, er, e, h3, h4, _⟩ := steps_take2 hk hf i
    rw [Lk.sane_take] at e
    have := step_take X ep ep' A A' Ax n c n' c' nx cx l what i xs w h h' hX hf hx hxc hxn h1
    rw [e] at this
    exact ⟨l2, h3, h4, this⟩
  by_cases h2 : what = 2
  · obtain ⟨l2, b, er, e, h3, h4, _⟩ := steps_take2 hk hf i
    rw [Lk.sane_take] at e
    have := step_drop X ep ep' A A' Ax n c n' c' nx cx l what i xs w h h' hX hf hx hxc hxn h2
    rw [e] at this
    exact ⟨l2, h3, h4, this⟩
  by_cases h3 : what = 3
  · obtain ⟨l2, er, e, h5, h6, _⟩ := steps_again hk hf i
    rw [Lk.sane_again] at e
    have := step_again X ep ep' A A' Ax n c n' c' nx cx l what i xs w h h' hX hf hx hxc hxn h3
    rw [e] at this
    exact ⟨l2, h5, h6, this⟩
  by_cases h4 : what = 4
  · obtain ⟨l2, er, e, h5, h6, _⟩ := steps_late hk hf i []
    rw [Lk.sane_late] at e
    have := step_late X ep ep' A A' Ax n c n' c' nx cx l what i xs w h h' hX hf hx hxc hxn h4
    rw [e] at this
    exact ⟨l2, h5, h6, this⟩
  obtain ⟨l2, er, e, h5, h6, _⟩ := steps_reset hk hf []
  rw [Lk.sane_reset] at e
  have := step_reset X ep ep' A A' Ax n c n' c' nx cx l what i xs w h h' hX hf hx hxc hxn h0 h1 h2 h3 h4
  rw [e] at this
  exact ⟨l2, h5, h6, this⟩
end Go.Proofs.Ytjomoannlpadnaa
