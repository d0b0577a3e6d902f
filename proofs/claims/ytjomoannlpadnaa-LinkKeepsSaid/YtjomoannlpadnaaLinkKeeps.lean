/- The law LinkKeeps: its walk. -/
import Derived.Test.YtjomoannlpadnaaLinkPlain
import Derived.Test.YtjomoannlpadnaaLinkOrder
import Derived.Test.YtjomoannlpadnaaLinkAct
import Derived.Test.YtjomoannlpadnaaRegion
namespace Go.Proofs.Ytjomoannlpadnaa
open Go.RowKit Go.Sort
attribute [local go_sem ↓] run_max2 run_min2
attribute [local go_sem ↓] Go.wp_at_zero Go.wp_at_succ

set_option maxRecDepth 100000 in
set_option maxHeartbeats 400000 in
theorem linkKeeps_few (ep : Int) (A Aa Ab : Option Addr) (n c na ca nb cb : Nat) (l : Lk) (w : World) (h : LkR w noX ep A n c l) (hm : n ≤ 9223372036854775807) (hf : fewB l.q = false) :
    Calls Try.prog 15 #[.agg #[.int .i64 ep, .slice A n c], .slice Aa na ca, .slice Ab nb cb] w fun e w' => e = .returned (.bool true) ∧ Ext w w' := by
  have H := Lib.hid h
  clear h
  go_enter Try.func15, Try.ntmps15
  go_wp2_with fail
  refine (awake12 _).mono ?_
  rintro e w1 ⟨rfl, hb1⟩
  obtain ⟨x0, x1, x2⟩ := box1 hb1
  have E1 := (Ext.new w _).trans hb1
  go_wp2_with fail
  refine (few12_any noX _ _ _ _ l.q _ (H.out.2.1.up E1) hm).mono ?_
  rintro e w2 ⟨rfl, hb2⟩
  go_wp2_with fail
  go_ret
  exact ⟨rfl, E1.trans hb2⟩
set_option maxRecDepth 100000 in
set_option maxHeartbeats 400000 in
theorem linkKeeps_many (ep : Int) (A Aa Ab : Option Addr) (n c na ca nb cb : Nat) (l : Lk) (w : World) (h : LkR w noX ep A n c l) (hm : n ≤ 9223372036854775807) (hf : fewB l.q = true) (hb : 60 < na) :
    Calls Try.prog 15 #[.agg #[.int .i64 ep, .slice A n c], .slice Aa na ca, .slice Ab nb cb] w fun e w' => e = .returned (.bool true) ∧ Ext w w' := by
  have H := Lib.hid h
  clear h
  go_enter Try.func15, Try.ntmps15
  go_wp2_with fail
  refine (awake12 _).mono ?_
  rintro e w1 ⟨rfl, hb1⟩
  obtain ⟨x0, x1, x2⟩ := box1 hb1
  have E1 := (Ext.new w _).trans hb1
  go_wp2_with fail
  refine (few12_any noX _ _ _ _ l.q _ (H.out.2.1.up E1) hm).mono ?_
  rintro e w2 ⟨rfl, hb2⟩
  rw [hf]
  go_wp2_with fail
  go_ret
  exact ⟨rfl, E1.trans hb2⟩
set_option maxRecDepth 100000 in
set_option maxHeartbeats 400000 in
theorem linkKeeps_sane (ep : Int) (A Aa Ab : Option Addr) (n c na ca nb cb : Nat) (l : Lk) (w : World) (h : LkR w noX ep A n c l) (hm : n ≤ 9223372036854775807) (hf : fewB l.q = true) (hb : na ≤ 60) (hk : okL ep n = false ∨ 300 < nb) :
    Calls Try.prog 15 #[.agg #[.int .i64 ep, .slice A n c], .slice Aa na ca, .slice Ab nb cb] w fun e w' => e = .returned (.bool true) ∧ Ext w w' := by
  have H := Lib.hid h
  clear h
  go_enter Try.func15, Try.ntmps15
  go_wp2_with fail
  refine (awake12 _).mono ?_
  rintro e w1 ⟨rfl, hb1⟩
  obtain ⟨x0, x1, x2⟩ := box1 hb1
  have E1 := (Ext.new w _).trans hb1
  go_wp2_with fail
  refine (few12_any noX _ _ _ _ l.q _ (H.out.2.1.up E1) hm).mono ?_
  rintro e w2 ⟨rfl, hb2⟩
  rw [hf]
  obtain ⟨c2, f2⟩ := bcell hb2
  have hcmp : ¬ (60 : Int) < na := by omega
  go_wp2_with fail
  refine (ours_any _ _ _ _ _).mono ?_
  rintro e w3 ⟨rfl, hb3⟩
  go_wp2_with fail
  refine (linkSane_any _ _ _ _ _).mono ?_
  rintro e w4 ⟨rfl, hb4⟩
  rcases hk with hk | hk
  · rw [hk]
    go_wp2_with fail
    go_ret
    exact ⟨rfl, ((E1.trans hb2).trans hb3).trans hb4⟩
  · have hcmp2 : (300 : Int) < nb := by omega
    cases hok : okL ep n <;>
    · go_wp2_with fail
      go_ret
      exact ⟨rfl, ((E1.trans hb2).trans hb3).trans hb4⟩
theorem keeps_send {l : Lk} (h : l.ok = true) (hf : ∀ x ∈ l.q, x.length ≤ 300) {b : List UInt8} (hb : b.length ≤ 300) (t : List UInt8) : ∃ l2 er, l.send b = (l2, er) ∧ l2.ok = true ∧ (∀ x ∈ l2.q, x.length ≤ 300) ∧
    ((er = 0 ∧ cntQ l2.q t = cntQ l.q t + if (b == t) = true then 1 else 0) ∨ (er = 8 ∧ cntQ l2.q t = cntQ l.q t)) := by
  rcases send_cases h b with ⟨hn, e⟩ | ⟨hn, e⟩
  · refine ⟨_, _, e, ?_, ?_, .inl ⟨rfl, ?_⟩⟩
    · unfold Lk.ok okL at h ⊢; simp at h ⊢; omega
    · intro x hx; simp at hx; rcases hx with hx | rfl
      · exact hf x hx
      · exact hb
    · rw [cntQ_append, cntQ_one]
  · exact ⟨_, _, e, h, hf, .inr ⟨rfl, rfl⟩⟩
theorem keeps_take {l : Lk} (h : l.ok = true) (hf : ∀ x ∈ l.q, x.length ≤ 300) (i : Int) (t : List UInt8) : ∃ l2 b er, l.take i = (l2, b, er) ∧ l2.ok = true ∧ (∀ x ∈ l2.q, x.length ≤ 300) ∧
    ((er = 0 ∧ cntQ l.q t = cntQ l2.q t + if (b == t) = true then 1 else 0) ∨ (er = 10 ∧ cntQ l2.q t = cntQ l.q t)) := by
  rcases Nat.eq_zero_or_pos l.q.length with h0 | h0
  · exact ⟨_, _, _, take_none h h0 i, h, hf, .inr ⟨rfl, rfl⟩⟩
  · obtain ⟨k, x, hk, hx, ht, _⟩ := take_some h h0 i
    refine ⟨_, _, _, ht, cut_ok h hk, ?_, .inl ⟨rfl, cut_cnt hx t⟩⟩
    intro y hy
    simp only [List.mem_append] at hy
    rcases hy with hy | hy
    · exact hf y (List.mem_of_mem_take hy)
    · exact hf y (List.mem_of_mem_drop hy)
theorem keeps_take2 {l : Lk} (h : l.ok = true) (hf : ∀ x ∈ l.q, x.length ≤ 300) (i : Int) : ∃ l2 b er, l.take i = (l2, b, er) ∧ l2.ok = true ∧ (∀ x ∈ l2.q, x.length ≤ 300) ∧ l2.q.length = l.q.length - 1 := by
  rcases Nat.eq_zero_or_pos l.q.length with h0 | h0
  · exact ⟨_, _, _, take_none h h0 i, h, hf, by omega⟩
  · obtain ⟨k, x, hk, hx, ht, _⟩ := take_some h h0 i
    refine ⟨_, _, _, ht, cut_ok h hk, ?_, cut_len hk⟩
    intro y hy
    simp only [List.mem_append] at hy
    rcases hy with hy | hy
    · exact hf y (List.mem_of_mem_take hy)
    · exact hf y (List.mem_of_mem_drop hy)
theorem wrap_zero_add (k : Nat) (h : k ≤ 1000000) : IntKind.i64.wrap (IntKind.i64.wrap 0 + (k : Int)) = (k : Int) := by
  rw [IntWalk.i64_in 0 (by omega), Int.zero_add, IntWalk.i64_in _ (by omega)]
theorem keeps_again {l : Lk} (h : l.ok = true) (hf : ∀ x ∈ l.q, x.length ≤ 300) (i : Int) : ∃ l2 er, l.again i = (l2, er) ∧ l2.ok = true ∧ (∀ x ∈ l2.q, x.length ≤ 300) ∧
    ((er = 0 ∧ l2.q.length = l.q.length + 1) ∨ (er ≠ 0 ∧ l2.q.length = l.q.length)) := by
  rcases Nat.eq_zero_or_pos l.q.length with h0 | h0
  · exact ⟨_, _, again_none h h0 i, h, hf, .inr ⟨by decide, rfl⟩⟩
  · obtain ⟨k, x, hk, hx, _, ha⟩ := take_some h h0 i
    have hxm := List.mem_of_getElem? hx
    rcases send_cases h x with ⟨hn, e⟩ | ⟨hn, e⟩
    · refine ⟨_, _, ha.trans e, ?_, ?_, .inl ⟨rfl, by simp⟩⟩
      · unfold Lk.ok okL at h ⊢; simp at h ⊢; omega
      · intro y hy; simp at hy; rcases hy with hy | rfl
        · exact hf y hy
        · exact hf y hxm
    · exact ⟨_, _, ha.trans e, h, hf, .inr ⟨by decide, rfl⟩⟩
theorem keeps_late {l : Lk} (h : l.ok = true) (hf : ∀ x ∈ l.q, x.length ≤ 300) (i : Int) (t : List UInt8) : ∃ l2 er, l.late i = (l2, er) ∧ l2.ok = true ∧ (∀ x ∈ l2.q, x.length ≤ 300) ∧
    l2.q.length = l.q.length ∧ cntQ l2.q t = cntQ l.q t := by
  rcases Nat.eq_zero_or_pos l.q.length with h0 | h0
  · exact ⟨_, _, late_none h h0 i, h, hf, rfl, rfl⟩
  · obtain ⟨k, x, hk, hx, ht, _⟩ := take_some h h0 i
    have hc := cut_ok h hk
    have hl := cut_len hk
    refine ⟨_, _, late_some h hk ht, ?_, ?_, ?_, ?_⟩
    · unfold Lk.ok okL at hc ⊢
      have := ok_len h
      simp only [List.length_append, List.length_singleton] at hc hl ⊢
      simp at hc ⊢; omega
    · intro y hy
      simp only [List.mem_append, List.mem_singleton] at hy
      rcases hy with (hy | hy) | rfl
      · exact hf y (List.mem_of_mem_take hy)
      · exact hf y (List.mem_of_mem_drop hy)
      · exact hf y (List.mem_of_getElem? hx)
    · simp only [List.length_append, List.length_singleton] at hl ⊢; omega
    · show cntQ ((l.q.take k ++ l.q.drop (k + 1)) ++ [x]) t = _
      rw [cntQ_append, cntQ_one, cut_cnt hx t]
theorem keeps_reset {l : Lk} (h : l.ok = true) (hf : ∀ x ∈ l.q, x.length ≤ 300) (t : List UInt8) : ∃ l2 er, l.reset = (l2, er) ∧ l2.ok = true ∧ (∀ x ∈ l2.q, x.length ≤ 300) ∧
    ((er = 0 ∧ cntQ l2.q t = 0) ∨ (er = 14 ∧ cntQ l2.q t = cntQ l.q t)) := by
  rcases reset_cases h with ⟨_, e⟩ | ⟨e, hok⟩
  · exact ⟨_, _, e, h, hf, .inr ⟨rfl, rfl⟩⟩
  · exact ⟨_, _, e, hok, by simp, .inl ⟨rfl, rfl⟩⟩
theorem box_store0 {w w7 : World} {g : Nat} {e' e2 : Int} {A' A2 : Option Addr} {n' c' n2 c2 : Nat} {l2 : Lk} {t : TypeId} (hg : w.heap.size ≤ g) (hz : g < w7.heap.size) (hB : w7.heap[g]? = some (.cells #[.int .i64 e', .slice A' n' c'] t (0, 0)))
    (hL : LkR w7 (OffBox g) e2 A2 n2 c2 l2) (hE : Ext w w7) : LkR ((w7.setCell ⟨g, 0, none⟩ (.int .i64 e2)).setCell ⟨g, 1, none⟩ (.slice A2 n2 c2)) (OffBox g) e2 A2 n2 c2 l2 ∧
    ((w7.setCell ⟨g, 0, none⟩ (.int .i64 e2)).setCell ⟨g, 1, none⟩ (.slice A2 n2 c2)).heap[g]? = some (.cells #[.int .i64 e2, .slice A2 n2 c2] t (0, 0)) ∧
    Ext w ((w7.setCell ⟨g, 0, none⟩ (.int .i64 e2)).setCell ⟨g, 1, none⟩ (.slice A2 n2 c2)) ∧ g < ((w7.setCell ⟨g, 0, none⟩ (.int .i64 e2)).setCell ⟨g, 1, none⟩ (.slice A2 n2 c2)).heap.size := by
  have hz2 : g < ((w7.setCell ⟨g, 0, none⟩ (.int .i64 e2)).setCell ⟨g, 1, none⟩ (.slice A2 n2 c2)).heap.size := by simpa [World.setCell] using hz
  exact ⟨(hL.set rfl _).set rfl _, blk_set (blk_set hB _) _, (hE.set hg _).set hg _, hz2⟩
theorem conv_b {w : World} {A : Option Addr} {n : Nat} {bs : List UInt8} (h : Byts w A n bs) (c : Nat) : (convert 42 9 (.slice A n c)).run Try.prog w = .ok (.string (bstr bs)) w :=
  run_conv Try.underlying42 Try.underlying5 Try.underlying9 h c
/-- what a store of a link into the box leaves -/
theorem box_store {w w7 : World} {g : Nat} {e' e2 : Int} {A' A2 : Option Addr} {n' c' n2 c2 : Nat} {l2 : Lk} {t : TypeId} (hg : w.heap.size ≤ g) (hz : g < w7.heap.size) (hB : w7.heap[g]? = some (.cells #[.int .i64 e', .slice A' n' c'] t (0, 0)))
    (hL : LkR w7 (OffBox g) e2 A2 n2 c2 l2) (hE : Ext w w7) (o : Obj) : LkR (((w7.setCell ⟨g, 0, none⟩ (.int .i64 e2)).setCell ⟨g, 1, none⟩ (.slice A2 n2 c2)).alloc o) (OffBox g) e2 A2 n2 c2 l2 ∧
    (((w7.setCell ⟨g, 0, none⟩ (.int .i64 e2)).setCell ⟨g, 1, none⟩ (.slice A2 n2 c2)).alloc o).heap[g]? = some (.cells #[.int .i64 e2, .slice A2 n2 c2] t (0, 0)) ∧
    Ext w (((w7.setCell ⟨g, 0, none⟩ (.int .i64 e2)).setCell ⟨g, 1, none⟩ (.slice A2 n2 c2)).alloc o) ∧ g < (((w7.setCell ⟨g, 0, none⟩ (.int .i64 e2)).setCell ⟨g, 1, none⟩ (.slice A2 n2 c2)).alloc o).heap.size := by
  have hz2 : g < ((w7.setCell ⟨g, 0, none⟩ (.int .i64 e2)).setCell ⟨g, 1, none⟩ (.slice A2 n2 c2)).heap.size := by simpa [World.setCell] using hz
  refine ⟨((hL.set rfl _).set rfl _).up (Ext.new _ _), ((Ext.new _ _).block hz2).trans (blk_set (blk_set hB _) _), ((hE.set hg _).set hg _).alloc _, ?_⟩
  rw [World.size_alloc]; omega
set_option maxRecDepth 100000 in
set_option maxHeartbeats 20000000 in
theorem linkKeeps_main (ep : Int) (A Aa Ab : Option Addr) (n c na ca nb cb : Nat) (l : Lk) (ys : List Ac) (bs : List UInt8) (w : World) (h : LkR w noX ep A n c l) (hm : n ≤ 9223372036854775807) (hf : fewB l.q = true) (hb : na ≤ 60) (hk : okL ep n = true) (hnb : nb ≤ 300) (hA : ArrR w 3 (ActR w) Aa na ys) (hB : Byts w Ab nb bs) :
    Calls Try.prog 15 #[.agg #[.int .i64 ep, .slice A n c], .slice Aa na ca, .slice Ab nb cb] w fun e w' => e = .returned (.bool true) ∧ Ext w w' := by
  have hok : l.ok = true := by unfold Lk.ok; rw [h.1, h.len]; exact hk
  have HO := Lib.hid hok
  have H := Lib.hid h
  have HA := Lib.hid hA
  have HB := Lib.hid hB
  clear h hok hA hB
  have hcmp : ¬ (60 : Int) < na := by omega
  have hcmp2 : ¬ (300 : Int) < nb := by omega
  go_enter Try.func15, Try.ntmps15
  go_wp2_with fail
  refine (awake12 _).mono ?_
  rintro e w1 ⟨rfl, hb1⟩
  obtain ⟨x0, x1, x2⟩ := box1 hb1
  have k0 := Lib.hid (box1b hb1).1
  have E1 := Lib.hid ((Ext.new w _).trans hb1)
  clear hb1
  go_wp2_with fail
  refine (few12_any noX _ _ _ _ l.q _ (H.out.2.1.up E1.out) hm).mono ?_
  rintro e w2 ⟨rfl, hb2⟩
  obtain ⟨c2, f2⟩ := bcell hb2
  rw [hf]
  go_wp2_with fail
  refine (ours_any _ _ _ _ _).mono ?_
  rintro e w3 ⟨rfl, hb3⟩
  go_wp2_with fail
  refine (linkSane_any _ _ _ _ _).mono ?_
  rintro e w4 ⟨rfl, hb4⟩
  have E4' := Lib.hid ((hb2.trans hb3).trans hb4)
  clear c2 f2 hb2 hb3 hb4 x0 x1
  obtain ⟨y0, -⟩ := blk_rules ((E4'.out.block x2).trans k0.out)
  rw [hk]
  go_wp2_with fail
  refine (ours_any _ _ _ _ _).mono ?_
  rintro e w5 ⟨rfl, hb5⟩
  have E5' := Lib.hid (E4'.out.trans hb5)
  have x3 := Nat.lt_of_lt_of_le x2 E5'.out.size
  clear hb5 y0
  have EwE5 := Lib.hid (E1.out.trans E5'.out)
  have E6 := Lib.hid (EwE5.out.alloc (.cells #[.int .i64 ep, .slice A n c] 40))
  go_wp2_with fail
  refine (count12_any noX _ _ _ _ _ _ l.q bs _ (H.out.2.1.up E6.out) (ArrR.up HB.out E6.out) hm).mono ?_
  rintro e w6 ⟨rfl, hb6⟩
  have B6 := Lib.hid ((Ext.block hb6 (b := w5.heap.size) (by simp)).trans (heap_alloc_new w5 (.cells #[.int .i64 ep, .slice A n c] 40)))
  have EW6 := Lib.hid (E6.out.trans hb6)
  have hz6 : w5.heap.size < w6.heap.size := Nat.lt_of_lt_of_le (by simp) hb6.size
  have LK6 : Hid (LkR w6 (OffBox w5.heap.size) ep A n c l) := Lib.hid ((H.out.fresh (offbox_of EwE5.out.size)).up EW6.out)
  have HL6 : Hid (∀ b ∈ l.q, b.length ≤ 300) := Lib.hid (fewB_len hf).2
  clear hb6
  go_wp2_with fail
  go_loopw [9, 10] (fun t i wr => ∃ (j : Nat) (l' : Lk) (e' : Int) (A' : Option Addr) (n' c' : Nat), j ≤ na ∧ i = .int .i64 j ∧ t = .int .i64 (cntQ l'.q bs : Nat) ∧ Hid (l'.ok = true) ∧ Hid (∀ b ∈ l'.q, b.length ≤ 300) ∧
    Hid (wr.heap[w5.heap.size]? = some (.cells #[.int .i64 e', .slice A' n' c'] 40 (0, 0))) ∧ Hid (LkR wr (OffBox w5.heap.size) e' A' n' c' l') ∧ Hid (Ext w wr) ∧ w5.heap.size < wr.heap.size) (fun _ i _ => na - (intOf i).toNat)
  case atStart => exact ⟨0, l, ep, A, n, c, Nat.zero_le _, rfl, rfl, HO, HL6, B6, LK6, EW6, hz6⟩
  case round =>
    obtain ⟨j, l', e', A', n', c', hj, rfl, rfl, HO', HL', B', LK', EW', hz'⟩ := hrel
    by_cases hlt : j < na
    · obtain ⟨b, o, y, cs, rfl, hb0, hyj, hcs, hR, hcells⟩ := HA.out.at_ hlt
      obtain ⟨what, i, vb, xs⟩ := y
      obtain ⟨rfl, hbv⟩ := hR
      have c0 := (EW'.out.cell hb0).trans (hcells 0 _ rfl)
      have c1 := (EW'.out.cell hb0).trans (hcells 1 _ rfl)
      have c2 := (EW'.out.cell hb0).trans (hcells 2 _ rfl)
      simp only [Nat.add_zero] at c0
      obtain ⟨Ax, nx, cx, hv, hx1, hx2, hx3, -⟩ := hbv
      simp only at hv hx3 c0 c1 c2
      rw [hv] at c2
      have hxl := hx3.len
      have HX3 := Lib.hid hx3
      clear hcells hyj hcs hx3 hv
      by_cases hbig : 300 < nx
      · go_wp2_with fail
        go_ret
        exact ⟨rfl, EW'.out.alloc _⟩
      have EX := Lib.hid (EW'.out.alloc (.cells #[.int .i64 what, .int .i64 i, .slice Ax nx cx] 72))
      have LX := Lib.hid (LK'.out.up (Ext.new wr (.cells #[.int .i64 what, .int .i64 i, .slice Ax nx cx] 72)))
      have BX := Lib.hid (((Ext.new wr (.cells #[.int .i64 what, .int .i64 i, .slice Ax nx cx] 72)).block hz').trans B'.out)
      obtain ⟨y0, -⟩ := blk_rules B'.out
      have hbX : ∀ b, OffBox w5.heap.size b → b < (wr.alloc (.cells #[.int .i64 what, .int .i64 i, .slice Ax nx cx] 72)).heap.size := fun b hb => by have : b = w5.heap.size := hb; simp; omega
      have HbX := Lib.hid hbX
      clear hbX
      by_cases h0 : what = 0
      · as_aux_lemma =>
          subst h0
          obtain ⟨l2, er, hs, hok2, hfew2, hcase⟩ := keeps_send HO'.out HL'.out (b := xs) (by omega) bs
          have HOK2 := Lib.hid hok2
          have HF2 := Lib.hid hfew2
          clear hok2 hfew2
          go_wp2_with fail
          refine (linkSend_any (OffBox w5.heap.size) _ _ _ _ l' Ax nx cx xs _ LX.out HbX.out (ArrR.up HX3.out EX.out) hx1 (by omega)).mono ?_
          rintro e w7 ⟨e2, A2, n2, c2', rfl, hl2, hb7⟩
          rw [hs] at hl2 ⊢
          simp only at hl2 ⊢
          have XB := Lib.hid ((Ext.block hb7 (b := wr.heap.size) (by simp)).trans (heap_alloc_new wr (.cells #[.int .i64 0, .int .i64 i, .slice Ax nx cx] 72)))
          have AB := Lib.hid ((Ext.block hb7 (b := w5.heap.size) (by simp; omega)).trans BX.out)
          have hz7 : w5.heap.size < w7.heap.size := Nat.lt_of_lt_of_le (by simp; omega) hb7.size
          have hz7' : wr.heap.size < w7.heap.size := Nat.lt_of_lt_of_le (by simp) hb7.size
          have E8 := Lib.hid ((EX.out.trans hb7).alloc (.cells #[.int .i64 e2, .slice A2 n2 c2'] 40))
          have N8 := Lib.hid (Ext.new w7 (.cells #[.int .i64 e2, .slice A2 n2 c2'] 40))
          have MB := Lib.hid (heap_alloc_new w7 (.cells #[.int .i64 e2, .slice A2 n2 c2'] 40))
          have hn2 : n2 ≤ 32 := by rw [← hl2.len]; exact ok_len HOK2.out
          have E7 := Lib.hid (EX.out.trans hb7)
          have L7 := Lib.hid hl2
          obtain ⟨y1, -⟩ := blk_rules XB.out
          obtain ⟨y2, y2f⟩ := blk_rules AB.out
          have g1 := conv_b (ArrR.up HX3.out E8.out) cx
          have g2 := conv_b (ArrR.up HB.out E8.out) cb
          obtain ⟨k1, hk1⟩ : ∃ k, k = cntQ l'.q bs := ⟨_, rfl⟩
          obtain ⟨k2, hk2⟩ : ∃ k, k = cntQ l2.q bs := ⟨_, rfl⟩
          have hk1l : k1 ≤ 32 := by rw [hk1]; exact Nat.le_trans (cntQ_le _ _) (ok_len HO'.out)
          have hk2l : k2 ≤ 32 := by rw [hk2]; exact Nat.le_trans (cntQ_le _ _) (ok_len HOK2.out)
          rw [← hk1, ← hk2] at hcase
          rw [← hk1]
          have HK2 := Lib.hid hk2
          clear hb7 hl2 y0 hk1 hk2 hs
          rcases hcase with ⟨rfl, hcase⟩ | ⟨rfl, hcase⟩
          · by_cases hxb : xs = bs
            · have hxb2 := hxb.symm; subst hxb2; clear hxb
              have hk : k2 = k1 + 1 := by simpa using hcase
              have hne : ((k2 : Int) != (k1 : Int) + 1) = false := by rw [hk]; simp
              have HK := Lib.hid hk
              clear hk hcase
              go_wp2_with fail
              generalize hW : ((w7.setCell _ (Value.int IntKind.i64 e2)).setCell _ (Value.slice A2 n2 c2')).alloc _ = W
              obtain ⟨LW, BW, EW, hzW⟩ := box_store EwE5.out.size hz7 AB.out L7.out E7.out (.cells #[.int .i64 e2, .slice A2 n2 c2'] 40)
              rw [hW] at LW BW EW hzW
              clear hW y1 y2 y2f
              refine (count12_any (OffBox w5.heap.size) A2 Ab n2 c2' nb cb l2.q bs W LW.2.1 (ArrR.up HB.out EW) (by omega)).mono ?_
              rintro e w9 ⟨rfl, hb9⟩
              rw [← HK2.out]
              have L9 := Lib.hid (LW.up hb9)
              have B9 := Lib.hid ((hb9.block hzW).trans BW)
              have E9 := Lib.hid (EW.trans hb9)
              have hz9 := Nat.lt_of_lt_of_le hzW hb9.size
              clear LW BW EW hb9
              obtain ⟨y0, -⟩ := blk_rules B9.out
              have hge : ¬ (32 : Int) < n2 := by omega
              go_wp2_with fail
              go_roundw
              case rel => exact ⟨j + 1, l2, e2, A2, n2, c2', by omega, by go_num, by rw [← HK2.out, HK.out]; go_num, HOK2, HF2, B9, L9, E9, hz9⟩
              case measure => simp [intOf]; omega
            · have t1 := bstr_toList xs
              have t2 := bstr_toList bs
              have hh : (xs == bs) = false := by simpa using hxb
              have hk : k2 = k1 := by rw [hh] at hcase; simpa using hcase
              subst hk
              clear hcase
              go_wp2_with fail
              generalize hW : ((w7.setCell _ (Value.int IntKind.i64 e2)).setCell _ (Value.slice A2 n2 c2')).alloc _ = W
              obtain ⟨LW, BW, EW, hzW⟩ := box_store EwE5.out.size hz7 AB.out L7.out E7.out (.cells #[.int .i64 e2, .slice A2 n2 c2'] 40)
              rw [hW] at LW BW EW hzW
              clear hW y1 y2 y2f
              refine (count12_any (OffBox w5.heap.size) A2 Ab n2 c2' nb cb l2.q bs W LW.2.1 (ArrR.up HB.out EW) (by omega)).mono ?_
              rintro e w9 ⟨rfl, hb9⟩
              rw [← HK2.out]
              have L9 := Lib.hid (LW.up hb9)
              have B9 := Lib.hid ((hb9.block hzW).trans BW)
              have E9 := Lib.hid (EW.trans hb9)
              have hz9 := Nat.lt_of_lt_of_le hzW hb9.size
              clear LW BW EW hb9
              obtain ⟨y0, -⟩ := blk_rules B9.out
              have hge : ¬ (32 : Int) < n2 := by omega
              go_wp2_with fail
              go_roundw
              case rel => exact ⟨j + 1, l2, e2, A2, n2, c2', by omega, by go_num, by rw [← HK2.out], HOK2, HF2, B9, L9, E9, hz9⟩
              case measure => simp [intOf]; omega
          · subst hcase
            clear g1 g2
            have hne : ((k2 : Int) != (k2 : Int)) = false := by simp
            go_wp2_with fail
            generalize hW : ((w7.setCell _ (Value.int IntKind.i64 e2)).setCell _ (Value.slice A2 n2 c2')).alloc _ = W
            obtain ⟨LW, BW, EW, hzW⟩ := box_store EwE5.out.size hz7 AB.out L7.out E7.out (.cells #[.int .i64 e2, .slice A2 n2 c2'] 40)
            rw [hW] at LW BW EW hzW
            clear hW y1 y2 y2f
            refine (count12_any (OffBox w5.heap.size) A2 Ab n2 c2' nb cb l2.q bs W LW.2.1 (ArrR.up HB.out EW) (by omega)).mono ?_
            rintro e w9 ⟨rfl, hb9⟩
            rw [← HK2.out]
            have L9 := Lib.hid (LW.up hb9)
            have B9 := Lib.hid ((hb9.block hzW).trans BW)
            have E9 := Lib.hid (EW.trans hb9)
            have hz9 := Nat.lt_of_lt_of_le hzW hb9.size
            clear LW BW EW hb9
            obtain ⟨y0, -⟩ := blk_rules B9.out
            have hge : ¬ (32 : Int) < n2 := by omega
            go_wp2_with fail
            go_roundw
            case rel => exact ⟨j + 1, l2, e2, A2, n2, c2', by omega, by go_num, by rw [← HK2.out], HOK2, HF2, B9, L9, E9, hz9⟩
            case measure => simp [intOf]; omega
      by_cases h1 : what = 1
      · as_aux_lemma =>
          subst h1
          obtain ⟨l2, tb, er, hs, hok2, hfew2, hcase⟩ := keeps_take HO'.out HL'.out i bs
          have HOK2 := Lib.hid hok2
          have HF2 := Lib.hid hfew2
          clear hok2 hfew2
          go_wp2_with fail
          refine (linkTake_any (OffBox w5.heap.size) _ _ _ _ l' i _ LX.out HbX.out).mono ?_
          rintro e w7 ⟨e2, A2, n2, c2', At, nt, ct, rfl, hl2, hbt, hb7⟩
          rw [hs] at hl2 hbt ⊢
          simp only at hl2 hbt ⊢
          obtain ⟨_, _, _, q1, _, _, bt, _⟩ := hbt
          injection q1 with q1 q2 q3
          subst q1 q2 q3
          have XB := Lib.hid ((Ext.block hb7 (b := wr.heap.size) (by simp)).trans (heap_alloc_new wr (.cells #[.int .i64 1, .int .i64 i, .slice Ax nx cx] 72)))
          have AB := Lib.hid ((Ext.block hb7 (b := w5.heap.size) (by simp; omega)).trans BX.out)
          have hz7 : w5.heap.size < w7.heap.size := Nat.lt_of_lt_of_le (by simp; omega) hb7.size
          have hz7' : wr.heap.size < w7.heap.size := Nat.lt_of_lt_of_le (by simp) hb7.size
          have E8 := Lib.hid ((EX.out.trans hb7).alloc (.cells #[.int .i64 e2, .slice A2 n2 c2'] 40))
          have N8 := Lib.hid (Ext.new w7 (.cells #[.int .i64 e2, .slice A2 n2 c2'] 40))
          have MB := Lib.hid (heap_alloc_new w7 (.cells #[.int .i64 e2, .slice A2 n2 c2'] 40))
          have hn2 : n2 ≤ 32 := by rw [← hl2.len]; exact ok_len HOK2.out
          have E7 := Lib.hid (EX.out.trans hb7)
          have L7 := Lib.hid hl2
          obtain ⟨y1, -⟩ := blk_rules XB.out
          obtain ⟨y2, y2f⟩ := blk_rules AB.out
          have g1 := conv_b (ArrR.up bt N8.out) ct
          have g2 := conv_b (ArrR.up HB.out E8.out) cb
          clear bt
          obtain ⟨k1, hk1⟩ : ∃ k, k = cntQ l'.q bs := ⟨_, rfl⟩
          obtain ⟨k2, hk2⟩ : ∃ k, k = cntQ l2.q bs := ⟨_, rfl⟩
          have hk1l : k1 ≤ 32 := by rw [hk1]; exact Nat.le_trans (cntQ_le _ _) (ok_len HO'.out)
          have hk2l : k2 ≤ 32 := by rw [hk2]; exact Nat.le_trans (cntQ_le _ _) (ok_len HOK2.out)
          rw [← hk1, ← hk2] at hcase
          rw [← hk1]
          have HK2 := Lib.hid hk2
          clear hb7 hl2 y0 hk1 hk2 hs
          rcases hcase with ⟨rfl, hcase⟩ | ⟨rfl, hcase⟩
          · by_cases hxb : tb = bs
            · have hxb2 := hxb.symm; subst hxb2; clear hxb
              have hk : k1 = k2 + 1 := by simpa using hcase
              have hne : ((k2 : Int) != (k1 : Int) - 1) = false := by rw [hk]; simp
              have HK := Lib.hid hk
              clear hk hcase
              go_wp2_with fail
              generalize hW : ((w7.setCell _ (Value.int IntKind.i64 e2)).setCell _ (Value.slice A2 n2 c2')).alloc _ = W
              obtain ⟨LW, BW, EW, hzW⟩ := box_store EwE5.out.size hz7 AB.out L7.out E7.out (.cells #[.int .i64 e2, .slice A2 n2 c2'] 40)
              rw [hW] at LW BW EW hzW
              clear hW y1 y2 y2f
              refine (count12_any (OffBox w5.heap.size) A2 Ab n2 c2' nb cb l2.q bs W LW.2.1 (ArrR.up HB.out EW) (by omega)).mono ?_
              rintro e w9 ⟨rfl, hb9⟩
              rw [← HK2.out]
              have L9 := Lib.hid (LW.up hb9)
              have B9 := Lib.hid ((hb9.block hzW).trans BW)
              have E9 := Lib.hid (EW.trans hb9)
              have hz9 := Nat.lt_of_lt_of_le hzW hb9.size
              clear LW BW EW hb9
              obtain ⟨y0, -⟩ := blk_rules B9.out
              have hge : ¬ (32 : Int) < n2 := by omega
              go_wp2_with fail
              go_roundw
              case rel => exact ⟨j + 1, l2, e2, A2, n2, c2', by omega, by go_num, by rw [← HK2.out, HK.out]; go_num, HOK2, HF2, B9, L9, E9, hz9⟩
              case measure => simp [intOf]; omega
            · have t1 := bstr_toList tb
              have t2 := bstr_toList bs
              have hh : (tb == bs) = false := by simpa using hxb
              have hk : k2 = k1 := by rw [hh] at hcase; simpa using hcase.symm
              subst hk
              clear hcase
              go_wp2_with fail
              generalize hW : ((w7.setCell _ (Value.int IntKind.i64 e2)).setCell _ (Value.slice A2 n2 c2')).alloc _ = W
              obtain ⟨LW, BW, EW, hzW⟩ := box_store EwE5.out.size hz7 AB.out L7.out E7.out (.cells #[.int .i64 e2, .slice A2 n2 c2'] 40)
              rw [hW] at LW BW EW hzW
              clear hW y1 y2 y2f
              refine (count12_any (OffBox w5.heap.size) A2 Ab n2 c2' nb cb l2.q bs W LW.2.1 (ArrR.up HB.out EW) (by omega)).mono ?_
              rintro e w9 ⟨rfl, hb9⟩
              rw [← HK2.out]
              have L9 := Lib.hid (LW.up hb9)
              have B9 := Lib.hid ((hb9.block hzW).trans BW)
              have E9 := Lib.hid (EW.trans hb9)
              have hz9 := Nat.lt_of_lt_of_le hzW hb9.size
              clear LW BW EW hb9
              obtain ⟨y0, -⟩ := blk_rules B9.out
              have hge : ¬ (32 : Int) < n2 := by omega
              go_wp2_with fail
              go_roundw
              case rel => exact ⟨j + 1, l2, e2, A2, n2, c2', by omega, by go_num, by rw [← HK2.out], HOK2, HF2, B9, L9, E9, hz9⟩
              case measure => simp [intOf]; omega
          · subst hcase
            clear g1 g2
            have hne : ((k2 : Int) != (k2 : Int)) = false := by simp
            go_wp2_with fail
            generalize hW : ((w7.setCell _ (Value.int IntKind.i64 e2)).setCell _ (Value.slice A2 n2 c2')).alloc _ = W
            obtain ⟨LW, BW, EW, hzW⟩ := box_store EwE5.out.size hz7 AB.out L7.out E7.out (.cells #[.int .i64 e2, .slice A2 n2 c2'] 40)
            rw [hW] at LW BW EW hzW
            clear hW y1 y2 y2f
            refine (count12_any (OffBox w5.heap.size) A2 Ab n2 c2' nb cb l2.q bs W LW.2.1 (ArrR.up HB.out EW) (by omega)).mono ?_
            rintro e w9 ⟨rfl, hb9⟩
            rw [← HK2.out]
            have L9 := Lib.hid (LW.up hb9)
            have B9 := Lib.hid ((hb9.block hzW).trans BW)
            have E9 := Lib.hid (EW.trans hb9)
            have hz9 := Nat.lt_of_lt_of_le hzW hb9.size
            clear LW BW EW hb9
            obtain ⟨y0, -⟩ := blk_rules B9.out
            have hge : ¬ (32 : Int) < n2 := by omega
            go_wp2_with fail
            go_roundw
            case rel => exact ⟨j + 1, l2, e2, A2, n2, c2', by omega, by go_num, by rw [← HK2.out], HOK2, HF2, B9, L9, E9, hz9⟩
            case measure => simp [intOf]; omega
      by_cases h2 : what = 2
      · as_aux_lemma =>
          subst h2
          obtain ⟨l2, tb, er, hs, hok2, hfew2, hlen2⟩ := keeps_take2 HO'.out HL'.out i
          have HOK2 := Lib.hid hok2
          have HF2 := Lib.hid hfew2
          clear hok2 hfew2
          go_wp2_with fail
          refine (linkDrop_any (OffBox w5.heap.size) _ _ _ _ l' i _ LX.out HbX.out).mono ?_
          rintro e w7 ⟨e2, A2, n2, c2', rfl, hl2, hb7⟩
          rw [hs] at hl2 ⊢
          simp only at hl2 ⊢
          have XB := Lib.hid ((Ext.block hb7 (b := wr.heap.size) (by simp)).trans (heap_alloc_new wr (.cells #[.int .i64 2, .int .i64 i, .slice Ax nx cx] 72)))
          have AB := Lib.hid ((Ext.block hb7 (b := w5.heap.size) (by simp; omega)).trans BX.out)
          have hz7 : w5.heap.size < w7.heap.size := Nat.lt_of_lt_of_le (by simp; omega) hb7.size
          have hz7' : wr.heap.size < w7.heap.size := Nat.lt_of_lt_of_le (by simp) hb7.size
          have E8 := Lib.hid ((EX.out.trans hb7).alloc (.cells #[.int .i64 e2, .slice A2 n2 c2'] 40))
          have N8 := Lib.hid (Ext.new w7 (.cells #[.int .i64 e2, .slice A2 n2 c2'] 40))
          have MB := Lib.hid (heap_alloc_new w7 (.cells #[.int .i64 e2, .slice A2 n2 c2'] 40))
          have hn2 : n2 ≤ 32 := by rw [← hl2.len]; exact ok_len HOK2.out
          have E7 := Lib.hid (EX.out.trans hb7)
          have L7 := Lib.hid hl2
          obtain ⟨y1, -⟩ := blk_rules XB.out
          obtain ⟨y2, y2f⟩ := blk_rules AB.out
          obtain ⟨k1, hk1⟩ : ∃ k, k = cntQ l'.q bs := ⟨_, rfl⟩
          obtain ⟨k2, hk2⟩ : ∃ k, k = cntQ l2.q bs := ⟨_, rfl⟩
          have hk1l : k1 ≤ 32 := by rw [hk1]; exact Nat.le_trans (cntQ_le _ _) (ok_len HO'.out)
          have hk2l : k2 ≤ 32 := by rw [hk2]; exact Nat.le_trans (cntQ_le _ _) (ok_len HOK2.out)
          rw [← hk1]
          have HK2 := Lib.hid hk2
          have HK1 := Lib.hid hk1
          have HB7 := Lib.hid hb7
          clear hb7 hl2 y0 hk1 hk2 hs
          have hn' : n' ≤ 32 := by rw [← LK'.out.len]; exact ok_len HO'.out
          have hl' : l'.q.length = n' := LK'.out.len
          have hl2' : l2.q.length = n2 := L7.out.len
          obtain ⟨W, hW⟩ : ∃ W, W = w7.alloc (.cells #[.int .i64 e2, .slice A2 n2 c2'] 40) := ⟨_, rfl⟩
          have N8' : Ext w7 W := by rw [hW]; exact N8.out
          have LA : Hid (LkR W (OffBox w5.heap.size) e' A' n' c' l') := Lib.hid ((LX.out.up HB7.out).up N8')
          have LM : Hid (LkR W (OffBox w5.heap.size) e2 A2 n2 c2' l2) := Lib.hid (L7.out.up N8')
          have EW : Hid (Ext w W) := Lib.hid (E7.out.trans N8')
          have AW := Lib.hid ((N8'.block hz7).trans AB.out)
          have MW : Hid (W.heap[w7.heap.size]? = some (.cells #[.int .i64 e2, .slice A2 n2 c2'] 40 (0, 0))) := Lib.hid (by rw [hW]; exact MB.out)
          have zA := Nat.lt_of_lt_of_le hz7 N8'.size
          have zM : w7.heap.size < W.heap.size := by rw [hW]; simp
          have la : ∀ w', Ext W.drew w' → w'.cell? ⟨w5.heap.size, 1, none⟩ = some (.slice A' n' c') := fun w' hx => (((Ext.refl W).drew.trans hx).cell zA).trans ((blk_rules AW.out).1 1)
          have lb : ∀ w', Ext W.drew w' → w'.cell? ⟨w7.heap.size, 1, none⟩ = some (.slice A2 n2 c2') := fun w' hx => (((Ext.refl W).drew.trans hx).cell zM).trans ((blk_rules MW.out).1 1)
          clear y1 y2 y2f
          go_wp2_with fail
          rw [← hW]
          clear hW
          have hSw : Ext W.drew W.drew := Ext.refl _
          refine wpS_begin (Ext W.drew) (by kernel_rfl) ?_
          refine wpS_take 0 (v := ?_) hSw rfl (by kernel_rfl) (by kernel_rfl) (by kernel_rfl) (by rfl) (fun w' hin => ?_) ?_
          rotate_left
          · (try simp only [] at hin); go_simp <;> with_reducible rfl
          try simp only [Act.put, List.setIfInBounds_toArray, List.set_cons_zero, List.set_cons_succ]
          refine wpS_take 1 (v := ?_) hSw rfl (by kernel_rfl) (by kernel_rfl) (by kernel_rfl) (by rfl) (fun w' hin => ?_) ?_
          rotate_left
          · (try simp only [] at hin); go_simp <;> with_reducible rfl
          try simp only [Act.put, List.setIfInBounds_toArray, List.set_cons_zero, List.set_cons_succ]
          refine wpS_take 2 (v := ?_) hSw rfl (by kernel_rfl) (by kernel_rfl) (by kernel_rfl) (by rfl) (fun w' hin => ?_) ?_
          rotate_left
          · (try simp only [] at hin); go_simp <;> with_reducible rfl
          try simp only [Act.put, List.setIfInBounds_toArray, List.set_cons_zero, List.set_cons_succ]
          refine wpS_take 3 (v := ?_) hSw rfl (by kernel_rfl) (by kernel_rfl) (by kernel_rfl) (by rfl) (fun w' hin => ?_) ?_
          rotate_left
          · (try simp only [] at hin); go_simp <;> with_reducible rfl
          try simp only [Act.put, List.setIfInBounds_toArray, List.set_cons_zero, List.set_cons_succ]
          refine wpS_take 6 (v := ?_) hSw rfl (by kernel_rfl) (by kernel_rfl) (by kernel_rfl) (by rfl) (fun w' hin => ?_) ?_
          rotate_left
          · (try simp only [] at hin); go_simp <;> with_reducible rfl
          try simp only [Act.put, List.setIfInBounds_toArray, List.set_cons_zero, List.set_cons_succ]
          refine wpS_take 7 (v := ?_) hSw rfl (by kernel_rfl) (by kernel_rfl) (by kernel_rfl) (by rfl) (fun w' hin => ?_) ?_
          rotate_left
          · (try simp only [] at hin); go_simp <;> with_reducible rfl
          try simp only [Act.put, List.setIfInBounds_toArray, List.set_cons_zero, List.set_cons_succ]
          refine wpS_take 8 (v := ?_) hSw rfl (by kernel_rfl) (by kernel_rfl) (by kernel_rfl) (by rfl) (fun w' hin => ?_) ?_
          rotate_left
          · (try simp only [] at hin); go_simp <;> with_reducible rfl
          try simp only [Act.put, List.setIfInBounds_toArray, List.set_cons_zero, List.set_cons_succ]
          refine wpS_one 4 rfl (by kernel_rfl) (by rfl) (fun K hK => ?_)
          go_simp
          refine (count12_any (OffBox w5.heap.size) A' Ab n' c' nb cb l'.q bs _ (LA.out.2.1.up (Ext.refl W).drew) (ArrR.up HB.out (EW.out.trans (Ext.refl W).drew)) (by omega)).mono ?_
          rintro e w10 ⟨rfl, hb10⟩
          rw [← HK1.out]
          simp only []
          refine hK.out _ _ (Ext W.drew) (fun _ h => h) (hb10) (fun hSw => ?_)
          clear hK K
          try simp only [Act.put, List.setIfInBounds_toArray, List.set_cons_zero, List.set_cons_succ]
          refine wpS_take 5 (v := ?_) hSw rfl (by kernel_rfl) (by kernel_rfl) (by kernel_rfl) (by rfl) (fun w' hin => ?_) ?_
          rotate_left
          · (try simp only [] at hin); go_simp <;> with_reducible rfl
          try simp only [Act.put, List.setIfInBounds_toArray, List.set_cons_zero, List.set_cons_succ]
          refine wpS_one 9 rfl (by kernel_rfl) (by rfl) (fun K hK => ?_)
          go_simp
          refine (count12_any (OffBox w5.heap.size) A2 Ab n2 c2' nb cb l2.q bs _ (LM.out.2.1.up ((Ext.refl W).drew.trans hb10)) (ArrR.up HB.out (EW.out.trans ((Ext.refl W).drew.trans hb10))) (by omega)).mono ?_
          rintro e w11 ⟨rfl, hb11⟩
          rw [← HK2.out]
          simp only []
          refine hK.out _ _ (Ext W.drew) (fun _ h => h) (hb10.trans hb11) (fun hSw => ?_)
          clear hK K
          try simp only [Act.put, List.setIfInBounds_toArray, List.set_cons_zero, List.set_cons_succ]
          refine wpS_take 10 (v := ?_) hSw rfl (by kernel_rfl) (by kernel_rfl) (by kernel_rfl) (by rfl) (fun w' hin => ?_) ?_
          rotate_left
          · (try simp only [] at hin); go_simp <;> with_reducible rfl
          try simp only [Act.put, List.setIfInBounds_toArray, List.set_cons_zero, List.set_cons_succ]
          refine wpS_take 11 (v := ?_) hSw rfl (by kernel_rfl) (by kernel_rfl) (by kernel_rfl) (by rfl) (fun w' hin => ?_) ?_
          rotate_left
          · (try simp only [] at hin); go_simp <;> with_reducible rfl
          try simp only [Act.put, List.setIfInBounds_toArray, List.set_cons_zero, List.set_cons_succ]
          refine wpS_done (by kernel_rfl) ?_
          rw [wrap_zero_add k2 (by omega)]
          have E11 : Ext W w11 := ((Ext.refl W).drew.trans hb10).trans hb11
          have HZ := Nat.lt_of_lt_of_le zA E11.size
          have zM2 := Nat.lt_of_lt_of_le zM E11.size
          have AB2 : Hid (w11.heap[w5.heap.size]? = some (.cells #[.int .i64 e', .slice A' n' c'] 40 (0, 0))) := Lib.hid ((E11.block zA).trans AW.out)
          have MB2 := Lib.hid ((E11.block zM).trans MW.out)
          have L2 := Lib.hid (LM.out.up E11)
          have E2 := Lib.hid (EW.out.trans E11)
          obtain ⟨y2, y2f⟩ := blk_rules AB2.out
          obtain ⟨y3, -⟩ := blk_rules MB2.out
          clear la lb hSw E11 hb10 hb11 zA zM
          have hmx : ((n2 : Int) != max 0 ((n' : Int) - 1)) = false := by simp; omega
          go_wp2_with fail
          generalize hW2 : (w11.setCell _ (Value.int IntKind.i64 e2)).setCell _ (Value.slice A2 n2 c2') = W2
          obtain ⟨LW, BW, EW2, hzW⟩ := box_store0 EwE5.out.size HZ AB2.out L2.out E2.out
          rw [hW2] at LW BW EW2 hzW
          clear hW2 y2 y2f y3
          refine (count12_any (OffBox w5.heap.size) A2 Ab n2 c2' nb cb l2.q bs W2 LW.2.1 (ArrR.up HB.out EW2) (by omega)).mono ?_
          rintro e w12 ⟨rfl, hb12⟩
          rw [← HK2.out]
          have L9 := Lib.hid (LW.up hb12)
          have B9 := Lib.hid ((hb12.block hzW).trans BW)
          have E9 := Lib.hid (EW2.trans hb12)
          have hz9 := Nat.lt_of_lt_of_le hzW hb12.size
          clear LW BW EW2 hb12
          obtain ⟨y0, -⟩ := blk_rules B9.out
          have hge : ¬ (32 : Int) < n2 := by omega
          have hne : ((k2 : Int) != (k2 : Int)) = false := by simp
          go_wp2_with fail
          go_roundw
          case rel => exact ⟨j + 1, l2, e2, A2, n2, c2', by omega, by go_num, by rw [← HK2.out], HOK2, HF2, B9, L9, E9, hz9⟩
          case measure => simp [intOf]; omega
      by_cases h3 : what = 3
      · as_aux_lemma =>
          subst h3
          obtain ⟨l2, er, hs, hok2, hfew2, hcase⟩ := keeps_again HO'.out HL'.out i
          have HOK2 := Lib.hid hok2
          have HF2 := Lib.hid hfew2
          clear hok2 hfew2
          go_wp2_with fail
          refine (linkAgain_any (OffBox w5.heap.size) _ _ _ _ l' i _ LX.out HbX.out (by rw [Lk.sane_of HO'.out]; exact fun b hb => by have := HL'.out b hb; omega)).mono ?_
          rintro e w7 ⟨e2, A2, n2, c2', rfl, hl2, hb7⟩
          rw [hs] at hl2 ⊢
          simp only at hl2 ⊢
          have XB := Lib.hid ((Ext.block hb7 (b := wr.heap.size) (by simp)).trans (heap_alloc_new wr (.cells #[.int .i64 3, .int .i64 i, .slice Ax nx cx] 72)))
          have AB := Lib.hid ((Ext.block hb7 (b := w5.heap.size) (by simp; omega)).trans BX.out)
          have hz7 : w5.heap.size < w7.heap.size := Nat.lt_of_lt_of_le (by simp; omega) hb7.size
          have hz7' : wr.heap.size < w7.heap.size := Nat.lt_of_lt_of_le (by simp) hb7.size
          have E8 := Lib.hid ((EX.out.trans hb7).alloc (.cells #[.int .i64 e2, .slice A2 n2 c2'] 40))
          have N8 := Lib.hid (Ext.new w7 (.cells #[.int .i64 e2, .slice A2 n2 c2'] 40))
          have MB := Lib.hid (heap_alloc_new w7 (.cells #[.int .i64 e2, .slice A2 n2 c2'] 40))
          have hn2 : n2 ≤ 32 := by rw [← hl2.len]; exact ok_len HOK2.out
          have E7 := Lib.hid (EX.out.trans hb7)
          have L7 := Lib.hid hl2
          obtain ⟨y1, -⟩ := blk_rules XB.out
          obtain ⟨y2, y2f⟩ := blk_rules AB.out
          obtain ⟨k1, hk1⟩ : ∃ k, k = cntQ l'.q bs := ⟨_, rfl⟩
          obtain ⟨k2, hk2⟩ : ∃ k, k = cntQ l2.q bs := ⟨_, rfl⟩
          have hk1l : k1 ≤ 32 := by rw [hk1]; exact Nat.le_trans (cntQ_le _ _) (ok_len HO'.out)
          have hk2l : k2 ≤ 32 := by rw [hk2]; exact Nat.le_trans (cntQ_le _ _) (ok_len HOK2.out)
          rw [← hk1]
          have HK2 := Lib.hid hk2
          have HK1 := Lib.hid hk1
          have HB7 := Lib.hid hb7
          clear hb7 hl2 y0 hk1 hk2 hs
          have hn' : n' ≤ 32 := by rw [← LK'.out.len]; exact ok_len HO'.out
          have hl' : l'.q.length = n' := LK'.out.len
          have hl2' : l2.q.length = n2 := L7.out.len
          have hbb2 : ((n2 : Int) == (n' : Int) + 1) = ((er : Int) == 0) := by
            rcases hcase with ⟨h1, h2⟩ | ⟨h1, h2⟩
            · rw [show ((er : Int) == 0) = true from by simp [h1], beq_iff_eq]; omega
            · rw [show ((er : Int) == 0) = false from by simp [h1], beq_eq_false_iff_ne]; omega
          clear hcase
          obtain ⟨W, hW⟩ : ∃ W, W = w7.alloc (.cells #[.int .i64 e2, .slice A2 n2 c2'] 40) := ⟨_, rfl⟩
          have N8' : Ext w7 W := by rw [hW]; exact N8.out
          have LA : Hid (LkR W (OffBox w5.heap.size) e' A' n' c' l') := Lib.hid ((LX.out.up HB7.out).up N8')
          have LM : Hid (LkR W (OffBox w5.heap.size) e2 A2 n2 c2' l2) := Lib.hid (L7.out.up N8')
          have EW : Hid (Ext w W) := Lib.hid (E7.out.trans N8')
          have AW := Lib.hid ((N8'.block hz7).trans AB.out)
          have MW : Hid (W.heap[w7.heap.size]? = some (.cells #[.int .i64 e2, .slice A2 n2 c2'] 40 (0, 0))) := Lib.hid (by rw [hW]; exact MB.out)
          have zA := Nat.lt_of_lt_of_le hz7 N8'.size
          have zM : w7.heap.size < W.heap.size := by rw [hW]; simp
          have la : ∀ w', Ext W.drew w' → w'.cell? ⟨w5.heap.size, 1, none⟩ = some (.slice A' n' c') := fun w' hx => (((Ext.refl W).drew.trans hx).cell zA).trans ((blk_rules AW.out).1 1)
          have lb : ∀ w', Ext W.drew w' → w'.cell? ⟨w7.heap.size, 1, none⟩ = some (.slice A2 n2 c2') := fun w' hx => (((Ext.refl W).drew.trans hx).cell zM).trans ((blk_rules MW.out).1 1)
          go_wp2_with fail
          rw [← hW]
          clear hW
          have hSw : Ext W.drew W.drew := Ext.refl _
          refine wpS_begin (Ext W.drew) (by kernel_rfl) ?_
          refine wpS_take 0 (v := ?_) hSw rfl (by kernel_rfl) (by kernel_rfl) (by kernel_rfl) (by rfl) (fun w' hin => ?_) ?_
          rotate_left
          · (try simp only [] at hin); go_simp <;> with_reducible rfl
          try simp only [Act.put, List.setIfInBounds_toArray, List.set_cons_zero, List.set_cons_succ]
          refine wpS_take 1 (v := ?_) hSw rfl (by kernel_rfl) (by kernel_rfl) (by kernel_rfl) (by rfl) (fun w' hin => ?_) ?_
          rotate_left
          · (try simp only [] at hin); go_simp <;> with_reducible rfl
          try simp only [Act.put, List.setIfInBounds_toArray, List.set_cons_zero, List.set_cons_succ]
          refine wpS_take 2 (v := ?_) hSw rfl (by kernel_rfl) (by kernel_rfl) (by kernel_rfl) (by rfl) (fun w' hin => ?_) ?_
          rotate_left
          · (try simp only [] at hin); go_simp <;> with_reducible rfl
          try simp only [Act.put, List.setIfInBounds_toArray, List.set_cons_zero, List.set_cons_succ]
          refine wpS_take 3 (v := ?_) hSw rfl (by kernel_rfl) (by kernel_rfl) (by kernel_rfl) (by rfl) (fun w' hin => ?_) ?_
          rotate_left
          · (try simp only [] at hin); go_simp <;> with_reducible rfl
          try simp only [Act.put, List.setIfInBounds_toArray, List.set_cons_zero, List.set_cons_succ]
          refine wpS_take 6 (v := ?_) hSw rfl (by kernel_rfl) (by kernel_rfl) (by kernel_rfl) (by rfl) (fun w' hin => ?_) ?_
          rotate_left
          · (try simp only [] at hin); go_simp <;> with_reducible rfl
          try simp only [Act.put, List.setIfInBounds_toArray, List.set_cons_zero, List.set_cons_succ]
          refine wpS_take 7 (v := ?_) hSw rfl (by kernel_rfl) (by kernel_rfl) (by kernel_rfl) (by rfl) (fun w' hin => ?_) ?_
          rotate_left
          · (try simp only [] at hin); go_simp <;> with_reducible rfl
          try simp only [Act.put, List.setIfInBounds_toArray, List.set_cons_zero, List.set_cons_succ]
          refine wpS_take 8 (v := ?_) hSw rfl (by kernel_rfl) (by kernel_rfl) (by kernel_rfl) (by rfl) (fun w' hin => ?_) ?_
          rotate_left
          · (try simp only [] at hin); go_simp <;> with_reducible rfl
          try simp only [Act.put, List.setIfInBounds_toArray, List.set_cons_zero, List.set_cons_succ]
          refine wpS_one 4 rfl (by kernel_rfl) (by rfl) (fun K hK => ?_)
          go_simp
          refine (count12_any (OffBox w5.heap.size) A' Ab n' c' nb cb l'.q bs _ (LA.out.2.1.up (Ext.refl W).drew) (ArrR.up HB.out (EW.out.trans (Ext.refl W).drew)) (by omega)).mono ?_
          rintro e w10 ⟨rfl, hb10⟩
          rw [← HK1.out]
          simp only []
          refine hK.out _ _ (Ext W.drew) (fun _ h => h) (hb10) (fun hSw => ?_)
          clear hK K
          try simp only [Act.put, List.setIfInBounds_toArray, List.set_cons_zero, List.set_cons_succ]
          refine wpS_take 5 (v := ?_) hSw rfl (by kernel_rfl) (by kernel_rfl) (by kernel_rfl) (by rfl) (fun w' hin => ?_) ?_
          rotate_left
          · (try simp only [] at hin); go_simp <;> with_reducible rfl
          try simp only [Act.put, List.setIfInBounds_toArray, List.set_cons_zero, List.set_cons_succ]
          refine wpS_one 9 rfl (by kernel_rfl) (by rfl) (fun K hK => ?_)
          go_simp
          refine (count12_any (OffBox w5.heap.size) A2 Ab n2 c2' nb cb l2.q bs _ (LM.out.2.1.up ((Ext.refl W).drew.trans hb10)) (ArrR.up HB.out (EW.out.trans ((Ext.refl W).drew.trans hb10))) (by omega)).mono ?_
          rintro e w11 ⟨rfl, hb11⟩
          rw [← HK2.out]
          simp only []
          refine hK.out _ _ (Ext W.drew) (fun _ h => h) (hb10.trans hb11) (fun hSw => ?_)
          clear hK K
          try simp only [Act.put, List.setIfInBounds_toArray, List.set_cons_zero, List.set_cons_succ]
          refine wpS_take 10 (v := ?_) hSw rfl (by kernel_rfl) (by kernel_rfl) (by kernel_rfl) (by rfl) (fun w' hin => ?_) ?_
          rotate_left
          · (try simp only [] at hin); go_simp <;> with_reducible rfl
          try simp only [Act.put, List.setIfInBounds_toArray, List.set_cons_zero, List.set_cons_succ]
          refine wpS_take 11 (v := ?_) hSw rfl (by kernel_rfl) (by kernel_rfl) (by kernel_rfl) (by rfl) (fun w' hin => ?_) ?_
          rotate_left
          · (try simp only [] at hin); go_simp <;> with_reducible rfl
          try simp only [Act.put, List.setIfInBounds_toArray, List.set_cons_zero, List.set_cons_succ]
          refine wpS_done (by kernel_rfl) ?_
          rw [wrap_zero_add k2 (by omega)]
          have E11 : Ext W w11 := ((Ext.refl W).drew.trans hb10).trans hb11
          have HZ := Nat.lt_of_lt_of_le zA E11.size
          have zM2 := Nat.lt_of_lt_of_le zM E11.size
          have AB2 : Hid (w11.heap[w5.heap.size]? = some (.cells #[.int .i64 e', .slice A' n' c'] 40 (0, 0))) := Lib.hid ((E11.block zA).trans AW.out)
          have MB2 := Lib.hid ((E11.block zM).trans MW.out)
          have L2 := Lib.hid (LM.out.up E11)
          have E2 := Lib.hid (EW.out.trans E11)
          obtain ⟨y2, y2f⟩ := blk_rules AB2.out
          obtain ⟨y3, -⟩ := blk_rules MB2.out
          clear la lb hSw E11 hb10 hb11 zA zM
          go_wp2_with fail
          generalize hW2 : (w11.setCell _ (Value.int IntKind.i64 e2)).setCell _ (Value.slice A2 n2 c2') = W2
          obtain ⟨LW, BW, EW2, hzW⟩ := box_store0 EwE5.out.size HZ AB2.out L2.out E2.out
          rw [hW2] at LW BW EW2 hzW
          clear hW2 y2 y2f y3
          refine (count12_any (OffBox w5.heap.size) A2 Ab n2 c2' nb cb l2.q bs W2 LW.2.1 (ArrR.up HB.out EW2) (by omega)).mono ?_
          rintro e w12 ⟨rfl, hb12⟩
          rw [← HK2.out]
          have L9 := Lib.hid (LW.up hb12)
          have B9 := Lib.hid ((hb12.block hzW).trans BW)
          have E9 := Lib.hid (EW2.trans hb12)
          have hz9 := Nat.lt_of_lt_of_le hzW hb12.size
          clear LW BW EW2 hb12
          obtain ⟨y0, -⟩ := blk_rules B9.out
          have hge : ¬ (32 : Int) < n2 := by omega
          have hne : ((k2 : Int) != (k2 : Int)) = false := by simp
          go_wp2_with fail
          go_roundw
          case rel => exact ⟨j + 1, l2, e2, A2, n2, c2', by omega, by go_num, by rw [← HK2.out], HOK2, HF2, B9, L9, E9, hz9⟩
          case measure => simp [intOf]; omega
      by_cases h4 : what = 4
      · as_aux_lemma =>
          subst h4
          obtain ⟨l2, er, hs, hok2, hfew2, hlen2, hcnt⟩ := keeps_late HO'.out HL'.out i bs
          have HOK2 := Lib.hid hok2
          have HF2 := Lib.hid hfew2
          clear hok2 hfew2
          go_wp2_with fail
          refine (linkLate_any (OffBox w5.heap.size) _ _ _ _ l' i _ LX.out HbX.out (by rw [Lk.sane_of HO'.out]; exact fun b hb => by have := HL'.out b hb; omega)).mono ?_
          rintro e w7 ⟨e2, A2, n2, c2', rfl, hl2, hb7⟩
          rw [hs] at hl2 ⊢
          simp only at hl2 ⊢
          have XB := Lib.hid ((Ext.block hb7 (b := wr.heap.size) (by simp)).trans (heap_alloc_new wr (.cells #[.int .i64 4, .int .i64 i, .slice Ax nx cx] 72)))
          have AB := Lib.hid ((Ext.block hb7 (b := w5.heap.size) (by simp; omega)).trans BX.out)
          have hz7 : w5.heap.size < w7.heap.size := Nat.lt_of_lt_of_le (by simp; omega) hb7.size
          have hz7' : wr.heap.size < w7.heap.size := Nat.lt_of_lt_of_le (by simp) hb7.size
          have E8 := Lib.hid ((EX.out.trans hb7).alloc (.cells #[.int .i64 e2, .slice A2 n2 c2'] 40))
          have N8 := Lib.hid (Ext.new w7 (.cells #[.int .i64 e2, .slice A2 n2 c2'] 40))
          have MB := Lib.hid (heap_alloc_new w7 (.cells #[.int .i64 e2, .slice A2 n2 c2'] 40))
          have hn2 : n2 ≤ 32 := by rw [← hl2.len]; exact ok_len HOK2.out
          have E7 := Lib.hid (EX.out.trans hb7)
          have L7 := Lib.hid hl2
          obtain ⟨y1, -⟩ := blk_rules XB.out
          obtain ⟨y2, y2f⟩ := blk_rules AB.out
          obtain ⟨k1, hk1⟩ : ∃ k, k = cntQ l'.q bs := ⟨_, rfl⟩
          obtain ⟨k2, hk2⟩ : ∃ k, k = cntQ l2.q bs := ⟨_, rfl⟩
          have hk12 : k1 = k2 := by rw [hk1, hk2, hcnt]
          have hk1l : k1 ≤ 32 := by rw [hk1]; exact Nat.le_trans (cntQ_le _ _) (ok_len HO'.out)
          have hk2l : k2 ≤ 32 := by rw [hk2]; exact Nat.le_trans (cntQ_le _ _) (ok_len HOK2.out)
          rw [← hk1]
          subst hk12
          have HK2 := Lib.hid hk2
          have HK1 := Lib.hid hk1
          have HB7 := Lib.hid hb7
          clear hb7 hl2 y0 hk1 hk2 hs
          have hn' : n' ≤ 32 := by rw [← LK'.out.len]; exact ok_len HO'.out
          have hl' : l'.q.length = n' := LK'.out.len
          have hl2' : l2.q.length = n2 := L7.out.len
          have hnn : ((n2 : Int) != (n' : Int)) = false := by rw [hl', hl2'] at hlen2; subst hlen2; simp
          have hne : ((k1 : Int) != (k1 : Int)) = false := by simp
          go_wp2_with fail
          generalize hW : ((w7.setCell _ (Value.int IntKind.i64 e2)).setCell _ (Value.slice A2 n2 c2')).alloc _ = W
          obtain ⟨LW, BW, EW, hzW⟩ := box_store EwE5.out.size hz7 AB.out L7.out E7.out (.cells #[.int .i64 e2, .slice A2 n2 c2'] 40)
          rw [hW] at LW BW EW hzW
          clear hW y1 y2 y2f
          refine (count12_any (OffBox w5.heap.size) A2 Ab n2 c2' nb cb l2.q bs W LW.2.1 (ArrR.up HB.out EW) (by omega)).mono ?_
          rintro e w9 ⟨rfl, hb9⟩
          rw [← HK2.out]
          have L9 := Lib.hid (LW.up hb9)
          have B9 := Lib.hid ((hb9.block hzW).trans BW)
          have E9 := Lib.hid (EW.trans hb9)
          have hz9 := Nat.lt_of_lt_of_le hzW hb9.size
          clear LW BW EW hb9
          obtain ⟨y0, -⟩ := blk_rules B9.out
          have hge : ¬ (32 : Int) < n2 := by omega
          go_wp2_with fail
          go_roundw
          case rel => exact ⟨j + 1, l2, e2, A2, n2, c2', by omega, by go_num, by rw [← HK2.out], HOK2, HF2, B9, L9, E9, hz9⟩
          case measure => simp [intOf]; omega
      as_aux_lemma =>
        have b0 : (what == 0) = false := by simpa using h0
        have b1 : (what == 1) = false := by simpa using h1
        have b2 : (what == 2) = false := by simpa using h2
        have b3 : (what == 3) = false := by simpa using h3
        have b4 : (what == 4) = false := by simpa using h4
        obtain ⟨l2, er, hs, hok2, hfew2, hcase⟩ := keeps_reset HO'.out HL'.out bs
        have HOK2 := Lib.hid hok2
        have HF2 := Lib.hid hfew2
        clear hok2 hfew2
        go_wp2_with fail
        refine (linkReset_any (OffBox w5.heap.size) _ _ _ _ l' _ LX.out HbX.out).mono ?_
        rintro e w7 ⟨e2, A2, n2, c2', rfl, hl2, hb7⟩
        rw [hs] at hl2 ⊢
        simp only at hl2 ⊢
        have XB := Lib.hid ((Ext.block hb7 (b := wr.heap.size) (by simp)).trans (heap_alloc_new wr (.cells #[.int .i64 what, .int .i64 i, .slice Ax nx cx] 72)))
        have AB := Lib.hid ((Ext.block hb7 (b := w5.heap.size) (by simp; omega)).trans BX.out)
        have hz7 : w5.heap.size < w7.heap.size := Nat.lt_of_lt_of_le (by simp; omega) hb7.size
        have hz7' : wr.heap.size < w7.heap.size := Nat.lt_of_lt_of_le (by simp) hb7.size
        have E8 := Lib.hid ((EX.out.trans hb7).alloc (.cells #[.int .i64 e2, .slice A2 n2 c2'] 40))
        have N8 := Lib.hid (Ext.new w7 (.cells #[.int .i64 e2, .slice A2 n2 c2'] 40))
        have MB := Lib.hid (heap_alloc_new w7 (.cells #[.int .i64 e2, .slice A2 n2 c2'] 40))
        have hn2 : n2 ≤ 32 := by rw [← hl2.len]; exact ok_len HOK2.out
        have E7 := Lib.hid (EX.out.trans hb7)
        have L7 := Lib.hid hl2
        obtain ⟨y1, -⟩ := blk_rules XB.out
        obtain ⟨y2, y2f⟩ := blk_rules AB.out
        obtain ⟨k1, hk1⟩ : ∃ k, k = cntQ l'.q bs := ⟨_, rfl⟩
        obtain ⟨k2, hk2⟩ : ∃ k, k = cntQ l2.q bs := ⟨_, rfl⟩
        have hk1l : k1 ≤ 32 := by rw [hk1]; exact Nat.le_trans (cntQ_le _ _) (ok_len HO'.out)
        have hk2l : k2 ≤ 32 := by rw [hk2]; exact Nat.le_trans (cntQ_le _ _) (ok_len HOK2.out)
        rw [← hk1, ← hk2] at hcase
        rw [← hk1]
        have HK2 := Lib.hid hk2
        clear hb7 hl2 y0 hk1 hk2 hs
        rcases hcase with ⟨rfl, hcase⟩ | ⟨rfl, hcase⟩
        · subst hcase
          have hne : (((0 : Nat) : Int) != 0) = false := by simp
          go_wp2_with fail
          generalize hW : ((w7.setCell _ (Value.int IntKind.i64 e2)).setCell _ (Value.slice A2 n2 c2')).alloc _ = W
          obtain ⟨LW, BW, EW, hzW⟩ := box_store EwE5.out.size hz7 AB.out L7.out E7.out (.cells #[.int .i64 e2, .slice A2 n2 c2'] 40)
          rw [hW] at LW BW EW hzW
          clear hW y1 y2 y2f
          refine (count12_any (OffBox w5.heap.size) A2 Ab n2 c2' nb cb l2.q bs W LW.2.1 (ArrR.up HB.out EW) (by omega)).mono ?_
          rintro e w9 ⟨rfl, hb9⟩
          rw [← HK2.out]
          have L9 := Lib.hid (LW.up hb9)
          have B9 := Lib.hid ((hb9.block hzW).trans BW)
          have E9 := Lib.hid (EW.trans hb9)
          have hz9 := Nat.lt_of_lt_of_le hzW hb9.size
          clear LW BW EW hb9
          obtain ⟨y0, -⟩ := blk_rules B9.out
          have hge : ¬ (32 : Int) < n2 := by omega
          go_wp2_with fail
          go_roundw
          case rel => exact ⟨j + 1, l2, e2, A2, n2, c2', by omega, by go_num, by rw [← HK2.out]; go_num, HOK2, HF2, B9, L9, E9, hz9⟩
          case measure => simp [intOf]; omega
        · subst hcase
          have hne : ((k2 : Int) != (k2 : Int)) = false := by simp
          go_wp2_with fail
          generalize hW : ((w7.setCell _ (Value.int IntKind.i64 e2)).setCell _ (Value.slice A2 n2 c2')).alloc _ = W
          obtain ⟨LW, BW, EW, hzW⟩ := box_store EwE5.out.size hz7 AB.out L7.out E7.out (.cells #[.int .i64 e2, .slice A2 n2 c2'] 40)
          rw [hW] at LW BW EW hzW
          clear hW y1 y2 y2f
          refine (count12_any (OffBox w5.heap.size) A2 Ab n2 c2' nb cb l2.q bs W LW.2.1 (ArrR.up HB.out EW) (by omega)).mono ?_
          rintro e w9 ⟨rfl, hb9⟩
          rw [← HK2.out]
          have L9 := Lib.hid (LW.up hb9)
          have B9 := Lib.hid ((hb9.block hzW).trans BW)
          have E9 := Lib.hid (EW.trans hb9)
          have hz9 := Nat.lt_of_lt_of_le hzW hb9.size
          clear LW BW EW hb9
          obtain ⟨y0, -⟩ := blk_rules B9.out
          have hge : ¬ (32 : Int) < n2 := by omega
          go_wp2_with fail
          go_roundw
          case rel => exact ⟨j + 1, l2, e2, A2, n2, c2', by omega, by go_num, by rw [← HK2.out], HOK2, HF2, B9, L9, E9, hz9⟩
          case measure => simp [intOf]; omega
    · go_wp2_with fail
      go_ret
      exact ⟨rfl, EW'.out⟩
end Go.Proofs.Ytjomoannlpadnaa
