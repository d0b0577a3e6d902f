/- The law LinkEpoch: its walk. -/
import Derived.Test.YtjomoannlpadnaaLinkLaw2
namespace Go.Proofs.Ytjomoannlpadnaa
open Go.RowKit
attribute [local go_sem ↓] run_max2 run_min2
attribute [local go_sem ↓] Go.wp_at_zero Go.wp_at_succ

theorem Lk.send_ep {l : Lk} (h : l.ok = true) (b : List UInt8) : (l.send b).1.ep = l.ep := by unfold Lk.send; rw [Lk.sane_of h]; split <;> rfl
theorem Lk.take_ep {l : Lk} (h : l.ok = true) (i : Int) : (l.take i).1.ep = l.ep := by unfold Lk.take; rw [Lk.sane_of h]; split <;> rfl
theorem Lk.take_ok {l : Lk} (h : l.ok = true) (i : Int) : (l.take i).1.ok = true := by
  unfold Lk.take
  rw [Lk.sane_of h]
  split
  · exact h
  · unfold Lk.ok okL at *
    simp at h ⊢
    omega
theorem Lk.again_ep {l : Lk} (h : l.ok = true) (i : Int) : (l.again i).1.ep = l.ep := by unfold Lk.again; rw [Lk.sane_of h]; split; rfl; exact Lk.send_ep h _
theorem Lk.late_ep {l : Lk} (h : l.ok = true) (i : Int) : (l.late i).1.ep = l.ep := by
  unfold Lk.late
  split
  · rw [Lk.send_ep (Lk.take_ok h i), Lk.take_ep h]
  · exact Lk.take_ep h i
theorem Lk.reset_cases {l : Lk} (h : l.ok = true) : (l.ep = 2147483647 ∧ l.reset = (l, 14)) ∨ (¬ l.ep = 2147483647 ∧ l.reset = (⟨l.ep + 1, []⟩, 0)) := by
  unfold Lk.reset
  rw [Lk.sane_of h]
  by_cases he : l.ep = 2147483647
  · exact .inl ⟨he, by rw [if_pos he]⟩
  · exact .inr ⟨he, by rw [if_neg he]⟩

set_option maxHeartbeats 400000 in
theorem linkEpoch_few (ep : Int) (A Ab : Option Addr) (n c nb cb : Nat) (i : Int) (l : Lk) (w : World) (h : LkR w noX ep A n c l) (hm : n ≤ 9223372036854775807) (hf : fewB l.q = false) :
    Calls Try.prog 16 #[.agg #[.int .i64 ep, .slice A n c], .slice Ab nb cb, .int .i64 i] w fun e w' => e = .returned (.bool true) ∧ Ext w w' := by
  have H := Lib.hid h
  clear h
  go_enter Try.func16, Try.ntmps16
  go_wp2_with fail
  refine (awake12 _).mono ?_
  rintro e w1 ⟨rfl, hb1⟩
  obtain ⟨x0, x1, x2⟩ := box1 hb1
  have E1 := (Ext.new w _).trans hb1
  go_wp2_with fail
  refine (few12_any noX _ _ _ _ l.q _ (H.out.2.1.up E1) hm).mono ?_
  rintro e w2 ⟨rfl, hb2⟩
  go_wp2_with fail
  go_ret
  exact ⟨rfl, E1.trans hb2⟩
set_option maxHeartbeats 400000 in
theorem linkEpoch_sane (ep : Int) (A Ab : Option Addr) (n c nb cb : Nat) (i : Int) (l : Lk) (w : World) (h : LkR w noX ep A n c l) (hm : n ≤ 9223372036854775807) (hf : fewB l.q = true) (hk : okL ep n = false) :
    Calls Try.prog 16 #[.agg #[.int .i64 ep, .slice A n c], .slice Ab nb cb, .int .i64 i] w fun e w' => e = .returned (.bool true) ∧ Ext w w' := by
  have H := Lib.hid h
  clear h
  go_enter Try.func16, Try.ntmps16
  go_wp2_with fail
  refine (awake12 _).mono ?_
  rintro e w1 ⟨rfl, hb1⟩
  obtain ⟨x0, x1, x2⟩ := box1 hb1
  have E1 := (Ext.new w _).trans hb1
  go_wp2_with fail
  refine (few12_any noX _ _ _ _ l.q _ (H.out.2.1.up E1) hm).mono ?_
  rintro e w2 ⟨rfl, hb2⟩
  obtain ⟨c2, f2⟩ := bcell hb2
  go_wp2_with fail
  refine (ours_any _ _ _ _ _).mono ?_
  rintro e w3 ⟨rfl, hb3⟩
  go_wp2_with fail
  refine (linkSane_any _ _ _ _ _).mono ?_
  rintro e w4 ⟨rfl, hb4⟩
  go_wp2_with fail
  go_ret
  exact ⟨rfl, ((E1.trans hb2).trans hb3).trans hb4⟩
set_option maxHeartbeats 400000 in
theorem linkEpoch_big (ep : Int) (A Ab : Option Addr) (n c nb cb : Nat) (i : Int) (l : Lk) (w : World) (h : LkR w noX ep A n c l) (hm : n ≤ 9223372036854775807) (hf : fewB l.q = true) (hk : okL ep n = true) (hb : 300 < nb) :
    Calls Try.prog 16 #[.agg #[.int .i64 ep, .slice A n c], .slice Ab nb cb, .int .i64 i] w fun e w' => e = .returned (.bool true) ∧ Ext w w' := by
  have H := Lib.hid h
  clear h
  go_enter Try.func16, Try.ntmps16
  go_wp2_with fail
  refine (awake12 _).mono ?_
  rintro e w1 ⟨rfl, hb1⟩
  obtain ⟨x0, x1, x2⟩ := box1 hb1
  have E1 := (Ext.new w _).trans hb1
  go_wp2_with fail
  refine (few12_any noX _ _ _ _ l.q _ (H.out.2.1.up E1) hm).mono ?_
  rintro e w2 ⟨rfl, hb2⟩
  obtain ⟨c2, f2⟩ := bcell hb2
  go_wp2_with fail
  refine (ours_any _ _ _ _ _).mono ?_
  rintro e w3 ⟨rfl, hb3⟩
  go_wp2_with fail
  refine (linkSane_any _ _ _ _ _).mono ?_
  rintro e w4 ⟨rfl, hb4⟩
  go_wp2_with fail
  go_ret
  exact ⟨rfl, ((E1.trans hb2).trans hb3).trans hb4⟩

set_option maxHeartbeats 1600000 in
theorem linkEpoch_main (ep : Int) (A Ab : Option Addr) (n c nb cb : Nat) (bs : List UInt8) (i : Int) (l : Lk) (w : World) (h : LkR w noX ep A n c l) (hm : n ≤ 9223372036854775807) (hf : fewB l.q = true) (hk : okL ep n = true)
    (hb : Byts w Ab nb bs) (hcb : Ab = none → cb = 0) (hnb : nb ≤ 300) :
    Calls Try.prog 16 #[.agg #[.int .i64 ep, .slice A n c], .slice Ab nb cb, .int .i64 i] w fun e w' => e = .returned (.bool true) ∧ Ext w w' := by
  have hok : l.ok = true := by unfold Lk.ok; rw [h.1, h.len]; exact hk
  have HO := Lib.hid hok
  have HFew : Hid (∀ b ∈ l.sane.q, b.length ≤ 1000000) := Lib.hid (by rw [Lk.sane_of hok]; intro b hb; have := (fewB_len hf).2 b hb; omega)
  have H := Lib.hid h
  have HB := Lib.hid hb
  clear h hb hok
  go_enter Try.func16, Try.ntmps16
  go_wp2_with fail
  refine (awake12 _).mono ?_
  rintro e w1 ⟨rfl, hb1⟩
  obtain ⟨x0, x1, x2⟩ := box1 hb1
  have k0 := Lib.hid (box1b hb1).1
  have E1 := Lib.hid ((Ext.new w _).trans hb1)
  clear hb1
  go_wp2_with fail
  refine (few12_any noX _ _ _ _ l.q _ (H.out.2.1.up E1.out) hm).mono ?_
  rintro e w2 ⟨rfl, hb2⟩
  obtain ⟨c2, f2⟩ := bcell hb2
  go_wp2_with fail
  refine (ours_any _ _ _ _ _).mono ?_
  rintro e w3 ⟨rfl, hb3⟩
  go_wp2_with fail
  refine (linkSane_any _ _ _ _ _).mono ?_
  rintro e w4 ⟨rfl, hb4⟩
  have E4' := Lib.hid ((hb2.trans hb3).trans hb4)
  clear c2 f2 hb2 hb3 hb4
  obtain ⟨y0, -⟩ := blk_rules ((E4'.out.block x2).trans k0.out)
  go_wp2_with fail
  refine (ours_any _ _ _ _ _).mono ?_
  rintro e w5 ⟨rfl, hb5⟩
  have E5' := Lib.hid (E4'.out.trans hb5)
  have E5 := Lib.hid (E1.out.trans E5'.out)
  clear hb5 y0 x0 x1
  go_wp2_with fail
  have HoW := Lib.hid (H.out.up (E5.out.alloc (.cells #[.int .i64 ep, .slice A n c] 40)))
  refine (linkReset_any noX _ _ _ _ l _ HoW.out (fun _ h => h.elim)).mono ?_
  rintro e w6 ⟨e6, A6, n6, c6, rfl, hl6, hb6⟩
  obtain ⟨o0, -, o2⟩ := box1 hb6
  have B6 := Lib.hid hb6
  have L6 := Lib.hid hl6
  clear hb6 hl6
  go_wp2_with fail
  refine (linkSend_any noX _ _ _ _ l _ _ _ bs _ (HoW.out.up (B6.out.alloc _)) (fun _ h => h.elim) (ArrR.up HB.out ((E5.out.alloc _).trans (B6.out.alloc _))) hcb (by omega)).mono ?_
  rintro e w7 ⟨e7, A7, n7, c7, rfl, hl7, hb7⟩
  obtain rfl : ep = e7 := by rw [← hl7.1, Lk.send_ep HO.out, H.out.1]
  have B7 := Lib.hid ((Ext.new w6 (.cells #[.int .i64 e6, .slice A6 n6 c6] 40)).trans hb7)
  have C7 := Lib.hid hb7
  clear hl7 hb7 o0 o2
  obtain ⟨o0, -, o2⟩ := box1 (B6.out.trans B7.out)
  go_wp2_with fail
  refine (linkTake_any noX _ _ _ _ l _ _ (HoW.out.up (B6.out.trans (B7.out.alloc _))) (fun _ h => h.elim)).mono ?_
  rintro e w8 ⟨e8, A8, n8, c8, A8', n8', c8', rfl, hl8, -, hb8⟩
  obtain rfl : ep = e8 := by rw [← hl8.1, Lk.take_ep HO.out, H.out.1]
  have B8 := Lib.hid ((Ext.new w7 (.cells #[.int .i64 ep, .slice A7 n7 c7] 40)).trans hb8)
  have C8 := Lib.hid hb8
  clear hl8 hb8 o0 o2
  obtain ⟨o0, -, o2⟩ := box1 ((B6.out.trans B7.out).trans B8.out)
  go_wp2_with fail
  refine (linkDrop_any noX _ _ _ _ l _ _ (HoW.out.up ((B6.out.trans B7.out).trans (B8.out.alloc _))) (fun _ h => h.elim)).mono ?_
  rintro e w9 ⟨e9, A9, n9, c9, rfl, hl9, hb9⟩
  obtain rfl : ep = e9 := by rw [← hl9.1, Lk.take_ep HO.out, H.out.1]
  have B9 := Lib.hid ((Ext.new w8 (.cells #[.int .i64 ep, .slice A8 n8 c8] 40)).trans hb9)
  have C9 := Lib.hid hb9
  clear hl9 hb9 o0 o2
  obtain ⟨o0, -, o2⟩ := box1 (((B6.out.trans B7.out).trans B8.out).trans B9.out)
  go_wp2_with fail
  refine (linkAgain_any noX _ _ _ _ l _ _ (HoW.out.up (((B6.out.trans B7.out).trans B8.out).trans (B9.out.alloc _))) (fun _ h => h.elim) HFew.out).mono ?_
  rintro e w10 ⟨e10, A10, n10, c10, rfl, hl10, hb10⟩
  obtain rfl : ep = e10 := by rw [← hl10.1, Lk.again_ep HO.out, H.out.1]
  have B10 := Lib.hid ((Ext.new w9 (.cells #[.int .i64 ep, .slice A9 n9 c9] 40)).trans hb10)
  have C10 := Lib.hid hb10
  clear hl10 hb10 o0 o2
  obtain ⟨o0, -, o2⟩ := box1 ((((B6.out.trans B7.out).trans B8.out).trans B9.out).trans B10.out)
  go_wp2_with fail
  refine (linkLate_any noX _ _ _ _ l _ _ (HoW.out.up ((((B6.out.trans B7.out).trans B8.out).trans B9.out).trans (B10.out.alloc _))) (fun _ h => h.elim) HFew.out).mono ?_
  rintro e w11 ⟨e11, A11, n11, c11, rfl, hl11, hb11⟩
  obtain rfl : ep = e11 := by rw [← hl11.1, Lk.late_ep HO.out, H.out.1]
  have B11 := Lib.hid ((Ext.new w10 (.cells #[.int .i64 ep, .slice A10 n10 c10] 40)).trans hb11)
  have C11 := Lib.hid hb11
  clear hl11 hb11 o0 o2
  have D11 := Lib.hid ((((((B6.out.trans B7.out).trans B8.out).trans B9.out).trans B10.out).trans B11.out))
  obtain ⟨s6, -, t6⟩ := box1 (C7.out.trans ((((B8.out.trans B9.out).trans B10.out).trans B11.out)))
  obtain ⟨s7, -, t7⟩ := box1 (C8.out.trans (((B9.out.trans B10.out).trans B11.out)))
  obtain ⟨s8, -, t8⟩ := box1 (C9.out.trans ((B10.out.trans B11.out)))
  obtain ⟨s9, -, t9⟩ := box1 (C10.out.trans B11.out)
  obtain ⟨s10, -, t10⟩ := box1 C11.out
  have hx5 := (Ext.new w5 (.cells #[.int .i64 ep, .slice A n c] 40)).trans D11.out
  obtain ⟨s0, -⟩ := blk_rules ((hx5.block (Nat.lt_of_lt_of_le x2 E5'.out.size)).trans ((E5'.out.block x2).trans k0.out))
  have t0 : w.heap.size < w11.heap.size := Nat.lt_of_lt_of_le (Nat.lt_of_lt_of_le x2 E5'.out.size) hx5.size
  have EF := Lib.hid (E5.out.trans hx5)
  clear hx5
  rcases Lk.reset_cases HO.out with ⟨he, hr⟩ | ⟨he, hr⟩
  · have hl6 := L6.out
    rw [hr] at hl6 ⊢
    simp only [] at hl6 ⊢
    obtain rfl : ep = e6 := by rw [← hl6.1, H.out.1]
    have hep : ep = 2147483647 := by rw [← H.out.1]; exact he
    have h1 : (ep != 2147483647) = false := by simp [hep]
    clear hl6 hr he hep
    go_wp2_with fail
    go_ret
    exact ⟨rfl, EF.out.alloc _⟩
  · have hl6 := L6.out
    rw [hr] at hl6 ⊢
    simp only [] at hl6 ⊢
    obtain rfl : ep + 1 = e6 := by rw [← hl6.1, ← H.out.1]
    obtain rfl : n6 = 0 := by have := hl6.len; simpa using this.symm
    have h2 : 0 ≤ ep := by have := HO.out; unfold Lk.ok okL at this; simp at this; have := H.out.1; omega
    have h3 : ep ≤ 2147483647 := by have := HO.out; unfold Lk.ok okL at this; simp at this; have := H.out.1; omega
    clear hl6 hr he
    go_wp2_with fail
    go_ret
    exact ⟨rfl, EF.out.alloc _⟩
end Go.Proofs.Ytjomoannlpadnaa
