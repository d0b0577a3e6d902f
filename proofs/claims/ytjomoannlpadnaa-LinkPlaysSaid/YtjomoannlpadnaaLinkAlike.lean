/- The law LinkAlike: its walk. -/
import Derived.Test.YtjomoannlpadnaaLinkLaw2
import Derived.Lib.QuietBelow
namespace Go.Proofs.Ytjomoannlpadnaa
open Go.RowKit Go.Sort
attribute [local go_sem ↓] run_max2 run_min2
attribute [local go_sem ↓] Go.wp_at_zero Go.wp_at_succ

/-! ### Plain -/
section
variable {ep : Int} {q : List (List UInt8)} {k : Nat} {x : List UInt8}
theorem placeN_of {n k : Nat} (h : k < n) : placeN n (k : Int) = k := by
  unfold placeN
  rw [Int.max_eq_right (by omega), Int.emod_eq_of_lt (by omega) (by omega)]; simp
theorem send_room {l : Lk} (h : l.ok = true) (hn : l.q.length < 32) (b : List UInt8) : l.send b = (⟨l.ep, l.q ++ [b]⟩, 0) := by
  unfold Lk.send; rw [Lk.sane_of h, if_neg (by omega)]
theorem send_full {l : Lk} (h : l.ok = true) (hn : l.q.length = 32) (b : List UInt8) : l.send b = (l, 8) := by
  unfold Lk.send; rw [Lk.sane_of h, if_pos (by omega)]
theorem take_at {l : Lk} (h : l.ok = true) {k : Nat} (hk : l.q[k]? = some x) : l.take (k : Int) = (⟨l.ep, l.q.take k ++ l.q.drop (k + 1)⟩, x, 0) := by
  have hlt := (List.getElem?_eq_some_iff.1 hk).1
  unfold Lk.take; rw [Lk.sane_of h, if_neg (by omega), placeN_of hlt, hk]; rfl
theorem again_at {l : Lk} (h : l.ok = true) {k : Nat} (hk : l.q[k]? = some x) : l.again (k : Int) = l.send x := by
  have hlt := (List.getElem?_eq_some_iff.1 hk).1
  unfold Lk.again; rw [Lk.sane_of h, if_neg (by omega), placeN_of hlt, hk]; rfl
theorem cut_len {q : List (List UInt8)} {k : Nat} (h : k < q.length) : (q.take k ++ q.drop (k + 1)).length = q.length - 1 := by
  rw [List.length_append, List.length_take, List.length_drop]; omega
theorem cut_ok {l : Lk} (h : l.ok = true) {k : Nat} (hk : k < l.q.length) : (Lk.mk l.ep (l.q.take k ++ l.q.drop (k + 1))).ok = true := by
  unfold Lk.ok okL at *
  simp only [cut_len hk]
  simp at h ⊢
  omega
theorem late_at {l : Lk} (h : l.ok = true) {k : Nat} (hk : l.q[k]? = some x) : l.late (k : Int) = (⟨l.ep, (l.q.take k ++ l.q.drop (k + 1)) ++ [x]⟩, 0) := by
  have hlt := (List.getElem?_eq_some_iff.1 hk).1
  have hl : l.q.length ≤ 32 := by have := l.sane_len; rw [Lk.sane_of h] at this; exact this
  unfold Lk.late
  rw [take_at h hk, if_pos rfl, send_room (cut_ok h hlt) (by simp only [cut_len hlt]; omega)]
theorem snoc_ok {l : Lk} (h : l.ok = true) (hn : l.q.length < 32) (b : List UInt8) : (Lk.mk l.ep (l.q ++ [b])).ok = true := by
  unfold Lk.ok okL at *
  simp at h ⊢
  omega
theorem take_snoc {l : Lk} (h : (Lk.mk l.ep (l.q ++ [x])).ok = true) : (Lk.mk l.ep (l.q ++ [x])).take (l.q.length : Int) = (l, x, 0) := by
  rw [take_at h (k := l.q.length) (x := x) (by simp)]
  simp
end

set_option maxHeartbeats 400000 in
theorem linkAlike_few (ep : Int) (A : Option Addr) (n c : Nat) (i : Int) (l : Lk) (w : World) (h : LkR w noX ep A n c l) (hm : n ≤ 9223372036854775807) (hf : fewB l.q = false) :
    Calls Try.prog 7 #[.agg #[.int .i64 ep, .slice A n c], .int .i64 i] w fun e w' => e = .returned (.bool true) ∧ Ext w w' := by
  have H := Lib.hid h
  clear h
  go_enter Try.func7, Try.ntmps7
  go_wp2_with fail
  refine (awake12 _).mono ?_
  rintro e w1 ⟨rfl, hb1⟩
  obtain ⟨x0, x1, x2⟩ := box1 hb1
  have E1 := (Ext.new w _).trans hb1
  go_wp2_with fail
  refine (few12_any noX _ _ _ _ l.q _ (H.out.2.1.up E1) hm).mono ?_
  rintro e w2 ⟨rfl, hb2⟩
  go_wp2_with fail
  go_ret
  exact ⟨rfl, E1.trans hb2⟩
set_option maxHeartbeats 400000 in
theorem linkAlike_sane (ep : Int) (A : Option Addr) (n c : Nat) (i : Int) (l : Lk) (w : World) (h : LkR w noX ep A n c l) (hm : n ≤ 9223372036854775807) (hf : fewB l.q = true) (hk : okL ep n = false) :
    Calls Try.prog 7 #[.agg #[.int .i64 ep, .slice A n c], .int .i64 i] w fun e w' => e = .returned (.bool true) ∧ Ext w w' := by
  have H := Lib.hid h
  clear h
  go_enter Try.func7, Try.ntmps7
  go_wp2_with fail
  refine (awake12 _).mono ?_
  rintro e w1 ⟨rfl, hb1⟩
  obtain ⟨x0, x1, x2⟩ := box1 hb1
  have E1 := (Ext.new w _).trans hb1
  go_wp2_with fail
  refine (few12_any noX _ _ _ _ l.q _ (H.out.2.1.up E1) hm).mono ?_
  rintro e w2 ⟨rfl, hb2⟩
  obtain ⟨c2, f2⟩ := bcell hb2
  go_wp2_with fail
  refine (ours_any _ _ _ _ _).mono ?_
  rintro e w3 ⟨rfl, hb3⟩
  go_wp2_with fail
  refine (linkSane_any _ _ _ _ _).mono ?_
  rintro e w4 ⟨rfl, hb4⟩
  go_wp2_with fail
  go_ret
  exact ⟨rfl, ((E1.trans hb2).trans hb3).trans hb4⟩
set_option maxHeartbeats 400000 in
theorem linkAlike_none (ep : Int) (A : Option Addr) (c : Nat) (i : Int) (l : Lk) (w : World) (h : LkR w noX ep A 0 c l) (hf : fewB l.q = true) (hk : okL ep 0 = true) :
    Calls Try.prog 7 #[.agg #[.int .i64 ep, .slice A 0 c], .int .i64 i] w fun e w' => e = .returned (.bool true) ∧ Ext w w' := by
  have H := Lib.hid h
  clear h
  go_enter Try.func7, Try.ntmps7
  go_wp2_with fail
  refine (awake12 _).mono ?_
  rintro e w1 ⟨rfl, hb1⟩
  obtain ⟨x0, x1, x2⟩ := box1 hb1
  have k0 := Lib.hid (box1b hb1).1
  have E1 := (Ext.new w _).trans hb1
  go_wp2_with fail
  refine (few12_any noX _ _ _ _ l.q _ (H.out.2.1.up E1) (by omega)).mono ?_
  rintro e w2 ⟨rfl, hb2⟩
  obtain ⟨c2, f2⟩ := bcell hb2
  go_wp2_with fail
  refine (ours_any _ _ _ _ _).mono ?_
  rintro e w3 ⟨rfl, hb3⟩
  go_wp2_with fail
  refine (linkSane_any _ _ _ _ _).mono ?_
  rintro e w4 ⟨rfl, hb4⟩
  have E4' := (hb2.trans hb3).trans hb4
  clear c2 f2
  obtain ⟨y0, -⟩ := blk_rules ((E4'.block x2).trans k0.out)
  go_wp2_with fail
  go_ret
  exact ⟨rfl, ((E1.trans hb2).trans hb3).trans hb4⟩

set_option maxHeartbeats 1600000 in
theorem linkAlike_main (ep : Int) (A : Option Addr) (n c : Nat) (i : Int) (l : Lk) (w : World) (h : LkR w noX ep A n c l) (hm : n ≤ 9223372036854775807) (hf : fewB l.q = true) (hk : okL ep n = true) (hn : 0 < n) :
    Calls Try.prog 7 #[.agg #[.int .i64 ep, .slice A n c], .int .i64 i] w fun e w' => e = .returned (.bool true) ∧ Ext w w' := by
  have hok : l.ok = true := by unfold Lk.ok; rw [h.1, h.len]; exact hk
  have HO := Lib.hid hok
  have HFew : Hid (∀ b ∈ l.sane.q, b.length ≤ 1000000) := Lib.hid (by rw [Lk.sane_of hok]; intro b hb; have := (fewB_len hf).2 b hb; omega)
  have hn32 : n ≤ 32 := by have := l.sane_len; rw [Lk.sane_of hok, h.len] at this; exact this
  have hlen := Lib.hid h.len
  obtain ⟨m, hm1, hm2⟩ := and_mask i 65535 (by omega)
  have hm3 : bits .and .i64 i 65535 = (m : Int) := hm2
  clear hm2
  obtain ⟨k, hk1⟩ : ∃ k : Nat, (m : Int) % n = (k : Int) := ⟨((m : Int) % n).toNat, (Int.toNat_of_nonneg (Int.emod_nonneg _ (by omega))).symm⟩
  have hkn : k < n := by have : (k : Int) < n := by rw [← hk1]; exact Int.emod_lt_of_pos _ (by omega)
                         omega
  obtain ⟨b0, o0, Ax, nx, cx, x, rfl, hb0, hx, hcx, -, -, hx3, -⟩ := h.2.1.at_ hkn
  have HX := Lib.hid hx
  have HX3 := Lib.hid hx3
  have HCX := Lib.hid hcx
  clear hcx hx3
  have H := Lib.hid h
  have hz0 : ((n : Int) == 0) = false := by simp; omega
  clear h hok hx
  go_enter Try.func7, Try.ntmps7
  go_wp2_with fail
  refine (awake12 _).mono ?_
  rintro e w1 ⟨rfl, hb1⟩
  obtain ⟨x0, x1, x2⟩ := box1 hb1
  have k0 := Lib.hid (box1b hb1).1
  have E1 := Lib.hid ((Ext.new w _).trans hb1)
  clear hb1
  go_wp2_with fail
  refine (few12_any noX _ _ _ _ l.q _ (H.out.2.1.up E1.out) hm).mono ?_
  rintro e w2 ⟨rfl, hb2⟩
  obtain ⟨c2, f2⟩ := bcell hb2
  go_wp2_with fail
  refine (ours_any _ _ _ _ _).mono ?_
  rintro e w3 ⟨rfl, hb3⟩
  go_wp2_with fail
  refine (linkSane_any _ _ _ _ _).mono ?_
  rintro e w4 ⟨rfl, hb4⟩
  have E4' := Lib.hid ((hb2.trans hb3).trans hb4)
  clear c2 f2 hb2 hb3 hb4 x0 x1
  obtain ⟨y0, -⟩ := blk_rules ((E4'.out.block x2).trans k0.out)
  go_wp2_with fail
  refine (ours_any _ _ _ _ _).mono ?_
  rintro e w5 ⟨rfl, hb5⟩
  have E5' := Lib.hid (E4'.out.trans hb5)
  clear hb5 y0
  obtain ⟨y0, -⟩ := blk_rules ((E5'.out.block x2).trans k0.out)
  go_wp2_with fail
  have HE5 := Lib.hid (E1.out.trans E5'.out)
  by_cases h32 : n = 32
  · have hA : l.again (k : Int) = (l, 8) := by rw [again_at HO.out HX.out, send_full HO.out (by rw [hlen.out]; exact h32)]
    have hL := late_at HO.out HX.out
    have HA := Lib.hid hA
    have HLt := Lib.hid hL
    have hz32 : ((n : Int) == 32) = true := by simp; omega
    clear hA hL h32
    refine (linkAgain_any noX _ _ _ _ l _ _ (H.out.up HE5.out) (fun _ h => h.elim) HFew.out).mono ?_
    rintro e w6 ⟨e6, A6, n6, c6, rfl, hl6, hb6⟩
    rw [HA.out]
    have E6' := Lib.hid (E5'.out.trans hb6)
    clear y0 hl6 hb6
    obtain ⟨y0, -⟩ := blk_rules ((E6'.out.block x2).trans k0.out)
    have x3 := Nat.lt_of_lt_of_le x2 E6'.out.size
    go_wp2_with fail
    refine (ours_any _ _ _ _ _).mono ?_
    rintro e w7 ⟨rfl, hb7⟩
    have E7' := Lib.hid ((E6'.out.alloc _).trans hb7)
    clear y0 hb7 x3
    obtain ⟨y0, -⟩ := blk_rules ((E7'.out.block x2).trans k0.out)
    have x3 := Nat.lt_of_lt_of_le x2 E7'.out.size
    go_wp2_with fail
    refine (linkLate_any noX _ _ _ _ l _ _ (H.out.up (E1.out.trans E7'.out)) (fun _ h => h.elim) HFew.out).mono ?_
    rintro e w8 ⟨e8, A8, n8, c8, rfl, hl8, hb8⟩
    rw [HLt.out]
    have E8' := Lib.hid (E7'.out.trans hb8)
    clear y0 hl8 hb8 x3
    obtain ⟨y0, -⟩ := blk_rules ((E8'.out.block x2).trans k0.out)
    have x3 := Nat.lt_of_lt_of_le x2 E8'.out.size
    go_wp2_with fail
    go_ret
    exact ⟨rfl, (E1.out.trans E8'.out).alloc _⟩
  · have hn' : n < 32 := by omega
    have hz32 : ((n : Int) == 32) = false := by simp; omega
    have HA : Hid (l.again (k : Int) = (⟨l.ep, l.q ++ [x]⟩, 0)) := Lib.hid (by rw [again_at HO.out HX.out, send_room HO.out (by rw [hlen.out]; exact hn')])
    have HLt := Lib.hid (late_at HO.out HX.out)
    have HT1 : Hid ((Lk.mk l.ep (l.q ++ [x])).take (n : Int) = (l, x, 0)) := Lib.hid (by have := take_snoc (x := x) (snoc_ok HO.out (by rw [hlen.out]; exact hn') x); rw [hlen.out] at this; exact this)
    have hcl : (l.q.take k ++ l.q.drop (k + 1)).length = n - 1 := by rw [cut_len (by rw [hlen.out]; exact hkn), hlen.out]
    have HT2 : Hid ((Lk.mk l.ep ((l.q.take k ++ l.q.drop (k + 1)) ++ [x])).take ((n : Int) - 1) = (⟨l.ep, l.q.take k ++ l.q.drop (k + 1)⟩, x, 0)) := Lib.hid (by
      have := take_snoc (l := ⟨l.ep, l.q.take k ++ l.q.drop (k + 1)⟩) (x := x) (snoc_ok (cut_ok HO.out (by rw [hlen.out]; exact hkn)) (by simp only []; omega) x)
      simp only [hcl] at this
      rw [show ((n : Int) - 1) = ((n - 1 : Nat) : Int) by omega]
      exact this)
    have HT3 := Lib.hid (take_at HO.out HX.out)
    clear h32 hcl
    refine (linkAgain_any noX _ _ _ _ l _ _ (H.out.up HE5.out) (fun _ h => h.elim) HFew.out).mono ?_
    rintro e w6 ⟨e6, A6, n6, c6, rfl, hl6, hb6⟩
    rw [HA.out] at hl6 ⊢
    simp only [] at hl6 ⊢
    have E6' := Lib.hid (E5'.out.trans hb6)
    have L6 := Lib.hid hl6
    clear y0 hl6 hb6
    obtain ⟨y0, -⟩ := blk_rules ((E6'.out.block x2).trans k0.out)
    have x3 := Nat.lt_of_lt_of_le x2 E6'.out.size
    go_wp2_with fail
    refine (ours_any _ _ _ _ _).mono ?_
    rintro e w7 ⟨rfl, hb7⟩
    have B7 := Lib.hid hb7
    have E7' := Lib.hid ((E6'.out.alloc _).trans hb7)
    clear y0 hb7 x3
    obtain ⟨y0, -⟩ := blk_rules ((E7'.out.block x2).trans k0.out)
    have x3 := Nat.lt_of_lt_of_le x2 E7'.out.size
    go_wp2_with fail
    refine (linkLate_any noX _ _ _ _ l _ _ (H.out.up (E1.out.trans E7'.out)) (fun _ h => h.elim) HFew.out).mono ?_
    rintro e w8 ⟨e8, A8, n8, c8, rfl, hl8, hb8⟩
    rw [HLt.out] at hl8 ⊢
    simp only [] at hl8 ⊢
    have B8 := Lib.hid (B7.out.trans hb8)
    have E8' := Lib.hid (E7'.out.trans hb8)
    have L8 := Lib.hid hl8
    clear y0 hl8 hb8 x3
    obtain ⟨y0, -⟩ := blk_rules ((E8'.out.block x2).trans k0.out)
    obtain ⟨z0, -, z1⟩ := box1 B8.out
    have x3 := Nat.lt_of_lt_of_le x2 E8'.out.size
    go_wp2_with fail
    refine (linkTake_any noX _ _ _ _ _ _ _ (L6.out.up (((Ext.new w6 _).trans B8.out).alloc _)) (fun _ h => h.elim)).mono ?_
    rintro e w9 ⟨e9, A9, n9, c9, At, nt, ct, rfl, hl9, hbv9, hb9⟩
    rw [HT1.out] at hl9 hbv9 ⊢
    simp only [] at hl9 hbv9 ⊢
    obtain rfl : n9 = n := by rw [← hl9.len, hlen.out]
    have B9 := Lib.hid hb9
    have E9' := Lib.hid ((E8'.out.alloc _).trans hb9)
    have L9 := Lib.hid hl9
    have V9 := Lib.hid hbv9
    clear y0 z0 z1 x3 hl9 hbv9 hb9
    obtain ⟨y0, -⟩ := blk_rules ((E9'.out.block x2).trans k0.out)
    obtain ⟨z0, -, z1⟩ := box1 B9.out
    have x3 := Nat.lt_of_lt_of_le x2 E9'.out.size
    have j1 : 0 ≤ (n9 : Int) - 1 := by omega
    go_wp2_with fail
    refine (linkTake_any noX _ _ _ _ _ _ _ (L8.out.up (((Ext.new w8 _).trans B9.out).alloc _)) (fun _ h => h.elim)).mono ?_
    rintro e w10 ⟨e10, A10, n10, c10, Au, nu, cu, rfl, hl10, hbv10, hb10⟩
    rw [HT2.out] at hl10 hbv10 ⊢
    simp only [] at hl10 hbv10 ⊢
    have B10 := Lib.hid hb10
    have E10' := Lib.hid ((E9'.out.alloc _).trans hb10)
    have L10 := Lib.hid hl10
    have V10 := Lib.hid hbv10
    clear y0 z0 z1 x3 hl10 hbv10 hb10
    obtain ⟨y0, -⟩ := blk_rules ((E10'.out.block x2).trans k0.out)
    have x3 := Nat.lt_of_lt_of_le x2 E10'.out.size
    go_wp2_with fail
    refine (ours_any _ _ _ _ _).mono ?_
    rintro e w11 ⟨rfl, hb11⟩
    have B11 := Lib.hid hb11
    have E11' := Lib.hid ((E10'.out.alloc _).trans hb11)
    clear y0 x3 hb11
    go_wp2_with fail
    refine (linkTake_any noX _ _ _ _ l _ _ (H.out.up (E1.out.trans E11'.out)) (fun _ h => h.elim)).mono ?_
    rintro e w12 ⟨e12, A12, n12, c12, Av, nv, cv, rfl, hl12, hbv12, hb12⟩
    rw [HT3.out] at hl12 hbv12 ⊢
    simp only [] at hl12 hbv12 ⊢
    have B12 := Lib.hid hb12
    have E12' := Lib.hid (E11'.out.trans hb12)
    have L12 := Lib.hid hl12
    have V12 := Lib.hid hbv12
    clear hl12 hbv12 hb12
    go_wp2_with fail
    obtain ⟨o12, ho12⟩ : ∃ o12, o12 = Obj.cells #[.int .i64 e12, .slice A12 n12 c12] 40 := ⟨_, rfl⟩
    rw [← ho12]
    generalize hW : w12.alloc o12 = W
    have k12 : W.heap[w12.heap.size]? = some (.cells #[.int .i64 e12, .slice A12 n12 c12] 40 (0, 0)) := by rw [← hW, ho12]; exact heap_alloc_new _ _
    have EW : Ext w12 W := by rw [← hW]; exact Ext.new _ _
    have k10 := (EW.block (Nat.lt_of_lt_of_le (box1b B11.out).2 B12.out.size)).trans ((B12.out.block (box1b B11.out).2).trans (box1b B11.out).1)
    have k9 := ((((Ext.new w10 _).trans B11.out).trans B12.out).trans EW |>.block (box1b B10.out).2).trans (box1b B10.out).1
    have kk := ((E12'.out.trans EW).block x2).trans k0.out
    have hzl : w.heap.size < W.heap.size := Nat.lt_of_lt_of_le x2 (E12'.out.trans EW).size
    have hz9 : w9.heap.size < W.heap.size := Nat.lt_of_lt_of_le (box1b B10.out).2 ((((Ext.new w10 _).trans B11.out).trans B12.out).trans EW).size
    have hz10 : w10.heap.size < W.heap.size := Nat.lt_of_lt_of_le (box1b B11.out).2 (B12.out.trans EW).size
    have hz12 : w12.heap.size < W.heap.size := by rw [← hW]; simp
    have EwW := Lib.hid ((E1.out.trans E12'.out).trans EW)
    have hb0W := Nat.lt_of_lt_of_le hb0 EwW.out.size
    have hcW := (EwW.out.cell hb0).trans HCX.out
    obtain ⟨_, _, _, q1, _, _, bt, _⟩ := V9.out
    injection q1 with q1 q2 q3
    subst q1 q2 q3
    obtain ⟨_, _, _, q1, _, _, bu, _⟩ := V10.out
    injection q1 with q1 q2 q3
    subst q1 q2 q3
    obtain ⟨_, _, _, q1, _, _, bv, _⟩ := V12.out
    injection q1 with q1 q2 q3
    subst q1 q2 q3
    have U9 : Ext w9 W := (((Ext.new w9 _).trans B10.out).trans ((Ext.new w10 _).trans B11.out)).trans (B12.out.trans EW)
    have U10 : Ext w10 W := ((Ext.new w10 _).trans B11.out).trans (B12.out.trans EW)
    have gt : ∀ w', Ext W w' → (convert 42 9 (.slice At nt ct)).run Try.prog w' = .ok (.string (bstr x)) w' := fun w' hx => run_conv Try.underlying42 Try.underlying5 Try.underlying9 (ArrR.up bt (U9.trans hx)) ct
    have gu : ∀ w', Ext W w' → (convert 42 9 (.slice Au nu cu)).run Try.prog w' = .ok (.string (bstr x)) w' := fun w' hx => run_conv Try.underlying42 Try.underlying5 Try.underlying9 (ArrR.up bu (U10.trans hx)) cu
    have gv : ∀ w', Ext W w' → (convert 42 9 (.slice Av nv cv)).run Try.prog w' = .ok (.string (bstr x)) w' := fun w' hx => run_conv Try.underlying42 Try.underlying5 Try.underlying9 (ArrR.up bv (EW.trans hx)) cv
    have gx : ∀ w', Ext W w' → (convert 42 9 (.slice Ax nx cx)).run Try.prog w' = .ok (.string (bstr x)) w' := fun w' hx => run_conv Try.underlying42 Try.underlying5 Try.underlying9 (ArrR.up HX3.out (EwW.out.trans hx)) cx
    have s1 : sameB l l = true := sameB_true rfl
    have s2 : sameB (Lk.mk l.ep (l.q.take k ++ l.q.drop (k + 1))) (Lk.mk l.ep (l.q.take k ++ l.q.drop (k + 1))) = true := sameB_true rfl
    have SK : ∀ w', Ext W w' → (w'.cell? ⟨w.heap.size, 0, none⟩ = some (.int .i64 ep) ∧ w'.cell? ⟨w.heap.size, 1, none⟩ = some (.slice (some ⟨b0, o0, none⟩) n9 c) ∧ w'.cell? ⟨w9.heap.size, 0, none⟩ = some (.int .i64 e9) ∧ w'.cell? ⟨w9.heap.size, 1, none⟩ = some (.slice A9 n9 c9) ∧
      w'.cell? ⟨w10.heap.size, 0, none⟩ = some (.int .i64 e10) ∧ w'.cell? ⟨w10.heap.size, 1, none⟩ = some (.slice A10 n10 c10) ∧ w'.cell? ⟨w12.heap.size, 0, none⟩ = some (.int .i64 e12) ∧ w'.cell? ⟨w12.heap.size, 1, none⟩ = some (.slice A12 n12 c12) ∧ w'.cell? ⟨b0, o0 + k, none⟩ = some (.slice Ax nx cx)) := fun w' hx =>
      ⟨(hx.cell hzl).trans ((blk_rules kk).1 0), (hx.cell hzl).trans ((blk_rules kk).1 1), (hx.cell hz9).trans ((blk_rules k9).1 0), (hx.cell hz9).trans ((blk_rules k9).1 1), (hx.cell hz10).trans ((blk_rules k10).1 0), (hx.cell hz10).trans ((blk_rules k10).1 1), (hx.cell hz12).trans ((blk_rules k12).1 0), (hx.cell hz12).trans ((blk_rules k12).1 1), (hx.cell hb0W).trans hcW⟩
    obtain ⟨l0, l1, l2, l3, l4, l5, l6, l7, l8⟩ := SK W (Ext.refl W)
    have l0' := cell_regrown l0
    have l1' := cell_regrown l1
    have l2' := cell_regrown l2
    have l3' := cell_regrown l3
    have l4' := cell_regrown l4
    have l5' := cell_regrown l5
    have l6' := cell_regrown l6
    have l7' := cell_regrown l7
    have l8' := cell_regrown l8
    have gt' := fun d os => gt _ (below_regrown W d os)
    have gu' := fun d os => gu _ (below_regrown W d os)
    have gv' := fun d os => gv _ (below_regrown W d os)
    have gx' := fun d os => gx _ (below_regrown W d os)
    have i1 : (0 : Int) ≤ (k : Int) := by omega
    have i2 : (k : Int) < (n9 : Int) := by omega
    have hn10 : n10 ≤ 9223372036854775807 := by have h1 := L10.out.len; simp only [] at h1; have h2 := hlen.out; rw [cut_len (by omega)] at h1; omega
    have cT : ∀ ep A n c d os, Calls Try.prog 36 #[.agg #[.int .i64 ep, .slice A n c]] (grow (redrawn W d) os) fun e w'' => e = .returned (.agg #[.int .i64 ep, .slice A n c]) ∧ ∃ p : Regrown, w'' = grow (redrawn W p.d) p.os := fun ep A n c d os => Calls.regrown_of (theirs_any ep A n c _)
    have cS1 : ∀ d os, Calls Try.prog 35 #[.agg #[.int .i64 e9, .slice A9 n9 c9], .agg #[.int .i64 ep, .slice (some ⟨b0, o0, none⟩) n9 c]] (grow (redrawn W d) os) fun e w'' => e = .returned (.bool true) ∧ ∃ p : Regrown, w'' = grow (redrawn W p.d) p.os := fun d os => by
      have hx := below_regrown W d os
      have := same12_any noX e9 ep A9 (some ⟨b0, o0, none⟩) n9 n9 c9 c l l (grow (redrawn W d) os) (L9.out.up (U9.trans hx)) (H.out.up (EwW.out.trans hx)) hm
      rw [s1] at this
      exact Calls.regrown_of this
    have cS2 : ∀ d os, Calls Try.prog 35 #[.agg #[.int .i64 e10, .slice A10 n10 c10], .agg #[.int .i64 e12, .slice A12 n12 c12]] (grow (redrawn W d) os) fun e w'' => e = .returned (.bool true) ∧ ∃ p : Regrown, w'' = grow (redrawn W p.d) p.os := fun d os => by
      have hx := below_regrown W d os
      have := same12_any noX e10 e12 A10 A12 n10 n12 c10 c12 _ _ (grow (redrawn W d) os) (L10.out.up (U10.trans hx)) (L12.out.up (EW.trans hx)) hn10
      rw [s2] at this
      exact Calls.regrown_of this
    clear SK k12 k10 k9 kk hW ho12 bt bu bv EW U9 U10 hcW hz9 hz10 hz12 hzl hb0W gt gu gv gx l0 l1 l2 l3 l4 l5 l6 l7 l8 s1 s2
    refine wp_region_quiet_below (by kernel_rfl) (by kernel_rfl) ?_
    repeat (first | go_big_quiet_step (first | (go_at_call 36; exact cT _ _ _ _ _ _) | (go_at_call 35; with_reducible exact cS1 _ _) | (go_at_call 35; with_reducible exact cS2 _ _)) | quiet_step (first | (go_at_call 36; exact cT _ _ _ _ _ _) | (go_at_call 35; with_reducible exact cS1 _ _) | (go_at_call 35; with_reducible exact cS2 _ _)))
    refine wpQuiet_nil ?_
    intro _ hw'
    obtain ⟨⟨dq, osq⟩, hw''⟩ := hw'
    subst hw''
    go_wp2_with fail
    go_ret
    exact ⟨rfl, Ext.trans EwW.out (below_regrown W dq osq)⟩
end Go.Proofs.Ytjomoannlpadnaa
