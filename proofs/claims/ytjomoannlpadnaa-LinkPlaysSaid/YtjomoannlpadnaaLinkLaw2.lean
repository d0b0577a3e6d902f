/- count and awake of layer 12. -/
import Derived.Test.YtjomoannlpadnaaLinkLaw
import Derived.Lib.SlBytesConst
import Derived.Lib.SmallJoins
namespace Go.Proofs.Ytjomoannlpadnaa
open Go.RowKit
attribute [local go_sem ↓] run_max2 run_min2
attribute [local go_sem ↓] Go.wp_at_zero Go.wp_at_succ

def cntQ (q : List (List UInt8)) (b : List UInt8) : Nat := (q.filter fun x => x == b).length
theorem cntQ_take {q : List (List UInt8)} {b x : List UInt8} {k : Nat} (h : q[k]? = some x) : cntQ (q.take (k + 1)) b = cntQ (q.take k) b + if (x == b) = true then 1 else 0 := by
  unfold cntQ
  rw [take_snoc_of h, List.filter_append, List.length_append]
  congr 1
  by_cases hx : (x == b) = true <;> simp [hx]
theorem cntQ_le (q : List (List UInt8)) (b : List UInt8) : cntQ q b ≤ q.length := List.length_filter_le _ _
set_option maxHeartbeats 800000 in
theorem count12_any (X : Nat → Prop) (A Ab : Option Addr) (n c nb cb : Nat) (q : List (List UInt8)) (bs : List UInt8) (w : World) (h : QRd w X A n q) (hb : Byts w Ab nb bs) (hm : n ≤ 9223372036854775807) :
    Calls Try.prog 49 #[.slice A n c, .slice Ab nb cb] w fun e w' => e = .returned (.int .i64 (cntQ q bs : Nat)) ∧ Ext w w' := by
  have H := Lib.hid h
  have g2 := conv_bytes hb cb
  have t2 := bstr_toList bs
  clear h hb
  go_enter Try.func49, Try.ntmps49
  go_wp2_with fail
  go_loopw [5, 6] (fun t i wr => ∃ k nq : Nat, k ≤ n ∧ i = .int .i64 k ∧ t = .int .i64 (cntQ (q.take k) bs : Nat) ∧ wr = w.drewN nq) (fun _ i _ => n - (intOf i).toNat)
  case atStart => exact ⟨0, 0, Nat.zero_le _, rfl, rfl, rfl⟩
  case round =>
    obtain ⟨k, nq, hk, rfl, rfl, rfl⟩ := hrel
    by_cases hlt : k < n
    · obtain ⟨b1, o1, A1, n1, c1, s1, rfl, hb1, hq1, hc1, _, _, hs1, _⟩ := H.out.at_ hlt
      have g1 := conv_bytes hs1 c1
      have t1 := bstr_toList s1
      have i1 : (0 : Int) ≤ (k : Int) := by omega
      have i2 : (k : Int) < (n : Int) := by omega
      have HC := Lib.hid (cntQ_take (b := bs) hq1)
      have hle := cntQ_le (q.take k) bs
      have hle2 : (q.take k).length ≤ k := List.length_take_le _ _
      obtain ⟨N, hN⟩ : ∃ N, N = cntQ (q.take k) bs := ⟨_, rfl⟩
      rw [← hN] at hle ⊢
      have HN := Lib.hid hN
      have hle3 : N ≤ k := by omega
      clear hs1 hq1 hN hle hle2
      by_cases hss : s1 = bs
      · have heq : (s1 == bs) = true := by simp [hss]
        have HC2 : Hid (cntQ (q.take (k + 1)) bs = N + 1) := Lib.hid (by rw [HC.out, if_pos heq, HN.out])
        clear hss HC
        go_wp2_with fail
        go_quiet (fail)
        go_wp2_with fail
        go_roundw
        case rel => exact ⟨k + 1, _, by omega, by go_num, by rw [HC2.out]; go_num, rfl⟩
        case measure => simp [intOf]; omega
      · have heq : (s1 == bs) = false := by simp [hss]
        have heq' : ¬ s1 = bs := hss
        have HC2 : Hid (cntQ (q.take (k + 1)) bs = N) := Lib.hid (by rw [HC.out, if_neg (by simp [hss]), HN.out]; rfl)
        clear hss HC
        go_wp2_with fail
        go_quiet (fail)
        go_wp2_with fail
        go_roundw
        case rel => exact ⟨k + 1, _, by omega, by go_num, by rw [HC2.out], rfl⟩
        case measure => simp [intOf]; omega
    · have HF : Hid (cntQ (q.take k) bs = cntQ q bs) := Lib.hid (by rw [List.take_of_length_le (by have := H.out.len; omega)])
      go_wp2_with fail
      go_ret
      exact ⟨by rw [HF.out]; rfl, (Ext.refl w).drewN _⟩

abbrev noX : Nat → Prop := fun _ => False
theorem one_byte (w : World) (t : TypeId) (m : Nat × Nat) (u : UInt8) (y : Int) (g : Nat) (hg : g = w.heap.size) (hy : (u.toNat : Int) = y) : Byts (w.alloc (.cells #[.int .u8 y] t m)) (some ⟨g, 0, none⟩) 1 [u] := by
  subst hy hg
  exact ArrR.of_block (heap_alloc_new w _) rfl fun k x hx => by
    match k, hx with
    | 0, hx => cases hx; exact ⟨_, rfl, rfl, fun j v hv => by match j, hv with | 0, hv => exact hv⟩

theorem aw1 : (Lk.mk 0 []).send [97] = (⟨0, [[97]]⟩, 0) := rfl
theorem aw2 : (Lk.mk 0 [[97]]).send [98] = (⟨0, [[97], [98]]⟩, 0) := rfl
theorem aw3 : (Lk.mk 0 [[97], [98]]).take 1 = (⟨0, [[97]]⟩, [98], 0) := rfl
set_option maxHeartbeats 800000 in
set_option maxRecDepth 100000 in
theorem awake12 (w : World) : Calls Try.prog 27 #[] w fun e w' => e = .returned (.bool true) ∧ Ext w w' := by
  have kc := fun (w : World) (C : Array Value) (n c : Nat) => Lib.run_convert_bytes_const (P := Try.prog) w 42 5 C n c Try.underlying42 Try.underlying5
  have kd := fun (w : World) (C : Array Value) (n c g : Nat) (hg : g = w.heap.size) => Joins.run_convert_bytes_const_at (P := Try.prog) w 42 5 C n c g hg Try.underlying42 Try.underlying5
  go_enter Try.func27, Try.ntmps27
  go_wp2_with fail
  refine (linkSend_any noX 0 none 0 0 ⟨0, []⟩ _ 1 1 [97] _ ⟨rfl, LinkR.nil_⟩ (fun b h => h.elim) (one_byte w _ _ 97 97 _ rfl (by decide)) (fun h => by cases h) (by omega)).mono ?_
  rintro e w1 ⟨e1, A1, n1, c1, rfl, hl1, hb1⟩
  rw [aw1] at hl1 ⊢
  simp only [] at hl1 ⊢
  replace hb1 := (Ext.new w _).trans hb1
  go_wp2_with fail
  refine (linkSend_any noX _ _ _ _ _ (some ⟨w1.heap.size + 1, 0, none⟩) 1 1 [98] _ (hl1.up ((Ext.new _ _).alloc _)) (fun b h => h.elim) (one_byte _ _ _ 98 98 _ (by simp) (by decide)) (fun h => by cases h) (by omega)).mono ?_
  rintro e w2 ⟨e2, A2, n2, c2, rfl, hl2, hb2⟩
  rw [aw2] at hl2 ⊢
  simp only [] at hl2 ⊢
  replace hb2 := ((hb1.alloc _).alloc _).trans hb2
  go_wp2_with fail
  refine (linkTake_any noX _ _ _ _ _ 1 _ (hl2.up (Ext.new _ _)) (fun b h => h.elim)).mono ?_
  rintro e w3 ⟨e3, A3, n3, c3, A4, n4, c4, rfl, hl3, hbv, hb3⟩
  rw [aw3] at hl3 hbv ⊢
  simp only [] at hl3 hbv ⊢
  replace hb3 := (hb2.alloc _).trans hb3
  obtain ⟨_, _, _, e5, _, _, hbs, _⟩ := hbv
  injection e5 with e5 e6 e7
  subst e5 e6 e7
  obtain rfl : n3 = 1 := by have := hl3.len; simpa using this.symm
  obtain ⟨b, o, A5, n5, c5, s5, rfl, hbl, hq5, hc5, _, _, hs5, _⟩ := hl3.2.1.at_ (k := 0) (by omega)
  obtain rfl : s5 = [97] := by simpa using hq5.symm
  obtain rfl : e3 = 0 := hl3.1.symm
  simp only [Nat.add_zero] at hc5
  have hE := Ext.new w3 (.cells #[.int .i64 0, .slice (some ⟨b, o, none⟩) 1 c3] 40)
  have hc6 := (hE.cell hbl).trans hc5
  have g1 := run_conv Try.underlying42 Try.underlying5 Try.underlying9 (ArrR.up hbs hE) c4
  have g2 := run_conv Try.underlying42 Try.underlying5 Try.underlying9 (ArrR.up hs5 hE) c5
  have t1 := bstr_toList [98]
  have t2 := bstr_toList [97]
  clear kc kd hbs hs5 hq5 hl3 hl1 hl2 hE hc5
  go_wp2_with (go_at_call 29; refine (linkSane_any _ _ _ _ _).mono ?_; rintro e w4 ⟨rfl, hb4⟩; rw [show okL 0 1 = true from rfl])
  go_ret
  exact ⟨rfl, (hb3.alloc _).trans hb4⟩
end Go.Proofs.Ytjomoannlpadnaa
