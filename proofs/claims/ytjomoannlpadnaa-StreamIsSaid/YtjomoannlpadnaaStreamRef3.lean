/- What Feed of the reference of package stream computes. -/
import Derived.Test.YtjomoannlpadnaaStreamRef2
import Derived.Test.YtjomoannlpadnaaStreamLaw
import Derived.Test.YtjomoannlpadnaaBytes
import Derived.Test.YtjomoannlpadnaaStreamBox
namespace Go.Proofs.Ytjomoannlpadnaa
set_option linter.unusedVariables false
open Go.RowKit
attribute [local go_sem ↓] run_max2 run_min2
attribute [local go_sem ↓] Go.wp_at_zero Go.wp_at_succ

def RefFeedPost (w : World) (D : Bf × List (List UInt8)) (e : Ending) (w' : World) : Prop :=
  ∃ A n c Aq cq, e = .returned (.tuple #[.agg #[.slice A n c, .int .i64 D.1.bad], .slice Aq D.2.length cq]) ∧ Byts w' A n D.1.rest ∧ QR w' Aq D.2.length D.2 ∧ Ext w w'

set_option maxRecDepth 100000 in
set_option maxHeartbeats 4000000 in
theorem refFeed_good (A Ab : Option Addr) (n c nb cb : Nat) (x : Bf) (bs : List UInt8) (w : World) (hA : Byts w A n x.rest) (hc : A = none → c = 0) (hnc : n ≤ c) (hcm : c ≤ 9223372036854775807) (hB : Byts w Ab nb bs) (hcb : Ab = none → cb = 0) (hnb : n + nb ≤ 1000000)
    (hs : x.sane = true) (h0 : x.bad = 0) :
    Calls Try.prog 59 #[.agg #[.slice A n c, .int .i64 x.bad], .slice Ab nb cb] w (RefFeedPost w (x.feed bs)) := by
  have HFD : Hid (x.feed bs = ((drain (x.rest ++ bs)).2, (drain (x.rest ++ bs)).1)) := Lib.hid (by unfold Bf.feed; rw [Bf.norm_sane hs, if_pos h0])
  have HA := Lib.hid hA
  have HB := Lib.hid hB
  have HS := Lib.hid hs
  have hb0 : (x.bad != 0) = false := by simpa using h0
  clear hA hB hs h0
  go_enter Try.func59, Try.ntmps59
  go_wp2_with fail
  refine (refSane_any A n c x _ (ArrR.up HA.out ((Ext.new _ _).alloc _)) hc hnc hcm).mono ?_
  rintro e w1 ⟨rfl, hb1⟩
  rw [HS.out]
  have K0 := Lib.hid (box2b hb1).1
  have KR := Lib.hid (box2b hb1).2.1
  have E1 := Lib.hid (((Ext.new w _).alloc _).trans hb1)
  have hzw : w.heap.size + 1 < w1.heap.size := (box2b hb1).2.2
  obtain ⟨q0, qf⟩ := blk_rules K0.out
  have hzw0 : w.heap.size < w1.heap.size := by omega
  have q2 : (w1.alloc (.cells #[] 5)).cell? ⟨w.heap.size, 0, none⟩ = some (.slice A n c) := ((Ext.new w1 _).cell hzw0).trans (q0 0)
  clear hb1
  have HE := Lib.hid (own_empty_lit w1 w1.heap.size 5 1 (Nat.le_refl _))
  have HZ : Hid (w1.heap.size ≤ (w1.alloc (.cells #[] 5)).heap.size) := Lib.hid (Ext.new w1 (.cells #[] 5)).size
  go_wp2_with (first
    | (at_builtin
       obtain ⟨v3, w3, hrun3, hown3, hg3, _⟩ := run_append_flat elem_byte 42 H2.out cb (ArrR.flat (f := byteV) (ArrR.up HB.out (E1.out.trans E2.out))) (byteV_one bs) (by omega) (by omega) E2.out.size hcb
       have E3 := Lib.hid (E2.out.grown hg3 H2.out (Nat.le_refl _))
       rw [← List.map_append] at hown3
       obtain ⟨A3, c3, rfl, h83⟩ := Own8.of_own hown3
       have H83 := Lib.hid h83
       refine Lib.wpList_append_run _ rfl _ _ _ _ rfl _ _ rfl rfl _ w3 hrun3 ?_
       clear hrun3 hown3 hg3 h83)
    | (at_builtin
       obtain ⟨v2, w2, hrun2, hown2, hg2, _⟩ := run_append_flat elem_byte 42 HE.out c (ArrR.flat (f := byteV) (ArrR.up HA.out (E1.out.trans (Ext.new _ _)))) (byteV_one x.rest) (by omega) (by omega) HZ.out hc
       rw [List.nil_append, Nat.zero_add] at hown2
       have E2 := Lib.hid ((Ext.new w1 _).grown hg2 HE.out (Nat.le_refl _))
       have H2 := Lib.hid hown2
       refine Lib.wpList_append_run _ rfl _ _ _ _ rfl _ _ rfl rfl v2 w2 hrun2 ?_
       clear hrun2 hown2 hg2))
  have KR3 := Lib.hid ((E3.out.block (by omega)).trans KR.out)
  obtain ⟨L, hL⟩ : ∃ L, L = x.rest ++ bs := ⟨_, rfl⟩
  have HLL : Hid (L.length ≤ 1000000) := Lib.hid (by rw [hL, List.length_append]; have h1 := HA.out.len; have h2 := HB.out.len; omega)
  rw [← hL] at H83 HFD
  have EW3 := Lib.hid (E1.out.trans E3.out)
  have hz3 : w.heap.size + 1 < w3.heap.size := Nat.lt_of_lt_of_le hzw E3.out.size
  clear hL q0 qf q2
  have H83E : Hid (∀ (_ : 0 < n + nb) (b o : Nat), A3 = some ⟨b, o, none⟩ → ¬ (b = w.heap.size + 1 ∨ (Value.slice none 0 0).ownBlock = some b)) := Lib.hid (by
    intro _ b o eb hb
    have h1 := H83.out.2.2.2.2 b o eb
    rcases hb with hb | hb
    · omega
    · cases hb)
  go_loopw [6, 7] (fun l v wr => ∃ A' n' c' q r, l = .slice A' n' c' ∧ Hid (Elem wr (fun b => b = w.heap.size + 1 ∨ v.ownBlock = some b) (.slice A' n' c') r) ∧ Hid (Outs wr w3.heap.size 42 (fun b => b = w.heap.size + 1) v q) ∧ Hid (drain L = (q ++ (drain r).1, (drain r).2)) ∧ Hid (Ext w3 wr) ∧ Hid (q.length + r.length ≤ L.length)) (fun l _ _ => match l with | .slice _ n _ => n | _ => 0)
  case atStart => exact ⟨A3, _, c3, [], L, rfl, Lib.hid ⟨A3, _, c3, rfl, H83.out.1, H83.out.2.1, H83.out.2.2.1, H83.out.2.2.2.1, H83E.out⟩, Lib.hid Outs.nil_, Lib.hid rfl, Lib.hid (Ext.refl _), Lib.hid (by simp)⟩
  case round =>
    obtain ⟨A1, n1, c1, q, r, rfl, HEL, HO, HD, HX, HC⟩ := hrel
    obtain ⟨hA1, hn1, hc1, hB1⟩ := HEL.out.byts
    have HB1 := Lib.hid hB1
    have hl1 : n1 ≤ 1000000 := by have h1 := hB1.len; have h2 := HC.out; have h3 := HLL.out; omega
    clear hB1
    go_wp2_with fail
    refine (refNext_any A1 n1 c1 r _ HB1.out hA1 hn1 hc1).mono ?_
    rintro e w4 ⟨A4, n4, c4, rfl, h84, hb4⟩
    have H84 := Lib.hid h84
    have E4 := Lib.hid hb4
    have X4 := Lib.hid (HX.out.trans hb4)
    have KR4 := Lib.hid ((X4.out.block (by omega)).trans KR3.out)
    obtain ⟨p, N, er, hnx⟩ : ∃ p N er, next r = (p, N, er) := ⟨_, _, _, rfl⟩
    rw [hnx] at H84 ⊢
    have HNX := Lib.hid hnx
    have her := next_e r
    rw [hnx] at her
    clear h84 hb4 hnx
    obtain ⟨rz, rf⟩ := blk_rules KR4.out
    have hlt4 : ∀ b, u7.ownBlock = some b → w3.heap.size ≤ b ∧ b < wr.heap.size := HO.out.lt
    have hzr : w3.heap.size ≤ wr.heap.size := HX.out.size
    have fin : ∀ (er : Int) (A5 : Option Addr) (n5 c5 : Nat) (r5 : List UInt8), Elem w4 (fun b => b = w.heap.size + 1) (.slice A5 n5 c5) r5 → drain L = (q, ⟨r5, er⟩) →
        ∃ Aq cq, u7 = .slice Aq q.length cq ∧ ((w4.setCell ⟨w.heap.size + 1, 0, none⟩ (.slice A5 n5 c5)).setCell ⟨w.heap.size + 1, 1, none⟩ (.int .i64 er)).heap[w.heap.size + 1]? = some (.cells #[.slice A5 n5 c5, .int .i64 er] 81 (0, 0)) ∧
          RefFeedPost w (x.feed bs) (.returned (.tuple #[.agg #[.slice A5 n5 c5, .int .i64 er], .slice Aq q.length cq])) ((w4.setCell ⟨w.heap.size + 1, 0, none⟩ (.slice A5 n5 c5)).setCell ⟨w.heap.size + 1, 1, none⟩ (.int .i64 er)) := by
      intro er A5 n5 c5 r5 he hd
      have o5 := ((HO.out.up E4.out).set (g := w.heap.size + 1) rfl (by omega) 0 (.slice A5 n5 c5)).set (g := w.heap.size + 1) rfl (by omega) 1 (.int .i64 er)
      have e5 := (he.but (grownBy_set w4 (w.heap.size + 1) 0 (.slice A5 n5 c5)) (fun b eb => by injection eb with eb; exact eb.symm)).but (grownBy_set _ (w.heap.size + 1) 1 (.int .i64 er)) (fun b eb => by injection eb with eb; exact eb.symm)
      obtain ⟨Aq, cq, hv, -, -, -, gq⟩ := o5.read
      refine ⟨Aq, cq, hv, blk_set (i := 1) (blk_set (i := 0) KR4.out _) _, A5, n5, c5, Aq, cq, by rw [HFD.out, hd], by rw [HFD.out, hd]; exact e5.byts.2.2.2, by rw [HFD.out, hd]; exact gq, ((EW3.out.trans X4.out).set (by show w.heap.size ≤ w.heap.size + 1; omega) _).set (by show w.heap.size ≤ w.heap.size + 1; omega) _⟩
    have FIN := Lib.hid fin
    clear fin
    rcases her with rfl | rfl | her
    · have hpos := next_pos HNX.out
      have hrl : r.length = n1 := HB1.out.len
      have hdok := drain_ok HNX.out
      obtain ⟨b, o, rfl, -⟩ := HB1.out.2 (by omega)
      have j1 : (N : Int) ≤ (n1 : Int) := by omega
      have hqn : q.length ≤ 1000000 := by have h2 := HC.out; have h3 := HLL.out; omega
      simp only [] at H84
      obtain ⟨W, hW⟩ : ∃ W, W = w4.alloc (.cells #[.slice A4 n4 c4] 42) := ⟨_, rfl⟩
      have xW : Ext w4 W := by rw [hW]; exact Ext.new _ _
      have hfl : Flat W 1 (some ⟨w4.heap.size, 0, none⟩) 1 [.slice A4 n4 c4] := by
        have h1 : ArrR W 1 (fun cs (y : Value) => cs = [y]) (some ⟨w4.heap.size, 0, none⟩) 1 [Value.slice A4 n4 c4] := by
          rw [hW]
          refine ArrR.of_block (heap_alloc_new w4 _) rfl fun k y hy => ?_
          match k, hy with
          | 0, hy => cases hy; exact ⟨_, rfl, rfl, fun j u hu => by match j, hu with | 0, hu => exact hu⟩
        have h2 := ArrR.flat (f := fun (y : Value) => y) h1
        simpa using h2
      have hel : Elem W (RowF (fun b => b = w.heap.size + 1) u7) (.slice A4 n4 c4) p := by
        refine (Elem.up (w := w4) ⟨A4, n4, c4, rfl, H84.out.1, H84.out.2.1, H84.out.2.2.1, H84.out.2.2.2.1, fun _ b o eb hb => ?_⟩ xW)
        have h1 := H84.out.2.2.2.2 b o eb
        rcases hb with hb | hb
        · omega
        · have := (hlt4 b hb).2; omega
      obtain ⟨v', w5, hrun, hO5, hg5, hat⟩ := Outs.pushF elem_bytes 35 ((HO.out.up E4.out).up xW) (c := 1) hfl (fun h => by cases h) (r := [p]) rfl (fun i u hu => by
        match i, hu with
        | 0, hu => cases hu; exact ⟨p, rfl, hel⟩) (by omega) (by omega) (by have := (X4.out.trans xW).size; omega)
      have hE5 : Elem w5 (fun b => b = w.heap.size + 1 ∨ v'.ownBlock = some b) (.slice (some ⟨b, o, none⟩) n1 c1) r := by
        refine ((((HEL.out.up E4.out).up xW).weak (X' := fun b => (b = w.heap.size + 1 ∨ u7.ownBlock = some b) ∨ v'.ownBlock = some b) ?_).but hg5 (fun b eb => .inl (.inr eb))).weak (fun b hb => .inl (hb.elim (fun h => .inl (.inl h)) .inr))
        rintro b (hb | hb)
        · exact .inl hb
        · rcases hat with ha | ha
          · exact .inl (.inr (by rw [← ha, hb]))
          · right; rw [hb] at ha; injection ha with ha; omega
      have hX5 : Ext w3 w5 := Below.grown (X4.out.trans xW) hg5 (X4.out.trans xW).size (fun b hb => (hlt4 b hb).1)
      have R5 := Lib.hid hrun
      have HE5 := Lib.hid hE5
      have HO5 := Lib.hid hO5
      have HX5 := Lib.hid hX5
      have HD5 : Hid (drain L = ((q ++ [p]) ++ (drain (r.drop N)).1, (drain (r.drop N)).2)) := Lib.hid (by rw [HD.out, hdok, List.append_assoc]; rfl)
      have HC5 : Hid ((q ++ [p]).length + (r.drop N).length ≤ L.length) := Lib.hid (by have := HC.out; simp only [List.length_append, List.length_cons, List.length_nil, List.length_drop]; omega)
      clear hfl hel hrun hO5 hg5 hat hE5 hX5 hdok xW FIN rz rf
      go_wp2_with (at_builtin
                   refine Lib.wpList_append_run _ rfl _ _ _ _ rfl _ _ rfl rfl v' w5 (by rw [← hW]; exact R5.out) ?_)
      go_roundw
      case rel =>
        obtain ⟨hz5, hn5, hc5, hB5⟩ := HE5.out.byts
        by_cases hcN : c1 = N
        · refine ⟨some ⟨b, o, none⟩, n1 - N, c1 - N, q ++ [p], r.drop N, by rw [if_pos hcN], Lib.hid ⟨_, _, _, rfl, (fun h => by cases h), by omega, by omega, ⟨by rw [List.length_drop, hrl], fun h => absurd h (by omega)⟩, fun h => absurd h (by omega)⟩, HO5, HD5, HX5, HC5⟩
        · refine ⟨some ⟨b, o + N, none⟩, n1 - N, c1 - N, q ++ [p], r.drop N, by rw [if_neg hcN], Lib.hid ⟨_, _, _, rfl, (fun h => by cases h), by omega, by omega, byts_drop hB5 N, fun h b' o' eb hb => ?_⟩, HO5, HD5, HX5, HC5⟩
          injection eb with eb
          injection eb with e1 e2
          subst e1
          obtain ⟨_, _, _, e3, _, _, _, _, hoff⟩ := HE5.out
          injection e3 with e4 e5 e6
          exact hoff (by omega) b o e4.symm hb
      case measure => simp; omega
    · go_wp2_with fail
      obtain ⟨Aq, cq, rfl, k5, hpost⟩ := FIN.out 0 A1 n1 c1 r ((HEL.out.weak (fun b hb => .inl (.inl hb))).up E4.out) (by rw [HD.out, drain_short (by rw [HNX.out]), List.append_nil])
      have r5 := (blk_rules k5).1
      exact bodyPost_ret (v := .tuple #[.agg #[.slice A1 n1 c1, .int .i64 0], .slice Aq q.length cq]) (by simp [results, Try.results59, go_sem, r5]) rfl hpost
    · rcases her with rfl | rfl
      · go_wp2_with fail
        obtain ⟨Aq, cq, rfl, k5, hpost⟩ := FIN.out 2 none 0 0 [] ⟨none, 0, 0, rfl, fun _ => rfl, Nat.le_refl _, by omega, ArrR.nil_, fun h => absurd h (by omega)⟩ (by rw [HD.out, drain_bad (by rw [HNX.out]; show (2 : Int) ≠ 1; decide) (by rw [HNX.out]; show (2 : Int) ≠ 0; decide), List.append_nil, HNX.out])
        have r5 := (blk_rules k5).1
        exact bodyPost_ret (v := .tuple #[.agg #[.slice none 0 0, .int .i64 2], .slice Aq q.length cq]) (by simp [results, Try.results59, go_sem, r5]) rfl hpost
      · go_wp2_with fail
        obtain ⟨Aq, cq, rfl, k5, hpost⟩ := FIN.out 3 none 0 0 [] ⟨none, 0, 0, rfl, fun _ => rfl, Nat.le_refl _, by omega, ArrR.nil_, fun h => absurd h (by omega)⟩ (by rw [HD.out, drain_bad (by rw [HNX.out]; show (3 : Int) ≠ 1; decide) (by rw [HNX.out]; show (3 : Int) ≠ 0; decide), List.append_nil, HNX.out])
        have r5 := (blk_rules k5).1
        exact bodyPost_ret (v := .tuple #[.agg #[.slice none 0 0, .int .i64 3], .slice Aq q.length cq]) (by simp [results, Try.results59, go_sem, r5]) rfl hpost

-- PRINTED BELOW

set_option maxRecDepth 100000 in
set_option maxHeartbeats 4000000 in
theorem refFeed_insane (A Ab : Option Addr) (n c nb cb : Nat) (x : Bf) (bs : List UInt8) (w : World) (hA : Byts w A n x.rest) (hc : A = none → c = 0) (hnc : n ≤ c) (hcm : c ≤ 9223372036854775807) (hB : Byts w Ab nb bs) (hcb : Ab = none → cb = 0) (hnb : n + nb ≤ 1000000)
    (hs : x.sane = false) :
    Calls Try.prog 59 #[.agg #[.slice A n c, .int .i64 x.bad], .slice Ab nb cb] w (RefFeedPost w (x.feed bs)) := by
  have HFD : Hid (x.feed bs = ((drain (([] : List UInt8) ++ bs)).2, (drain (([] : List UInt8) ++ bs)).1)) := Lib.hid (by
    have hn : x.norm = ⟨[], 0⟩ := by unfold Bf.norm; rw [if_neg (by rw [hs]; decide)]
    unfold Bf.feed
    rw [hn]
    rfl)
  have HA := Lib.hid hA
  have HB := Lib.hid hB
  have HS := Lib.hid hs
  clear hA hB hs
  go_enter Try.func59, Try.ntmps59
  go_wp2_with fail
  refine (refSane_any A n c x _ (ArrR.up HA.out ((Ext.new _ _).alloc _)) hc hnc hcm).mono ?_
  rintro e w1 ⟨rfl, hb1⟩
  rw [HS.out]
  have hz1 : w.heap.size + 1 < w1.heap.size := (box2b hb1).2.2
  obtain ⟨q0, qf⟩ := blk_rules (box2b hb1).1
  obtain ⟨W1, hW1⟩ : ∃ W, W = (w1.setCell ⟨w.heap.size, 0, none⟩ (.slice none 0 0)).setCell ⟨w.heap.size, 1, none⟩ (.int .i64 0) := ⟨_, rfl⟩
  have K0 := Lib.hid (show W1.heap[w.heap.size]? = some (.cells #[.slice none 0 0, .int .i64 0] 81 (0, 0)) by rw [hW1]; exact blk_set (i := 1) (blk_set (i := 0) (box2b hb1).1 _) _)
  have KR := Lib.hid (show W1.heap[w.heap.size + 1]? = some (.cells #[.slice none 0 0, .int .i64 0] 81 (0, 0)) by rw [hW1]; exact (blk_far (by omega) _).trans ((blk_far (by omega) _).trans (box2b hb1).2.1))
  have E1 : Hid (Ext w W1) := Lib.hid (by rw [hW1]; exact ((((Ext.new w _).alloc _).trans hb1).set (Nat.le_refl _) _).set (Nat.le_refl _) _)
  have hzw : w.heap.size + 1 < W1.heap.size := by rw [hW1]; simp only [World.setCell, Array.size_modify]; exact hz1
  have hzw0 : w.heap.size < W1.heap.size := by omega
  have hs1 : W1.heap.size = w1.heap.size := by rw [hW1]; simp only [World.setCell, Array.size_modify]
  have q2 : (((w1.setCell ⟨w.heap.size, 0, none⟩ (.slice none 0 0)).setCell ⟨w.heap.size, 1, none⟩ (.int .i64 0)).alloc (.cells #[] 5)).cell? ⟨w.heap.size, 0, none⟩ = some (.slice none 0 0) := by rw [← hW1]; exact ((Ext.new W1 _).cell hzw0).trans ((blk_rules K0.out).1 0)
  have hE0 := own_empty_lit W1 w1.heap.size 5 1 (Nat.le_of_eq hs1.symm)
  rw [hs1] at hE0
  clear hb1
  have HE := Lib.hid hE0
  have HZ : Hid (w1.heap.size ≤ (W1.alloc (.cells #[] 5)).heap.size) := Lib.hid (Nat.le_trans (Nat.le_of_eq hs1.symm) <| Ext.size <| Ext.new W1 (.cells #[] 5))
  go_wp2_with (first
    | (at_builtin
       obtain ⟨v3, w3, hrun3, hown3, hg3, _⟩ := run_append_flat elem_byte 42 H2.out cb (ArrR.flat (f := byteV) (ArrR.up HB.out (E1.out.trans E2.out))) (byteV_one bs) (by omega) (by omega) (Nat.le_trans (Nat.le_of_eq hs1.symm) E2.out.size) hcb
       have E3 := Lib.hid (E2.out.grown hg3 H2.out (Nat.le_of_eq hs1))
       rw [← List.map_append, Nat.zero_add] at hown3
       obtain ⟨A3, c3, rfl, h83⟩ := Own8.of_own hown3
       have H83 := Lib.hid h83
       refine Lib.wpList_append_run _ rfl _ _ _ _ rfl _ _ rfl rfl _ w3 hrun3 ?_
       clear hrun3 hown3 hg3 h83)
    | (at_builtin
       obtain ⟨v2, w2, hrun2, hown2, hg2, _⟩ := run_append_flat elem_byte 42 HE.out 0 (ArrR.flat (f := byteV) (show Byts (W1.alloc (.cells #[] 5)) none 0 [] from ArrR.nil_)) (byteV_one []) (by omega) (by omega) HZ.out (fun _ => rfl)
       rw [List.nil_append, Nat.zero_add] at hown2
       have E2 := Lib.hid ((Ext.new W1 _).grown hg2 HE.out (Nat.le_of_eq hs1))
       have H2 := Lib.hid hown2
       refine Lib.wpList_append_run _ rfl _ _ _ _ rfl _ _ rfl rfl v2 w2 (by rw [← hW1]; exact hrun2) ?_
       clear hrun2 hown2 hg2))
  have KR3 := Lib.hid ((E3.out.block (by omega)).trans KR.out)
  obtain ⟨L, hL⟩ : ∃ L, L = [] ++ bs := ⟨_, rfl⟩
  have HLL : Hid (L.length ≤ 1000000) := Lib.hid (by rw [hL, List.length_append]; have h2 := HB.out.len; simp only [List.length_nil]; omega)
  rw [← hL] at H83 HFD
  have EW3 := Lib.hid (E1.out.trans E3.out)
  have hz3 : w.heap.size + 1 < w3.heap.size := Nat.lt_of_lt_of_le hzw E3.out.size
  clear hL q0 qf hW1 q2 hE0
  have H83E : Hid (∀ (_ : 0 < nb) (b o : Nat), A3 = some ⟨b, o, none⟩ → ¬ (b = w.heap.size + 1 ∨ (Value.slice none 0 0).ownBlock = some b)) := Lib.hid (by
    intro _ b o eb hb
    have h1 := H83.out.2.2.2.2 b o eb
    rcases hb with hb | hb
    · omega
    · cases hb)
  go_loopw [6, 7] (fun l v wr => ∃ A' n' c' q r, l = .slice A' n' c' ∧ Hid (Elem wr (fun b => b = w.heap.size + 1 ∨ v.ownBlock = some b) (.slice A' n' c') r) ∧ Hid (Outs wr w3.heap.size 42 (fun b => b = w.heap.size + 1) v q) ∧ Hid (drain L = (q ++ (drain r).1, (drain r).2)) ∧ Hid (Ext w3 wr) ∧ Hid (q.length + r.length ≤ L.length)) (fun l _ _ => match l with | .slice _ n _ => n | _ => 0)
  case atStart => exact ⟨A3, _, c3, [], L, rfl, Lib.hid ⟨A3, _, c3, rfl, H83.out.1, H83.out.2.1, H83.out.2.2.1, H83.out.2.2.2.1, H83E.out⟩, Lib.hid Outs.nil_, Lib.hid rfl, Lib.hid (Ext.refl _), Lib.hid (by simp)⟩
  case round =>
    obtain ⟨A1, n1, c1, q, r, rfl, HEL, HO, HD, HX, HC⟩ := hrel
    obtain ⟨hA1, hn1, hc1, hB1⟩ := HEL.out.byts
    have HB1 := Lib.hid hB1
    have hl1 : n1 ≤ 1000000 := by have h1 := hB1.len; have h2 := HC.out; have h3 := HLL.out; omega
    clear hB1
    go_wp2_with fail
    refine (refNext_any A1 n1 c1 r _ HB1.out hA1 hn1 hc1).mono ?_
    rintro e w4 ⟨A4, n4, c4, rfl, h84, hb4⟩
    have H84 := Lib.hid h84
    have E4 := Lib.hid hb4
    have X4 := Lib.hid (HX.out.trans hb4)
    have KR4 := Lib.hid ((X4.out.block (by omega)).trans KR3.out)
    obtain ⟨p, N, er, hnx⟩ : ∃ p N er, next r = (p, N, er) := ⟨_, _, _, rfl⟩
    rw [hnx] at H84 ⊢
    have HNX := Lib.hid hnx
    have her := next_e r
    rw [hnx] at her
    clear h84 hb4 hnx
    obtain ⟨rz, rf⟩ := blk_rules KR4.out
    have hlt4 : ∀ b, u7.ownBlock = some b → w3.heap.size ≤ b ∧ b < wr.heap.size := HO.out.lt
    have hzr : w3.heap.size ≤ wr.heap.size := HX.out.size
    have fin : ∀ (er : Int) (A5 : Option Addr) (n5 c5 : Nat) (r5 : List UInt8), Elem w4 (fun b => b = w.heap.size + 1) (.slice A5 n5 c5) r5 → drain L = (q, ⟨r5, er⟩) →
        ∃ Aq cq, u7 = .slice Aq q.length cq ∧ ((w4.setCell ⟨w.heap.size + 1, 0, none⟩ (.slice A5 n5 c5)).setCell ⟨w.heap.size + 1, 1, none⟩ (.int .i64 er)).heap[w.heap.size + 1]? = some (.cells #[.slice A5 n5 c5, .int .i64 er] 81 (0, 0)) ∧
          RefFeedPost w (x.feed bs) (.returned (.tuple #[.agg #[.slice A5 n5 c5, .int .i64 er], .slice Aq q.length cq])) ((w4.setCell ⟨w.heap.size + 1, 0, none⟩ (.slice A5 n5 c5)).setCell ⟨w.heap.size + 1, 1, none⟩ (.int .i64 er)) := by
      intro er A5 n5 c5 r5 he hd
      have o5 := ((HO.out.up E4.out).set (g := w.heap.size + 1) rfl (by omega) 0 (.slice A5 n5 c5)).set (g := w.heap.size + 1) rfl (by omega) 1 (.int .i64 er)
      have e5 := (he.but (grownBy_set w4 (w.heap.size + 1) 0 (.slice A5 n5 c5)) (fun b eb => by injection eb with eb; exact eb.symm)).but (grownBy_set _ (w.heap.size + 1) 1 (.int .i64 er)) (fun b eb => by injection eb with eb; exact eb.symm)
      obtain ⟨Aq, cq, hv, -, -, -, gq⟩ := o5.read
      refine ⟨Aq, cq, hv, blk_set (i := 1) (blk_set (i := 0) KR4.out _) _, A5, n5, c5, Aq, cq, by rw [HFD.out, hd], by rw [HFD.out, hd]; exact e5.byts.2.2.2, by rw [HFD.out, hd]; exact gq, ((EW3.out.trans X4.out).set (by show w.heap.size ≤ w.heap.size + 1; omega) _).set (by show w.heap.size ≤ w.heap.size + 1; omega) _⟩
    have FIN := Lib.hid fin
    clear fin
    rcases her with rfl | rfl | her
    · have hpos := next_pos HNX.out
      have hrl : r.length = n1 := HB1.out.len
      have hdok := drain_ok HNX.out
      obtain ⟨b, o, rfl, -⟩ := HB1.out.2 (by omega)
      have j1 : (N : Int) ≤ (n1 : Int) := by omega
      have hqn : q.length ≤ 1000000 := by have h2 := HC.out; have h3 := HLL.out; omega
      simp only [] at H84
      obtain ⟨W, hW⟩ : ∃ W, W = w4.alloc (.cells #[.slice A4 n4 c4] 42) := ⟨_, rfl⟩
      have xW : Ext w4 W := by rw [hW]; exact Ext.new _ _
      have hfl : Flat W 1 (some ⟨w4.heap.size, 0, none⟩) 1 [.slice A4 n4 c4] := by
        have h1 : ArrR W 1 (fun cs (y : Value) => cs = [y]) (some ⟨w4.heap.size, 0, none⟩) 1 [Value.slice A4 n4 c4] := by
          rw [hW]
          refine ArrR.of_block (heap_alloc_new w4 _) rfl fun k y hy => ?_
          match k, hy with
          | 0, hy => cases hy; exact ⟨_, rfl, rfl, fun j u hu => by match j, hu with | 0, hu => exact hu⟩
        have h2 := ArrR.flat (f := fun (y : Value) => y) h1
        simpa using h2
      have hel : Elem W (RowF (fun b => b = w.heap.size + 1) u7) (.slice A4 n4 c4) p := by
        refine (Elem.up (w := w4) ⟨A4, n4, c4, rfl, H84.out.1, H84.out.2.1, H84.out.2.2.1, H84.out.2.2.2.1, fun _ b o eb hb => ?_⟩ xW)
        have h1 := H84.out.2.2.2.2 b o eb
        rcases hb with hb | hb
        · omega
        · have := (hlt4 b hb).2; omega
      obtain ⟨v', w5, hrun, hO5, hg5, hat⟩ := Outs.pushF elem_bytes 35 ((HO.out.up E4.out).up xW) (c := 1) hfl (fun h => by cases h) (r := [p]) rfl (fun i u hu => by
        match i, hu with
        | 0, hu => cases hu; exact ⟨p, rfl, hel⟩) (by omega) (by omega) (by have := (X4.out.trans xW).size; omega)
      have hE5 : Elem w5 (fun b => b = w.heap.size + 1 ∨ v'.ownBlock = some b) (.slice (some ⟨b, o, none⟩) n1 c1) r := by
        refine ((((HEL.out.up E4.out).up xW).weak (X' := fun b => (b = w.heap.size + 1 ∨ u7.ownBlock = some b) ∨ v'.ownBlock = some b) ?_).but hg5 (fun b eb => .inl (.inr eb))).weak (fun b hb => .inl (hb.elim (fun h => .inl (.inl h)) .inr))
        rintro b (hb | hb)
        · exact .inl hb
        · rcases hat with ha | ha
          · exact .inl (.inr (by rw [← ha, hb]))
          · right; rw [hb] at ha; injection ha with ha; omega
      have hX5 : Ext w3 w5 := Below.grown (X4.out.trans xW) hg5 (X4.out.trans xW).size (fun b hb => (hlt4 b hb).1)
      have R5 := Lib.hid hrun
      have HE5 := Lib.hid hE5
      have HO5 := Lib.hid hO5
      have HX5 := Lib.hid hX5
      have HD5 : Hid (drain L = ((q ++ [p]) ++ (drain (r.drop N)).1, (drain (r.drop N)).2)) := Lib.hid (by rw [HD.out, hdok, List.append_assoc]; rfl)
      have HC5 : Hid ((q ++ [p]).length + (r.drop N).length ≤ L.length) := Lib.hid (by have := HC.out; simp only [List.length_append, List.length_cons, List.length_nil, List.length_drop]; omega)
      clear hfl hel hrun hO5 hg5 hat hE5 hX5 hdok xW FIN rz rf
      go_wp2_with (at_builtin
                   refine Lib.wpList_append_run _ rfl _ _ _ _ rfl _ _ rfl rfl v' w5 (by rw [← hW]; exact R5.out) ?_)
      go_roundw
      case rel =>
        obtain ⟨hz5, hn5, hc5, hB5⟩ := HE5.out.byts
        by_cases hcN : c1 = N
        · refine ⟨some ⟨b, o, none⟩, n1 - N, c1 - N, q ++ [p], r.drop N, by rw [if_pos hcN], Lib.hid ⟨_, _, _, rfl, (fun h => by cases h), by omega, by omega, ⟨by rw [List.length_drop, hrl], fun h => absurd h (by omega)⟩, fun h => absurd h (by omega)⟩, HO5, HD5, HX5, HC5⟩
        · refine ⟨some ⟨b, o + N, none⟩, n1 - N, c1 - N, q ++ [p], r.drop N, by rw [if_neg hcN], Lib.hid ⟨_, _, _, rfl, (fun h => by cases h), by omega, by omega, byts_drop hB5 N, fun h b' o' eb hb => ?_⟩, HO5, HD5, HX5, HC5⟩
          injection eb with eb
          injection eb with e1 e2
          subst e1
          obtain ⟨_, _, _, e3, _, _, _, _, hoff⟩ := HE5.out
          injection e3 with e4 e5 e6
          exact hoff (by omega) b o e4.symm hb
      case measure => simp; omega
    · go_wp2_with fail
      obtain ⟨Aq, cq, rfl, k5, hpost⟩ := FIN.out 0 A1 n1 c1 r ((HEL.out.weak (fun b hb => .inl (.inl hb))).up E4.out) (by rw [HD.out, drain_short (by rw [HNX.out]), List.append_nil])
      have r5 := (blk_rules k5).1
      exact bodyPost_ret (v := .tuple #[.agg #[.slice A1 n1 c1, .int .i64 0], .slice Aq q.length cq]) (by simp [results, Try.results59, go_sem, r5]) rfl hpost
    · rcases her with rfl | rfl
      · go_wp2_with fail
        obtain ⟨Aq, cq, rfl, k5, hpost⟩ := FIN.out 2 none 0 0 [] ⟨none, 0, 0, rfl, fun _ => rfl, Nat.le_refl _, by omega, ArrR.nil_, fun h => absurd h (by omega)⟩ (by rw [HD.out, drain_bad (by rw [HNX.out]; show (2 : Int) ≠ 1; decide) (by rw [HNX.out]; show (2 : Int) ≠ 0; decide), List.append_nil, HNX.out])
        have r5 := (blk_rules k5).1
        exact bodyPost_ret (v := .tuple #[.agg #[.slice none 0 0, .int .i64 2], .slice Aq q.length cq]) (by simp [results, Try.results59, go_sem, r5]) rfl hpost
      · go_wp2_with fail
        obtain ⟨Aq, cq, rfl, k5, hpost⟩ := FIN.out 3 none 0 0 [] ⟨none, 0, 0, rfl, fun _ => rfl, Nat.le_refl _, by omega, ArrR.nil_, fun h => absurd h (by omega)⟩ (by rw [HD.out, drain_bad (by rw [HNX.out]; show (3 : Int) ≠ 1; decide) (by rw [HNX.out]; show (3 : Int) ≠ 0; decide), List.append_nil, HNX.out])
        have r5 := (blk_rules k5).1
        exact bodyPost_ret (v := .tuple #[.agg #[.slice none 0 0, .int .i64 3], .slice Aq q.length cq]) (by simp [results, Try.results59, go_sem, r5]) rfl hpost


set_option maxRecDepth 100000 in
set_option maxHeartbeats 1000000 in
theorem refFeed_bad (A Ab : Option Addr) (n c nb cb : Nat) (x : Bf) (bs : List UInt8) (w : World) (hA : Byts w A n x.rest) (hc : A = none → c = 0) (hnc : n ≤ c) (hcm : c ≤ 9223372036854775807)
    (hs : x.sane = true) (h0 : x.bad ≠ 0) :
    Calls Try.prog 59 #[.agg #[.slice A n c, .int .i64 x.bad], .slice Ab nb cb] w (RefFeedPost w (x.feed bs)) := by
  have HFD : Hid (x.feed bs = (x, [])) := Lib.hid (by unfold Bf.feed; rw [Bf.norm_sane hs, if_neg h0])
  have HA := Lib.hid hA
  have HS := Lib.hid hs
  have hb0 : (x.bad != 0) = true := by simpa using h0
  clear hA hs h0
  go_enter Try.func59, Try.ntmps59
  go_wp2_with fail
  refine (refSane_any A n c x _ (ArrR.up HA.out ((Ext.new _ _).alloc _)) hc hnc hcm).mono ?_
  rintro e w1 ⟨rfl, hb1⟩
  rw [HS.out]
  obtain ⟨q0, qf⟩ := blk_rules (box2b hb1).1
  have KR := (box2b hb1).2.1
  obtain ⟨r0, rf⟩ := blk_rules KR
  have E1 := Lib.hid (((Ext.new w _).alloc _).trans hb1)
  have hzw : w.heap.size + 1 < w1.heap.size := (box2b hb1).2.2
  have k5 := blk_set (i := 1) (blk_set (i := 0) KR (.slice A n c)) (.int .i64 x.bad)
  have r5 := (blk_rules k5).1
  have e5 : Byts ((w1.setCell ⟨w.heap.size + 1, 0, none⟩ (.slice A n c)).setCell ⟨w.heap.size + 1, 1, none⟩ (.int .i64 x.bad)) A n x.rest := by
    have h1 : Elem w1 (fun b => b = w.heap.size + 1) (.slice A n c) x.rest := (Elem.weak (w := w) (X := fun _ => False) ⟨A, n, c, rfl, hc, hnc, hcm, HA.out, fun _ _ _ _ h => h⟩ (fun b hb => .inr (by omega))).up E1.out
    exact ((h1.but (grownBy_set w1 (w.heap.size + 1) 0 (.slice A n c)) (fun b eb => by injection eb with eb; exact eb.symm)).but (grownBy_set _ (w.heap.size + 1) 1 (.int .i64 x.bad)) (fun b eb => by injection eb with eb; exact eb.symm)).byts.2.2.2
  clear hb1
  go_wp2_with fail
  exact bodyPost_ret (v := .tuple #[.agg #[.slice A n c, .int .i64 x.bad], .slice none 0 0]) (by simp [results, Try.results59, go_sem, r5]) rfl ⟨A, n, c, none, 0, by rw [HFD.out]; rfl, by rw [HFD.out]; exact e5, by rw [HFD.out]; exact QR.nil_, (E1.out.set (by show w.heap.size ≤ w.heap.size + 1; omega) _).set (by show w.heap.size ≤ w.heap.size + 1; omega) _⟩

theorem refFeed_any (A Ab : Option Addr) (n c nb cb : Nat) (x : Bf) (bs : List UInt8) (w : World) (hA : Byts w A n x.rest) (hc : A = none → c = 0) (hnc : n ≤ c) (hcm : c ≤ 9223372036854775807) (hB : Byts w Ab nb bs) (hcb : Ab = none → cb = 0) (hnb : n + nb ≤ 1000000) :
    Calls Try.prog 59 #[.agg #[.slice A n c, .int .i64 x.bad], .slice Ab nb cb] w (RefFeedPost w (x.feed bs)) := by
  cases hs : x.sane with
  | true =>
    by_cases h0 : x.bad = 0
    · exact refFeed_good A Ab n c nb cb x bs w hA hc hnc hcm hB hcb hnb hs h0
    · exact refFeed_bad A Ab n c nb cb x bs w hA hc hnc hcm hs h0
  | false => exact refFeed_insane A Ab n c nb cb x bs w hA hc hnc hcm hB hcb hnb hs
end Go.Proofs.Ytjomoannlpadnaa
