/- What the document's Sane of layer 10 computes. -/
import Derived.Test.YtfdjbnofcniodaaGreatDoorQRf1
import Derived.Test.YtfdjbnofcniodaaGreatDoorQR03
import Derived.Lib.AppendZeros
namespace Go.Proofs.YtfdjbnofcniodaaGreatDoor
open Lib (hid)
set_option maxHeartbeats 16000000
set_option maxRecDepth 100000
set_option linter.unusedVariables false
open Go.RowKit
theorem sf_kind {f : Fr} (h : inB f.typ 3 = false ∨ inB f.kind 3 = false) : saneF f = 4 := by
 unfold saneF; rw [if_pos (by rcases h with h | h <;> rw [h] <;> simp)]
theorem sf_big {f : Fr} (h1 : inB f.typ 3 = true) (h2 : inB f.kind 3 = true) (h : smallF f = false) : saneF f = 3 := by
 unfold saneF; rw [if_neg (by rw [h1, h2]; decide), if_pos h]
theorem sf_form {f : Fr} (h1 : inB f.typ 3 = true) (h2 : inB f.kind 3 = true) (h3 : smallF f = true) (h : shapedF f = false) : saneF f = 2 := by
 unfold saneF; rw [if_neg (by rw [h1, h2]; decide), if_neg (by rw [h3]; decide), if_pos h]
theorem sf_rest {f : Fr} (h1 : inB f.typ 3 = true) (h2 : inB f.kind 3 = true) (h3 : smallF f = true) (h4 : shapedF f = true) : saneF f = if namedF f = false then 5 else if firstE saneR f.adds ≠ 0 then firstE saneR f.adds else if kindF f = false then 2 else 0 := by
 unfold saneF; rw [if_neg (by rw [h1, h2]; decide), if_neg (by rw [h3]; decide), if_neg (by rw [h4]; decide)]
theorem small_lens {f : Fr} (h : smallF f = true) : f.adds.length ≤ 64 ∧ f.gone.length ≤ 64 ∧ f.hav.length ≤ 64 ∧ f.held.length ≤ 64 := by
 unfold smallF at h
 simp only [Bool.and_eq_true, decide_eq_true_eq] at h
 exact ⟨h.1.1.1.1.1.1.1.1, h.1.1.1.1.1.1.1.2, h.1.1.1.1.1.1.2, h.1.1.1.1.1.2⟩
theorem inB_of {n m : Int} (h : inB n m = true) : 0 ≤ n ∧ n ≤ m := by unfold inB at h; simpa using h
theorem map_fst_all (l : List (Ky × Int)) : (l.map Prod.fst).all goodK = l.all (fun m => goodK m.1) := by rw [List.all_map]; rfl
theorem named_not {f : Fr} (h : f.gone.all goodK = false ∨ (f.hav.map Prod.fst).all goodK = false ∨ f.held.all goodK = false) : namedF f = false := by
 rw [map_fst_all] at h
 unfold namedF
 rcases h with h | h | h <;> rw [h] <;> simp
theorem named_yes {f : Fr} (h1 : f.gone.all goodK = true) (h2 : (f.hav.map Prod.fst).all goodK = true) (h3 : f.held.all goodK = true) : namedF f = true := by
 rw [map_fst_all] at h2
 unfold namedF; rw [h1, h2, h3]; rfl
theorem kind_not1 {f : Fr} {r : Rs} {k : Nat} (hr : f.adds[k]? = some r) (h : r.kind ≠ f.kind) : kindF f = false := by
 unfold kindF; rw [all_fails hr (by simpa using h)]; rfl
theorem kind_not2 {f : Fr} {y : Ky} {k : Nat} (hr : f.gone[k]? = some y) (h : y.kind ≠ f.kind) : kindF f = false := by
 unfold kindF; rw [all_fails (p := fun y : Ky => decide (y.kind = f.kind)) hr (by simpa using h), Bool.and_false]
theorem refSane10_any (S : Nat → Prop) (f : Fr) (s : FrS) (w : World) (hV : FrV S w f s) :
  Calls Tryz.prog 69 #[frVal f s] w fun e w' => e = .returned (.int .i64 (saneF f)) ∧ Ext w w' := by
 have HV := hid hV
 obtain ⟨⟨A1, n1, c1⟩, ⟨A2, n2, c2⟩, ⟨A3, n3, c3⟩, ⟨A4, n4, c4⟩⟩ := s
 have h1m : n1 ≤ 9223372036854775807 := by have := hV.sa.len; unfold maxLen at this; exact this
 have h2m : n2 ≤ 9223372036854775807 := by have := hV.sg.len; unfold maxLen at this; exact this
 have h3m : n3 ≤ 9223372036854775807 := by have := hV.sh.len; unfold maxLen at this; exact this
 have h4m : n4 ≤ 9223372036854775807 := by have := hV.sk.len; unfold maxLen at this; exact this
 have l1 : f.adds.length = n1 := hV.adds.len
 have l2 : f.gone.length = n2 := hV.gone.len
 have l3 : f.hav.length = n3 := hV.hav.len
 have l4 : f.held.length = n4 := hV.held.len
 clear hV
 rw [show frVal f ⟨⟨A1, n1, c1⟩, ⟨A2, n2, c2⟩, ⟨A3, n3, c3⟩, ⟨A4, n4, c4⟩⟩ = .agg #[.int .i64 f.typ, .int .i64 f.epoch, .int .i64 f.kind, .int .i64 f.nonce, .int .i64 f.turn, .slice A1 n1 c1, .slice A2 n2 c2, .int .i64 f.err, .slice A3 n3 c3, .slice A4 n4 c4] from rfl]
 have HFV : Hid (frVal f ⟨⟨A1, n1, c1⟩, ⟨A2, n2, c2⟩, ⟨A3, n3, c3⟩, ⟨A4, n4, c4⟩⟩ = .agg #[.int .i64 f.typ, .int .i64 f.epoch, .int .i64 f.kind, .int .i64 f.nonce, .int .i64 f.turn, .slice A1 n1 c1, .slice A2 n2 c2, .int .i64 f.err, .slice A3 n3 c3, .slice A4 n4 c4]) := hid rfl
 go_enter Tryz.func69, Tryz.ntmps69
 go_wp2_with fail
 have KF := hid (heap_alloc_new w (.cells #[.int .i64 f.typ, .int .i64 f.epoch, .int .i64 f.kind, .int .i64 f.nonce, .int .i64 f.turn, .slice A1 n1 c1, .slice A2 n2 c2, .int .i64 f.err, .slice A3 n3 c3, .slice A4 n4 c4] 87))
 have E0 := hid (Ext.new w (.cells #[.int .i64 f.typ, .int .i64 f.epoch, .int .i64 f.kind, .int .i64 f.nonce, .int .i64 f.turn, .slice A1 n1 c1, .slice A2 n2 c2, .int .i64 f.err, .slice A3 n3 c3, .slice A4 n4 c4] 87))
 generalize w.alloc (.cells #[.int .i64 f.typ, .int .i64 f.epoch, .int .i64 f.kind, .int .i64 f.nonce, .int .i64 f.turn, .slice A1 n1 c1, .slice A2 n2 c2, .int .i64 f.err, .slice A3 n3 c3, .slice A4 n4 c4] 87) = W at KF E0 ⊢
 obtain ⟨q, qf⟩ := blk_rules KF.out
 refine (refIn10_any _ _ _).mono ?_
 rintro e w1 ⟨rfl, rfl⟩
 cases h : inB f.typ 3 with
 | false =>
  have HR : Hid (saneF f = 4) := hid (sf_kind (.inl h))
  clear h
  go_wp2_with fail
  go_ret
  exact ⟨ret_int HR.out.symm, E0.out⟩
 | true =>
 have H1 := hid h
 clear h
 go_wp2_with fail
 refine (refIn10_any _ _ _).mono ?_
 rintro e w1 ⟨rfl, rfl⟩
 cases h : inB f.kind 3 with
 | false =>
  have HR : Hid (saneF f = 4) := hid (sf_kind (.inr h))
  clear h
  go_wp2_with fail
  go_ret
  exact ⟨ret_int HR.out.symm, E0.out⟩
 | true =>
 have H2 := hid h
 clear h
 go_wp2_with fail
 rw [← HFV.out]
 refine (refBig10_any S f _ _ (HV.out.up E0.out)).mono ?_
 rintro e w2 ⟨rfl, hb2⟩
 have F2 := hid hb2
 have E2 := hid (E0.out.trans hb2)
 have KF2 := hid ((hb2.block (Array.getElem?_eq_some_iff.1 KF.out).1).trans KF.out)
 clear hb2 q qf
 cases h : smallF f with
 | false =>
  have HR : Hid (saneF f = 3) := hid (sf_big H1.out H2.out h)
  clear h
  go_wp2_with fail
  go_ret
  exact ⟨ret_int HR.out.symm, E2.out⟩
 | true =>
 have H3 := hid h
 obtain ⟨b1, b2, b3, b4⟩ := small_lens h
 clear h
 obtain ⟨q, qf⟩ := blk_rules KF2.out
 go_wp2_with fail
 rw [← HFV.out]
 refine (refForm10_any S f _ _ (HV.out.up E2.out) (inB_of H1.out)).mono ?_
 rintro e w3 ⟨rfl, hb3⟩
 have F3 := hid (F2.out.trans hb3)
 have E3 := hid (E2.out.trans hb3)
 have KF3 := hid ((hb3.block (Array.getElem?_eq_some_iff.1 KF2.out).1).trans KF2.out)
 clear hb3 q qf
 cases h : shapedF f with
 | false =>
  have HR : Hid (saneF f = 2) := hid (sf_form H1.out H2.out H3.out h)
  clear h
  go_wp2_with fail
  go_ret
  exact ⟨ret_int HR.out.symm, E3.out⟩
 | true =>
 have HS := hid (sf_rest H1.out H2.out H3.out h)
 clear h H1 H2 H3 F2 KF KF2
 have hzF : w.heap.size < w3.heap.size := (Array.getElem?_eq_some_iff.1 KF3.out).1
 go_wp2_with fail
 go_loopw [3, 4] (fun v i wr => ∃ (k : Nat) (us : List Value), k ≤ n3 ∧ i = .int .i64 k ∧ Hid (wr.ownsRow w3.heap.size 38 2 v k us) ∧ Hid (RowsOf KyQ 2 us ((f.hav.map Prod.fst).take k)) ∧ Hid (Ext w3 wr)) (fun _ i _ => n3 - (intOf i).toNat)
 case atStart => exact ⟨0, [], Nat.zero_le _, by go_num, hid own_nil, hid rfl, hid (Ext.refl _)⟩
 case round =>
  obtain ⟨k, us, hk, rfl, HW, HU, HX⟩ := hrel
  obtain ⟨Av, cv, hv0, -, -, -, -⟩ := own_flat HW.out
  subst hv0
  have KR := hid ((HX.out.block hzF).trans KF3.out)
  obtain ⟨q, qf⟩ := blk_rules KR.out
  have hzr : w.heap.size < wr.heap.size := Nat.lt_of_lt_of_le hzF HX.out.size
  by_cases hlt : k < n3
  ·obtain ⟨b, o, y, v3, rfl, hbB, -, hlk, hsz, hc0, hc1, hc2⟩ := MkL.at_ HV.out.hav hlt
   have HLK : Hid ((f.hav.map Prod.fst)[k]? = some y) := hid (by rw [List.getElem?_map, hlk]; rfl)
   have HSZ := hid hsz
   have hbr : b < wr.heap.size := Nat.lt_of_lt_of_le hbB (E3.out.trans HX.out).size
   obtain ⟨d0, d1⟩ := up2 ((E3.out.trans HX.out)) hbB hc0 hc1
   have i1 : (0 : Int) ≤ (k : Int) := by omega
   have i2 : (k : Int) < (n3 : Int) := by omega
   have hFk := flat_k wr [.int .i64 y.kind, .string y.name] 38 rfl
   have hOW := own_up HW.out (Ext.new wr (.cells #[.int .i64 y.kind, .string y.name] 38))
   obtain ⟨v', w5, hrun, hown5, hg5, hnw⟩ := run_append_flat elem_key 46 hOW 1 hFk (by simp [Value.oneCell']) (by omega) (by omega) (by rw [World.size_alloc]; have := HX.out.size; omega) (fun h => by cases h)
   have HRUN := hid hrun
   have HX5 := hid ((HX.out.alloc (.cells #[.int .i64 y.kind, .string y.name] 38)).grown hg5 hOW (Nat.le_refl _))
   have HW5 := hid hown5
   have HU5 : Hid (RowsOf KyQ 2 (us ++ [.int .i64 y.kind, .string y.name]) ((f.hav.map Prod.fst).take (k + 1))) := hid (by rw [take_snoc_of HLK.out]; exact RowsOf.snoc rfl (show KyQ [.int .i64 y.kind, .string y.name] y from ⟨rfl, HSZ.out⟩) HU.out)
   clear hlk hsz hc0 hc1 hc2 hFk hOW hrun hown5 hg5 hnw
   go_wp2_with (refine Lib.wpList_append_run _ rfl _ _ _ _ rfl _ _ rfl rfl v' w5 HRUN.out ?_)
   go_roundw
   case rel => exact ⟨k + 1, _, by omega, by go_num, HW5, HU5, HX5⟩
   case measure => simp [intOf]; omega
  ·obtain rfl : k = n3 := by omega
   obtain ⟨Ax, cx, ex, g1, g2, g3, hF⟩ := own_flat HW.out
   injection ex with q1 q2 q3
   subst q1 q3
   have HHK : Hid (KeyL (fun _ => True) wr Av k (f.hav.map Prod.fst)) := hid (by
    have h9 := hF.arrQ (S := fun _ => True) HU.out (by omega) (fun _ _ _ _ => trivial)
    rwa [List.take_of_length_le (by rw [List.length_map]; omega)] at h9)
   have i2 : ¬ (k : Int) < (k : Int) := by omega
   have E5 := hid (E3.out.trans HX.out)
   clear hF g1 g2 g3 HW HU HX hlt hk
   rename World => w5
   go_wp2_with fail
   refine (refNames10_any S A2 n2 c2 f.gone w5 (by unfold maxLen; omega) (KeyL.keep HV.out.gone E5.out.keep)).mono ?_
   rintro e w6 ⟨rfl, rfl⟩
   cases h : f.gone.all goodK with
   | false =>
    have HR : Hid (saneF f = 5) := hid (by rw [HS.out, if_pos (named_not (.inl h))])
    clear h
    go_wp2_with fail
    go_ret
    exact ⟨ret_int HR.out.symm, E5.out⟩
   | true =>
   have N1 := hid h
   clear h
   go_wp2_with fail
   refine (refNames10_any (fun _ => True) Av k cv (f.hav.map Prod.fst) w5 (by unfold maxLen; omega) HHK.out).mono ?_
   rintro e w6 ⟨rfl, rfl⟩
   cases h : (f.hav.map Prod.fst).all goodK with
   | false =>
    have HR : Hid (saneF f = 5) := hid (by rw [HS.out, if_pos (named_not (.inr (.inl h)))])
    clear h
    go_wp2_with fail
    go_ret
    exact ⟨ret_int HR.out.symm, E5.out⟩
   | true =>
   have N2 := hid h
   clear h
   go_wp2_with fail
   refine (refNames10_any S A4 n4 c4 f.held w5 (by unfold maxLen; omega) (KeyL.keep HV.out.held E5.out.keep)).mono ?_
   rintro e w6 ⟨rfl, rfl⟩
   cases h : f.held.all goodK with
   | false =>
    have HR : Hid (saneF f = 5) := hid (by rw [HS.out, if_pos (named_not (.inr (.inr h)))])
    clear h
    go_wp2_with fail
    go_ret
    exact ⟨ret_int HR.out.symm, E5.out⟩
   | true =>
   have N3 := hid h
   clear h
   go_wp2_with fail
   have HS1 : Hid (saneF f = if firstE saneR f.adds ≠ 0 then firstE saneR f.adds else if kindF f = false then 2 else 0) := hid (by rw [HS.out, named_yes N1.out N2.out N3.out, if_neg (by decide)])
   have hz5 : w.heap.size < w5.heap.size := (Array.getElem?_eq_some_iff.1 KR.out).1
   clear q qf HS N1 N2 N3 HHK i2
   go_loopw [5] (fun i wr => ∃ k : Nat, k ≤ n1 ∧ i = .int .i64 k ∧ Hid (firstE saneR f.adds = firstE saneR (f.adds.drop k)) ∧ Hid (Ext w5 wr)) (fun i _ => n1 - (intOf i).toNat)
   case atStart => exact ⟨0, Nat.zero_le _, by go_num, hid rfl, hid (Ext.refl _)⟩
   case round =>
    obtain ⟨k, hk, rfl, HST, HX⟩ := hrel
    obtain ⟨q, qf⟩ := blk_rules ((HX.out.block hz5).trans KR.out)
    by_cases hlt : k < n1
    ·obtain ⟨b, o, r, C, p, d, C', p', d', rfl, hbB, -, hlk, hv, hc0, hc1, hc2, hc3, hc4, hc5, hc6⟩ := ResL.at_ HV.out.adds hlt
     obtain ⟨d0, d1, d2, d3, d4, d5, d6⟩ := up7 ((E5.out.trans HX.out)) hbB hc0 hc1 hc2 hc3 hc4 hc5 hc6
     have HL := hid hlk
     have HVr := hid hv
     have i1 : (0 : Int) ≤ (k : Int) := by omega
     have i2 : (k : Int) < (n1 : Int) := by omega
     clear hlk hv hc0 hc1 hc2 hc3 hc4 hc5 hc6
     go_wp2_with fail
     refine (refSane_any S r C C' p d p' d' _ (HVr.out.up (E5.out.trans HX.out))).mono ?_
     rintro e w6 ⟨rfl, hb6⟩
     have HX1 := hid (HX.out.trans hb6)
     clear hb6 d0 d1 d2 d3 d4 d5 d6 q qf
     obtain ⟨x, hx⟩ : ∃ x, x = saneR r := ⟨_, rfl⟩
     rw [← hx]
     have HSt : Hid (firstE saneR (f.adds.drop k) = if x ≠ 0 then x else firstE saneR (f.adds.drop (k + 1))) := hid (by rw [hx, drop_of HL.out]; rfl)
     clear hx
     by_cases h0 : x = 0
     ·subst h0
      have HS2 : Hid (firstE saneR f.adds = firstE saneR (f.adds.drop (k + 1))) := hid (by rw [HST.out, HSt.out, if_neg (by simp)])
      go_wp2_with fail
      go_roundw
      case rel => exact ⟨k + 1, by omega, by go_num, HS2, HX1⟩
      case measure => simp [intOf]; omega
     ·have hq : (x != 0) = true := by simpa using h0
      have HR : Hid (saneF f = x) := hid (by rw [HS1.out, HST.out, HSt.out, if_pos h0, if_pos h0])
      go_wp2_with fail
      go_ret
      exact ⟨ret_int HR.out.symm, E5.out.trans HX1.out⟩
    ·have hz : firstE saneR f.adds = 0 := by rw [HST.out, List.drop_eq_nil_of_le (by omega)]; rfl
     have HS2 : Hid (saneF f = if kindF f = false then 2 else 0) := hid (by rw [HS1.out, hz, if_neg (by simp)])
     have i2 : ¬ (k : Int) < (n1 : Int) := by omega
     clear hz HST HS1
     go_wp2_with fail
     clear q qf i2 hlt hk
     go_loopw [7] (fun i wr => ∃ k : Nat, k ≤ n1 ∧ i = .int .i64 k ∧ Hid ((f.adds.take k).all (fun r => decide (r.kind = f.kind)) = true) ∧ Hid (Ext w5 wr)) (fun i _ => n1 - (intOf i).toNat)
     case atStart => exact ⟨0, Nat.zero_le _, by go_num, hid rfl, HX⟩
     case round =>
      clear HX
      obtain ⟨k, hk, rfl, HA, HX⟩ := hrel
      by_cases hlt : k < n1
      ·obtain ⟨b, o, r, C, p, d, C', p', d', rfl, hbB, -, hlk, hv, hc0, hc1, hc2, hc3, hc4, hc5, hc6⟩ := ResL.at_ HV.out.adds hlt
       have HL := hid hlk
       have i1 : (0 : Int) ≤ (k : Int) := by omega
       have i2 : (k : Int) < (n1 : Int) := by omega
       have g5 : ∀ w', Ext wr.drew w' → w'.cell? ⟨w.heap.size, 5, none⟩ = some (.slice (some ⟨b, o, none⟩) n1 c1) := fun w' h => (blk_rules (((HX.out.drew.trans h).block hz5).trans KR.out)).1 5
       have g2 : ∀ w', Ext wr.drew w' → w'.cell? ⟨w.heap.size, 2, none⟩ = some (.int .i64 f.kind) := fun w' h => (blk_rules (((HX.out.drew.trans h).block hz5).trans KR.out)).1 2
       have d0 : ∀ w', Ext wr.drew w' → w'.cell? ⟨b, o + k * 7, none⟩ = some (.int .i64 r.kind) := fun w' h => ((E5.out.trans (HX.out.drew.trans h)).cell hbB).trans hc0
       have x0 : Ext wr.drew wr.drew := Ext.refl _
       have g5' : wr.cell? ⟨w.heap.size, 5, none⟩ = some (.slice (some ⟨b, o, none⟩) n1 c1) := (blk_rules ((HX.out.block hz5).trans KR.out)).1 5
       clear hlk hv hc0 hc1 hc2 hc3 hc4 hc5 hc6
       go_wp2_with fail
       have hSw : Ext wr.drew wr.drew := x0
       refine wpS_begin (Ext wr.drew) (by kernel_rfl) ?_
       refine wpS_tk 0 ?_ hSw rfl (fun w' hin => ?_) ?_; rotate_left
       ·go_simp <;> with_reducible rfl
       try simp only [lyr]
       refine wpS_tk 1 ?_ hSw rfl (fun w' hin => ?_) ?_; rotate_left
       ·go_simp <;> with_reducible rfl
       try simp only [lyr]
       refine wpS_tk 2 ?_ hSw rfl (fun w' hin => ?_) ?_; rotate_left
       ·go_simp <;> with_reducible rfl
       try simp only [lyr]
       refine wpS_tk 3 ?_ hSw rfl (fun w' hin => ?_) ?_; rotate_left
       ·go_simp <;> with_reducible rfl
       try simp only [lyr]
       refine wpS_tk 4 ?_ hSw rfl (fun w' hin => ?_) ?_; rotate_left
       ·go_simp <;> with_reducible rfl
       try simp only [lyr]
       refine wpS_tk 5 ?_ hSw rfl (fun w' hin => ?_) ?_; rotate_left
       ·go_simp <;> with_reducible rfl
       try simp only [lyr]
       refine wpS_tk 6 ?_ hSw rfl (fun w' hin => ?_) ?_; rotate_left
       ·go_simp <;> with_reducible rfl
       try simp only [lyr]
       refine wpS_tk 7 ?_ hSw rfl (fun w' hin => ?_) ?_; rotate_left
       ·go_simp <;> with_reducible rfl
       try simp only [lyr]
       refine wpS_tk 8 ?_ hSw rfl (fun w' hin => ?_) ?_; rotate_left
       ·go_simp <;> with_reducible rfl
       try simp only [lyr]
       refine wpS_done (by kernel_rfl) ?_
       have HX2 := hid (HX.out.drew.trans hSw)
       clear g5 g5' g2 d0 x0 hSw
       by_cases hkk : r.kind = f.kind
       ·have hq : (r.kind != f.kind) = false := by simpa using hkk
        have HA2 := hid (all_prefix HL.out HA.out (show decide (r.kind = f.kind) = true by simpa using hkk))
        clear hkk
        go_wp2_with fail
        go_roundw
        case rel => exact ⟨k + 1, by omega, by go_num, HA2, HX2⟩
        case measure => simp [intOf]; omega
       ·have hq : (r.kind != f.kind) = true := by simpa using hkk
        have HR : Hid (saneF f = 2) := hid (by rw [HS2.out, if_pos (kind_not1 HL.out hkk)])
        clear hkk
        go_wp2_with fail
        go_ret
        exact ⟨ret_int HR.out.symm, E5.out.trans HX2.out⟩
      ·have HAA := hid (all_endL HA.out (by omega))
       have i2 : ¬ (k : Int) < (n1 : Int) := by omega
       obtain ⟨q, qf⟩ := blk_rules ((HX.out.block hz5).trans KR.out)
       clear HA
       go_wp2_with fail
       clear q qf i2 hlt hk
       go_loopw [8] (fun i wr => ∃ k : Nat, k ≤ n2 ∧ i = .int .i64 k ∧ Hid ((f.gone.take k).all (fun y => decide (y.kind = f.kind)) = true) ∧ Hid (Ext w5 wr)) (fun i _ => n2 - (intOf i).toNat)
       case atStart => exact ⟨0, Nat.zero_le _, by go_num, hid rfl, HX⟩
       case round =>
        clear HX
        obtain ⟨k, hk, rfl, HA, HX⟩ := hrel
        by_cases hlt : k < n2
        ·obtain ⟨b, o, y, rfl, hbB, -, hlk, hsz, hc0, hc1⟩ := KeyL.at_ HV.out.gone hlt
         have HL := hid hlk
         have i1 : (0 : Int) ≤ (k : Int) := by omega
         have i2 : (k : Int) < (n2 : Int) := by omega
         have g6 : ∀ w', Ext wr.drew w' → w'.cell? ⟨w.heap.size, 6, none⟩ = some (.slice (some ⟨b, o, none⟩) n2 c2) := fun w' h => (blk_rules (((HX.out.drew.trans h).block hz5).trans KR.out)).1 6
         have g2 : ∀ w', Ext wr.drew w' → w'.cell? ⟨w.heap.size, 2, none⟩ = some (.int .i64 f.kind) := fun w' h => (blk_rules (((HX.out.drew.trans h).block hz5).trans KR.out)).1 2
         have d0 : ∀ w', Ext wr.drew w' → w'.cell? ⟨b, o + k * 2, none⟩ = some (.int .i64 y.kind) := fun w' h => ((E5.out.trans (HX.out.drew.trans h)).cell hbB).trans hc0
         have x0 : Ext wr.drew wr.drew := Ext.refl _
         have g6' : wr.cell? ⟨w.heap.size, 6, none⟩ = some (.slice (some ⟨b, o, none⟩) n2 c2) := (blk_rules ((HX.out.block hz5).trans KR.out)).1 6
         clear hlk hsz hc0 hc1
         go_wp2_with fail
         have hSw : Ext wr.drew wr.drew := x0
         refine wpS_begin (Ext wr.drew) (by kernel_rfl) ?_
         refine wpS_tk 0 ?_ hSw rfl (fun w' hin => ?_) ?_; rotate_left
         ·go_simp <;> with_reducible rfl
         try simp only [lyr]
         refine wpS_tk 1 ?_ hSw rfl (fun w' hin => ?_) ?_; rotate_left
         ·go_simp <;> with_reducible rfl
         try simp only [lyr]
         refine wpS_tk 2 ?_ hSw rfl (fun w' hin => ?_) ?_; rotate_left
         ·go_simp <;> with_reducible rfl
         try simp only [lyr]
         refine wpS_tk 3 ?_ hSw rfl (fun w' hin => ?_) ?_; rotate_left
         ·go_simp <;> with_reducible rfl
         try simp only [lyr]
         refine wpS_tk 4 ?_ hSw rfl (fun w' hin => ?_) ?_; rotate_left
         ·go_simp <;> with_reducible rfl
         try simp only [lyr]
         refine wpS_tk 5 ?_ hSw rfl (fun w' hin => ?_) ?_; rotate_left
         ·go_simp <;> with_reducible rfl
         try simp only [lyr]
         refine wpS_tk 6 ?_ hSw rfl (fun w' hin => ?_) ?_; rotate_left
         ·go_simp <;> with_reducible rfl
         try simp only [lyr]
         refine wpS_tk 7 ?_ hSw rfl (fun w' hin => ?_) ?_; rotate_left
         ·go_simp <;> with_reducible rfl
         try simp only [lyr]
         refine wpS_tk 8 ?_ hSw rfl (fun w' hin => ?_) ?_; rotate_left
         ·go_simp <;> with_reducible rfl
         try simp only [lyr]
         refine wpS_done (by kernel_rfl) ?_
         have HX2 := hid (HX.out.drew.trans hSw)
         clear g6 g6' g2 d0 x0 hSw
         by_cases hkk : y.kind = f.kind
         ·have hq : (y.kind != f.kind) = false := by simpa using hkk
          have HA2 := hid (all_prefix (p := fun y : Ky => decide (y.kind = f.kind)) HL.out HA.out (show decide (y.kind = f.kind) = true by simpa using hkk))
          clear hkk
          go_wp2_with fail
          go_roundw
          case rel => exact ⟨k + 1, by omega, by go_num, HA2, HX2⟩
          case measure => simp [intOf]; omega
         ·have hq : (y.kind != f.kind) = true := by simpa using hkk
          have HR : Hid (saneF f = 2) := hid (by rw [HS2.out, if_pos (kind_not2 HL.out hkk)])
          clear hkk
          go_wp2_with fail
          go_ret
          exact ⟨ret_int HR.out.symm, E5.out.trans HX2.out⟩
        ·have HR : Hid (saneF f = 0) := hid (by rw [HS2.out, show kindF f = true from by unfold kindF; rw [HAA.out, all_endL HA.out (by omega)]; rfl]; rfl)
         have i2 : ¬ (k : Int) < (n2 : Int) := by omega
         obtain ⟨q, qf⟩ := blk_rules ((HX.out.block hz5).trans KR.out)
         go_wp2_with fail
         go_ret
         exact ⟨ret_int HR.out.symm, E5.out.trans HX.out⟩
end Go.Proofs.YtfdjbnofcniodaaGreatDoor
