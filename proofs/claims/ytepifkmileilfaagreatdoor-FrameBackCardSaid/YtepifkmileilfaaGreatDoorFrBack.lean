/- The law FrameBack of layer 10. -/
import Derived.Test.YtepifkmileilfaaGreatDoorFrOnce
import Derived.Test.YtepifkmileilfaaGreatDoorFrPlain3
import Derived.Test.YtepifkmileilfaaGreatDoorFr7
namespace Go.Proofs.YtepifkmileilfaaGreatDoor
set_option linter.unusedVariables false
open Go.RowKit

set_option maxRecDepth 100000 in
set_option maxHeartbeats 8000000 in
theorem frameBack_any (f : Fr) (s : FrS) (ch : UInt8) (w : World) (hV : FrV (fun _ => True) w f s) :
    Calls Tryz.prog 10 #[frVal f s, .int .u8 (ch.toNat : Int)] w fun e w' => e = .returned (.bool true) ∧ Ext w w' := by
  have HV := Lib.hid hV
  obtain ⟨⟨A1, n1, c1⟩, ⟨A2, n2, c2⟩, ⟨A3, n3, c3⟩, ⟨A4, n4, c4⟩⟩ := s
  clear hV
  rw [show frVal f ⟨⟨A1, n1, c1⟩, ⟨A2, n2, c2⟩, ⟨A3, n3, c3⟩, ⟨A4, n4, c4⟩⟩ = .agg #[.int .i64 f.typ, .int .i64 f.epoch, .int .i64 f.kind, .int .i64 f.nonce, .int .i64 f.turn, .slice A1 n1 c1, .slice A2 n2 c2, .int .i64 f.err, .slice A3 n3 c3, .slice A4 n4 c4] from rfl]
  go_enter Tryz.func10, Tryz.ntmps10
  go_wp2_with fail
  refine (awake10 _).mono ?_
  rintro e w1 ⟨rfl, hb1⟩
  have K1 := Lib.hid (box_up hb1)
  have E1 := Lib.hid ((Ext.new w _).trans hb1)
  clear hb1
  obtain ⟨q0, q1⟩ := blk_rules K1.out
  go_wp2_with fail
  refine (few10_any (fun _ => True) f ⟨⟨A1, n1, c1⟩, ⟨A2, n2, c2⟩, ⟨A3, n3, c3⟩, ⟨A4, n4, c4⟩⟩ _ (HV.out.up E1.out)).mono ?_
  rintro e w2 ⟨v, rfl, hv, hb2⟩
  have K2 := Lib.hid ((hb2.block (Array.getElem?_eq_some_iff.1 K1.out).1).trans K1.out)
  have E2 := Lib.hid (E1.out.trans hb2)
  clear hb2 q0 q1
  cases v with
  | false =>
    go_wp2_with fail
    go_ret
    exact ⟨rfl, E2.out⟩
  | true =>
  have hn3 : n3 ≤ 80 := (hv rfl).2.2.1
  clear hv
  obtain ⟨q0, q1⟩ := blk_rules K2.out
  go_wp2_with fail
  refine (frame1_any f ⟨⟨A1, n1, c1⟩, ⟨A2, n2, c2⟩, ⟨A3, n3, c3⟩, ⟨A4, n4, c4⟩⟩ _ (HV.out.up E2.out) hn3).mono ?_
  rintro e w3 ⟨⟨⟨B1, m1, d1⟩, ⟨B2, m2, d2⟩, ⟨B3, m3, d3⟩, ⟨B4, m4, d4⟩⟩, rfl, hV3, hb3⟩
  have HX := Lib.hid hV3
  have E3 := Lib.hid (E2.out.trans hb3)
  clear hb3 q0 q1 hV3
  rw [show frVal f ⟨⟨B1, m1, d1⟩, ⟨B2, m2, d2⟩, ⟨B3, m3, d3⟩, ⟨B4, m4, d4⟩⟩ = .agg #[.int .i64 f.typ, .int .i64 f.epoch, .int .i64 f.kind, .int .i64 f.nonce, .int .i64 f.turn, .slice B1 m1 d1, .slice B2 m2 d2, .int .i64 f.err, .slice B3 m3 d3, .slice B4 m4 d4] from rfl]
  go_wp2_with fail
  refine (frPut_any (fun _ => True) f ⟨⟨B1, m1, d1⟩, ⟨B2, m2, d2⟩, ⟨B3, m3, d3⟩, ⟨B4, m4, d4⟩⟩ _ (HX.out.up (Ext.new _ _))).mono ?_
  rintro e w4 ⟨A, N, c, rfl, hsl, hBf, hb4⟩
  have K4 := Lib.hid (box_up hb4)
  have F4 := Lib.hid ((Ext.new w3 _).trans hb4)
  have E4 := Lib.hid (E3.out.trans F4.out)
  have HB := Lib.hid hBf
  have HSL := Lib.hid hsl
  clear hb4 hsl hBf
  have z4 : w3.heap.size < w4.heap.size := (Array.getElem?_eq_some_iff.1 K4.out).1
  have HX4 := Lib.hid (HX.out.up F4.out)
  obtain ⟨q0, q1⟩ := blk_rules K4.out
  go_wp2_with fail
  refine (frSane_any (fun _ => True) f ⟨⟨B1, m1, d1⟩, ⟨B2, m2, d2⟩, ⟨B3, m3, d3⟩, ⟨B4, m4, d4⟩⟩ _ HX4.out).mono ?_
  rintro e w5 ⟨rfl, hb5⟩
  have K5 := Lib.hid ((hb5.block z4).trans K4.out)
  have F5 := Lib.hid hb5
  have E5 := Lib.hid (E4.out.trans hb5)
  have HB5 := Lib.hid (ArrR.up HB.out hb5)
  have HX5 := Lib.hid (HX4.out.up hb5)
  have z5 : w3.heap.size < w5.heap.size := (Array.getElem?_eq_some_iff.1 K5.out).1
  clear hb5 q0 q1
  obtain ⟨S, hS⟩ : ∃ S, S = saneF f := ⟨_, rfl⟩
  rw [← hS]
  have HS := Lib.hid hS
  clear hS
  obtain ⟨q0, q1⟩ := blk_rules K5.out
  by_cases hs : S = 0
  rotate_left
  · have hs1 : (S != 0) = true := by simpa using hs
    have HP : putF f = [] := putF_bad (by rw [← HS.out]; exact hs)
    obtain rfl : N = 0 := by have := HB5.out.len; rw [HP] at this; exact this.symm
    clear hs HP
    go_wp2_with fail
    refine (frSane_any (fun _ => True) f ⟨⟨B1, m1, d1⟩, ⟨B2, m2, d2⟩, ⟨B3, m3, d3⟩, ⟨B4, m4, d4⟩⟩ _ HX5.out).mono ?_
    rintro e w6 ⟨rfl, hb6⟩
    rw [← HS.out]
    have E6 := Lib.hid (E5.out.trans hb6)
    clear hb6 q0 q1
    go_wp2_with fail
    go_ret
    exact ⟨rfl, E6.out⟩
  have HZ : Hid (saneF f = 0) := Lib.hid (by rw [← HS.out]; exact hs)
  subst hs
  have hN3 : 3 ≤ N := by have h1 := putF_len HZ.out; have h2 := HB5.out.len; omega
  have hNl : N ≤ 120000 := by have h1 := putF_le f; have h2 := HB5.out.len; omega
  have hcm : c ≤ 9223372036854775807 := by have := HSL.out.2.1; unfold maxLen at this; exact this
  have hNc : N ≤ c := HSL.out.1
  have HC0 : Hid (A = none → c = 0) := Lib.hid HSL.out.2.2
  clear q0 q1
  go_wp2_with fail
  refine (frGet_any A N c (putF f) _ HB5.out HC0.out hNc hcm).mono ?_
  rw [get_put HZ.out]
  rintro e w6 ⟨⟨⟨C1, k1, e1⟩, ⟨C2, k2, e2⟩, ⟨C3, k3, e3⟩, ⟨C4, k4, e4⟩⟩, rfl, hV6, hb6⟩
  have HY := Lib.hid hV6
  have K6 := Lib.hid ((hb6.block z5).trans K5.out)
  have E6 := Lib.hid (E5.out.trans hb6)
  have HB6 := Lib.hid (ArrR.up HB5.out hb6)
  have HX6 := Lib.hid (HX5.out.up hb6)
  have z6 : w3.heap.size < w6.heap.size := (Array.getElem?_eq_some_iff.1 K6.out).1
  clear hb6 hV6
  rw [show frVal (f, (0 : Int)).1 ⟨⟨C1, k1, e1⟩, ⟨C2, k2, e2⟩, ⟨C3, k3, e3⟩, ⟨C4, k4, e4⟩⟩ = .agg #[.int .i64 f.typ, .int .i64 f.epoch, .int .i64 f.kind, .int .i64 f.nonce, .int .i64 f.turn, .slice C1 k1 e1, .slice C2 k2 e2, .int .i64 f.err, .slice C3 k3 e3, .slice C4 k4 e4] from rfl]
  simp only
  obtain ⟨YB, hYB⟩ : ∃ YB : Obj, YB = (.cells #[.int .i64 f.typ, .int .i64 f.epoch, .int .i64 f.kind, .int .i64 f.nonce, .int .i64 f.turn, .slice C1 k1 e1, .slice C2 k2 e2, .int .i64 f.err, .slice C3 k3 e3, .slice C4 k4 e4] 93) := ⟨_, rfl⟩
  have hsz : (w6.alloc YB).heap.size = w6.heap.size + 1 := by simp
  have hE := own_empty_lit (w6.alloc YB) (w6.alloc YB).heap.size 5 1 (Nat.le_refl _)
  rw [hsz] at hE
  obtain ⟨v7, w7, hr7, hown7, hg7, _⟩ := run_append_flat elem_byte 22 hE c ((ArrR.flat (f := byteV) HB6.out).up ((Ext.new w6 YB).alloc (.cells #[] 5))) (byteV_one _) (by omega) (by omega) (by rw [World.size_alloc, hsz]; omega) HC0.out
  rw [Nat.zero_add, List.nil_append] at hown7
  have E7 := Lib.hid (((Ext.new w6 YB).alloc (.cells #[] 5)).grown hg7 hE (by omega))
  have hown7b : (w7.alloc (.cells #[.int .u8 (ch.toNat : Int)] 5)).ownsRow (w6.heap.size + 1) 5 1 v7 N ((putF f).map byteV) := own_up hown7 (Ext.new _ _)
  have hz7 : w6.heap.size + 1 ≤ w7.heap.size := by have := hg7.size; rw [World.size_alloc, hsz] at this; omega
  obtain ⟨v8, w8, hr8, hown8, hg8, _⟩ := run_append_flat elem_byte 22 hown7b 1 (flat_k w7 [.int .u8 (ch.toNat : Int)] 5 rfl) (by simp [Value.oneCell']) (by omega) (by omega) (by rw [World.size_alloc]; omega) (fun h => by cases h)
  have E8 := Lib.hid ((E7.out.trans (Ext.new w7 (.cells #[.int .u8 (ch.toNat : Int)] 5))).grown hg8 hown7b (by omega))
  have K8y := Lib.hid ((((Ext.new (w6.alloc YB) (.cells #[] 5)).grown hg7 hE (by omega)).trans (Ext.new w7 (.cells #[.int .u8 (ch.toNat : Int)] 5))).grown hg8 hown7b (by rw [hsz]; omega))
  have K8 := Lib.hid ((K8y.out.block (b := w6.heap.size) (by rw [hsz]; omega)).trans (heap_alloc_new w6 YB))
  have hown8' : w8.ownsRow (w6.heap.size + 1) 5 1 v8 (N + 1) ((putF f ++ [ch]).map byteV) := by rw [List.map_append]; exact hown8
  obtain ⟨A8, c8, e8, hn8, hc8, hA8, hB8, -⟩ := own_byts hown8'
  subst e8
  obtain ⟨A7, c7, e7, hn7, hc7, hA7, -, -⟩ := own_byts hown7
  subst e7
  have HR7 := Lib.hid hr7
  have HR8 := Lib.hid hr8
  have hc8' : c8 ≤ 9223372036854775807 := by unfold maxLen at hc8; exact hc8
  have HB8 := Lib.hid hB8
  have HA8 := Lib.hid hA8
  have K8x := Lib.hid ((E8.out.block z6).trans K6.out)
  have z8 : w3.heap.size < w8.heap.size := (Array.getElem?_eq_some_iff.1 K8x.out).1
  have z8y : w6.heap.size < w8.heap.size := (Array.getElem?_eq_some_iff.1 K8.out).1
  clear hE hr7 hown7 hg7 hr8 hown8 hown8' hown7b hg8 hc8 hA8 hB8 K8y hA7 hn7 hc7
  subst hYB
  go_wp2_with (first
    | (refine Lib.wpList_append_run _ rfl _ _ _ _ rfl _ _ rfl rfl _ w7 HR7.out ?_)
    | (refine Lib.wpList_append_run _ rfl _ _ _ _ rfl _ _ rfl rfl _ w8 HR8.out ?_))
  refine (frGet_any A8 (N + 1) c8 (putF f ++ [ch]) _ HB8.out HA8.out hn8 hc8').mono ?_
  obtain ⟨fm, em, hgm⟩ : ∃ fm em, getF (putF f ++ [ch]) = (fm, em) := ⟨_, _, rfl⟩
  have hem : em = 2 := by have := get_more HZ.out ch; rw [hgm] at this; exact this
  subst hem
  rw [hgm]
  rintro e w9 ⟨⟨⟨G1, p1, h1⟩, ⟨G2, p2, h2⟩, ⟨G3, p3, h3⟩, ⟨G4, p4, h4⟩⟩, rfl, -, hb9⟩
  have K9 := Lib.hid ((hb9.block z8).trans K8x.out)
  have K9y := Lib.hid ((hb9.block z8y).trans K8.out)
  have E69 : Hid (Ext w6 w9) := Lib.hid (E8.out.trans hb9)
  have E9 := Lib.hid (E6.out.trans E69.out)
  have HB9 := Lib.hid (ArrR.up HB6.out E69.out)
  have HX9 := Lib.hid (HX6.out.up E69.out)
  have HY9 := Lib.hid (HY.out.up E69.out)
  have z9 : w3.heap.size < w9.heap.size := (Array.getElem?_eq_some_iff.1 K9.out).1
  have z9y : w6.heap.size < w9.heap.size := (Array.getElem?_eq_some_iff.1 K9y.out).1
  clear hb9 hgm HR7 HR8
  rw [show frVal (fm, (2 : Int)).1 ⟨⟨G1, p1, h1⟩, ⟨G2, p2, h2⟩, ⟨G3, p3, h3⟩, ⟨G4, p4, h4⟩⟩ = .agg #[.int .i64 fm.typ, .int .i64 fm.epoch, .int .i64 fm.kind, .int .i64 fm.nonce, .int .i64 fm.turn, .slice G1 p1 h1, .slice G2 p2 h2, .int .i64 fm.err, .slice G3 p3 h3, .slice G4 p4 h4] from rfl]
  simp only
  obtain ⟨M, hM⟩ : ∃ M : Nat, M + 1 = N := ⟨N - 1, by omega⟩
  have i1 : IntKind.i64.wrap ((N : Int) - 1) = (M : Int) := by rw [IntKind.wrap_i64]; omega
  have hMc : M ≤ c := by omega
  have HLn : Hid ((putF f).take M = (putF f).take ((putF f).length - 1)) := Lib.hid (by have h9 := HB9.out.len; rw [show (putF f).length - 1 = M by omega])
  go_wp2_with fail
  refine (frGet_any A M c ((putF f).take M) _ (ArrR.up (byts_take HB9.out (by omega)) (Ext.new _ _)) HC0.out hMc hcm).mono ?_
  obtain ⟨fl, el, hgl⟩ : ∃ fl el, getF ((putF f).take M) = (fl, el) := ⟨_, _, rfl⟩
  have hel : el = 1 := by have := get_less HZ.out; rw [← HLn.out, hgl] at this; exact this
  subst hel
  rw [hgl]
  rintro e w10 ⟨⟨⟨D1, r1, j1⟩, ⟨D2, r2, j2⟩, ⟨D3, r3, j3⟩, ⟨D4, r4, j4⟩⟩, rfl, -, hb10⟩
  have X10 := Lib.hid ((Ext.new w9 _).trans hb10)
  have K10 := Lib.hid ((X10.out.block z9).trans K9.out)
  have K10y := Lib.hid ((X10.out.block z9y).trans K9y.out)
  have E10 := Lib.hid (E9.out.trans X10.out)
  have z10 : w3.heap.size < w10.heap.size := (Array.getElem?_eq_some_iff.1 K10.out).1
  have z10y : w6.heap.size < w10.heap.size := (Array.getElem?_eq_some_iff.1 K10y.out).1
  clear hb10 hgl i1
  rw [show frVal (fl, (1 : Int)).1 ⟨⟨D1, r1, j1⟩, ⟨D2, r2, j2⟩, ⟨D3, r3, j3⟩, ⟨D4, r4, j4⟩⟩ = .agg #[.int .i64 fl.typ, .int .i64 fl.epoch, .int .i64 fl.kind, .int .i64 fl.nonce, .int .i64 fl.turn, .slice D1 r1 j1, .slice D2 r2 j2, .int .i64 fl.err, .slice D3 r3 j3, .slice D4 r4 j4] from rfl]
  obtain ⟨q0, q1⟩ := blk_rules K10.out
  obtain ⟨y0, y1⟩ := blk_rules K10y.out
  simp only
  go_wp2_with fail
  refine (frSame_any (fun _ => True) (fun _ => True) f f ⟨⟨B1, m1, d1⟩, ⟨B2, m2, d2⟩, ⟨B3, m3, d3⟩, ⟨B4, m4, d4⟩⟩ ⟨⟨C1, k1, e1⟩, ⟨C2, k2, e2⟩, ⟨C3, k3, e3⟩, ⟨C4, k4, e4⟩⟩ _ (HX9.out.up (X10.out.alloc _)) (HY9.out.up (X10.out.alloc _))).mono ?_
  rintro e w11 ⟨rfl, hb11⟩
  rw [show decide (f = f) = true from decide_eq_true rfl]
  have E11 := Lib.hid ((E10.out.alloc _).trans hb11)
  clear hb11 q0 q1 y0 y1
  go_wp2_with fail
  go_ret
  exact ⟨rfl, E11.out⟩
end Go.Proofs.YtepifkmileilfaaGreatDoor
