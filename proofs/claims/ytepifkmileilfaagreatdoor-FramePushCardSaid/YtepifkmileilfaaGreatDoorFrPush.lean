/- The law FramePush of layer 10. -/
import Derived.Test.YtepifkmileilfaaGreatDoorFrOnce
import Derived.Test.YtepifkmileilfaaGreatDoorFrPlain3
import Derived.Test.YtepifkmileilfaaGreatDoorFr7
import Derived.Test.YtepifkmileilfaaGreatDoorRefAll
namespace Go.Proofs.YtepifkmileilfaaGreatDoor
set_option linter.unusedVariables false
open Go.RowKit

set_option maxRecDepth 100000 in
set_option maxHeartbeats 8000000 in
theorem framePush_any (f : Fr) (s : FrS) (w : World) (hV : FrV (fun _ => True) w f s) :
    Calls Tryz.prog 14 #[frVal f s] w fun e w' => e = .returned (.bool true) ∧ Ext w w' := by
  have HV := Lib.hid hV
  obtain ⟨⟨A1, n1, c1⟩, ⟨A2, n2, c2⟩, ⟨A3, n3, c3⟩, ⟨A4, n4, c4⟩⟩ := s
  clear hV
  rw [show frVal f ⟨⟨A1, n1, c1⟩, ⟨A2, n2, c2⟩, ⟨A3, n3, c3⟩, ⟨A4, n4, c4⟩⟩ = .agg #[.int .i64 f.typ, .int .i64 f.epoch, .int .i64 f.kind, .int .i64 f.nonce, .int .i64 f.turn, .slice A1 n1 c1, .slice A2 n2 c2, .int .i64 f.err, .slice A3 n3 c3, .slice A4 n4 c4] from rfl]
  go_enter Tryz.func14, Tryz.ntmps14
  go_wp2_with fail
  refine (awake10 _).mono ?_
  rintro e w1 ⟨rfl, hb1⟩
  have K1 := Lib.hid (box_up hb1)
  have E1 := Lib.hid ((Ext.new w _).trans hb1)
  clear hb1
  obtain ⟨q0, q1⟩ := blk_rules K1.out
  go_wp2_with fail
  refine (few10_any (fun _ => True) f ⟨⟨A1, n1, c1⟩, ⟨A2, n2, c2⟩, ⟨A3, n3, c3⟩, ⟨A4, n4, c4⟩⟩ _ (HV.out.up E1.out)).mono ?_
  rintro e w2 ⟨v, rfl, hv, hb2⟩
  have K2 := Lib.hid ((hb2.block (Array.getElem?_eq_some_iff.1 K1.out).1).trans K1.out)
  have E2 := Lib.hid (E1.out.trans hb2)
  clear hb2 q0 q1
  cases v with
  | false =>
    go_wp2_with fail
    go_ret
    exact ⟨rfl, E2.out⟩
  | true =>
  have hn3 : n3 ≤ 80 := (hv rfl).2.2.1
  have hn1 : n1 ≤ 80 := (hv rfl).1
  have hn2 : n2 ≤ 80 := (hv rfl).2.1
  clear hv
  obtain ⟨q0, q1⟩ := blk_rules K2.out
  go_wp2_with fail
  refine (frame1_any f ⟨⟨A1, n1, c1⟩, ⟨A2, n2, c2⟩, ⟨A3, n3, c3⟩, ⟨A4, n4, c4⟩⟩ _ (HV.out.up E2.out) hn3).mono ?_
  rintro e w3 ⟨⟨⟨B1, m1, d1⟩, ⟨B2, m2, d2⟩, ⟨B3, m3, d3⟩, ⟨B4, m4, d4⟩⟩, rfl, hV3, hb3⟩
  have HX := Lib.hid hV3
  have K3 := Lib.hid ((hb3.block (Array.getElem?_eq_some_iff.1 K2.out).1).trans K2.out)
  have E3 := Lib.hid (E2.out.trans hb3)
  clear hb3 q0 q1 hV3
  rw [show frVal f ⟨⟨B1, m1, d1⟩, ⟨B2, m2, d2⟩, ⟨B3, m3, d3⟩, ⟨B4, m4, d4⟩⟩ = .agg #[.int .i64 f.typ, .int .i64 f.epoch, .int .i64 f.kind, .int .i64 f.nonce, .int .i64 f.turn, .slice B1 m1 d1, .slice B2 m2 d2, .int .i64 f.err, .slice B3 m3 d3, .slice B4 m4 d4] from rfl]
  go_wp2_with fail
  refine (frSane_any (fun _ => True) f ⟨⟨B1, m1, d1⟩, ⟨B2, m2, d2⟩, ⟨B3, m3, d3⟩, ⟨B4, m4, d4⟩⟩ _ HX.out).mono ?_
  rintro e w4 ⟨rfl, hb4⟩
  have K4 := Lib.hid ((hb4.block (Array.getElem?_eq_some_iff.1 K3.out).1).trans K3.out)
  have E4 := Lib.hid (E3.out.trans hb4)
  clear hb4
  obtain ⟨Z, hZ⟩ : ∃ Z, Z = saneF f := ⟨_, rfl⟩
  rw [← hZ]
  have HZ := Lib.hid hZ
  clear hZ
  by_cases hs : Z = 0
  rotate_left
  · have hs1 : (Z != 0) = true := by simpa using hs
    clear hs
    go_wp2_with fail
    go_ret
    exact ⟨rfl, E4.out⟩
  have HS : Hid (saneF f = 0) := Lib.hid (by rw [← HZ.out]; exact hs)
  subst hs
  have hzw : w.heap.size < w4.heap.size := (Array.getElem?_eq_some_iff.1 K4.out).1

  by_cases ht : f.typ = 1
  rotate_left
  · have ht1 : (f.typ != 1) = true := by simpa using ht
    obtain ⟨q0, q1⟩ := blk_rules K4.out
    clear ht
    go_wp2_with fail
    go_ret
    exact ⟨rfl, E4.out⟩
  have HT := Lib.hid ht
  have ht1 : (f.typ != 1) = false := by simpa using ht
  clear ht
  obtain ⟨q0, q1⟩ := blk_rules K4.out
  go_wp2_with fail
  refine (frame1_any f ⟨⟨A1, n1, c1⟩, ⟨A2, n2, c2⟩, ⟨A3, n3, c3⟩, ⟨A4, n4, c4⟩⟩ _ (HV.out.up E4.out) hn3).mono ?_
  rintro e w5 ⟨⟨⟨C1, k1, e1⟩, ⟨C2, k2, e2⟩, ⟨C3, k3, e3⟩, ⟨C4, k4, e4⟩⟩, rfl, hV5, hb5⟩
  have K5 := Lib.hid ((hb5.block hzw).trans K4.out)
  have E5 := Lib.hid (E4.out.trans hb5)
  have hz5 : w.heap.size < w5.heap.size := (Array.getElem?_eq_some_iff.1 K5.out).1
  have HX5 := Lib.hid hV5
  clear hb5 q0 q1 hV5 ht1
  rw [show frVal f ⟨⟨C1, k1, e1⟩, ⟨C2, k2, e2⟩, ⟨C3, k3, e3⟩, ⟨C4, k4, e4⟩⟩ = .agg #[.int .i64 f.typ, .int .i64 f.epoch, .int .i64 f.kind, .int .i64 f.nonce, .int .i64 f.turn, .slice C1 k1 e1, .slice C2 k2 e2, .int .i64 f.err, .slice C3 k3 e3, .slice C4 k4 e4] from rfl]
  go_wp2_with fail
  refine (frPut_any (fun _ => True) f ⟨⟨C1, k1, e1⟩, ⟨C2, k2, e2⟩, ⟨C3, k3, e3⟩, ⟨C4, k4, e4⟩⟩ _ HX5.out).mono ?_
  rintro e w6 ⟨A, N, c, rfl, hsl, hBf, hb6⟩
  have K6 := Lib.hid ((hb6.block hz5).trans K5.out)
  have E6 := Lib.hid (E5.out.trans hb6)
  have HB6 := Lib.hid hBf
  have HSL := Lib.hid hsl
  have z6 : w.heap.size < w6.heap.size := (Array.getElem?_eq_some_iff.1 K6.out).1
  clear hb6 hBf hsl
  have hcm : c ≤ 9223372036854775807 := by have := HSL.out.2.1; unfold maxLen at this; exact this
  have hNc : N ≤ c := HSL.out.1
  have HC0 : Hid (A = none → c = 0) := Lib.hid HSL.out.2.2
  go_wp2_with fail
  have hR := RdAt.box (w := w6) 0 HB6.out HC0.out hNc hcm
  refine (num_any w6.heap.size ⟨putF f, 0⟩ 3 _ hR).mono ?_
  rw [head_num HS.out]
  rintro e w7 ⟨rfl, hr7, ho7⟩
  have HR7 := Lib.hid hr7
  have HO7 := Lib.hid ho7
  clear hr7 ho7 hR
  go_wp2_with fail
  refine (num_any w6.heap.size _ 2147483647 _ HR7.out).mono ?_
  rw [head_ep f]
  rintro e w8 ⟨rfl, hr8, ho8⟩
  have HR8 := Lib.hid hr8
  have HO8 := Lib.hid (HO7.out.trans ho8)
  clear hr8 ho8
  go_wp2_with fail
  refine (num_any w6.heap.size _ 3 _ HR8.out).mono ?_
  rw [push_kind HS.out HT.out]
  rintro e w9 ⟨rfl, hr9, ho9⟩
  have hkd : ((bnd f.kind : Nat) : Int) = f.kind := bnd_back ((saneF_iff f).1 HS.out).kind.1 (by have := ((saneF_iff f).1 HS.out).kind.2; omega)
  rw [hkd]
  have HR9 := Lib.hid hr9
  have HO9 := Lib.hid (HO8.out.trans ho9)
  clear hr9 ho9 hkd
  go_wp2_with fail
  refine (num_any w6.heap.size _ 2147483647 _ HR9.out).mono ?_
  rw [push_nonce f]
  rintro e w10 ⟨rfl, hr10, ho10⟩
  have hno : ((bnd f.nonce : Nat) : Int) = f.nonce := bnd_back (sane_nonce HS.out).1 (sane_nonce HS.out).2
  rw [hno]
  have HR10 := Lib.hid hr10
  have HO10 := Lib.hid (HO9.out.trans ho10)
  have z10 : w6.heap.size < w10.heap.size := by have := HO10.out.size; simp at this; omega
  clear hr10 ho10 hno
  go_wp2_with fail
  refine (takeAll_any w6.heap.size _ _ HR10.out).mono ?_
  rw [push_adds HS.out]
  rintro e w11 ⟨B, M, d, rfl, hsl11, hA11, hr11, ho11⟩
  have HR11 := Lib.hid hr11
  have HO11 := Lib.hid (HO10.out.trans ho11)
  have HA11 := Lib.hid hA11
  have z11 : w6.heap.size < w11.heap.size := Nat.lt_of_lt_of_le z10 ho11.size
  have hM : M = n1 := by have h1 : f.adds.length = M := hA11.len; have h2 : f.adds.length = n1 := HV.out.adds.len; omega
  clear hr11 ho11 hA11 hsl11
  subst hM
  go_wp2_with fail
  refine (takeKeys_any w6.heap.size _ _ HR11.out).mono ?_
  rw [push_gone HS.out]
  rintro e w12 ⟨G, L, h, rfl, hsl12, hA12, hr12, ho12⟩
  have HR12 := Lib.hid hr12
  have HO12 := Lib.hid (HO11.out.trans ho12)
  have HA12 := Lib.hid (ResL.keep HA11.out (Only.keepGe (lo := w10.heap.size) ho12 z10))
  have hLn : L = n2 := by have h1 : f.gone.length = L := hA12.len; have h2 : f.gone.length = n2 := HV.out.gone.len; omega
  subst hLn
  clear hr12 ho12 hA12 hsl12
  go_wp2_with fail
  refine (done_any w6.heap.size _ _ HR12.out).mono ?_
  rw [done_nil0]
  rintro e w13 ⟨rfl, hr13, ho13⟩
  have E13 : Hid (Ext w6 w13) := Lib.hid (Only.ext (Ext.new w6 _) (HO12.out.trans ho13) (Nat.le_refl _))
  have EE := Lib.hid (E6.out.trans E13.out)
  have K13 := Lib.hid ((E13.out.block z6).trans K6.out)
  have HA13 := Lib.hid (ResL.keep HA12.out (Only.keepGe (lo := w10.heap.size) ho13 z10))
  clear hr13 ho13
  obtain ⟨q0, q1⟩ := blk_rules K13.out
  go_wp2_with fail
  refine (refAll_eq (fun b => w10.heap.size ≤ b) (fun _ => True) (fun b => w10.heap.size ≤ b) (fun _ => True) f.adds B A1 M d c1 _ (by unfold maxLen; omega) HA13.out (ResL.keep HV.out.adds EE.out.keep)).mono ?_
  rintro e w14 ⟨rfl, hb14⟩
  have K14 := Lib.hid ((hb14.block (Array.getElem?_eq_some_iff.1 K13.out).1).trans K13.out)
  have E14 := Lib.hid (EE.out.trans hb14)
  clear hb14 q0 q1
  obtain ⟨q0, q1⟩ := blk_rules K14.out
  go_wp2_with fail
  go_ret
  exact ⟨rfl, E14.out⟩
end Go.Proofs.YtepifkmileilfaaGreatDoor
