/- The law FrameIs of layer 10. -/
import Derived.Test.YtfdjbnofcniodaaGreatDoorQRf4
import Derived.Test.YtfdjbnofcniodaaGreatDoorQRfG
import Derived.Test.YtfdjbnofcniodaaGreatDoorQRf6
import Derived.Test.YtfdjbnofcniodaaGreatDoorQFrPutA
import Derived.Test.YtfdjbnofcniodaaGreatDoorQFr7
import Derived.Test.YtfdjbnofcniodaaGreatDoorQFrAwake
import Derived.Test.YtfdjbnofcniodaaGreatDoorQFrC
namespace Go.Proofs.YtfdjbnofcniodaaGreatDoor
open Lib (hid)
set_option maxHeartbeats 32000000
set_option maxRecDepth 100000
set_option linter.unusedVariables false
open Go.RowKit
theorem getF_hav (b : List UInt8) : (getF b).1.hav.length ≤ 64 := by
 unfold getF
 split
 ·exact Nat.zero_le _
 ·split
  ·exact Nat.zero_le _
  ·rename_i h
   exact (sane_lens (Classical.not_not.1 h)).2.2.1
def FGetX (w : World) (gf : Fr) (gi : Int) (e : Ending) (w' : World) : Prop := ∃ s, e = .returned (.tuple #[frVal gf s, .int .i64 gi]) ∧ FrV (fun _ => True) w' gf s ∧ Ext w w'
theorem frameIs_any (f : Fr) (s : FrS) (g : Fr) (s' : FrS) (A : Option Addr) (n c : Nat) (bs : List UInt8) (w : World) (hV : FrV (fun _ => True) w f s) (hG : FrV (fun _ => True) w g s') (hB : Byts w A n bs) (hc : A = none → c = 0) (hnc : n ≤ c) (hcm : c ≤ 9223372036854775807) :
  Calls Tryz.prog 9 #[frVal f s, frVal g s', .slice A n c] w fun e w' => e = .returned (.bool true) ∧ Ext w w' := by
 have HV := hid hV
 have HG := hid hG
 have HB := hid hB
 have HC := hid hc
 obtain ⟨X, hX⟩ : ∃ X, X = getF bs := ⟨_, rfl⟩
 have HXL : Hid (X.1.hav.length ≤ 64) := hid (by rw [hX]; exact getF_hav bs)
 obtain ⟨gf, gi⟩ := X
 have HFG : Hid (∀ w1 : World, Byts w1 A n bs → Calls Tryz.prog 66 #[.slice A n c] w1 (FGetX w1 gf gi)) := hid (fun w1 h => by
  have h9 := frGet_any A n c bs w1 h hc hnc hcm
  rw [← hX] at h9
  exact h9)
 have HRG : Hid (∀ w1 : World, Byts w1 A n bs → Calls Tryz.prog 67 #[.slice A n c] w1 (FGetX w1 gf gi)) := hid (fun w1 h => by
  have h9 := refGet10_any A n c bs w1 h hc hnc hcm
  rw [← hX] at h9
  exact h9)
 have hn9 : n ≤ 9223372036854775807 := by omega
 obtain ⟨⟨A1, n1, c1⟩, ⟨A2, n2, c2⟩, ⟨A3, n3, c3⟩, ⟨A4, n4, c4⟩⟩ := s
 obtain ⟨⟨B1, m1, d1⟩, ⟨B2, m2, d2⟩, ⟨B3, m3, d3⟩, ⟨B4, m4, d4⟩⟩ := s'
 clear hV hG hB hc hX
 rw [show frVal f ⟨⟨A1, n1, c1⟩, ⟨A2, n2, c2⟩, ⟨A3, n3, c3⟩, ⟨A4, n4, c4⟩⟩ = .agg #[.int .i64 f.typ, .int .i64 f.epoch, .int .i64 f.kind, .int .i64 f.nonce, .int .i64 f.turn, .slice A1 n1 c1, .slice A2 n2 c2, .int .i64 f.err, .slice A3 n3 c3, .slice A4 n4 c4] from rfl, show frVal g ⟨⟨B1, m1, d1⟩, ⟨B2, m2, d2⟩, ⟨B3, m3, d3⟩, ⟨B4, m4, d4⟩⟩ = .agg #[.int .i64 g.typ, .int .i64 g.epoch, .int .i64 g.kind, .int .i64 g.nonce, .int .i64 g.turn, .slice B1 m1 d1, .slice B2 m2 d2, .int .i64 g.err, .slice B3 m3 d3, .slice B4 m4 d4] from rfl]
 go_enter Tryz.func9, Tryz.ntmps9
 go_wp2_with fail
 refine (awake10 _).mono ?_
 rintro e w1 ⟨rfl, hb1⟩
 have hsz : ((w.alloc (.cells #[.int .i64 f.typ, .int .i64 f.epoch, .int .i64 f.kind, .int .i64 f.nonce, .int .i64 f.turn, .slice A1 n1 c1, .slice A2 n2 c2, .int .i64 f.err, .slice A3 n3 c3, .slice A4 n4 c4] 87)).alloc (.cells #[.int .i64 g.typ, .int .i64 g.epoch, .int .i64 g.kind, .int .i64 g.nonce, .int .i64 g.turn, .slice B1 m1 d1, .slice B2 m2 d2, .int .i64 g.err, .slice B3 m3 d3, .slice B4 m4 d4] 87)).heap.size = w.heap.size + 2 := by simp only [World.size_alloc]
 obtain ⟨q3, hq3⟩ : ∃ b, b = w.heap.size := ⟨_, rfl⟩
 obtain ⟨q4, hq4⟩ : ∃ b, b = w.heap.size + 1 := ⟨_, rfl⟩
 have K3_1 : Hid (w1.heap[q3]? = some (.cells #[.int .i64 f.typ, .int .i64 f.epoch, .int .i64 f.kind, .int .i64 f.nonce, .int .i64 f.turn, .slice A1 n1 c1, .slice A2 n2 c2, .int .i64 f.err, .slice A3 n3 c3, .slice A4 n4 c4] 87 (0, 0))) := hid (by rw [hq3]; exact (hb1.block (by rw [hsz]; omega)).trans (two_blocks w (.cells #[.int .i64 f.typ, .int .i64 f.epoch, .int .i64 f.kind, .int .i64 f.nonce, .int .i64 f.turn, .slice A1 n1 c1, .slice A2 n2 c2, .int .i64 f.err, .slice A3 n3 c3, .slice A4 n4 c4] 87) (.cells #[.int .i64 g.typ, .int .i64 g.epoch, .int .i64 g.kind, .int .i64 g.nonce, .int .i64 g.turn, .slice B1 m1 d1, .slice B2 m2 d2, .int .i64 g.err, .slice B3 m3 d3, .slice B4 m4 d4] 87)).1)
 have K4_1 : Hid (w1.heap[q4]? = some (.cells #[.int .i64 g.typ, .int .i64 g.epoch, .int .i64 g.kind, .int .i64 g.nonce, .int .i64 g.turn, .slice B1 m1 d1, .slice B2 m2 d2, .int .i64 g.err, .slice B3 m3 d3, .slice B4 m4 d4] 87 (0, 0))) := hid (by rw [hq4]; exact (hb1.block (by rw [hsz]; omega)).trans (two_blocks w (.cells #[.int .i64 f.typ, .int .i64 f.epoch, .int .i64 f.kind, .int .i64 f.nonce, .int .i64 f.turn, .slice A1 n1 c1, .slice A2 n2 c2, .int .i64 f.err, .slice A3 n3 c3, .slice A4 n4 c4] 87) (.cells #[.int .i64 g.typ, .int .i64 g.epoch, .int .i64 g.kind, .int .i64 g.nonce, .int .i64 g.turn, .slice B1 m1 d1, .slice B2 m2 d2, .int .i64 g.err, .slice B3 m3 d3, .slice B4 m4 d4] 87)).2)
 have E_1 := hid (((Ext.new w (.cells #[.int .i64 f.typ, .int .i64 f.epoch, .int .i64 f.kind, .int .i64 f.nonce, .int .i64 f.turn, .slice A1 n1 c1, .slice A2 n2 c2, .int .i64 f.err, .slice A3 n3 c3, .slice A4 n4 c4] 87)).alloc (.cells #[.int .i64 g.typ, .int .i64 g.epoch, .int .i64 g.kind, .int .i64 g.nonce, .int .i64 g.turn, .slice B1 m1 d1, .slice B2 m2 d2, .int .i64 g.err, .slice B3 m3 d3, .slice B4 m4 d4] 87)).trans hb1)
 rw [← hq4, ← hq3]
 clear hb1 hsz hq3 hq4
 obtain ⟨uK3, vK3⟩ := blk_rules K3_1.out
 have zK3 : q3 < w1.heap.size := (Array.getElem?_eq_some_iff.1 K3_1.out).1
 go_wp2_with fail
 clear uK3 vK3 zK3
 refine (few10_any (fun _ => True) f ⟨⟨A1, n1, c1⟩, ⟨A2, n2, c2⟩, ⟨A3, n3, c3⟩, ⟨A4, n4, c4⟩⟩ _ (HV.out.up E_1.out)).mono ?_
 rintro e w2 ⟨v, rfl, hv, hb⟩
 have E_2 := hid (E_1.out.trans hb)
 have K3_2 := hid ((hb.block (Array.getElem?_eq_some_iff.1 K3_1.out).1).trans K3_1.out)
 have K4_2 := hid ((hb.block (Array.getElem?_eq_some_iff.1 K4_1.out).1).trans K4_1.out)
 clear hb
 cases v with
 | false =>
  go_wp2_with fail
  go_ret
  exact ⟨rfl, E_2.out⟩
 | true =>
 have hf80 : n3 ≤ 80 := (hv rfl).2.2.1
 clear hv
 obtain ⟨uK4, vK4⟩ := blk_rules K4_2.out
 have zK4 : q4 < w2.heap.size := (Array.getElem?_eq_some_iff.1 K4_2.out).1
 go_wp2_with fail
 clear uK4 vK4 zK4
 refine (few10_any (fun _ => True) g ⟨⟨B1, m1, d1⟩, ⟨B2, m2, d2⟩, ⟨B3, m3, d3⟩, ⟨B4, m4, d4⟩⟩ _ (HG.out.up E_2.out)).mono ?_
 rintro e w3 ⟨v, rfl, hv, hb⟩
 have E_3 := hid (E_2.out.trans hb)
 have K3_3 := hid ((hb.block (Array.getElem?_eq_some_iff.1 K3_2.out).1).trans K3_2.out)
 have K4_3 := hid ((hb.block (Array.getElem?_eq_some_iff.1 K4_2.out).1).trans K4_2.out)
 clear hb
 cases v with
 | false =>
  go_wp2_with fail
  go_ret
  exact ⟨rfl, E_3.out⟩
 | true =>
 have hg80 : m3 ≤ 80 := (hv rfl).2.2.1
 clear hv
 by_cases hq50 : 5000 < n
 ·go_wp2_with fail
  go_ret
  exact ⟨rfl, E_3.out⟩
 obtain ⟨uK3, vK3⟩ := blk_rules K3_3.out
 have zK3 : q3 < w3.heap.size := (Array.getElem?_eq_some_iff.1 K3_3.out).1
 go_wp2_with fail
 clear uK3 vK3 zK3
 refine (frame1_any f ⟨⟨A1, n1, c1⟩, ⟨A2, n2, c2⟩, ⟨A3, n3, c3⟩, ⟨A4, n4, c4⟩⟩ _ (HV.out.up E_3.out) hf80).mono ?_
 rintro e w4 ⟨⟨⟨P1, pn1, pc1⟩, ⟨P2, pn2, pc2⟩, ⟨P3, pn3, pc3⟩, ⟨P4, pn4, pc4⟩⟩, rfl, hv, hb⟩
 have E_4 := hid (E_3.out.trans hb)
 have K3_4 := hid ((hb.block (Array.getElem?_eq_some_iff.1 K3_3.out).1).trans K3_3.out)
 have K4_4 := hid ((hb.block (Array.getElem?_eq_some_iff.1 K4_3.out).1).trans K4_3.out)
 have HP4 := hid hv
 clear hv hb
 rw [show frVal f ⟨⟨P1, pn1, pc1⟩, ⟨P2, pn2, pc2⟩, ⟨P3, pn3, pc3⟩, ⟨P4, pn4, pc4⟩⟩ = .agg #[.int .i64 f.typ, .int .i64 f.epoch, .int .i64 f.kind, .int .i64 f.nonce, .int .i64 f.turn, .slice P1 pn1 pc1, .slice P2 pn2 pc2, .int .i64 f.err, .slice P3 pn3 pc3, .slice P4 pn4 pc4] from rfl]
 go_wp2_with fail
 refine (frPut_any (fun _ => True) f ⟨⟨P1, pn1, pc1⟩, ⟨P2, pn2, pc2⟩, ⟨P3, pn3, pc3⟩, ⟨P4, pn4, pc4⟩⟩ _ HP4.out).mono ?_
 rintro e w5 ⟨RU, NU, kU, rfl, -, hBy, hb⟩
 have E_5 := hid (E_4.out.trans hb)
 have K3_5 := hid ((hb.block (Array.getElem?_eq_some_iff.1 K3_4.out).1).trans K3_4.out)
 have K4_5 := hid ((hb.block (Array.getElem?_eq_some_iff.1 K4_4.out).1).trans K4_4.out)
 have HU_5 := hid hBy
 clear hBy hb
 obtain ⟨uK3, vK3⟩ := blk_rules K3_5.out
 have zK3 : q3 < w5.heap.size := (Array.getElem?_eq_some_iff.1 K3_5.out).1
 go_wp2_with fail
 clear uK3 vK3 zK3
 refine (refPut10_any f ⟨⟨A1, n1, c1⟩, ⟨A2, n2, c2⟩, ⟨A3, n3, c3⟩, ⟨A4, n4, c4⟩⟩ _ (HV.out.up E_5.out)).mono ?_
 rintro e w6 ⟨RW, NW, kW, rfl, -, hBy, hb⟩
 have E_6 := hid (E_5.out.trans hb)
 have K3_6 := hid ((hb.block (Array.getElem?_eq_some_iff.1 K3_5.out).1).trans K3_5.out)
 have K4_6 := hid ((hb.block (Array.getElem?_eq_some_iff.1 K4_5.out).1).trans K4_5.out)
 have HU_6 := hid (ArrR.up HU_5.out hb)
 have HW_6 := hid hBy
 clear hBy hb
 go_wp2_with fail
 refine (HFG.out _ (ArrR.up HB.out E_6.out)).mono ?_
 rintro e w7 ⟨⟨⟨Z1, zn1, zc1⟩, ⟨Z2, zn2, zc2⟩, ⟨Z3, zn3, zc3⟩, ⟨Z4, zn4, zc4⟩⟩, rfl, hv, hb⟩
 have E_7 := hid (E_6.out.trans hb)
 have K3_7 := hid ((hb.block (Array.getElem?_eq_some_iff.1 K3_6.out).1).trans K3_6.out)
 have K4_7 := hid ((hb.block (Array.getElem?_eq_some_iff.1 K4_6.out).1).trans K4_6.out)
 have HU_7 := hid (ArrR.up HU_6.out hb)
 have HW_7 := hid (ArrR.up HW_6.out hb)
 have HZ_7 := hid hv
 clear hv hb
 rw [show frVal gf ⟨⟨Z1, zn1, zc1⟩, ⟨Z2, zn2, zc2⟩, ⟨Z3, zn3, zc3⟩, ⟨Z4, zn4, zc4⟩⟩ = .agg #[.int .i64 gf.typ, .int .i64 gf.epoch, .int .i64 gf.kind, .int .i64 gf.nonce, .int .i64 gf.turn, .slice Z1 zn1 zc1, .slice Z2 zn2 zc2, .int .i64 gf.err, .slice Z3 zn3 zc3, .slice Z4 zn4 zc4] from rfl]
 go_wp2_with fail
 have K12_Z := hid (heap_alloc_new w7 (.cells #[.int .i64 gf.typ, .int .i64 gf.epoch, .int .i64 gf.kind, .int .i64 gf.nonce, .int .i64 gf.turn, .slice Z1 zn1 zc1, .slice Z2 zn2 zc2, .int .i64 gf.err, .slice Z3 zn3 zc3, .slice Z4 zn4 zc4] 93))
 have hb := Ext.new w7 (.cells #[.int .i64 gf.typ, .int .i64 gf.epoch, .int .i64 gf.kind, .int .i64 gf.nonce, .int .i64 gf.turn, .slice Z1 zn1 zc1, .slice Z2 zn2 zc2, .int .i64 gf.err, .slice Z3 zn3 zc3, .slice Z4 zn4 zc4] 93)
 generalize w7.alloc (.cells #[.int .i64 gf.typ, .int .i64 gf.epoch, .int .i64 gf.kind, .int .i64 gf.nonce, .int .i64 gf.turn, .slice Z1 zn1 zc1, .slice Z2 zn2 zc2, .int .i64 gf.err, .slice Z3 zn3 zc3, .slice Z4 zn4 zc4] 93) = wZ at K12_Z hb ⊢
 obtain ⟨qZ, hq⟩ : ∃ b, b = w7.heap.size := ⟨_, rfl⟩
 rw [← hq] at K12_Z ⊢
 clear hq
 have E_Z := hid (E_7.out.trans hb)
 have K3_Z := hid ((hb.block (Array.getElem?_eq_some_iff.1 K3_7.out).1).trans K3_7.out)
 have K4_Z := hid ((hb.block (Array.getElem?_eq_some_iff.1 K4_7.out).1).trans K4_7.out)
 have HU_Z := hid (ArrR.up HU_7.out hb)
 have HW_Z := hid (ArrR.up HW_7.out hb)
 have HZ_Z := hid (HZ_7.out.up hb)
 clear hb
 refine (HRG.out _ (ArrR.up HB.out E_Z.out)).mono ?_
 rintro e w8 ⟨⟨⟨Y1, yn1, yc1⟩, ⟨Y2, yn2, yc2⟩, ⟨Y3, yn3, yc3⟩, ⟨Y4, yn4, yc4⟩⟩, rfl, hv, hb⟩
 have E_8 := hid (E_Z.out.trans hb)
 have K3_8 := hid ((hb.block (Array.getElem?_eq_some_iff.1 K3_Z.out).1).trans K3_Z.out)
 have K4_8 := hid ((hb.block (Array.getElem?_eq_some_iff.1 K4_Z.out).1).trans K4_Z.out)
 have K12_8 := hid ((hb.block (Array.getElem?_eq_some_iff.1 K12_Z.out).1).trans K12_Z.out)
 have HU_8 := hid (ArrR.up HU_Z.out hb)
 have HW_8 := hid (ArrR.up HW_Z.out hb)
 have HZ_8 := hid (HZ_Z.out.up hb)
 have HY_8 := hid hv
 clear hv hb
 rw [show frVal gf ⟨⟨Y1, yn1, yc1⟩, ⟨Y2, yn2, yc2⟩, ⟨Y3, yn3, yc3⟩, ⟨Y4, yn4, yc4⟩⟩ = .agg #[.int .i64 gf.typ, .int .i64 gf.epoch, .int .i64 gf.kind, .int .i64 gf.nonce, .int .i64 gf.turn, .slice Y1 yn1 yc1, .slice Y2 yn2 yc2, .int .i64 gf.err, .slice Y3 yn3 yc3, .slice Y4 yn4 yc4] from rfl]
 go_wp2_with fail
 have K14_Y := hid (heap_alloc_new w8 (.cells #[.int .i64 gf.typ, .int .i64 gf.epoch, .int .i64 gf.kind, .int .i64 gf.nonce, .int .i64 gf.turn, .slice Y1 yn1 yc1, .slice Y2 yn2 yc2, .int .i64 gf.err, .slice Y3 yn3 yc3, .slice Y4 yn4 yc4] 87))
 have hb := Ext.new w8 (.cells #[.int .i64 gf.typ, .int .i64 gf.epoch, .int .i64 gf.kind, .int .i64 gf.nonce, .int .i64 gf.turn, .slice Y1 yn1 yc1, .slice Y2 yn2 yc2, .int .i64 gf.err, .slice Y3 yn3 yc3, .slice Y4 yn4 yc4] 87)
 generalize w8.alloc (.cells #[.int .i64 gf.typ, .int .i64 gf.epoch, .int .i64 gf.kind, .int .i64 gf.nonce, .int .i64 gf.turn, .slice Y1 yn1 yc1, .slice Y2 yn2 yc2, .int .i64 gf.err, .slice Y3 yn3 yc3, .slice Y4 yn4 yc4] 87) = wY at K14_Y hb ⊢
 obtain ⟨qY, hq⟩ : ∃ b, b = w8.heap.size := ⟨_, rfl⟩
 rw [← hq] at K14_Y ⊢
 clear hq
 have E_Y := hid (E_8.out.trans hb)
 have K3_Y := hid ((hb.block (Array.getElem?_eq_some_iff.1 K3_8.out).1).trans K3_8.out)
 have K4_Y := hid ((hb.block (Array.getElem?_eq_some_iff.1 K4_8.out).1).trans K4_8.out)
 have K12_Y := hid ((hb.block (Array.getElem?_eq_some_iff.1 K12_8.out).1).trans K12_8.out)
 have HU_Y := hid (ArrR.up HU_8.out hb)
 have HW_Y := hid (ArrR.up HW_8.out hb)
 have HZ_Y := hid (HZ_8.out.up hb)
 have HY_Y := hid (HY_8.out.up hb)
 clear hb
 as_aux_lemma =>
  have hz80 : zn3 ≤ 80 := by have h8 : gf.hav.length = zn3 := HZ_Y.out.hav.len; have h9 : gf.hav.length ≤ 64 := HXL.out; omega
  obtain ⟨a0, a1, a2, a3, a4, a5, a6, a7, a8, a9⟩ := bx10 (S := Ext wY.drew) (fun w' h => (blk_rules ((((Ext.refl wY).drew.trans h).block (Array.getElem?_eq_some_iff.1 K3_Y.out).1).trans K3_Y.out)).1)
  obtain ⟨b0, b1, b2, b3, b4, b5, b6, b7, b8, b9⟩ := bx10 (S := Ext wY.drew) (fun w' h => (blk_rules ((((Ext.refl wY).drew.trans h).block (Array.getElem?_eq_some_iff.1 K4_Y.out).1).trans K4_Y.out)).1)
  obtain ⟨x0, x1, x2, x3, x4, x5, x6, x7, x8, x9⟩ := bx10 (S := Ext wY.drew) (fun w' h => (blk_rules ((((Ext.refl wY).drew.trans h).block (Array.getElem?_eq_some_iff.1 K12_Y.out).1).trans K12_Y.out)).1)
  obtain ⟨y0, y1, y2, y3, y4, y5, y6, y7, y8, y9⟩ := bx10 (S := Ext wY.drew) (fun w' h => (blk_rules ((((Ext.refl wY).drew.trans h).block (Array.getElem?_eq_some_iff.1 K14_Y.out).1).trans K14_Y.out)).1)
  have cU : ∀ w', Ext wY.drew w' → (convert 22 9 (.slice RU NU kU)).run Tryz.prog w' = .ok (.string (bstr (putF f))) w' := fun w' h => convF (ArrR.up HU_Y.out ((Ext.refl wY).drew.trans h)) kU
  have cW : ∀ w', Ext wY.drew w' → (convert 22 9 (.slice RW NW kW)).run Tryz.prog w' = .ok (.string (bstr (putF f))) w' := fun w' h => convF (ArrR.up HW_Y.out ((Ext.refl wY).drew.trans h)) kW
  have X0 : Hid (Ext wY.drew wY.drew) := hid (Ext.refl _)
  have HVr : Hid (∀ w', Ext wY.drew w' → FrV (fun _ => True) w' f ⟨⟨A1, n1, c1⟩, ⟨A2, n2, c2⟩, ⟨A3, n3, c3⟩, ⟨A4, n4, c4⟩⟩) := hid (fun w' h => HV.out.up (E_Y.out.trans ((Ext.refl wY).drew.trans h)))
  have HGr : Hid (∀ w', Ext wY.drew w' → FrV (fun _ => True) w' g ⟨⟨B1, m1, d1⟩, ⟨B2, m2, d2⟩, ⟨B3, m3, d3⟩, ⟨B4, m4, d4⟩⟩) := hid (fun w' h => HG.out.up (E_Y.out.trans ((Ext.refl wY).drew.trans h)))
  have HZr : Hid (∀ w', Ext wY.drew w' → FrV (fun _ => True) w' gf ⟨⟨Z1, zn1, zc1⟩, ⟨Z2, zn2, zc2⟩, ⟨Z3, zn3, zc3⟩, ⟨Z4, zn4, zc4⟩⟩) := hid (fun w' h => HZ_Y.out.up ((Ext.refl wY).drew.trans h))
  have HYr : Hid (∀ w', Ext wY.drew w' → FrV (fun _ => True) w' gf ⟨⟨Y1, yn1, yc1⟩, ⟨Y2, yn2, yc2⟩, ⟨Y3, yn3, yc3⟩, ⟨Y4, yn4, yc4⟩⟩) := hid (fun w' h => HY_Y.out.up ((Ext.refl wY).drew.trans h))
  obtain ⟨D, hD⟩ : ∃ D, D = decide (f = g) := ⟨_, rfl⟩
  have HD := hid hD
  have hdd : (D == D) = true := by simp
  obtain ⟨s0, hs0⟩ : ∃ s0, s0 = saneF f := ⟨_, rfl⟩
  have HS0 := hid hs0
  have hss : (s0 == s0) = true := by simp
  have hii : (gi == gi) = true := by simp
  rw [← hs0]
  clear hD hs0
  go_wp2_with fail
  have hSw : Ext wY.drew wY.drew := X0.out
  refine wpS_begin (Ext wY.drew) (by kernel_rfl) ?_
  refine wpS_tk 0 ?_ hSw rfl (fun w' hin => ?_) ?_; rotate_left
  ·go_simp <;> with_reducible rfl
  try simp only [lyr]
  refine wpS_tk 1 ?_ hSw rfl (fun w' hin => ?_) ?_; rotate_left
  ·go_simp <;> with_reducible rfl
  try simp only [lyr]
  refine wpS_tk 2 ?_ hSw rfl (fun w' hin => ?_) ?_; rotate_left
  ·go_simp <;> with_reducible rfl
  try simp only [lyr]
  refine wpS_tk 5 ?_ hSw rfl (fun w' hin => ?_) ?_; rotate_left
  ·go_simp <;> with_reducible rfl
  try simp only [lyr]
  refine wpS_on 3 rfl (fun K hK => ?_)
  go_simp
  refine (frame1_any f ⟨⟨A1, n1, c1⟩, ⟨A2, n2, c2⟩, ⟨A3, n3, c3⟩, ⟨A4, n4, c4⟩⟩ _ (HVr.out _ X0.out) hf80).mono ?_
  rintro e x3 ⟨⟨⟨C1, cn1, cc1⟩, ⟨C2, cn2, cc2⟩, ⟨C3, cn3, cc3⟩, ⟨C4, cn4, cc4⟩⟩, rfl, hvx, hbx⟩
  have X3 := hid (X0.out.trans hbx)
  have HV3 := hid hvx
  clear hvx hbx
  rw [show frVal f ⟨⟨C1, cn1, cc1⟩, ⟨C2, cn2, cc2⟩, ⟨C3, cn3, cc3⟩, ⟨C4, cn4, cc4⟩⟩ = .agg #[.int .i64 f.typ, .int .i64 f.epoch, .int .i64 f.kind, .int .i64 f.nonce, .int .i64 f.turn, .slice C1 cn1 cc1, .slice C2 cn2 cc2, .int .i64 f.err, .slice C3 cn3 cc3, .slice C4 cn4 cc4] from rfl]
  simp only []
  refine hK.out _ _ (Ext wY.drew) (fun _ h => h) (X3.out) (fun hSw => ?_)
  clear hK K
  try simp only [lyr]
  refine wpS_on 4 rfl (fun K hK => ?_)
  go_simp
  refine (frSane_any (fun _ => True) f ⟨⟨C1, cn1, cc1⟩, ⟨C2, cn2, cc2⟩, ⟨C3, cn3, cc3⟩, ⟨C4, cn4, cc4⟩⟩ _ HV3.out).mono ?_
  rintro e x4 ⟨rfl, hbx⟩
  have X4 := hid (X3.out.trans hbx)
  rw [← HS0.out]
  clear hbx
  simp only []
  refine hK.out _ _ (Ext wY.drew) (fun _ h => h) (X4.out) (fun hSw => ?_)
  clear hK K
  try simp only [lyr]
  refine wpS_on 6 rfl (fun K hK => ?_)
  go_simp
  refine (refSane10_any (fun _ => True) f ⟨⟨A1, n1, c1⟩, ⟨A2, n2, c2⟩, ⟨A3, n3, c3⟩, ⟨A4, n4, c4⟩⟩ _ (HVr.out _ X4.out)).mono ?_
  rintro e x6 ⟨rfl, hbx⟩
  have X6 := hid (X4.out.trans hbx)
  rw [← HS0.out]
  clear HV3
  clear hbx
  simp only []
  refine hK.out _ _ (Ext wY.drew) (fun _ h => h) (X6.out) (fun hSw => ?_)
  clear hK K
  try simp only [lyr]
  as_aux_lemma =>
   refine wpS_tk 7 ?_ hSw rfl (fun w' hin => ?_) ?_; rotate_left
   ·go_simp <;> with_reducible rfl
   try simp only [lyr]
   refine wpS_tk 8 ?_ hSw rfl (fun w' hin => ?_) ?_; rotate_left
   ·go_simp <;> with_reducible rfl
   try simp only [lyr]
   refine wpS_tk 9 ?_ hSw rfl (fun w' hin => ?_) ?_; rotate_left
   ·go_simp <;> with_reducible rfl
   try simp only [lyr]
   refine wpS_tk 10 ?_ hSw rfl (fun w' hin => ?_) ?_; rotate_left
   ·go_simp <;> with_reducible rfl
   try simp only [lyr]
   refine wpS_tk 11 ?_ hSw rfl (fun w' hin => ?_) ?_; rotate_left
   ·go_simp <;> with_reducible rfl
   try simp only [lyr]
   refine wpS_tk 12 ?_ hSw rfl (fun w' hin => ?_) ?_; rotate_left
   ·go_simp <;> with_reducible rfl
   try simp only [lyr]
   refine wpS_tk 13 ?_ hSw rfl (fun w' hin => ?_) ?_; rotate_left
   ·go_simp <;> with_reducible rfl
   try simp only [lyr]
   refine wpS_tk 14 ?_ hSw rfl (fun w' hin => ?_) ?_; rotate_left
   ·go_simp <;> with_reducible rfl
   try simp only [lyr]
   refine wpS_tk 15 ?_ hSw rfl (fun w' hin => ?_) ?_; rotate_left
   ·go_simp <;> with_reducible rfl
   try simp only [lyr]
   as_aux_lemma =>
    refine wpS_tk 16 ?_ hSw rfl (fun w' hin => ?_) ?_; rotate_left
    ·go_simp <;> with_reducible rfl
    try simp only [lyr]
    refine wpS_tk 17 ?_ hSw rfl (fun w' hin => ?_) ?_; rotate_left
    ·go_simp <;> with_reducible rfl
    try simp only [lyr]
    refine wpS_tk 18 ?_ hSw rfl (fun w' hin => ?_) ?_; rotate_left
    ·go_simp <;> with_reducible rfl
    try simp only [lyr]
    refine wpS_tk 19 ?_ hSw rfl (fun w' hin => ?_) ?_; rotate_left
    ·go_simp <;> with_reducible rfl
    try simp only [lyr]
    refine wpS_tk 20 ?_ hSw rfl (fun w' hin => ?_) ?_; rotate_left
    ·go_simp <;> with_reducible rfl
    try simp only [lyr]
    refine wpS_tk 21 ?_ hSw rfl (fun w' hin => ?_) ?_; rotate_left
    ·go_simp <;> with_reducible rfl
    try simp only [lyr]
    refine wpS_tk 22 ?_ hSw rfl (fun w' hin => ?_) ?_; rotate_left
    ·go_simp <;> with_reducible rfl
    try simp only [lyr]
    refine wpS_tk 24 ?_ hSw rfl (fun w' hin => ?_) ?_; rotate_left
    ·go_simp <;> with_reducible rfl
    try simp only [lyr]
    refine wpS_on 23 rfl (fun K hK => ?_)
    go_simp
    refine (plain10_any gf ⟨⟨Z1, zn1, zc1⟩, ⟨Z2, zn2, zc2⟩, ⟨Z3, zn3, zc3⟩, ⟨Z4, zn4, zc4⟩⟩ _ (HZr.out _ X6.out) hz80).mono ?_
    rintro e x23 ⟨⟨⟨D1, dn1, dc1⟩, ⟨D2, dn2, dc2⟩, ⟨D3, dn3, dc3⟩, ⟨D4, dn4, dc4⟩⟩, rfl, hvx, hbx⟩
    have X23 := hid (X6.out.trans hbx)
    have HV23 := hid hvx
    clear hvx hbx
    rw [show frVal gf ⟨⟨D1, dn1, dc1⟩, ⟨D2, dn2, dc2⟩, ⟨D3, dn3, dc3⟩, ⟨D4, dn4, dc4⟩⟩ = .agg #[.int .i64 gf.typ, .int .i64 gf.epoch, .int .i64 gf.kind, .int .i64 gf.nonce, .int .i64 gf.turn, .slice D1 dn1 dc1, .slice D2 dn2 dc2, .int .i64 gf.err, .slice D3 dn3 dc3, .slice D4 dn4 dc4] from rfl]
    simp only []
    refine hK.out _ _ (Ext wY.drew) (fun _ h => h) (X23.out) (fun hSw => ?_)
    clear hK K
    try simp only [lyr]
    refine wpS_on 25 rfl (fun K hK => ?_)
    go_simp
    refine (refSame10_dec gf gf ⟨⟨D1, dn1, dc1⟩, ⟨D2, dn2, dc2⟩, ⟨D3, dn3, dc3⟩, ⟨D4, dn4, dc4⟩⟩ ⟨⟨Y1, yn1, yc1⟩, ⟨Y2, yn2, yc2⟩, ⟨Y3, yn3, yc3⟩, ⟨Y4, yn4, yc4⟩⟩ _ HV23.out (HYr.out _ X23.out)).mono ?_
    rintro e x25 ⟨rfl, hbx⟩
    have X25 := hid (X23.out.trans hbx)
    rw [decide_eq_true rfl]
    clear HV23
    clear hbx
    simp only []
    refine hK.out _ _ (Ext wY.drew) (fun _ h => h) (X25.out) (fun hSw => ?_)
    clear hK K
    try simp only [lyr]
    as_aux_lemma =>
     refine wpS_tk 26 ?_ hSw rfl (fun w' hin => ?_) ?_; rotate_left
     ·go_simp <;> with_reducible rfl
     try simp only [lyr]
     refine wpS_tk 27 ?_ hSw rfl (fun w' hin => ?_) ?_; rotate_left
     ·go_simp <;> with_reducible rfl
     try simp only [lyr]
     refine wpS_tk 28 ?_ hSw rfl (fun w' hin => ?_) ?_; rotate_left
     ·go_simp <;> with_reducible rfl
     try simp only [lyr]
     refine wpS_tk 29 ?_ hSw rfl (fun w' hin => ?_) ?_; rotate_left
     ·go_simp <;> with_reducible rfl
     try simp only [lyr]
     refine wpS_tk 30 ?_ hSw rfl (fun w' hin => ?_) ?_; rotate_left
     ·go_simp <;> with_reducible rfl
     try simp only [lyr]
     refine wpS_tk 31 ?_ hSw rfl (fun w' hin => ?_) ?_; rotate_left
     ·go_simp <;> with_reducible rfl
     try simp only [lyr]
     as_aux_lemma =>
      refine wpS_tk 32 ?_ hSw rfl (fun w' hin => ?_) ?_; rotate_left
      ·go_simp <;> with_reducible rfl
      try simp only [lyr]
      refine wpS_tk 33 ?_ hSw rfl (fun w' hin => ?_) ?_; rotate_left
      ·go_simp <;> with_reducible rfl
      try simp only [lyr]
      refine wpS_tk 35 ?_ hSw rfl (fun w' hin => ?_) ?_; rotate_left
      ·go_simp <;> with_reducible rfl
      try simp only [lyr]
      refine wpS_tk 38 ?_ hSw rfl (fun w' hin => ?_) ?_; rotate_left
      ·go_simp <;> with_reducible rfl
      try simp only [lyr]
      refine wpS_tk 39 ?_ hSw rfl (fun w' hin => ?_) ?_; rotate_left
      ·go_simp <;> with_reducible rfl
      try simp only [lyr]
      refine wpS_on 34 rfl (fun K hK => ?_)
      go_simp
      refine (frame1_any f ⟨⟨A1, n1, c1⟩, ⟨A2, n2, c2⟩, ⟨A3, n3, c3⟩, ⟨A4, n4, c4⟩⟩ _ (HVr.out _ X25.out) hf80).mono ?_
      rintro e x34 ⟨⟨⟨G1, gn1, gc1⟩, ⟨G2, gn2, gc2⟩, ⟨G3, gn3, gc3⟩, ⟨G4, gn4, gc4⟩⟩, rfl, hvx, hbx⟩
      have X34 := hid (X25.out.trans hbx)
      have HV34 := hid hvx
      clear hvx hbx
      rw [show frVal f ⟨⟨G1, gn1, gc1⟩, ⟨G2, gn2, gc2⟩, ⟨G3, gn3, gc3⟩, ⟨G4, gn4, gc4⟩⟩ = .agg #[.int .i64 f.typ, .int .i64 f.epoch, .int .i64 f.kind, .int .i64 f.nonce, .int .i64 f.turn, .slice G1 gn1 gc1, .slice G2 gn2 gc2, .int .i64 f.err, .slice G3 gn3 gc3, .slice G4 gn4 gc4] from rfl]
      simp only []
      refine hK.out _ _ (Ext wY.drew) (fun _ h => h) (X34.out) (fun hSw => ?_)
      clear hK K
      try simp only [lyr]
      refine wpS_on 36 rfl (fun K hK => ?_)
      go_simp
      refine (frame1_any g ⟨⟨B1, m1, d1⟩, ⟨B2, m2, d2⟩, ⟨B3, m3, d3⟩, ⟨B4, m4, d4⟩⟩ _ (HGr.out _ X34.out) hg80).mono ?_
      rintro e x36 ⟨⟨⟨I1, jn1, jc1⟩, ⟨I2, jn2, jc2⟩, ⟨I3, jn3, jc3⟩, ⟨I4, jn4, jc4⟩⟩, rfl, hvx, hbx⟩
      have X36 := hid (X34.out.trans hbx)
      have HV36 := hid hvx
      have HV34b := hid (HV34.out.up hbx)
      clear hvx hbx
      rw [show frVal g ⟨⟨I1, jn1, jc1⟩, ⟨I2, jn2, jc2⟩, ⟨I3, jn3, jc3⟩, ⟨I4, jn4, jc4⟩⟩ = .agg #[.int .i64 g.typ, .int .i64 g.epoch, .int .i64 g.kind, .int .i64 g.nonce, .int .i64 g.turn, .slice I1 jn1 jc1, .slice I2 jn2 jc2, .int .i64 g.err, .slice I3 jn3 jc3, .slice I4 jn4 jc4] from rfl]
      simp only []
      refine hK.out _ _ (Ext wY.drew) (fun _ h => h) (X36.out) (fun hSw => ?_)
      clear hK K
      try simp only [lyr]
      refine wpS_on 37 rfl (fun K hK => ?_)
      go_simp
      refine (frSame_any (fun _ => True) (fun _ => True) f g ⟨⟨G1, gn1, gc1⟩, ⟨G2, gn2, gc2⟩, ⟨G3, gn3, gc3⟩, ⟨G4, gn4, gc4⟩⟩ ⟨⟨I1, jn1, jc1⟩, ⟨I2, jn2, jc2⟩, ⟨I3, jn3, jc3⟩, ⟨I4, jn4, jc4⟩⟩ _ HV34b.out HV36.out).mono ?_
      rintro e x37 ⟨rfl, hbx⟩
      have X37 := hid (X36.out.trans hbx)
      rw [← HD.out]
      clear HV34 HV34b HV36
      clear hbx
      simp only []
      refine hK.out _ _ (Ext wY.drew) (fun _ h => h) (X37.out) (fun hSw => ?_)
      clear hK K
      try simp only [lyr]
      refine wpS_on 40 rfl (fun K hK => ?_)
      go_simp
      refine (refSame10_dec f g ⟨⟨A1, n1, c1⟩, ⟨A2, n2, c2⟩, ⟨A3, n3, c3⟩, ⟨A4, n4, c4⟩⟩ ⟨⟨B1, m1, d1⟩, ⟨B2, m2, d2⟩, ⟨B3, m3, d3⟩, ⟨B4, m4, d4⟩⟩ _ (HVr.out _ X37.out) (HGr.out _ X37.out)).mono ?_
      rintro e x40 ⟨rfl, hbx⟩
      have X40 := hid (X37.out.trans hbx)
      rw [← HD.out]
      clear hbx
      simp only []
      refine hK.out _ _ (Ext wY.drew) (fun _ h => h) (X40.out) (fun hSw => ?_)
      clear hK K
      try simp only [lyr]
      refine wpS_tk 41 ?_ hSw rfl (fun w' hin => ?_) ?_; rotate_left
      ·go_simp <;> with_reducible rfl
      try simp only [lyr]
      refine wpS_tk 42 ?_ hSw rfl (fun w' hin => ?_) ?_; rotate_left
      ·go_simp <;> with_reducible rfl
      try simp only [lyr]
      refine wpS_tk 43 ?_ hSw rfl (fun w' hin => ?_) ?_; rotate_left
      ·go_simp <;> with_reducible rfl
      try simp only [lyr]
      refine wpS_done (by kernel_rfl) ?_
      go_wp2_with fail
      go_ret
      exact ⟨by first | rfl | simp, E_Y.out.trans ((Ext.refl _).drew.trans X40.out)⟩
end Go.Proofs.YtfdjbnofcniodaaGreatDoor
