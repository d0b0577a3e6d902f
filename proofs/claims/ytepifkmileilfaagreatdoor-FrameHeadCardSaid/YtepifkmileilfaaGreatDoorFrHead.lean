/- The law FrameHead of layer 10. -/
import Derived.Test.YtepifkmileilfaaGreatDoorFrOnce
import Derived.Test.YtepifkmileilfaaGreatDoorFrPlain3
import Derived.Test.YtepifkmileilfaaGreatDoorFr7
namespace Go.Proofs.YtepifkmileilfaaGreatDoor
set_option linter.unusedVariables false
open Go.RowKit

theorem bstr_inj {a b : List UInt8} (h : bstr a = bstr b) : a = b := by
  have := congrArg tx h
  simpa [tx, bstr] using this
theorem FrV.below {S : Nat → Prop} {w : World} {f : Fr} {s : FrS} (h : FrV S w f s) : FrV (fun b => b < w.heap.size) w f s :=
  ⟨h.sa, h.sg, h.sh, h.sk, h.adds.weak (fun b hb _ => hb), h.gone.weak (fun _ _ h => h) (fun b hb _ => hb), h.hav.weak (fun _ _ h => h) (fun b hb _ => hb), h.held.weak (fun _ _ h => h) (fun b hb _ => hb)⟩
theorem FrV.atEp {S : Nat → Prop} {w : World} {f : Fr} {s : FrS} (h : FrV S w f s) (e : Int) : FrV S w (Proofs.YtepifkmileilfaaGreatDoor.atEp f e) s := ⟨h.sa, h.sg, h.sh, h.sk, h.adds, h.gone, h.hav, h.held⟩
theorem byts_set {w : World} {p i N : Nat} {u : Value} {A : Option Addr} {bs : List UInt8} (h : Byts w A N bs) (hne : ∀ b o, A = some ⟨b, o, none⟩ → 0 < N → b ≠ p) : Byts (w.setCell ⟨p, i, none⟩ u) A N bs :=
  ⟨h.1, fun hn => by
    obtain ⟨b, o, e, hb, hc⟩ := h.2 hn
    refine ⟨b, o, e, by rw [size_set]; exact hb, fun k x hx => ?_⟩
    obtain ⟨cs, a1, a2, a3⟩ := hc k x hx
    exact ⟨cs, a1, a2, fun j v hv => (World.cell?_of_block (blk_far (hne b o e hn) _)).trans (a3 j v hv)⟩⟩
theorem byts_ne {w : World} {p N : Nat} {T : TypeId} {A : Option Addr} {bs : List UInt8} {a0 a1 a2 a3 a4 a7 : Int} {A5 A6 A8 A9 : Option Addr} {n5 n6 n8 n9 c5 c6 c8 c9 : Nat} (h : Byts w A N bs)
    (hk : w.heap[p]? = some (.cells #[.int .i64 a0, .int .i64 a1, .int .i64 a2, .int .i64 a3, .int .i64 a4, .slice A5 n5 c5, .slice A6 n6 c6, .int .i64 a7, .slice A8 n8 c8, .slice A9 n9 c9] T (0, 0))) : ∀ b o, A = some ⟨b, o, none⟩ → 0 < N → b ≠ p := by
  intro b o e hN hb
  subst hb
  obtain ⟨b', o', u, e', -, -, hc⟩ := Byts.at_ h hN
  rw [e] at e'
  injection e' with e'
  injection e' with e1 e2
  subst e1 e2
  rw [(blk_rules hk).1 (o + 0)] at hc
  match o, hc with
  | 0, hc => simp at hc
  | 1, hc => simp at hc
  | 2, hc => simp at hc
  | 3, hc => simp at hc
  | 4, hc => simp at hc
  | 5, hc => simp at hc
  | 6, hc => simp at hc
  | 7, hc => simp at hc
  | 8, hc => simp at hc
  | 9, hc => simp at hc
  | n + 10, hc => simp at hc

set_option maxRecDepth 100000 in
set_option maxHeartbeats 8000000 in
theorem frameHead_any (f : Fr) (s : FrS) (ep : Int) (w : World) (hV : FrV (fun _ => True) w f s) :
    Calls Tryz.prog 13 #[frVal f s, .int .i64 ep] w fun e w' => e = .returned (.bool true) ∧ Ext w w' := by
  have HV := Lib.hid hV
  obtain ⟨⟨A1, n1, c1⟩, ⟨A2, n2, c2⟩, ⟨A3, n3, c3⟩, ⟨A4, n4, c4⟩⟩ := s
  clear hV
  rw [show frVal f ⟨⟨A1, n1, c1⟩, ⟨A2, n2, c2⟩, ⟨A3, n3, c3⟩, ⟨A4, n4, c4⟩⟩ = .agg #[.int .i64 f.typ, .int .i64 f.epoch, .int .i64 f.kind, .int .i64 f.nonce, .int .i64 f.turn, .slice A1 n1 c1, .slice A2 n2 c2, .int .i64 f.err, .slice A3 n3 c3, .slice A4 n4 c4] from rfl]
  go_enter Tryz.func13, Tryz.ntmps13
  go_wp2_with fail
  refine (awake10 _).mono ?_
  rintro e w1 ⟨rfl, hb1⟩
  have K1 := Lib.hid (box_up hb1)
  have E1 := Lib.hid ((Ext.new w _).trans hb1)
  clear hb1
  obtain ⟨q0, q1⟩ := blk_rules K1.out
  go_wp2_with fail
  refine (few10_any (fun _ => True) f ⟨⟨A1, n1, c1⟩, ⟨A2, n2, c2⟩, ⟨A3, n3, c3⟩, ⟨A4, n4, c4⟩⟩ _ (HV.out.up E1.out)).mono ?_
  rintro e w2 ⟨v, rfl, hv, hb2⟩
  have K2 := Lib.hid ((hb2.block (Array.getElem?_eq_some_iff.1 K1.out).1).trans K1.out)
  have E2 := Lib.hid (E1.out.trans hb2)
  clear hb2 q0 q1
  cases v with
  | false =>
    go_wp2_with fail
    go_ret
    exact ⟨rfl, E2.out⟩
  | true =>
  have hn3 : n3 ≤ 80 := (hv rfl).2.2.1
  have hn1 : n1 ≤ 80 := (hv rfl).1
  have hn2 : n2 ≤ 80 := (hv rfl).2.1
  clear hv
  obtain ⟨q0, q1⟩ := blk_rules K2.out
  go_wp2_with fail
  refine (frame1_any f ⟨⟨A1, n1, c1⟩, ⟨A2, n2, c2⟩, ⟨A3, n3, c3⟩, ⟨A4, n4, c4⟩⟩ _ (HV.out.up E2.out) hn3).mono ?_
  rintro e w3 ⟨⟨⟨B1, m1, d1⟩, ⟨B2, m2, d2⟩, ⟨B3, m3, d3⟩, ⟨B4, m4, d4⟩⟩, rfl, hV3, hb3⟩
  have HX := Lib.hid hV3
  have K3 := Lib.hid ((hb3.block (Array.getElem?_eq_some_iff.1 K2.out).1).trans K2.out)
  have E3 := Lib.hid (E2.out.trans hb3)
  clear hb3 q0 q1 hV3
  rw [show frVal f ⟨⟨B1, m1, d1⟩, ⟨B2, m2, d2⟩, ⟨B3, m3, d3⟩, ⟨B4, m4, d4⟩⟩ = .agg #[.int .i64 f.typ, .int .i64 f.epoch, .int .i64 f.kind, .int .i64 f.nonce, .int .i64 f.turn, .slice B1 m1 d1, .slice B2 m2 d2, .int .i64 f.err, .slice B3 m3 d3, .slice B4 m4 d4] from rfl]
  go_wp2_with fail
  refine (frSane_any (fun _ => True) f ⟨⟨B1, m1, d1⟩, ⟨B2, m2, d2⟩, ⟨B3, m3, d3⟩, ⟨B4, m4, d4⟩⟩ _ HX.out).mono ?_
  rintro e w4 ⟨rfl, hb4⟩
  have K4 := Lib.hid ((hb4.block (Array.getElem?_eq_some_iff.1 K3.out).1).trans K3.out)
  have E4 := Lib.hid (E3.out.trans hb4)
  clear hb4
  obtain ⟨Z, hZ⟩ : ∃ Z, Z = saneF f := ⟨_, rfl⟩
  rw [← hZ]
  have HZ := Lib.hid hZ
  clear hZ
  by_cases hs : Z = 0
  rotate_left
  · have hs1 : (Z != 0) = true := by simpa using hs
    clear hs
    go_wp2_with fail
    go_ret
    exact ⟨rfl, E4.out⟩
  have HS : Hid (saneF f = 0) := Lib.hid (by rw [← HZ.out]; exact hs)
  subst hs
  have hzw : w.heap.size < w4.heap.size := (Array.getElem?_eq_some_iff.1 K4.out).1

  obtain ⟨q0, q1⟩ := blk_rules K4.out
  go_wp2_with fail
  refine (frame1_any f ⟨⟨A1, n1, c1⟩, ⟨A2, n2, c2⟩, ⟨A3, n3, c3⟩, ⟨A4, n4, c4⟩⟩ _ (HV.out.up E4.out) hn3).mono ?_
  rintro e w5 ⟨⟨⟨C1, k1, e1⟩, ⟨C2, k2, e2⟩, ⟨C3, k3, e3⟩, ⟨C4, k4, e4⟩⟩, rfl, hV5, hb5⟩
  have K5 := Lib.hid ((hb5.block hzw).trans K4.out)
  have E5 := Lib.hid (E4.out.trans hb5)
  have hz5 : w.heap.size < w5.heap.size := (Array.getElem?_eq_some_iff.1 K5.out).1
  have HX5 := Lib.hid hV5.below
  clear hb5 q0 q1 hV5
  rw [show frVal f ⟨⟨C1, k1, e1⟩, ⟨C2, k2, e2⟩, ⟨C3, k3, e3⟩, ⟨C4, k4, e4⟩⟩ = .agg #[.int .i64 f.typ, .int .i64 f.epoch, .int .i64 f.kind, .int .i64 f.nonce, .int .i64 f.turn, .slice C1 k1 e1, .slice C2 k2 e2, .int .i64 f.err, .slice C3 k3 e3, .slice C4 k4 e4] from rfl]
  go_wp2_with fail
  refine (frPut_any (fun b => b < w5.heap.size) f ⟨⟨C1, k1, e1⟩, ⟨C2, k2, e2⟩, ⟨C3, k3, e3⟩, ⟨C4, k4, e4⟩⟩ _ (HX5.out.up (Ext.new _ _))).mono ?_
  rintro e w6 ⟨A, N, c, rfl, hsl, hBf, hb6⟩
  rw [HS.out]
  have X6 := Lib.hid ((Ext.new w5 _).trans hb6)
  have KX6 := Lib.hid (box_up hb6)
  have K6 := Lib.hid ((X6.out.block hz5).trans K5.out)
  have E6 := Lib.hid (E5.out.trans X6.out)
  have HX6 := Lib.hid (HX5.out.up X6.out)
  have HB6 := Lib.hid hBf
  have HSL := Lib.hid hsl
  have z6 : w5.heap.size < w6.heap.size := (Array.getElem?_eq_some_iff.1 KX6.out).1
  clear hb6 hBf hsl
  obtain ⟨q, hq, hbit⟩ := and_mask ep 2147483647 (by omega)
  have hbit' : bits .and .i64 ep 2147483647 = (q : Int) := hbit
  clear hbit
  obtain ⟨x0, x1⟩ := blk_rules KX6.out
  have HB7 := Lib.hid (byts_set (p := w5.heap.size) (i := 1) (u := .int .i64 (q : Int)) HB6.out (byts_ne HB6.out KX6.out))
  have KX7 := Lib.hid (blk_set (i := 1) KX6.out (.int .i64 (q : Int)))
  have K7 := Lib.hid ((blk_far (g := w.heap.size) (g' := w5.heap.size) (i := 1) (by omega) (.int .i64 (q : Int))).trans K6.out)
  have HX7 := Lib.hid ((HX6.out.keep (Keep.setFar (p := w5.heap.size) (i := 1) (fun b hb => by omega) (.int .i64 (q : Int)))).atEp (q : Int))
  have E7 : Hid (Ext w (w6.setCell ⟨w5.heap.size, 1, none⟩ (.int .i64 (q : Int)))) := Lib.hid (Only.ext (Ext.refl w) ((Only.of_ext (g := w5.heap.size) E6.out).setNew (p := w5.heap.size) (i := 1) (by omega) _) (by omega))
  have z7 : w5.heap.size < (w6.setCell ⟨w5.heap.size, 1, none⟩ (.int .i64 (q : Int))).heap.size := by rw [size_set]; exact z6
  go_wp2_with fail
  clear x0 x1 hbit'
  generalize w6.setCell ⟨w5.heap.size, 1, none⟩ (.int .i64 (q : Int)) = w7 at HB7 KX7 K7 HX7 E7 z7 ⊢
  have HS2 := Lib.hid (sane_atEp (e := (q : Int)) HS.out (by omega) (by omega))
  refine (frPut_any (fun b => b < w5.heap.size) (atEp f (q : Int)) ⟨⟨C1, k1, e1⟩, ⟨C2, k2, e2⟩, ⟨C3, k3, e3⟩, ⟨C4, k4, e4⟩⟩ _ HX7.out).mono ?_
  rintro e w8 ⟨A', N', c', rfl, -, hB8, hb8⟩
  rw [HS2.out]
  have K8 := Lib.hid ((hb8.block (by omega)).trans K7.out)
  have KX8 : Hid (w8.heap[w5.heap.size]? = some (.cells #[.int .i64 f.typ, .int .i64 (q : Int), .int .i64 f.kind, .int .i64 f.nonce, .int .i64 f.turn, .slice C1 k1 e1, .slice C2 k2 e2, .int .i64 f.err, .slice C3 k3 e3, .slice C4 k4 e4] 93 (0, 0))) := Lib.hid ((hb8.block z7).trans KX7.out)
  have E8 := Lib.hid (E7.out.trans hb8)
  have HB8 := Lib.hid (ArrR.up HB7.out hb8)
  have HC8 := Lib.hid hB8
  have z8 : w5.heap.size < w8.heap.size := Nat.lt_of_lt_of_le z7 hb8.size
  clear hb8 hB8
  have hcm : c ≤ 9223372036854775807 := by have := HSL.out.2.1; unfold maxLen at this; exact this
  have hNc : N ≤ c := HSL.out.1
  have HC0 : Hid (A = none → c = 0) := Lib.hid HSL.out.2.2
  go_wp2_with fail
  have hR := RdAt.box (w := w8) 0 HB8.out HC0.out hNc hcm
  refine (num_any w8.heap.size ⟨putF f, 0⟩ 3 _ hR).mono ?_
  rw [head_num HS.out]
  rintro e w9 ⟨rfl, hr9, ho9⟩
  have HR9 := Lib.hid hr9
  have HO9 := Lib.hid ho9
  have z9 : w8.heap.size < w9.heap.size := by have := ho9.size; simp at this; omega
  have ht : ((bnd f.typ : Nat) : Int) = f.typ := bnd_back ((saneF_iff f).1 HS.out).typ.1 (by have := ((saneF_iff f).1 HS.out).typ.2; omega)
  have hep : ((bnd f.epoch : Nat) : Int) = f.epoch := bnd_back (sane_epoch HS.out).1 (sane_epoch HS.out).2
  rw [ht]
  clear hR hr9 ho9 ht
  go_wp2_with fail
  refine (num_any w8.heap.size _ 2147483647 _ HR9.out).mono ?_
  rw [head_ep f]
  rintro e w10 ⟨rfl, hr10, ho10⟩
  rw [hep]
  have HO10 := Lib.hid (HO9.out.trans ho10)
  have E10 : Hid (Ext w8 w10) := Lib.hid (Only.ext (Ext.new w8 _) HO10.out (Nat.le_refl _))
  have EE := Lib.hid (E8.out.trans E10.out)
  have K10 := Lib.hid ((E10.out.block (by omega)).trans K8.out)
  have KX10 := Lib.hid ((E10.out.block z8).trans KX8.out)
  have hec : w10.cell? ⟨w8.heap.size, 1, none⟩ = some (.int .i64 0) := by
    obtain ⟨A0, n0, c0, hg, -⟩ := hr10
    exact (blk_rules hg).1 1
  have hz10 : w8.heap.size < w10.heap.size := by have := ho10.size; omega
  have HB10 := Lib.hid (ArrR.up HB8.out E10.out)
  have HC10 := Lib.hid (ArrR.up HC8.out E10.out)
  clear hr10 ho10 hep
  obtain ⟨q0, q1⟩ := blk_rules K10.out
  obtain ⟨x0, x1⟩ := blk_rules KX10.out
  by_cases hqe : (q : Int) = f.epoch
  · have hfe : atEp f (q : Int) = f := by rw [hqe]; rfl
    have v0 : (convert 22 9 (.slice A N c)).run Tryz.prog w10 = .ok (.string (bstr (putF f))) w10 := convF HB10.out c
    have v1 : (convert 22 9 (.slice A' N' c')).run Tryz.prog w10 = .ok (.string (bstr (putF f))) w10 := convF (by have := HC10.out; rwa [hfe] at this) c'
    have hq2 : ((q : Int) == f.epoch) = true := by simpa using hqe
    clear hfe hqe
    go_wp2_with fail
    go_ret
    exact ⟨rfl, EE.out⟩
  · have hnb : putF f ≠ putF (atEp f (q : Int)) := fun h => hqe (by have := putF_inj HS.out HS2.out h; rw [this]; rfl)
    obtain ⟨sa, hsa⟩ : ∃ sa, sa = bstr (putF f) := ⟨_, rfl⟩
    obtain ⟨sb, hsb⟩ : ∃ sb, sb = bstr (putF (atEp f (q : Int))) := ⟨_, rfl⟩
    have hne : sa ≠ sb := fun h => hnb (by rw [hsa, hsb] at h; exact bstr_inj h)
    have v0 : (convert 22 9 (.slice A N c)).run Tryz.prog w10 = .ok (.string sa) w10 := by rw [hsa]; exact convF HB10.out c
    have v1 : (convert 22 9 (.slice A' N' c')).run Tryz.prog w10 = .ok (.string sb) w10 := by rw [hsb]; exact convF HC10.out c'
    have hq2 : ((q : Int) == f.epoch) = false := by simpa using hqe
    have hn2 : ¬ sa.toList = sb.toList := fun h => hne (by apply tx_inj; simpa [tx_toList] using h)
    have hn3 : (sa.toList == sb.toList) = false := by simpa using hn2
    clear hsa hsb hnb hqe
    go_wp2_with fail
    go_ret
    exact ⟨rfl, EE.out⟩
end Go.Proofs.YtepifkmileilfaaGreatDoor
