/- What frame.Same computes. -/
import Derived.Test.YtepifkmileilfaaGreatDoorFrQ
import Derived.Test.YtepifkmileilfaaGreatDoorAlike
import Derived.Test.YtepifkmileilfaaGreatDoorEqK
import Derived.Test.YtepifkmileilfaaGreatDoorEqM
import Derived.Test.YtepifkmileilfaaGreatDoorEqR
namespace Go.Proofs.YtepifkmileilfaaGreatDoor
set_option linter.unusedVariables false
open Go.RowKit

set_option maxRecDepth 100000 in
set_option maxHeartbeats 8000000 in
theorem frSame_any (S S' : Nat → Prop) (f f' : Fr) (s s' : FrS) (w : World) (hV : FrV S w f s) (hW : FrV S' w f' s') :
    Calls Tryz.prog 77 #[frVal f s, frVal f' s'] w fun e w' => e = .returned (.bool (decide (f = f'))) ∧ Ext w w' := by
  have HV := Lib.hid hV
  have HW := Lib.hid hW
  clear hV hW
  obtain ⟨⟨A1, n1, c1⟩, ⟨A2, n2, c2⟩, ⟨A3, n3, c3⟩, ⟨A4, n4, c4⟩⟩ := s
  obtain ⟨⟨B1, m1, d1⟩, ⟨B2, m2, d2⟩, ⟨B3, m3, d3⟩, ⟨B4, m4, d4⟩⟩ := s'
  obtain ⟨at0, ae, ak, an0, au, aa, ag, ar, ah, al⟩ := f
  obtain ⟨bt, be, bk, bn0, bu, ba, bg, br, bh, bl⟩ := f'
  unfold frVal
  simp only
  by_cases k0 : at0 = bt
  rotate_left
  · have hq : (at0 == bt) = false := by simpa using k0
    have HR : Hid (decide ((⟨at0, ae, ak, an0, au, aa, ag, ar, ah, al⟩ : Fr) = ⟨bt, be, bk, bn0, bu, ba, bg, br, bh, bl⟩) = false) := Lib.hid (decide_eq_false fun e => k0 (congrArg Fr.typ e))
    go_enter Tryz.func77, Tryz.ntmps77
    go_wp2_with fail
    go_ret
    exact ⟨ret_bool HR.out.symm, ((Ext.refl w).alloc _).alloc _⟩
  subst k0
  by_cases k1 : ae = be
  rotate_left
  · have hq : (ae == be) = false := by simpa using k1
    have HR : Hid (decide ((⟨at0, ae, ak, an0, au, aa, ag, ar, ah, al⟩ : Fr) = ⟨at0, be, bk, bn0, bu, ba, bg, br, bh, bl⟩) = false) := Lib.hid (decide_eq_false fun e => k1 (congrArg Fr.epoch e))
    go_enter Tryz.func77, Tryz.ntmps77
    go_wp2_with fail
    go_ret
    exact ⟨ret_bool HR.out.symm, ((Ext.refl w).alloc _).alloc _⟩
  subst k1
  by_cases k2 : ak = bk
  rotate_left
  · have hq : (ak == bk) = false := by simpa using k2
    have HR : Hid (decide ((⟨at0, ae, ak, an0, au, aa, ag, ar, ah, al⟩ : Fr) = ⟨at0, ae, bk, bn0, bu, ba, bg, br, bh, bl⟩) = false) := Lib.hid (decide_eq_false fun e => k2 (congrArg Fr.kind e))
    go_enter Tryz.func77, Tryz.ntmps77
    go_wp2_with fail
    go_ret
    exact ⟨ret_bool HR.out.symm, ((Ext.refl w).alloc _).alloc _⟩
  subst k2
  by_cases k3 : an0 = bn0
  rotate_left
  · have hq : (an0 == bn0) = false := by simpa using k3
    have HR : Hid (decide ((⟨at0, ae, ak, an0, au, aa, ag, ar, ah, al⟩ : Fr) = ⟨at0, ae, ak, bn0, bu, ba, bg, br, bh, bl⟩) = false) := Lib.hid (decide_eq_false fun e => k3 (congrArg Fr.nonce e))
    go_enter Tryz.func77, Tryz.ntmps77
    go_wp2_with fail
    go_ret
    exact ⟨ret_bool HR.out.symm, ((Ext.refl w).alloc _).alloc _⟩
  subst k3
  by_cases k4 : au = bu
  rotate_left
  · have hq : (au == bu) = false := by simpa using k4
    have HR : Hid (decide ((⟨at0, ae, ak, an0, au, aa, ag, ar, ah, al⟩ : Fr) = ⟨at0, ae, ak, an0, bu, ba, bg, br, bh, bl⟩) = false) := Lib.hid (decide_eq_false fun e => k4 (congrArg Fr.turn e))
    go_enter Tryz.func77, Tryz.ntmps77
    go_wp2_with fail
    go_ret
    exact ⟨ret_bool HR.out.symm, ((Ext.refl w).alloc _).alloc _⟩
  subst k4
  by_cases k7 : ar = br
  rotate_left
  · have hq : (ar == br) = false := by simpa using k7
    have HR : Hid (decide ((⟨at0, ae, ak, an0, au, aa, ag, ar, ah, al⟩ : Fr) = ⟨at0, ae, ak, an0, au, ba, bg, br, bh, bl⟩) = false) := Lib.hid (decide_eq_false fun e => k7 (congrArg Fr.err e))
    go_enter Tryz.func77, Tryz.ntmps77
    go_wp2_with fail
    go_ret
    exact ⟨ret_bool HR.out.symm, ((Ext.refl w).alloc _).alloc _⟩
  subst k7
  go_enter Tryz.func77, Tryz.ntmps77
  go_wp2_with fail
  refine (equalFR_any (fun _ => True) 117 A1 B1 n1 c1 m1 d1 aa ba _ HV.out.sa.len HW.out.sa.len (ResL.weak (T := fun _ => True) (ResL.keep HV.out.adds (((Ext.refl w).alloc _).alloc _).keep) (fun _ _ _ => trivial)) (ResL.weak (T := fun _ => True) (ResL.keep HW.out.adds (((Ext.refl w).alloc _).alloc _).keep) (fun _ _ _ => trivial)) (same_same _ _)).mono ?_
  rintro e w1 ⟨rfl, hb1⟩
  have KA1 := Lib.hid ((hb1.block (b := w.heap.size) (by simp; omega)).trans (two_blocks w _ _).1)
  have KB1 := Lib.hid ((hb1.block (b := w.heap.size + 1) (by simp)).trans (two_blocks w _ _).2)
  have E1 := Lib.hid ((((Ext.refl w).alloc _).alloc _).trans hb1)
  clear hb1
  obtain ⟨q0, -⟩ := blk_rules KA1.out
  obtain ⟨q1, -⟩ := blk_rules KB1.out
  by_cases k5 : aa = ba
  rotate_left
  · rw [decide_eq_false k5]
    have HR : Hid (decide ((⟨at0, ae, ak, an0, au, aa, ag, ar, ah, al⟩ : Fr) = ⟨at0, ae, ak, an0, au, ba, bg, ar, bh, bl⟩) = false) := Lib.hid (decide_eq_false fun e => k5 (congrArg Fr.adds e))
    go_wp2_with fail
    go_ret
    exact ⟨ret_bool HR.out.symm, E1.out⟩
  subst k5
  rw [decide_eq_true rfl]
  go_wp2_with fail
  refine (equalK_any A2 B2 n2 c2 m2 d2 ag bg _ HV.out.sg.len HW.out.sg.len (KeyL.keep HV.out.gone E1.out.keep) (KeyL.keep HW.out.gone E1.out.keep)).mono ?_
  rintro e w2 ⟨rfl, hb2⟩
  have KA2 := Lib.hid ((hb2.block (Array.getElem?_eq_some_iff.1 KA1.out).1).trans KA1.out)
  have KB2 := Lib.hid ((hb2.block (Array.getElem?_eq_some_iff.1 KB1.out).1).trans KB1.out)
  have E2 := Lib.hid (E1.out.trans hb2)
  clear hb2 q0 q1
  obtain ⟨q0, -⟩ := blk_rules KA2.out
  obtain ⟨q1, -⟩ := blk_rules KB2.out
  by_cases k6 : ag = bg
  rotate_left
  · rw [decide_eq_false k6]
    have HR : Hid (decide ((⟨at0, ae, ak, an0, au, aa, ag, ar, ah, al⟩ : Fr) = ⟨at0, ae, ak, an0, au, aa, bg, ar, bh, bl⟩) = false) := Lib.hid (decide_eq_false fun e => k6 (congrArg Fr.gone e))
    go_wp2_with fail
    go_ret
    exact ⟨ret_bool HR.out.symm, E2.out⟩
  subst k6
  rw [decide_eq_true rfl]
  go_wp2_with fail
  refine (equalM_any A3 B3 n3 c3 m3 d3 ah bh _ HV.out.sh.len HW.out.sh.len (MkL.keep HV.out.hav E2.out.keep) (MkL.keep HW.out.hav E2.out.keep)).mono ?_
  rintro e w3 ⟨rfl, hb3⟩
  have KA3 := Lib.hid ((hb3.block (Array.getElem?_eq_some_iff.1 KA2.out).1).trans KA2.out)
  have KB3 := Lib.hid ((hb3.block (Array.getElem?_eq_some_iff.1 KB2.out).1).trans KB2.out)
  have E3 := Lib.hid (E2.out.trans hb3)
  clear hb3 q0 q1
  obtain ⟨q0, -⟩ := blk_rules KA3.out
  obtain ⟨q1, -⟩ := blk_rules KB3.out
  by_cases k8 : ah = bh
  rotate_left
  · rw [decide_eq_false k8]
    have HR : Hid (decide ((⟨at0, ae, ak, an0, au, aa, ag, ar, ah, al⟩ : Fr) = ⟨at0, ae, ak, an0, au, aa, ag, ar, bh, bl⟩) = false) := Lib.hid (decide_eq_false fun e => k8 (congrArg Fr.hav e))
    go_wp2_with fail
    go_ret
    exact ⟨ret_bool HR.out.symm, E3.out⟩
  subst k8
  rw [decide_eq_true rfl]
  go_wp2_with fail
  refine (equalK_any A4 B4 n4 c4 m4 d4 al bl _ HV.out.sk.len HW.out.sk.len (KeyL.keep HV.out.held E3.out.keep) (KeyL.keep HW.out.held E3.out.keep)).mono ?_
  rintro e w4 ⟨rfl, hb4⟩
  have KA4 := Lib.hid ((hb4.block (Array.getElem?_eq_some_iff.1 KA3.out).1).trans KA3.out)
  have KB4 := Lib.hid ((hb4.block (Array.getElem?_eq_some_iff.1 KB3.out).1).trans KB3.out)
  have E4 := Lib.hid (E3.out.trans hb4)
  clear hb4 q0 q1
  have HR : Hid (decide ((⟨at0, ae, ak, an0, au, aa, ag, ar, ah, al⟩ : Fr) = ⟨at0, ae, ak, an0, au, aa, ag, ar, ah, bl⟩) = decide (al = bl)) := Lib.hid (by simp)
  go_wp2_with fail
  go_ret
  exact ⟨ret_bool HR.out.symm, E4.out⟩
end Go.Proofs.YtepifkmileilfaaGreatDoor
