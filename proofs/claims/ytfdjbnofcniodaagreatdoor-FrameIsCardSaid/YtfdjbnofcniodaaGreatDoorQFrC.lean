/- What frame.Same computes. -/
import Derived.Test.YtfdjbnofcniodaaGreatDoorQGround
import Derived.Test.YtfdjbnofcniodaaGreatDoorQNames
import Derived.Test.YtfdjbnofcniodaaGreatDoorQEqAll
import Derived.Test.YtfdjbnofcniodaaGreatDoorQFrA
import Derived.Test.YtfdjbnofcniodaaGreatDoorQAlike
namespace Go.Proofs.YtfdjbnofcniodaaGreatDoor
open Lib (hid)
set_option maxHeartbeats 8000000
set_option maxRecDepth 100000
set_option linter.unusedVariables false
open Go.RowKit
theorem equalM_any {S T : Nat → Prop} (A B : Option Addr) (n c m d : Nat) (l l' : List (Ky × Int)) (w : World) (hm : n ≤ maxLen) (hm' : m ≤ maxLen) (hA : ArrQ S w 3 MkQ A n l) (hB : ArrQ T w 3 MkQ B m l') :
  Calls Tryz.prog 151 #[.slice A n c, .slice B m d] w fun e w' => e = .returned (.bool (decide (l = l'))) ∧ Ext w w' := by
 unfold maxLen at hm hm'
 have HA := hid hA
 have HB := hid hB
 clear hA hB
 by_cases hnm : n = m; rotate_left
 ·have HR : Hid (decide (l = l') = false) := hid (decide_eq_false fun e => hnm (by rw [← HA.out.len, ← HB.out.len, e]))
  have hq : ¬ (n : Int) = (m : Int) := by omega
  go_enter Tryz.func151, Tryz.ntmps151
  go_wp2_with fail
  go_ret
  exact ⟨ret_bool HR.out.symm, Ext.refl _⟩
 subst hnm
 go_enter Tryz.func151, Tryz.ntmps151
 go_wp2_with fail
 go_loopw [13] (fun i wr => ∃ k : Nat, k ≤ n ∧ i = .int .i64 k ∧ Hid (l.take k = l'.take k) ∧ Hid (Ext w wr)) (fun i _ => n - (intOf i).toNat)
 case atStart => exact ⟨0, Nat.zero_le _, rfl, hid (by simp), hid (Ext.refl _)⟩
 case round =>
  obtain ⟨k, hk, rfl, HS, HX⟩ := hrel
  by_cases hlt : k < n
  ·obtain ⟨b, o, y, v, rfl, hbB, hSb, hlk, hsz, hc0, hc1, hc2⟩ := MkL.at_ HA.out hlt
   obtain ⟨b2, o2, y2, v2, rfl, hbC, hSc, hlm, hsy, he0, he1, he2⟩ := MkL.at_ HB.out hlt
   have HL1 := hid hlk
   have HL2 := hid hlm
   have i1 : (0 : Int) ≤ (k : Int) := by omega
   have i2 : (k : Int) < (n : Int) := by omega
   clear hlk hlm
   obtain ⟨y0, y1⟩ := y
   obtain ⟨z0, z1⟩ := y2
   simp only at hsz hsy hc0 he0 hc1 he1
   by_cases hq0 : y0 = z0
   ·subst hq0
    by_cases hs : y1 = z1
    ·subst hs
     by_cases hq : v = v2
     ·subst hq
      go_wp2_with fail
      have s0 : ∀ w', Ext wr.drew w' → w'.cell? ⟨b, o + k * 3, none⟩ = some (.int .i64 y0) := fun w' hx => ((HX.out.trans ((Ext.refl wr).drew.trans hx)).cell hbB).trans hc0
      have p0 : ∀ w', Ext wr.drew w' → w'.cell? ⟨b2, o2 + k * 3, none⟩ = some (.int .i64 y0) := fun w' hx => ((HX.out.trans ((Ext.refl wr).drew.trans hx)).cell hbC).trans he0
      have s1 : ∀ w', Ext wr.drew w' → w'.cell? ⟨b, o + k * 3 + 1, none⟩ = some (.string y1) := fun w' hx => ((HX.out.trans ((Ext.refl wr).drew.trans hx)).cell hbB).trans hc1
      have p1 : ∀ w', Ext wr.drew w' → w'.cell? ⟨b2, o2 + k * 3 + 1, none⟩ = some (.string y1) := fun w' hx => ((HX.out.trans ((Ext.refl wr).drew.trans hx)).cell hbC).trans he1
      have s2 : ∀ w', Ext wr.drew w' → w'.cell? ⟨b, o + k * 3 + 2, none⟩ = some (.int .i64 v) := fun w' hx => ((HX.out.trans ((Ext.refl wr).drew.trans hx)).cell hbB).trans hc2
      have p2 : ∀ w', Ext wr.drew w' → w'.cell? ⟨b2, o2 + k * 3 + 2, none⟩ = some (.int .i64 v) := fun w' hx => ((HX.out.trans ((Ext.refl wr).drew.trans hx)).cell hbC).trans he2
      have hSw : Ext wr.drew wr.drew := Ext.refl _
      refine wpS_begin (Ext wr.drew) (by kernel_rfl) ?_
      refine wpS_tk 0 ?_ hSw rfl (fun w' hin => ?_) ?_; rotate_left
      ·go_simp <;> with_reducible rfl
      try simp only [lyr]
      refine wpS_tk 1 ?_ hSw rfl (fun w' hin => ?_) ?_; rotate_left
      ·go_simp <;> with_reducible rfl
      try simp only [lyr]
      refine wpS_tk 2 ?_ hSw rfl (fun w' hin => ?_) ?_; rotate_left
      ·go_simp <;> with_reducible rfl
      try simp only [lyr]
      refine wpS_tk 3 ?_ hSw rfl (fun w' hin => ?_) ?_; rotate_left
      ·go_simp <;> with_reducible rfl
      try simp only [lyr]
      refine wpS_tk 4 ?_ hSw rfl (fun w' hin => ?_) ?_; rotate_left
      ·go_simp <;> with_reducible rfl
      try simp only [lyr]
      refine wpS_tk 5 ?_ hSw rfl (fun w' hin => ?_) ?_; rotate_left
      ·go_simp <;> with_reducible rfl
      try simp only [lyr]
      refine wpS_tk 6 ?_ hSw rfl (fun w' hin => ?_) ?_; rotate_left
      ·go_simp <;> with_reducible rfl
      try simp only [lyr]
      refine wpS_tk 7 ?_ hSw rfl (fun w' hin => ?_) ?_; rotate_left
      ·go_simp <;> with_reducible rfl
      try simp only [lyr]
      refine wpS_tk 8 ?_ hSw rfl (fun w' hin => ?_) ?_; rotate_left
      ·go_simp <;> with_reducible rfl
      try simp only [lyr]
      refine wpS_done (by kernel_rfl) ?_
      clear s0 p0 s1 p1 s2 p2
      have HX1 : Hid (Ext w wr.drew) := hid HX.out.drew
      have HS2 : Hid (l.take (k + 1) = l'.take (k + 1)) := hid (by rw [take_snoc_of HL1.out, take_snoc_of HL2.out, HS.out])
      go_wp2_with fail
      go_roundw
      case rel => exact ⟨k + 1, by omega, by go_num, HS2, HX1⟩
      case measure => simp [intOf]; omega
     ·have HR : Hid (decide (l = l') = false) := hid (decide_eq_false fun e => by have h1 := HL1.out; rw [e, HL2.out] at h1; injection h1 with h1; injection h1 with h1 h2; exact hq h2.symm)
      go_wp2_with fail
      have s0 : ∀ w', Ext wr.drew w' → w'.cell? ⟨b, o + k * 3, none⟩ = some (.int .i64 y0) := fun w' hx => ((HX.out.trans ((Ext.refl wr).drew.trans hx)).cell hbB).trans hc0
      have p0 : ∀ w', Ext wr.drew w' → w'.cell? ⟨b2, o2 + k * 3, none⟩ = some (.int .i64 y0) := fun w' hx => ((HX.out.trans ((Ext.refl wr).drew.trans hx)).cell hbC).trans he0
      have s1 : ∀ w', Ext wr.drew w' → w'.cell? ⟨b, o + k * 3 + 1, none⟩ = some (.string y1) := fun w' hx => ((HX.out.trans ((Ext.refl wr).drew.trans hx)).cell hbB).trans hc1
      have p1 : ∀ w', Ext wr.drew w' → w'.cell? ⟨b2, o2 + k * 3 + 1, none⟩ = some (.string y1) := fun w' hx => ((HX.out.trans ((Ext.refl wr).drew.trans hx)).cell hbC).trans he1
      have s2 : ∀ w', Ext wr.drew w' → w'.cell? ⟨b, o + k * 3 + 2, none⟩ = some (.int .i64 v) := fun w' hx => ((HX.out.trans ((Ext.refl wr).drew.trans hx)).cell hbB).trans hc2
      have p2 : ∀ w', Ext wr.drew w' → w'.cell? ⟨b2, o2 + k * 3 + 2, none⟩ = some (.int .i64 v2) := fun w' hx => ((HX.out.trans ((Ext.refl wr).drew.trans hx)).cell hbC).trans he2
      have hSw : Ext wr.drew wr.drew := Ext.refl _
      refine wpS_begin (Ext wr.drew) (by kernel_rfl) ?_
      refine wpS_tk 0 ?_ hSw rfl (fun w' hin => ?_) ?_; rotate_left
      ·go_simp <;> with_reducible rfl
      try simp only [lyr]
      refine wpS_tk 1 ?_ hSw rfl (fun w' hin => ?_) ?_; rotate_left
      ·go_simp <;> with_reducible rfl
      try simp only [lyr]
      refine wpS_tk 2 ?_ hSw rfl (fun w' hin => ?_) ?_; rotate_left
      ·go_simp <;> with_reducible rfl
      try simp only [lyr]
      refine wpS_tk 3 ?_ hSw rfl (fun w' hin => ?_) ?_; rotate_left
      ·go_simp <;> with_reducible rfl
      try simp only [lyr]
      refine wpS_tk 4 ?_ hSw rfl (fun w' hin => ?_) ?_; rotate_left
      ·go_simp <;> with_reducible rfl
      try simp only [lyr]
      refine wpS_tk 5 ?_ hSw rfl (fun w' hin => ?_) ?_; rotate_left
      ·go_simp <;> with_reducible rfl
      try simp only [lyr]
      refine wpS_tk 6 ?_ hSw rfl (fun w' hin => ?_) ?_; rotate_left
      ·go_simp <;> with_reducible rfl
      try simp only [lyr]
      refine wpS_tk 7 ?_ hSw rfl (fun w' hin => ?_) ?_; rotate_left
      ·go_simp <;> with_reducible rfl
      try simp only [lyr]
      refine wpS_tk 8 ?_ hSw rfl (fun w' hin => ?_) ?_; rotate_left
      ·go_simp <;> with_reducible rfl
      try simp only [lyr]
      refine wpS_done (by kernel_rfl) ?_
      clear s0 p0 s1 p1 s2 p2
      go_wp2_with fail
      go_ret
      exact ⟨ret_bool HR.out.symm, HX.out.drew⟩
    ·have hq : ¬ y1.toList = z1.toList := fun e => hs (tx_inj (by rw [← tx_toList, ← tx_toList]; exact e))
     have HR : Hid (decide (l = l') = false) := hid (decide_eq_false fun e => by have h1 := HL1.out; rw [e, HL2.out] at h1; injection h1 with h1; injection h1 with h1 h2; injection h1 with h1 h3; exact hs h3.symm)
     go_wp2_with fail
     have s0 : ∀ w', Ext wr.drew w' → w'.cell? ⟨b, o + k * 3, none⟩ = some (.int .i64 y0) := fun w' hx => ((HX.out.trans ((Ext.refl wr).drew.trans hx)).cell hbB).trans hc0
     have p0 : ∀ w', Ext wr.drew w' → w'.cell? ⟨b2, o2 + k * 3, none⟩ = some (.int .i64 y0) := fun w' hx => ((HX.out.trans ((Ext.refl wr).drew.trans hx)).cell hbC).trans he0
     have s1 : ∀ w', Ext wr.drew w' → w'.cell? ⟨b, o + k * 3 + 1, none⟩ = some (.string y1) := fun w' hx => ((HX.out.trans ((Ext.refl wr).drew.trans hx)).cell hbB).trans hc1
     have p1 : ∀ w', Ext wr.drew w' → w'.cell? ⟨b2, o2 + k * 3 + 1, none⟩ = some (.string z1) := fun w' hx => ((HX.out.trans ((Ext.refl wr).drew.trans hx)).cell hbC).trans he1
     have s2 : ∀ w', Ext wr.drew w' → w'.cell? ⟨b, o + k * 3 + 2, none⟩ = some (.int .i64 v) := fun w' hx => ((HX.out.trans ((Ext.refl wr).drew.trans hx)).cell hbB).trans hc2
     have p2 : ∀ w', Ext wr.drew w' → w'.cell? ⟨b2, o2 + k * 3 + 2, none⟩ = some (.int .i64 v2) := fun w' hx => ((HX.out.trans ((Ext.refl wr).drew.trans hx)).cell hbC).trans he2
     have hSw : Ext wr.drew wr.drew := Ext.refl _
     refine wpS_begin (Ext wr.drew) (by kernel_rfl) ?_
     refine wpS_tk 0 ?_ hSw rfl (fun w' hin => ?_) ?_; rotate_left
     ·go_simp <;> with_reducible rfl
     try simp only [lyr]
     refine wpS_tk 1 ?_ hSw rfl (fun w' hin => ?_) ?_; rotate_left
     ·go_simp <;> with_reducible rfl
     try simp only [lyr]
     refine wpS_tk 2 ?_ hSw rfl (fun w' hin => ?_) ?_; rotate_left
     ·go_simp <;> with_reducible rfl
     try simp only [lyr]
     refine wpS_tk 3 ?_ hSw rfl (fun w' hin => ?_) ?_; rotate_left
     ·go_simp <;> with_reducible rfl
     try simp only [lyr]
     refine wpS_tk 4 ?_ hSw rfl (fun w' hin => ?_) ?_; rotate_left
     ·go_simp <;> with_reducible rfl
     try simp only [lyr]
     refine wpS_tk 5 ?_ hSw rfl (fun w' hin => ?_) ?_; rotate_left
     ·go_simp <;> with_reducible rfl
     try simp only [lyr]
     refine wpS_tk 6 ?_ hSw rfl (fun w' hin => ?_) ?_; rotate_left
     ·go_simp <;> with_reducible rfl
     try simp only [lyr]
     refine wpS_tk 7 ?_ hSw rfl (fun w' hin => ?_) ?_; rotate_left
     ·go_simp <;> with_reducible rfl
     try simp only [lyr]
     refine wpS_tk 8 ?_ hSw rfl (fun w' hin => ?_) ?_; rotate_left
     ·go_simp <;> with_reducible rfl
     try simp only [lyr]
     refine wpS_done (by kernel_rfl) ?_
     clear s0 p0 s1 p1 s2 p2
     go_wp2_with fail
     go_ret
     exact ⟨ret_bool HR.out.symm, HX.out.drew⟩
   ·have HR : Hid (decide (l = l') = false) := hid (decide_eq_false fun e => by have h1 := HL1.out; rw [e, HL2.out] at h1; injection h1 with h1; injection h1 with h1 h2; injection h1 with h1 h3; exact hq0 h1.symm)
    go_wp2_with fail
    have s0 : ∀ w', Ext wr.drew w' → w'.cell? ⟨b, o + k * 3, none⟩ = some (.int .i64 y0) := fun w' hx => ((HX.out.trans ((Ext.refl wr).drew.trans hx)).cell hbB).trans hc0
    have p0 : ∀ w', Ext wr.drew w' → w'.cell? ⟨b2, o2 + k * 3, none⟩ = some (.int .i64 z0) := fun w' hx => ((HX.out.trans ((Ext.refl wr).drew.trans hx)).cell hbC).trans he0
    have s1 : ∀ w', Ext wr.drew w' → w'.cell? ⟨b, o + k * 3 + 1, none⟩ = some (.string y1) := fun w' hx => ((HX.out.trans ((Ext.refl wr).drew.trans hx)).cell hbB).trans hc1
    have p1 : ∀ w', Ext wr.drew w' → w'.cell? ⟨b2, o2 + k * 3 + 1, none⟩ = some (.string z1) := fun w' hx => ((HX.out.trans ((Ext.refl wr).drew.trans hx)).cell hbC).trans he1
    have s2 : ∀ w', Ext wr.drew w' → w'.cell? ⟨b, o + k * 3 + 2, none⟩ = some (.int .i64 v) := fun w' hx => ((HX.out.trans ((Ext.refl wr).drew.trans hx)).cell hbB).trans hc2
    have p2 : ∀ w', Ext wr.drew w' → w'.cell? ⟨b2, o2 + k * 3 + 2, none⟩ = some (.int .i64 v2) := fun w' hx => ((HX.out.trans ((Ext.refl wr).drew.trans hx)).cell hbC).trans he2
    have hSw : Ext wr.drew wr.drew := Ext.refl _
    refine wpS_begin (Ext wr.drew) (by kernel_rfl) ?_
    refine wpS_tk 0 ?_ hSw rfl (fun w' hin => ?_) ?_; rotate_left
    ·go_simp <;> with_reducible rfl
    try simp only [lyr]
    refine wpS_tk 1 ?_ hSw rfl (fun w' hin => ?_) ?_; rotate_left
    ·go_simp <;> with_reducible rfl
    try simp only [lyr]
    refine wpS_tk 2 ?_ hSw rfl (fun w' hin => ?_) ?_; rotate_left
    ·go_simp <;> with_reducible rfl
    try simp only [lyr]
    refine wpS_tk 3 ?_ hSw rfl (fun w' hin => ?_) ?_; rotate_left
    ·go_simp <;> with_reducible rfl
    try simp only [lyr]
    refine wpS_tk 4 ?_ hSw rfl (fun w' hin => ?_) ?_; rotate_left
    ·go_simp <;> with_reducible rfl
    try simp only [lyr]
    refine wpS_tk 5 ?_ hSw rfl (fun w' hin => ?_) ?_; rotate_left
    ·go_simp <;> with_reducible rfl
    try simp only [lyr]
    refine wpS_tk 6 ?_ hSw rfl (fun w' hin => ?_) ?_; rotate_left
    ·go_simp <;> with_reducible rfl
    try simp only [lyr]
    refine wpS_tk 7 ?_ hSw rfl (fun w' hin => ?_) ?_; rotate_left
    ·go_simp <;> with_reducible rfl
    try simp only [lyr]
    refine wpS_tk 8 ?_ hSw rfl (fun w' hin => ?_) ?_; rotate_left
    ·go_simp <;> with_reducible rfl
    try simp only [lyr]
    refine wpS_done (by kernel_rfl) ?_
    clear s0 p0 s1 p1 s2 p2
    go_wp2_with fail
    go_ret
    exact ⟨ret_bool HR.out.symm, HX.out.drew⟩
  ·have HR : Hid (decide (l = l') = true) := hid (decide_eq_true (by have h1 := HS.out; rwa [List.take_of_length_le (by have := HA.out.len; omega), List.take_of_length_le (by have := HB.out.len; omega)] at h1))
   go_wp2_with fail
   go_ret
   exact ⟨ret_bool HR.out.symm, HX.out⟩
set_option linter.unusedVariables false
open Go.RowKit
theorem frSame_any (S S' : Nat → Prop) (f f' : Fr) (s s' : FrS) (w : World) (hV : FrV S w f s) (hW : FrV S' w f' s') :
  Calls Tryz.prog 72 #[frVal f s, frVal f' s'] w fun e w' => e = .returned (.bool (decide (f = f'))) ∧ Ext w w' := by
 have HV := hid hV
 have HW := hid hW
 clear hV hW
 obtain ⟨⟨A1, n1, c1⟩, ⟨A2, n2, c2⟩, ⟨A3, n3, c3⟩, ⟨A4, n4, c4⟩⟩ := s
 obtain ⟨⟨B1, m1, d1⟩, ⟨B2, m2, d2⟩, ⟨B3, m3, d3⟩, ⟨B4, m4, d4⟩⟩ := s'
 obtain ⟨at0, ae, ak, an0, au, aa, ag, ar, ah, al⟩ := f
 obtain ⟨bt, be, bk, bn0, bu, ba, bg, br, bh, bl⟩ := f'
 unfold frVal
 simp only
 by_cases k0 : at0 = bt; rotate_left
 ·have hq : (at0 == bt) = false := by simpa using k0
  have HR : Hid (decide ((⟨at0, ae, ak, an0, au, aa, ag, ar, ah, al⟩ : Fr) = ⟨bt, be, bk, bn0, bu, ba, bg, br, bh, bl⟩) = false) := hid (decide_eq_false fun e => k0 (congrArg Fr.typ e))
  go_enter Tryz.func72, Tryz.ntmps72
  go_wp2_with fail
  go_ret
  exact ⟨ret_bool HR.out.symm, ((Ext.refl w).alloc _).alloc _⟩
 subst k0
 by_cases k1 : ae = be; rotate_left
 ·have hq : (ae == be) = false := by simpa using k1
  have HR : Hid (decide ((⟨at0, ae, ak, an0, au, aa, ag, ar, ah, al⟩ : Fr) = ⟨at0, be, bk, bn0, bu, ba, bg, br, bh, bl⟩) = false) := hid (decide_eq_false fun e => k1 (congrArg Fr.epoch e))
  go_enter Tryz.func72, Tryz.ntmps72
  go_wp2_with fail
  go_ret
  exact ⟨ret_bool HR.out.symm, ((Ext.refl w).alloc _).alloc _⟩
 subst k1
 by_cases k2 : ak = bk; rotate_left
 ·have hq : (ak == bk) = false := by simpa using k2
  have HR : Hid (decide ((⟨at0, ae, ak, an0, au, aa, ag, ar, ah, al⟩ : Fr) = ⟨at0, ae, bk, bn0, bu, ba, bg, br, bh, bl⟩) = false) := hid (decide_eq_false fun e => k2 (congrArg Fr.kind e))
  go_enter Tryz.func72, Tryz.ntmps72
  go_wp2_with fail
  go_ret
  exact ⟨ret_bool HR.out.symm, ((Ext.refl w).alloc _).alloc _⟩
 subst k2
 by_cases k3 : an0 = bn0; rotate_left
 ·have hq : (an0 == bn0) = false := by simpa using k3
  have HR : Hid (decide ((⟨at0, ae, ak, an0, au, aa, ag, ar, ah, al⟩ : Fr) = ⟨at0, ae, ak, bn0, bu, ba, bg, br, bh, bl⟩) = false) := hid (decide_eq_false fun e => k3 (congrArg Fr.nonce e))
  go_enter Tryz.func72, Tryz.ntmps72
  go_wp2_with fail
  go_ret
  exact ⟨ret_bool HR.out.symm, ((Ext.refl w).alloc _).alloc _⟩
 subst k3
 by_cases k4 : au = bu; rotate_left
 ·have hq : (au == bu) = false := by simpa using k4
  have HR : Hid (decide ((⟨at0, ae, ak, an0, au, aa, ag, ar, ah, al⟩ : Fr) = ⟨at0, ae, ak, an0, bu, ba, bg, br, bh, bl⟩) = false) := hid (decide_eq_false fun e => k4 (congrArg Fr.turn e))
  go_enter Tryz.func72, Tryz.ntmps72
  go_wp2_with fail
  go_ret
  exact ⟨ret_bool HR.out.symm, ((Ext.refl w).alloc _).alloc _⟩
 subst k4
 by_cases k7 : ar = br; rotate_left
 ·have hq : (ar == br) = false := by simpa using k7
  have HR : Hid (decide ((⟨at0, ae, ak, an0, au, aa, ag, ar, ah, al⟩ : Fr) = ⟨at0, ae, ak, an0, au, ba, bg, br, bh, bl⟩) = false) := hid (decide_eq_false fun e => k7 (congrArg Fr.err e))
  go_enter Tryz.func72, Tryz.ntmps72
  go_wp2_with fail
  go_ret
  exact ⟨ret_bool HR.out.symm, ((Ext.refl w).alloc _).alloc _⟩
 subst k7
 go_enter Tryz.func72, Tryz.ntmps72
 go_wp2_with fail
 refine (equalFR_any (fun _ => True) 112 A1 B1 n1 c1 m1 d1 aa ba _ HV.out.sa.len HW.out.sa.len (ResL.weak (T := fun _ => True) (ResL.keep HV.out.adds (((Ext.refl w).alloc _).alloc _).keep) (fun _ _ _ => trivial)) (ResL.weak (T := fun _ => True) (ResL.keep HW.out.adds (((Ext.refl w).alloc _).alloc _).keep) (fun _ _ _ => trivial)) (same_same _ _)).mono ?_
 rintro e w1 ⟨rfl, hb1⟩
 have KA1 := hid ((hb1.block (b := w.heap.size) (by simp; omega)).trans (two_blocks w _ _).1)
 have KB1 := hid ((hb1.block (b := w.heap.size + 1) (by simp)).trans (two_blocks w _ _).2)
 have E1 := hid ((((Ext.refl w).alloc _).alloc _).trans hb1)
 clear hb1
 obtain ⟨q0, -⟩ := blk_rules KA1.out
 obtain ⟨q1, -⟩ := blk_rules KB1.out
 by_cases k5 : aa = ba; rotate_left
 ·rw [decide_eq_false k5]
  have HR : Hid (decide ((⟨at0, ae, ak, an0, au, aa, ag, ar, ah, al⟩ : Fr) = ⟨at0, ae, ak, an0, au, ba, bg, ar, bh, bl⟩) = false) := hid (decide_eq_false fun e => k5 (congrArg Fr.adds e))
  go_wp2_with fail
  go_ret
  exact ⟨ret_bool HR.out.symm, E1.out⟩
 subst k5
 rw [decide_eq_true rfl]
 go_wp2_with fail
 refine (equalK_any A2 B2 n2 c2 m2 d2 ag bg _ HV.out.sg.len HW.out.sg.len (KeyL.keep HV.out.gone E1.out.keep) (KeyL.keep HW.out.gone E1.out.keep)).mono ?_
 rintro e w2 ⟨rfl, hb2⟩
 have KA2 := hid ((hb2.block (Array.getElem?_eq_some_iff.1 KA1.out).1).trans KA1.out)
 have KB2 := hid ((hb2.block (Array.getElem?_eq_some_iff.1 KB1.out).1).trans KB1.out)
 have E2 := hid (E1.out.trans hb2)
 clear hb2 q0 q1
 obtain ⟨q0, -⟩ := blk_rules KA2.out
 obtain ⟨q1, -⟩ := blk_rules KB2.out
 by_cases k6 : ag = bg; rotate_left
 ·rw [decide_eq_false k6]
  have HR : Hid (decide ((⟨at0, ae, ak, an0, au, aa, ag, ar, ah, al⟩ : Fr) = ⟨at0, ae, ak, an0, au, aa, bg, ar, bh, bl⟩) = false) := hid (decide_eq_false fun e => k6 (congrArg Fr.gone e))
  go_wp2_with fail
  go_ret
  exact ⟨ret_bool HR.out.symm, E2.out⟩
 subst k6
 rw [decide_eq_true rfl]
 go_wp2_with fail
 refine (equalM_any A3 B3 n3 c3 m3 d3 ah bh _ HV.out.sh.len HW.out.sh.len (MkL.keep HV.out.hav E2.out.keep) (MkL.keep HW.out.hav E2.out.keep)).mono ?_
 rintro e w3 ⟨rfl, hb3⟩
 have KA3 := hid ((hb3.block (Array.getElem?_eq_some_iff.1 KA2.out).1).trans KA2.out)
 have KB3 := hid ((hb3.block (Array.getElem?_eq_some_iff.1 KB2.out).1).trans KB2.out)
 have E3 := hid (E2.out.trans hb3)
 clear hb3 q0 q1
 obtain ⟨q0, -⟩ := blk_rules KA3.out
 obtain ⟨q1, -⟩ := blk_rules KB3.out
 by_cases k8 : ah = bh; rotate_left
 ·rw [decide_eq_false k8]
  have HR : Hid (decide ((⟨at0, ae, ak, an0, au, aa, ag, ar, ah, al⟩ : Fr) = ⟨at0, ae, ak, an0, au, aa, ag, ar, bh, bl⟩) = false) := hid (decide_eq_false fun e => k8 (congrArg Fr.hav e))
  go_wp2_with fail
  go_ret
  exact ⟨ret_bool HR.out.symm, E3.out⟩
 subst k8
 rw [decide_eq_true rfl]
 go_wp2_with fail
 refine (equalK_any A4 B4 n4 c4 m4 d4 al bl _ HV.out.sk.len HW.out.sk.len (KeyL.keep HV.out.held E3.out.keep) (KeyL.keep HW.out.held E3.out.keep)).mono ?_
 rintro e w4 ⟨rfl, hb4⟩
 have KA4 := hid ((hb4.block (Array.getElem?_eq_some_iff.1 KA3.out).1).trans KA3.out)
 have KB4 := hid ((hb4.block (Array.getElem?_eq_some_iff.1 KB3.out).1).trans KB3.out)
 have E4 := hid (E3.out.trans hb4)
 clear hb4 q0 q1
 have HR : Hid (decide ((⟨at0, ae, ak, an0, au, aa, ag, ar, ah, al⟩ : Fr) = ⟨at0, ae, ak, an0, au, aa, ag, ar, ah, bl⟩) = decide (al = bl)) := hid (by simp)
 go_wp2_with fail
 go_ret
 exact ⟨ret_bool HR.out.symm, E4.out⟩
end Go.Proofs.YtfdjbnofcniodaaGreatDoor
