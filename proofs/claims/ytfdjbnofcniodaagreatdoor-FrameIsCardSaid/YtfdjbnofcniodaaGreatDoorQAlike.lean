/- What package res's Key, Alike and Same compute. -/
import Derived.Test.YtfdjbnofcniodaaGreatDoorQEqAll
import Derived.Test.YtfdjbnofcniodaaGreatDoorQGround
import Derived.Test.YtfdjbnofcniodaaGreatDoorQPlain
import Derived.Test.YtfdjbnofcniodaaGreatDoorQIndex
namespace Go.Proofs.YtfdjbnofcniodaaGreatDoor
open Lib (hid)
set_option maxHeartbeats 8000000
set_option maxRecDepth 100000
set_option linter.unusedVariables false
open Go.RowKit
theorem key_any (r : Rs) (A : Option Addr) (n c : Nat) (A' : Option Addr) (n' c' : Nat) (w : World) :
  Calls Tryz.prog 105 #[rsVal r A n c A' n' c'] w fun e w' => e = .returned (.agg #[.int .i64 r.kind, .string r.name]) ∧ Ext w w' := by
 unfold rsVal
 go_enter Tryz.func105, Tryz.ntmps105
 go_wp2_with fail
 obtain ⟨-, -, z0, -, -⟩ := box2 (Ext.refl ((w.alloc (.cells #[.int .i64 r.kind, .string r.name, .int .i64 r.ver, .int .i64 r.port, .string r.to, .slice A n c, .slice A' n' c'] 34)).alloc (.cells #[.int .i64 r.kind, .string r.name] 38)))
 exact bodyPost_ret (v := .agg #[.int .i64 r.kind, .string r.name]) (by simp [results, Tryz.results105, go_sem, z0]) rfl ⟨rfl, ((Ext.refl w).alloc _).alloc _⟩
theorem alike1_any (S : Nat → Prop) (x y : Rl) (A B : Option Addr) (n c m d : Nat) (w : World) (hx : RlV S w x A n c) (hy : RlV S w y B m d) :
  Calls Tryz.prog 214 #[.agg #[.string x.host, .string x.pre, .slice A n c], .agg #[.string y.host, .string y.pre, .slice B m d]] w fun e w' => e = .returned (.bool (decide (x = y))) ∧ Ext w w' := by
 have HX := hid hx
 have HY := hid hy
 obtain ⟨xh, xp, xw⟩ := x
 obtain ⟨yh, yp, yw⟩ := y
 simp only
 clear hx hy
 by_cases h1 : xh = yh; rotate_left
 ·have hq : ¬ xh.toList = yh.toList := fun e => h1 (tx_inj (by rw [← tx_toList, ← tx_toList]; exact e))
  have HR : Hid (decide ((⟨xh, xp, xw⟩ : Rl) = ⟨yh, yp, yw⟩) = false) := hid (decide_eq_false fun e => by injection e with e1 e2 e3; exact h1 e1)
  go_enter Tryz.func214, Tryz.ntmps214
  go_wp2_with fail
  go_ret
  exact ⟨ret_bool HR.out.symm, ((Ext.refl _).alloc _).alloc _⟩
 subst h1
 by_cases h2 : xp = yp; rotate_left
 ·have hq : ¬ xp.toList = yp.toList := fun e => h2 (tx_inj (by rw [← tx_toList, ← tx_toList]; exact e))
  have HR : Hid (decide ((⟨xh, xp, xw⟩ : Rl) = ⟨xh, yp, yw⟩) = false) := hid (decide_eq_false fun e => by injection e with e1 e2 e3; exact h2 e2)
  go_enter Tryz.func214, Tryz.ntmps214
  go_wp2_with fail
  go_ret
  exact ⟨ret_bool HR.out.symm, ((Ext.refl _).alloc _).alloc _⟩
 subst h2
 have HR : Hid (decide ((⟨xh, xp, xw⟩ : Rl) = ⟨xh, xp, yw⟩) = decide (xw = yw)) := hid (by simp)
 go_enter Tryz.func214, Tryz.ntmps214
 go_wp2_with fail
 refine (equalW_any A B n c m d xw yw _ (Nat.le_trans HX.out.sl.1 HX.out.sl.2.1) (Nat.le_trans HY.out.sl.1 HY.out.sl.2.1) (ArrQ.keep HX.out.arr (fun _ _ _ h => h) ((Ext.refl _).alloc _ |>.alloc _).keep) (ArrQ.keep HY.out.arr (fun _ _ _ h => h) ((Ext.refl _).alloc _ |>.alloc _).keep)).mono ?_
 rintro e w1 ⟨rfl, hb1⟩
 go_wp2_with fail
 go_ret
 exact ⟨ret_bool HR.out.symm, (((Ext.refl _).alloc _).alloc _).trans hb1⟩
theorem alike1_same (S : Nat → Prop) (w0 : World) : SameL S w0 214 :=
 ⟨Tryz.call214, fun r B m d r2 B2 m2 d2 w _ h1 h2 => alike1_any S r r2 B B2 m d m2 d2 w h1 h2⟩
theorem alike_any (S S' : Nat → Prop) (a b : Rs) (A : Option Addr) (n c : Nat) (A' : Option Addr) (n' c' : Nat) (B : Option Addr) (m d : Nat) (B' : Option Addr) (m' d' : Nat) (w : World) (hV : RsV S w a A n c A' n' c') (hW : RsV S' w b B m d B' m' d') :
  Calls Tryz.prog 179 #[rsVal a A n c A' n' c', rsVal b B m d B' m' d'] w fun e w' => e = .returned (.bool (alikeR a b)) ∧ Ext w w' := by
 have HV := hid (hV.weak (T := fun _ => True) (fun _ _ _ => trivial))
 have HW := hid (hW.weak (T := fun _ => True) (fun _ _ _ => trivial))
 clear hV hW
 obtain ⟨ak, an0, av, ap, at0, ar, ah⟩ := a
 obtain ⟨bk, bn0, bv, bp, bt, br, bh⟩ := b
 unfold rsVal
 simp only
 by_cases k1 : ak = bk; rotate_left
 ·have HR : Hid (alikeR ⟨ak, an0, av, ap, at0, ar, ah⟩ ⟨bk, bn0, bv, bp, bt, br, bh⟩ = false) := hid (by simp [alikeR, Rs.key, k1])
  go_enter Tryz.func179, Tryz.ntmps179
  go_wp2_with fail
  obtain ⟨t0, t1, t2, t3, t4, t5, t6⟩ := bx7 (S := Ext ((w.alloc (.cells #[.int .i64 ak, .string an0, .int .i64 av, .int .i64 ap, .string at0, .slice A n c, .slice A' n' c'] 34)).alloc (.cells #[.int .i64 bk, .string bn0, .int .i64 bv, .int .i64 bp, .string bt, .slice B m d, .slice B' m' d'] 34)).drew) (fun w' hx => (box2 ((Ext.refl ((w.alloc (.cells #[.int .i64 ak, .string an0, .int .i64 av, .int .i64 ap, .string at0, .slice A n c, .slice A' n' c'] 34)).alloc (.cells #[.int .i64 bk, .string bn0, .int .i64 bv, .int .i64 bp, .string bt, .slice B m d, .slice B' m' d'] 34))).drew.trans hx)).1)
  obtain ⟨p0, p1, p2, p3, p4, p5, p6⟩ := bx7 (S := Ext ((w.alloc (.cells #[.int .i64 ak, .string an0, .int .i64 av, .int .i64 ap, .string at0, .slice A n c, .slice A' n' c'] 34)).alloc (.cells #[.int .i64 bk, .string bn0, .int .i64 bv, .int .i64 bp, .string bt, .slice B m d, .slice B' m' d'] 34)).drew) (fun w' hx => (box2 ((Ext.refl ((w.alloc (.cells #[.int .i64 ak, .string an0, .int .i64 av, .int .i64 ap, .string at0, .slice A n c, .slice A' n' c'] 34)).alloc (.cells #[.int .i64 bk, .string bn0, .int .i64 bv, .int .i64 bp, .string bt, .slice B m d, .slice B' m' d'] 34))).drew.trans hx)).2.2.1)
  have EW : Hid (Ext w ((w.alloc (.cells #[.int .i64 ak, .string an0, .int .i64 av, .int .i64 ap, .string at0, .slice A n c, .slice A' n' c'] 34)).alloc (.cells #[.int .i64 bk, .string bn0, .int .i64 bv, .int .i64 bp, .string bt, .slice B m d, .slice B' m' d'] 34))) := hid (((Ext.refl w).alloc _).alloc _)
  generalize ((w.alloc (.cells #[.int .i64 ak, .string an0, .int .i64 av, .int .i64 ap, .string at0, .slice A n c, .slice A' n' c'] 34)).alloc (.cells #[.int .i64 bk, .string bn0, .int .i64 bv, .int .i64 bp, .string bt, .slice B m d, .slice B' m' d'] 34)) = W at t0 p0 t1 p1 t2 p2 t3 p3 t4 p4 t5 p5 t6 p6 EW ⊢
  have hSw : Ext W.drew W.drew := Ext.refl _
  refine wpS_begin (Ext W.drew) (by kernel_rfl) ?_
  refine wpS_tk 0 ?_ hSw rfl (fun w' hin => ?_) ?_; rotate_left
  ·go_simp <;> with_reducible rfl
  try simp only [lyr]
  refine wpS_tk 2 ?_ hSw rfl (fun w' hin => ?_) ?_; rotate_left
  ·go_simp <;> with_reducible rfl
  try simp only [lyr]
  refine wpS_on 1 rfl (fun K hK => ?_)
  go_simp
  refine (key_any ⟨ak, an0, av, ap, at0, ar, ah⟩ A n c A' n' c' _).mono ?_
  rintro e w4 ⟨rfl, hb4⟩
  simp only []
  refine hK.out _ _ (Ext W.drew) (fun _ h => h) (hb4) (fun hSw => ?_)
  clear hK K
  try simp only [lyr]
  refine wpS_on 3 rfl (fun K hK => ?_)
  go_simp
  refine (key_any ⟨bk, bn0, bv, bp, bt, br, bh⟩ B m d B' m' d' _).mono ?_
  rintro e w5 ⟨rfl, hb5⟩
  simp only []
  refine hK.out _ _ (Ext W.drew) (fun _ h => h) (hb4.trans hb5) (fun hSw => ?_)
  clear hK K
  try simp only [lyr]
  refine wpS_tk 4 ?_ hSw rfl (fun w' hin => ?_) ?_; rotate_left
  ·go_simp <;> with_reducible rfl
  try simp only [lyr]
  refine wpS_tk 5 ?_ hSw rfl (fun w' hin => ?_) ?_; rotate_left
  ·go_simp <;> with_reducible rfl
  try simp only [lyr]
  refine wpS_sk 6 hSw rfl ?_
  try simp only [lyr]
  refine wpS_sk 7 hSw rfl ?_
  try simp only [lyr]
  refine wpS_sk 8 hSw rfl ?_
  try simp only [lyr]
  refine wpS_sk 9 hSw rfl ?_
  try simp only [lyr]
  refine wpS_sk 10 hSw rfl ?_
  try simp only [lyr]
  refine wpS_tk 11 ?_ hSw rfl (fun w' hin => ?_) ?_; rotate_left
  ·go_simp <;> with_reducible rfl
  try simp only [lyr]
  refine wpS_tk 12 ?_ hSw rfl (fun w' hin => ?_) ?_; rotate_left
  ·go_simp <;> with_reducible rfl
  try simp only [lyr]
  refine wpS_sk 13 hSw rfl ?_
  try simp only [lyr]
  refine wpS_sk 14 hSw rfl ?_
  try simp only [lyr]
  refine wpS_sk 15 hSw rfl ?_
  try simp only [lyr]
  refine wpS_sk 16 hSw rfl ?_
  try simp only [lyr]
  refine wpS_sk 17 hSw rfl ?_
  try simp only [lyr]
  refine wpS_tk 18 ?_ hSw rfl (fun w' hin => ?_) ?_; rotate_left
  ·go_simp <;> with_reducible rfl
  try simp only [lyr]
  refine wpS_tk 19 ?_ hSw rfl (fun w' hin => ?_) ?_; rotate_left
  ·go_simp <;> with_reducible rfl
  try simp only [lyr]
  refine wpS_sk 20 hSw rfl ?_
  try simp only [lyr]
  refine wpS_sk 21 hSw rfl ?_
  try simp only [lyr]
  refine wpS_sk 22 hSw rfl ?_
  try simp only [lyr]
  refine wpS_sk 23 hSw rfl ?_
  try simp only [lyr]
  refine wpS_sk 24 hSw rfl ?_
  try simp only [lyr]
  refine wpS_tk 25 ?_ hSw rfl (fun w' hin => ?_) ?_; rotate_left
  ·go_simp <;> with_reducible rfl
  try simp only [lyr]
  refine wpS_tk 26 ?_ hSw rfl (fun w' hin => ?_) ?_; rotate_left
  ·go_simp <;> with_reducible rfl
  try simp only [lyr]
  refine wpS_sk 27 hSw rfl ?_
  try simp only [lyr]
  refine wpS_sk 28 hSw rfl ?_
  try simp only [lyr]
  refine wpS_sk 29 hSw rfl ?_
  try simp only [lyr]
  refine wpS_sk 30 hSw rfl ?_
  try simp only [lyr]
  refine wpS_sk 31 hSw rfl ?_
  try simp only [lyr]
  refine wpS_sk 32 hSw rfl ?_
  try simp only [lyr]
  refine wpS_tk 33 ?_ hSw rfl (fun w' hin => ?_) ?_; rotate_left
  ·go_simp <;> with_reducible rfl
  try simp only [lyr]
  refine wpS_tk 34 ?_ hSw rfl (fun w' hin => ?_) ?_; rotate_left
  ·go_simp <;> with_reducible rfl
  try simp only [lyr]
  refine wpS_done (by kernel_rfl) ?_
  clear t0 p0 t1 p1 t2 p2 t3 p3 t4 p4 t5 p5 t6 p6
  have EF := hid (EW.out.trans ((Ext.refl W).drew.trans (hb4.trans hb5)))
  go_wp2_with fail
  go_ret
  exact ⟨ret_bool HR.out.symm, EF.out⟩
 subst k1
 by_cases k2 : an0 = bn0; rotate_left
 ·have hq : ¬ an0.toList = bn0.toList := fun e => k2 (tx_inj (by rw [← tx_toList, ← tx_toList]; exact e))
  have HR : Hid (alikeR ⟨ak, an0, av, ap, at0, ar, ah⟩ ⟨ak, bn0, bv, bp, bt, br, bh⟩ = false) := hid (by simp [alikeR, Rs.key, k2])
  go_enter Tryz.func179, Tryz.ntmps179
  go_wp2_with fail
  obtain ⟨t0, t1, t2, t3, t4, t5, t6⟩ := bx7 (S := Ext ((w.alloc (.cells #[.int .i64 ak, .string an0, .int .i64 av, .int .i64 ap, .string at0, .slice A n c, .slice A' n' c'] 34)).alloc (.cells #[.int .i64 ak, .string bn0, .int .i64 bv, .int .i64 bp, .string bt, .slice B m d, .slice B' m' d'] 34)).drew) (fun w' hx => (box2 ((Ext.refl ((w.alloc (.cells #[.int .i64 ak, .string an0, .int .i64 av, .int .i64 ap, .string at0, .slice A n c, .slice A' n' c'] 34)).alloc (.cells #[.int .i64 ak, .string bn0, .int .i64 bv, .int .i64 bp, .string bt, .slice B m d, .slice B' m' d'] 34))).drew.trans hx)).1)
  obtain ⟨p0, p1, p2, p3, p4, p5, p6⟩ := bx7 (S := Ext ((w.alloc (.cells #[.int .i64 ak, .string an0, .int .i64 av, .int .i64 ap, .string at0, .slice A n c, .slice A' n' c'] 34)).alloc (.cells #[.int .i64 ak, .string bn0, .int .i64 bv, .int .i64 bp, .string bt, .slice B m d, .slice B' m' d'] 34)).drew) (fun w' hx => (box2 ((Ext.refl ((w.alloc (.cells #[.int .i64 ak, .string an0, .int .i64 av, .int .i64 ap, .string at0, .slice A n c, .slice A' n' c'] 34)).alloc (.cells #[.int .i64 ak, .string bn0, .int .i64 bv, .int .i64 bp, .string bt, .slice B m d, .slice B' m' d'] 34))).drew.trans hx)).2.2.1)
  have EW : Hid (Ext w ((w.alloc (.cells #[.int .i64 ak, .string an0, .int .i64 av, .int .i64 ap, .string at0, .slice A n c, .slice A' n' c'] 34)).alloc (.cells #[.int .i64 ak, .string bn0, .int .i64 bv, .int .i64 bp, .string bt, .slice B m d, .slice B' m' d'] 34))) := hid (((Ext.refl w).alloc _).alloc _)
  generalize ((w.alloc (.cells #[.int .i64 ak, .string an0, .int .i64 av, .int .i64 ap, .string at0, .slice A n c, .slice A' n' c'] 34)).alloc (.cells #[.int .i64 ak, .string bn0, .int .i64 bv, .int .i64 bp, .string bt, .slice B m d, .slice B' m' d'] 34)) = W at t0 p0 t1 p1 t2 p2 t3 p3 t4 p4 t5 p5 t6 p6 EW ⊢
  have hSw : Ext W.drew W.drew := Ext.refl _
  refine wpS_begin (Ext W.drew) (by kernel_rfl) ?_
  refine wpS_tk 0 ?_ hSw rfl (fun w' hin => ?_) ?_; rotate_left
  ·go_simp <;> with_reducible rfl
  try simp only [lyr]
  refine wpS_tk 2 ?_ hSw rfl (fun w' hin => ?_) ?_; rotate_left
  ·go_simp <;> with_reducible rfl
  try simp only [lyr]
  refine wpS_on 1 rfl (fun K hK => ?_)
  go_simp
  refine (key_any ⟨ak, an0, av, ap, at0, ar, ah⟩ A n c A' n' c' _).mono ?_
  rintro e w4 ⟨rfl, hb4⟩
  simp only []
  refine hK.out _ _ (Ext W.drew) (fun _ h => h) (hb4) (fun hSw => ?_)
  clear hK K
  try simp only [lyr]
  refine wpS_on 3 rfl (fun K hK => ?_)
  go_simp
  refine (key_any ⟨ak, bn0, bv, bp, bt, br, bh⟩ B m d B' m' d' _).mono ?_
  rintro e w5 ⟨rfl, hb5⟩
  simp only []
  refine hK.out _ _ (Ext W.drew) (fun _ h => h) (hb4.trans hb5) (fun hSw => ?_)
  clear hK K
  try simp only [lyr]
  refine wpS_tk 4 ?_ hSw rfl (fun w' hin => ?_) ?_; rotate_left
  ·go_simp <;> with_reducible rfl
  try simp only [lyr]
  refine wpS_tk 5 ?_ hSw rfl (fun w' hin => ?_) ?_; rotate_left
  ·go_simp <;> with_reducible rfl
  try simp only [lyr]
  refine wpS_sk 6 hSw rfl ?_
  try simp only [lyr]
  refine wpS_sk 7 hSw rfl ?_
  try simp only [lyr]
  refine wpS_sk 8 hSw rfl ?_
  try simp only [lyr]
  refine wpS_sk 9 hSw rfl ?_
  try simp only [lyr]
  refine wpS_sk 10 hSw rfl ?_
  try simp only [lyr]
  refine wpS_tk 11 ?_ hSw rfl (fun w' hin => ?_) ?_; rotate_left
  ·go_simp <;> with_reducible rfl
  try simp only [lyr]
  refine wpS_tk 12 ?_ hSw rfl (fun w' hin => ?_) ?_; rotate_left
  ·go_simp <;> with_reducible rfl
  try simp only [lyr]
  refine wpS_sk 13 hSw rfl ?_
  try simp only [lyr]
  refine wpS_sk 14 hSw rfl ?_
  try simp only [lyr]
  refine wpS_sk 15 hSw rfl ?_
  try simp only [lyr]
  refine wpS_sk 16 hSw rfl ?_
  try simp only [lyr]
  refine wpS_sk 17 hSw rfl ?_
  try simp only [lyr]
  refine wpS_tk 18 ?_ hSw rfl (fun w' hin => ?_) ?_; rotate_left
  ·go_simp <;> with_reducible rfl
  try simp only [lyr]
  refine wpS_tk 19 ?_ hSw rfl (fun w' hin => ?_) ?_; rotate_left
  ·go_simp <;> with_reducible rfl
  try simp only [lyr]
  refine wpS_sk 20 hSw rfl ?_
  try simp only [lyr]
  refine wpS_sk 21 hSw rfl ?_
  try simp only [lyr]
  refine wpS_sk 22 hSw rfl ?_
  try simp only [lyr]
  refine wpS_sk 23 hSw rfl ?_
  try simp only [lyr]
  refine wpS_sk 24 hSw rfl ?_
  try simp only [lyr]
  refine wpS_tk 25 ?_ hSw rfl (fun w' hin => ?_) ?_; rotate_left
  ·go_simp <;> with_reducible rfl
  try simp only [lyr]
  refine wpS_tk 26 ?_ hSw rfl (fun w' hin => ?_) ?_; rotate_left
  ·go_simp <;> with_reducible rfl
  try simp only [lyr]
  refine wpS_sk 27 hSw rfl ?_
  try simp only [lyr]
  refine wpS_sk 28 hSw rfl ?_
  try simp only [lyr]
  refine wpS_sk 29 hSw rfl ?_
  try simp only [lyr]
  refine wpS_sk 30 hSw rfl ?_
  try simp only [lyr]
  refine wpS_sk 31 hSw rfl ?_
  try simp only [lyr]
  refine wpS_sk 32 hSw rfl ?_
  try simp only [lyr]
  refine wpS_tk 33 ?_ hSw rfl (fun w' hin => ?_) ?_; rotate_left
  ·go_simp <;> with_reducible rfl
  try simp only [lyr]
  refine wpS_tk 34 ?_ hSw rfl (fun w' hin => ?_) ?_; rotate_left
  ·go_simp <;> with_reducible rfl
  try simp only [lyr]
  refine wpS_done (by kernel_rfl) ?_
  clear t0 p0 t1 p1 t2 p2 t3 p3 t4 p4 t5 p5 t6 p6
  have EF := hid (EW.out.trans ((Ext.refl W).drew.trans (hb4.trans hb5)))
  go_wp2_with fail
  go_ret
  exact ⟨ret_bool HR.out.symm, EF.out⟩
 subst k2
 by_cases k3 : ap = bp; rotate_left
 ·have hq : (ap == bp) = false := by simpa using k3
  have HR : Hid (alikeR ⟨ak, an0, av, ap, at0, ar, ah⟩ ⟨ak, an0, bv, bp, bt, br, bh⟩ = false) := hid (by simp [alikeR, Rs.key, k3])
  go_enter Tryz.func179, Tryz.ntmps179
  go_wp2_with fail
  obtain ⟨t0, t1, t2, t3, t4, t5, t6⟩ := bx7 (S := Ext ((w.alloc (.cells #[.int .i64 ak, .string an0, .int .i64 av, .int .i64 ap, .string at0, .slice A n c, .slice A' n' c'] 34)).alloc (.cells #[.int .i64 ak, .string an0, .int .i64 bv, .int .i64 bp, .string bt, .slice B m d, .slice B' m' d'] 34)).drew) (fun w' hx => (box2 ((Ext.refl ((w.alloc (.cells #[.int .i64 ak, .string an0, .int .i64 av, .int .i64 ap, .string at0, .slice A n c, .slice A' n' c'] 34)).alloc (.cells #[.int .i64 ak, .string an0, .int .i64 bv, .int .i64 bp, .string bt, .slice B m d, .slice B' m' d'] 34))).drew.trans hx)).1)
  obtain ⟨p0, p1, p2, p3, p4, p5, p6⟩ := bx7 (S := Ext ((w.alloc (.cells #[.int .i64 ak, .string an0, .int .i64 av, .int .i64 ap, .string at0, .slice A n c, .slice A' n' c'] 34)).alloc (.cells #[.int .i64 ak, .string an0, .int .i64 bv, .int .i64 bp, .string bt, .slice B m d, .slice B' m' d'] 34)).drew) (fun w' hx => (box2 ((Ext.refl ((w.alloc (.cells #[.int .i64 ak, .string an0, .int .i64 av, .int .i64 ap, .string at0, .slice A n c, .slice A' n' c'] 34)).alloc (.cells #[.int .i64 ak, .string an0, .int .i64 bv, .int .i64 bp, .string bt, .slice B m d, .slice B' m' d'] 34))).drew.trans hx)).2.2.1)
  have EW : Hid (Ext w ((w.alloc (.cells #[.int .i64 ak, .string an0, .int .i64 av, .int .i64 ap, .string at0, .slice A n c, .slice A' n' c'] 34)).alloc (.cells #[.int .i64 ak, .string an0, .int .i64 bv, .int .i64 bp, .string bt, .slice B m d, .slice B' m' d'] 34))) := hid (((Ext.refl w).alloc _).alloc _)
  generalize ((w.alloc (.cells #[.int .i64 ak, .string an0, .int .i64 av, .int .i64 ap, .string at0, .slice A n c, .slice A' n' c'] 34)).alloc (.cells #[.int .i64 ak, .string an0, .int .i64 bv, .int .i64 bp, .string bt, .slice B m d, .slice B' m' d'] 34)) = W at t0 p0 t1 p1 t2 p2 t3 p3 t4 p4 t5 p5 t6 p6 EW ⊢
  have hSw : Ext W.drew W.drew := Ext.refl _
  refine wpS_begin (Ext W.drew) (by kernel_rfl) ?_
  refine wpS_tk 0 ?_ hSw rfl (fun w' hin => ?_) ?_; rotate_left
  ·go_simp <;> with_reducible rfl
  try simp only [lyr]
  refine wpS_tk 2 ?_ hSw rfl (fun w' hin => ?_) ?_; rotate_left
  ·go_simp <;> with_reducible rfl
  try simp only [lyr]
  refine wpS_on 1 rfl (fun K hK => ?_)
  go_simp
  refine (key_any ⟨ak, an0, av, ap, at0, ar, ah⟩ A n c A' n' c' _).mono ?_
  rintro e w4 ⟨rfl, hb4⟩
  simp only []
  refine hK.out _ _ (Ext W.drew) (fun _ h => h) (hb4) (fun hSw => ?_)
  clear hK K
  try simp only [lyr]
  refine wpS_on 3 rfl (fun K hK => ?_)
  go_simp
  refine (key_any ⟨ak, an0, bv, bp, bt, br, bh⟩ B m d B' m' d' _).mono ?_
  rintro e w5 ⟨rfl, hb5⟩
  simp only []
  refine hK.out _ _ (Ext W.drew) (fun _ h => h) (hb4.trans hb5) (fun hSw => ?_)
  clear hK K
  try simp only [lyr]
  refine wpS_tk 4 ?_ hSw rfl (fun w' hin => ?_) ?_; rotate_left
  ·go_simp <;> with_reducible rfl
  try simp only [lyr]
  refine wpS_tk 5 ?_ hSw rfl (fun w' hin => ?_) ?_; rotate_left
  ·go_simp <;> with_reducible rfl
  try simp only [lyr]
  refine wpS_tk 6 ?_ hSw rfl (fun w' hin => ?_) ?_; rotate_left
  ·go_simp <;> with_reducible rfl
  try simp only [lyr]
  refine wpS_tk 7 ?_ hSw rfl (fun w' hin => ?_) ?_; rotate_left
  ·go_simp <;> with_reducible rfl
  try simp only [lyr]
  refine wpS_tk 8 ?_ hSw rfl (fun w' hin => ?_) ?_; rotate_left
  ·go_simp <;> with_reducible rfl
  try simp only [lyr]
  refine wpS_tk 9 ?_ hSw rfl (fun w' hin => ?_) ?_; rotate_left
  ·go_simp <;> with_reducible rfl
  try simp only [lyr]
  refine wpS_tk 10 ?_ hSw rfl (fun w' hin => ?_) ?_; rotate_left
  ·go_simp <;> with_reducible rfl
  try simp only [lyr]
  refine wpS_tk 11 ?_ hSw rfl (fun w' hin => ?_) ?_; rotate_left
  ·go_simp <;> with_reducible rfl
  try simp only [lyr]
  refine wpS_tk 12 ?_ hSw rfl (fun w' hin => ?_) ?_; rotate_left
  ·go_simp <;> with_reducible rfl
  try simp only [lyr]
  refine wpS_sk 13 hSw rfl ?_
  try simp only [lyr]
  refine wpS_sk 14 hSw rfl ?_
  try simp only [lyr]
  refine wpS_sk 15 hSw rfl ?_
  try simp only [lyr]
  refine wpS_sk 16 hSw rfl ?_
  try simp only [lyr]
  refine wpS_sk 17 hSw rfl ?_
  try simp only [lyr]
  refine wpS_tk 18 ?_ hSw rfl (fun w' hin => ?_) ?_; rotate_left
  ·go_simp <;> with_reducible rfl
  try simp only [lyr]
  refine wpS_tk 19 ?_ hSw rfl (fun w' hin => ?_) ?_; rotate_left
  ·go_simp <;> with_reducible rfl
  try simp only [lyr]
  refine wpS_sk 20 hSw rfl ?_
  try simp only [lyr]
  refine wpS_sk 21 hSw rfl ?_
  try simp only [lyr]
  refine wpS_sk 22 hSw rfl ?_
  try simp only [lyr]
  refine wpS_sk 23 hSw rfl ?_
  try simp only [lyr]
  refine wpS_sk 24 hSw rfl ?_
  try simp only [lyr]
  refine wpS_tk 25 ?_ hSw rfl (fun w' hin => ?_) ?_; rotate_left
  ·go_simp <;> with_reducible rfl
  try simp only [lyr]
  refine wpS_tk 26 ?_ hSw rfl (fun w' hin => ?_) ?_; rotate_left
  ·go_simp <;> with_reducible rfl
  try simp only [lyr]
  refine wpS_sk 27 hSw rfl ?_
  try simp only [lyr]
  refine wpS_sk 28 hSw rfl ?_
  try simp only [lyr]
  refine wpS_sk 29 hSw rfl ?_
  try simp only [lyr]
  refine wpS_sk 30 hSw rfl ?_
  try simp only [lyr]
  refine wpS_sk 31 hSw rfl ?_
  try simp only [lyr]
  refine wpS_sk 32 hSw rfl ?_
  try simp only [lyr]
  refine wpS_tk 33 ?_ hSw rfl (fun w' hin => ?_) ?_; rotate_left
  ·go_simp <;> with_reducible rfl
  try simp only [lyr]
  refine wpS_tk 34 ?_ hSw rfl (fun w' hin => ?_) ?_; rotate_left
  ·go_simp <;> with_reducible rfl
  try simp only [lyr]
  refine wpS_done (by kernel_rfl) ?_
  clear t0 p0 t1 p1 t2 p2 t3 p3 t4 p4 t5 p5 t6 p6
  have EF := hid (EW.out.trans ((Ext.refl W).drew.trans (hb4.trans hb5)))
  go_wp2_with fail
  go_ret
  exact ⟨ret_bool HR.out.symm, EF.out⟩
 subst k3
 by_cases k4 : at0 = bt; rotate_left
 ·have hq : ¬ at0.toList = bt.toList := fun e => k4 (tx_inj (by rw [← tx_toList, ← tx_toList]; exact e))
  have hq2 : (at0.toList == bt.toList) = false := by simpa using hq
  have HR : Hid (alikeR ⟨ak, an0, av, ap, at0, ar, ah⟩ ⟨ak, an0, bv, ap, bt, br, bh⟩ = false) := hid (by simp [alikeR, Rs.key, k4])
  go_enter Tryz.func179, Tryz.ntmps179
  go_wp2_with fail
  obtain ⟨t0, t1, t2, t3, t4, t5, t6⟩ := bx7 (S := Ext ((w.alloc (.cells #[.int .i64 ak, .string an0, .int .i64 av, .int .i64 ap, .string at0, .slice A n c, .slice A' n' c'] 34)).alloc (.cells #[.int .i64 ak, .string an0, .int .i64 bv, .int .i64 ap, .string bt, .slice B m d, .slice B' m' d'] 34)).drew) (fun w' hx => (box2 ((Ext.refl ((w.alloc (.cells #[.int .i64 ak, .string an0, .int .i64 av, .int .i64 ap, .string at0, .slice A n c, .slice A' n' c'] 34)).alloc (.cells #[.int .i64 ak, .string an0, .int .i64 bv, .int .i64 ap, .string bt, .slice B m d, .slice B' m' d'] 34))).drew.trans hx)).1)
  obtain ⟨p0, p1, p2, p3, p4, p5, p6⟩ := bx7 (S := Ext ((w.alloc (.cells #[.int .i64 ak, .string an0, .int .i64 av, .int .i64 ap, .string at0, .slice A n c, .slice A' n' c'] 34)).alloc (.cells #[.int .i64 ak, .string an0, .int .i64 bv, .int .i64 ap, .string bt, .slice B m d, .slice B' m' d'] 34)).drew) (fun w' hx => (box2 ((Ext.refl ((w.alloc (.cells #[.int .i64 ak, .string an0, .int .i64 av, .int .i64 ap, .string at0, .slice A n c, .slice A' n' c'] 34)).alloc (.cells #[.int .i64 ak, .string an0, .int .i64 bv, .int .i64 ap, .string bt, .slice B m d, .slice B' m' d'] 34))).drew.trans hx)).2.2.1)
  have EW : Hid (Ext w ((w.alloc (.cells #[.int .i64 ak, .string an0, .int .i64 av, .int .i64 ap, .string at0, .slice A n c, .slice A' n' c'] 34)).alloc (.cells #[.int .i64 ak, .string an0, .int .i64 bv, .int .i64 ap, .string bt, .slice B m d, .slice B' m' d'] 34))) := hid (((Ext.refl w).alloc _).alloc _)
  generalize ((w.alloc (.cells #[.int .i64 ak, .string an0, .int .i64 av, .int .i64 ap, .string at0, .slice A n c, .slice A' n' c'] 34)).alloc (.cells #[.int .i64 ak, .string an0, .int .i64 bv, .int .i64 ap, .string bt, .slice B m d, .slice B' m' d'] 34)) = W at t0 p0 t1 p1 t2 p2 t3 p3 t4 p4 t5 p5 t6 p6 EW ⊢
  have hSw : Ext W.drew W.drew := Ext.refl _
  refine wpS_begin (Ext W.drew) (by kernel_rfl) ?_
  refine wpS_tk 0 ?_ hSw rfl (fun w' hin => ?_) ?_; rotate_left
  ·go_simp <;> with_reducible rfl
  try simp only [lyr]
  refine wpS_tk 2 ?_ hSw rfl (fun w' hin => ?_) ?_; rotate_left
  ·go_simp <;> with_reducible rfl
  try simp only [lyr]
  refine wpS_on 1 rfl (fun K hK => ?_)
  go_simp
  refine (key_any ⟨ak, an0, av, ap, at0, ar, ah⟩ A n c A' n' c' _).mono ?_
  rintro e w4 ⟨rfl, hb4⟩
  simp only []
  refine hK.out _ _ (Ext W.drew) (fun _ h => h) (hb4) (fun hSw => ?_)
  clear hK K
  try simp only [lyr]
  refine wpS_on 3 rfl (fun K hK => ?_)
  go_simp
  refine (key_any ⟨ak, an0, bv, ap, bt, br, bh⟩ B m d B' m' d' _).mono ?_
  rintro e w5 ⟨rfl, hb5⟩
  simp only []
  refine hK.out _ _ (Ext W.drew) (fun _ h => h) (hb4.trans hb5) (fun hSw => ?_)
  clear hK K
  try simp only [lyr]
  refine wpS_tk 4 ?_ hSw rfl (fun w' hin => ?_) ?_; rotate_left
  ·go_simp <;> with_reducible rfl
  try simp only [lyr]
  refine wpS_tk 5 ?_ hSw rfl (fun w' hin => ?_) ?_; rotate_left
  ·go_simp <;> with_reducible rfl
  try simp only [lyr]
  refine wpS_tk 6 ?_ hSw rfl (fun w' hin => ?_) ?_; rotate_left
  ·go_simp <;> with_reducible rfl
  try simp only [lyr]
  refine wpS_tk 7 ?_ hSw rfl (fun w' hin => ?_) ?_; rotate_left
  ·go_simp <;> with_reducible rfl
  try simp only [lyr]
  refine wpS_tk 8 ?_ hSw rfl (fun w' hin => ?_) ?_; rotate_left
  ·go_simp <;> with_reducible rfl
  try simp only [lyr]
  refine wpS_tk 9 ?_ hSw rfl (fun w' hin => ?_) ?_; rotate_left
  ·go_simp <;> with_reducible rfl
  try simp only [lyr]
  refine wpS_tk 10 ?_ hSw rfl (fun w' hin => ?_) ?_; rotate_left
  ·go_simp <;> with_reducible rfl
  try simp only [lyr]
  refine wpS_tk 11 ?_ hSw rfl (fun w' hin => ?_) ?_; rotate_left
  ·go_simp <;> with_reducible rfl
  try simp only [lyr]
  refine wpS_tk 12 ?_ hSw rfl (fun w' hin => ?_) ?_; rotate_left
  ·go_simp <;> with_reducible rfl
  try simp only [lyr]
  refine wpS_tk 13 ?_ hSw rfl (fun w' hin => ?_) ?_; rotate_left
  ·go_simp <;> with_reducible rfl
  try simp only [lyr]
  refine wpS_tk 14 ?_ hSw rfl (fun w' hin => ?_) ?_; rotate_left
  ·go_simp <;> with_reducible rfl
  try simp only [lyr]
  refine wpS_tk 15 ?_ hSw rfl (fun w' hin => ?_) ?_; rotate_left
  ·go_simp <;> with_reducible rfl
  try simp only [lyr]
  refine wpS_tk 16 ?_ hSw rfl (fun w' hin => ?_) ?_; rotate_left
  ·go_simp <;> with_reducible rfl
  try simp only [lyr]
  refine wpS_tk 17 ?_ hSw rfl (fun w' hin => ?_) ?_; rotate_left
  ·go_simp <;> with_reducible rfl
  try simp only [lyr]
  refine wpS_tk 18 ?_ hSw rfl (fun w' hin => ?_) ?_; rotate_left
  ·go_simp <;> with_reducible rfl
  try simp only [lyr]
  refine wpS_tk 19 ?_ hSw rfl (fun w' hin => ?_) ?_; rotate_left
  ·go_simp <;> with_reducible rfl
  try simp only [lyr]
  refine wpS_sk 20 hSw rfl ?_
  try simp only [lyr]
  refine wpS_sk 21 hSw rfl ?_
  try simp only [lyr]
  refine wpS_sk 22 hSw rfl ?_
  try simp only [lyr]
  refine wpS_sk 23 hSw rfl ?_
  try simp only [lyr]
  refine wpS_sk 24 hSw rfl ?_
  try simp only [lyr]
  refine wpS_tk 25 ?_ hSw rfl (fun w' hin => ?_) ?_; rotate_left
  ·go_simp <;> with_reducible rfl
  try simp only [lyr]
  refine wpS_tk 26 ?_ hSw rfl (fun w' hin => ?_) ?_; rotate_left
  ·go_simp <;> with_reducible rfl
  try simp only [lyr]
  refine wpS_sk 27 hSw rfl ?_
  try simp only [lyr]
  refine wpS_sk 28 hSw rfl ?_
  try simp only [lyr]
  refine wpS_sk 29 hSw rfl ?_
  try simp only [lyr]
  refine wpS_sk 30 hSw rfl ?_
  try simp only [lyr]
  refine wpS_sk 31 hSw rfl ?_
  try simp only [lyr]
  refine wpS_sk 32 hSw rfl ?_
  try simp only [lyr]
  refine wpS_tk 33 ?_ hSw rfl (fun w' hin => ?_) ?_; rotate_left
  ·go_simp <;> with_reducible rfl
  try simp only [lyr]
  refine wpS_tk 34 ?_ hSw rfl (fun w' hin => ?_) ?_; rotate_left
  ·go_simp <;> with_reducible rfl
  try simp only [lyr]
  refine wpS_done (by kernel_rfl) ?_
  clear t0 p0 t1 p1 t2 p2 t3 p3 t4 p4 t5 p5 t6 p6
  have EF := hid (EW.out.trans ((Ext.refl W).drew.trans (hb4.trans hb5)))
  go_wp2_with fail
  go_ret
  exact ⟨ret_bool HR.out.symm, EF.out⟩
 subst k4
 by_cases k5 : ah = bh; rotate_left
 ·have HR : Hid (alikeR ⟨ak, an0, av, ap, at0, ar, ah⟩ ⟨ak, an0, bv, ap, at0, br, bh⟩ = false) := hid (by simp [alikeR, Rs.key, k5])
  go_enter Tryz.func179, Tryz.ntmps179
  go_wp2_with fail
  obtain ⟨t0, t1, t2, t3, t4, t5, t6⟩ := bx7 (S := Ext ((w.alloc (.cells #[.int .i64 ak, .string an0, .int .i64 av, .int .i64 ap, .string at0, .slice A n c, .slice A' n' c'] 34)).alloc (.cells #[.int .i64 ak, .string an0, .int .i64 bv, .int .i64 ap, .string at0, .slice B m d, .slice B' m' d'] 34)).drew) (fun w' hx => (box2 ((Ext.refl ((w.alloc (.cells #[.int .i64 ak, .string an0, .int .i64 av, .int .i64 ap, .string at0, .slice A n c, .slice A' n' c'] 34)).alloc (.cells #[.int .i64 ak, .string an0, .int .i64 bv, .int .i64 ap, .string at0, .slice B m d, .slice B' m' d'] 34))).drew.trans hx)).1)
  obtain ⟨p0, p1, p2, p3, p4, p5, p6⟩ := bx7 (S := Ext ((w.alloc (.cells #[.int .i64 ak, .string an0, .int .i64 av, .int .i64 ap, .string at0, .slice A n c, .slice A' n' c'] 34)).alloc (.cells #[.int .i64 ak, .string an0, .int .i64 bv, .int .i64 ap, .string at0, .slice B m d, .slice B' m' d'] 34)).drew) (fun w' hx => (box2 ((Ext.refl ((w.alloc (.cells #[.int .i64 ak, .string an0, .int .i64 av, .int .i64 ap, .string at0, .slice A n c, .slice A' n' c'] 34)).alloc (.cells #[.int .i64 ak, .string an0, .int .i64 bv, .int .i64 ap, .string at0, .slice B m d, .slice B' m' d'] 34))).drew.trans hx)).2.2.1)
  have EW : Hid (Ext w ((w.alloc (.cells #[.int .i64 ak, .string an0, .int .i64 av, .int .i64 ap, .string at0, .slice A n c, .slice A' n' c'] 34)).alloc (.cells #[.int .i64 ak, .string an0, .int .i64 bv, .int .i64 ap, .string at0, .slice B m d, .slice B' m' d'] 34))) := hid (((Ext.refl w).alloc _).alloc _)
  generalize ((w.alloc (.cells #[.int .i64 ak, .string an0, .int .i64 av, .int .i64 ap, .string at0, .slice A n c, .slice A' n' c'] 34)).alloc (.cells #[.int .i64 ak, .string an0, .int .i64 bv, .int .i64 ap, .string at0, .slice B m d, .slice B' m' d'] 34)) = W at t0 p0 t1 p1 t2 p2 t3 p3 t4 p4 t5 p5 t6 p6 EW ⊢
  have hSw : Ext W.drew W.drew := Ext.refl _
  refine wpS_begin (Ext W.drew) (by kernel_rfl) ?_
  refine wpS_tk 0 ?_ hSw rfl (fun w' hin => ?_) ?_; rotate_left
  ·go_simp <;> with_reducible rfl
  try simp only [lyr]
  refine wpS_tk 2 ?_ hSw rfl (fun w' hin => ?_) ?_; rotate_left
  ·go_simp <;> with_reducible rfl
  try simp only [lyr]
  refine wpS_on 1 rfl (fun K hK => ?_)
  go_simp
  refine (key_any ⟨ak, an0, av, ap, at0, ar, ah⟩ A n c A' n' c' _).mono ?_
  rintro e w4 ⟨rfl, hb4⟩
  simp only []
  refine hK.out _ _ (Ext W.drew) (fun _ h => h) (hb4) (fun hSw => ?_)
  clear hK K
  try simp only [lyr]
  refine wpS_on 3 rfl (fun K hK => ?_)
  go_simp
  refine (key_any ⟨ak, an0, bv, ap, at0, br, bh⟩ B m d B' m' d' _).mono ?_
  rintro e w5 ⟨rfl, hb5⟩
  simp only []
  refine hK.out _ _ (Ext W.drew) (fun _ h => h) (hb4.trans hb5) (fun hSw => ?_)
  clear hK K
  try simp only [lyr]
  refine wpS_tk 4 ?_ hSw rfl (fun w' hin => ?_) ?_; rotate_left
  ·go_simp <;> with_reducible rfl
  try simp only [lyr]
  refine wpS_tk 5 ?_ hSw rfl (fun w' hin => ?_) ?_; rotate_left
  ·go_simp <;> with_reducible rfl
  try simp only [lyr]
  refine wpS_tk 6 ?_ hSw rfl (fun w' hin => ?_) ?_; rotate_left
  ·go_simp <;> with_reducible rfl
  try simp only [lyr]
  refine wpS_tk 7 ?_ hSw rfl (fun w' hin => ?_) ?_; rotate_left
  ·go_simp <;> with_reducible rfl
  try simp only [lyr]
  refine wpS_tk 8 ?_ hSw rfl (fun w' hin => ?_) ?_; rotate_left
  ·go_simp <;> with_reducible rfl
  try simp only [lyr]
  refine wpS_tk 9 ?_ hSw rfl (fun w' hin => ?_) ?_; rotate_left
  ·go_simp <;> with_reducible rfl
  try simp only [lyr]
  refine wpS_tk 10 ?_ hSw rfl (fun w' hin => ?_) ?_; rotate_left
  ·go_simp <;> with_reducible rfl
  try simp only [lyr]
  refine wpS_tk 11 ?_ hSw rfl (fun w' hin => ?_) ?_; rotate_left
  ·go_simp <;> with_reducible rfl
  try simp only [lyr]
  refine wpS_tk 12 ?_ hSw rfl (fun w' hin => ?_) ?_; rotate_left
  ·go_simp <;> with_reducible rfl
  try simp only [lyr]
  refine wpS_tk 13 ?_ hSw rfl (fun w' hin => ?_) ?_; rotate_left
  ·go_simp <;> with_reducible rfl
  try simp only [lyr]
  refine wpS_tk 14 ?_ hSw rfl (fun w' hin => ?_) ?_; rotate_left
  ·go_simp <;> with_reducible rfl
  try simp only [lyr]
  refine wpS_tk 15 ?_ hSw rfl (fun w' hin => ?_) ?_; rotate_left
  ·go_simp <;> with_reducible rfl
  try simp only [lyr]
  refine wpS_tk 16 ?_ hSw rfl (fun w' hin => ?_) ?_; rotate_left
  ·go_simp <;> with_reducible rfl
  try simp only [lyr]
  refine wpS_tk 17 ?_ hSw rfl (fun w' hin => ?_) ?_; rotate_left
  ·go_simp <;> with_reducible rfl
  try simp only [lyr]
  refine wpS_tk 18 ?_ hSw rfl (fun w' hin => ?_) ?_; rotate_left
  ·go_simp <;> with_reducible rfl
  try simp only [lyr]
  refine wpS_tk 19 ?_ hSw rfl (fun w' hin => ?_) ?_; rotate_left
  ·go_simp <;> with_reducible rfl
  try simp only [lyr]
  refine wpS_tk 20 ?_ hSw rfl (fun w' hin => ?_) ?_; rotate_left
  ·go_simp <;> with_reducible rfl
  try simp only [lyr]
  refine wpS_tk 21 ?_ hSw rfl (fun w' hin => ?_) ?_; rotate_left
  ·go_simp <;> with_reducible rfl
  try simp only [lyr]
  refine wpS_tk 22 ?_ hSw rfl (fun w' hin => ?_) ?_; rotate_left
  ·go_simp <;> with_reducible rfl
  try simp only [lyr]
  refine wpS_tk 23 ?_ hSw rfl (fun w' hin => ?_) ?_; rotate_left
  ·go_simp <;> with_reducible rfl
  try simp only [lyr]
  refine wpS_on 24 rfl (fun K hK => ?_)
  go_simp
  refine (equalH_any A' B' n' c' m' d' ah bh _ (Nat.le_trans HV.out.sl'.1 HV.out.sl'.2.1) (Nat.le_trans HW.out.sl'.1 HW.out.sl'.2.1) (ArrQ.keep HV.out.arr' (fun _ _ _ h => h) (EW.out.trans ((Ext.refl W).drew.trans hSw)).keep) (ArrQ.keep HW.out.arr' (fun _ _ _ h => h) (EW.out.trans ((Ext.refl W).drew.trans hSw)).keep)).mono ?_
  rintro e w6 ⟨rfl, hb6⟩
  rw [decide_eq_false k5]
  simp only []
  refine hK.out _ _ (Ext W.drew) (fun _ h => h) ((hb4.trans hb5).trans hb6) (fun hSw => ?_)
  clear hK K
  try simp only [lyr]
  refine wpS_tk 25 ?_ hSw rfl (fun w' hin => ?_) ?_; rotate_left
  ·go_simp <;> with_reducible rfl
  try simp only [lyr]
  refine wpS_tk 26 ?_ hSw rfl (fun w' hin => ?_) ?_; rotate_left
  ·go_simp <;> with_reducible rfl
  try simp only [lyr]
  refine wpS_sk 27 hSw rfl ?_
  try simp only [lyr]
  refine wpS_sk 28 hSw rfl ?_
  try simp only [lyr]
  refine wpS_sk 29 hSw rfl ?_
  try simp only [lyr]
  refine wpS_sk 30 hSw rfl ?_
  try simp only [lyr]
  refine wpS_sk 31 hSw rfl ?_
  try simp only [lyr]
  refine wpS_sk 32 hSw rfl ?_
  try simp only [lyr]
  refine wpS_tk 33 ?_ hSw rfl (fun w' hin => ?_) ?_; rotate_left
  ·go_simp <;> with_reducible rfl
  try simp only [lyr]
  refine wpS_tk 34 ?_ hSw rfl (fun w' hin => ?_) ?_; rotate_left
  ·go_simp <;> with_reducible rfl
  try simp only [lyr]
  refine wpS_done (by kernel_rfl) ?_
  clear t0 p0 t1 p1 t2 p2 t3 p3 t4 p4 t5 p5 t6 p6
  have EF := hid (EW.out.trans ((Ext.refl W).drew.trans ((hb4.trans hb5).trans hb6)))
  go_wp2_with fail
  go_ret
  exact ⟨ret_bool HR.out.symm, EF.out⟩
 subst k5
 have HR : Hid (alikeR ⟨ak, an0, av, ap, at0, ar, ah⟩ ⟨ak, an0, bv, ap, at0, br, ah⟩ = decide (ar = br)) := hid (by simp [alikeR, Rs.key])
 go_enter Tryz.func179, Tryz.ntmps179
 go_wp2_with fail
 obtain ⟨t0, t1, t2, t3, t4, t5, t6⟩ := bx7 (S := Ext ((w.alloc (.cells #[.int .i64 ak, .string an0, .int .i64 av, .int .i64 ap, .string at0, .slice A n c, .slice A' n' c'] 34)).alloc (.cells #[.int .i64 ak, .string an0, .int .i64 bv, .int .i64 ap, .string at0, .slice B m d, .slice B' m' d'] 34)).drew) (fun w' hx => (box2 ((Ext.refl ((w.alloc (.cells #[.int .i64 ak, .string an0, .int .i64 av, .int .i64 ap, .string at0, .slice A n c, .slice A' n' c'] 34)).alloc (.cells #[.int .i64 ak, .string an0, .int .i64 bv, .int .i64 ap, .string at0, .slice B m d, .slice B' m' d'] 34))).drew.trans hx)).1)
 obtain ⟨p0, p1, p2, p3, p4, p5, p6⟩ := bx7 (S := Ext ((w.alloc (.cells #[.int .i64 ak, .string an0, .int .i64 av, .int .i64 ap, .string at0, .slice A n c, .slice A' n' c'] 34)).alloc (.cells #[.int .i64 ak, .string an0, .int .i64 bv, .int .i64 ap, .string at0, .slice B m d, .slice B' m' d'] 34)).drew) (fun w' hx => (box2 ((Ext.refl ((w.alloc (.cells #[.int .i64 ak, .string an0, .int .i64 av, .int .i64 ap, .string at0, .slice A n c, .slice A' n' c'] 34)).alloc (.cells #[.int .i64 ak, .string an0, .int .i64 bv, .int .i64 ap, .string at0, .slice B m d, .slice B' m' d'] 34))).drew.trans hx)).2.2.1)
 have EW : Hid (Ext w ((w.alloc (.cells #[.int .i64 ak, .string an0, .int .i64 av, .int .i64 ap, .string at0, .slice A n c, .slice A' n' c'] 34)).alloc (.cells #[.int .i64 ak, .string an0, .int .i64 bv, .int .i64 ap, .string at0, .slice B m d, .slice B' m' d'] 34))) := hid (((Ext.refl w).alloc _).alloc _)
 generalize ((w.alloc (.cells #[.int .i64 ak, .string an0, .int .i64 av, .int .i64 ap, .string at0, .slice A n c, .slice A' n' c'] 34)).alloc (.cells #[.int .i64 ak, .string an0, .int .i64 bv, .int .i64 ap, .string at0, .slice B m d, .slice B' m' d'] 34)) = W at t0 p0 t1 p1 t2 p2 t3 p3 t4 p4 t5 p5 t6 p6 EW ⊢
 have hSw : Ext W.drew W.drew := Ext.refl _
 refine wpS_begin (Ext W.drew) (by kernel_rfl) ?_
 refine wpS_tk 0 ?_ hSw rfl (fun w' hin => ?_) ?_; rotate_left
 ·go_simp <;> with_reducible rfl
 try simp only [lyr]
 refine wpS_tk 2 ?_ hSw rfl (fun w' hin => ?_) ?_; rotate_left
 ·go_simp <;> with_reducible rfl
 try simp only [lyr]
 refine wpS_on 1 rfl (fun K hK => ?_)
 go_simp
 refine (key_any ⟨ak, an0, av, ap, at0, ar, ah⟩ A n c A' n' c' _).mono ?_
 rintro e w4 ⟨rfl, hb4⟩
 simp only []
 refine hK.out _ _ (Ext W.drew) (fun _ h => h) (hb4) (fun hSw => ?_)
 clear hK K
 try simp only [lyr]
 refine wpS_on 3 rfl (fun K hK => ?_)
 go_simp
 refine (key_any ⟨ak, an0, bv, ap, at0, br, ah⟩ B m d B' m' d' _).mono ?_
 rintro e w5 ⟨rfl, hb5⟩
 simp only []
 refine hK.out _ _ (Ext W.drew) (fun _ h => h) (hb4.trans hb5) (fun hSw => ?_)
 clear hK K
 try simp only [lyr]
 refine wpS_tk 4 ?_ hSw rfl (fun w' hin => ?_) ?_; rotate_left
 ·go_simp <;> with_reducible rfl
 try simp only [lyr]
 refine wpS_tk 5 ?_ hSw rfl (fun w' hin => ?_) ?_; rotate_left
 ·go_simp <;> with_reducible rfl
 try simp only [lyr]
 refine wpS_tk 6 ?_ hSw rfl (fun w' hin => ?_) ?_; rotate_left
 ·go_simp <;> with_reducible rfl
 try simp only [lyr]
 refine wpS_tk 7 ?_ hSw rfl (fun w' hin => ?_) ?_; rotate_left
 ·go_simp <;> with_reducible rfl
 try simp only [lyr]
 refine wpS_tk 8 ?_ hSw rfl (fun w' hin => ?_) ?_; rotate_left
 ·go_simp <;> with_reducible rfl
 try simp only [lyr]
 refine wpS_tk 9 ?_ hSw rfl (fun w' hin => ?_) ?_; rotate_left
 ·go_simp <;> with_reducible rfl
 try simp only [lyr]
 refine wpS_tk 10 ?_ hSw rfl (fun w' hin => ?_) ?_; rotate_left
 ·go_simp <;> with_reducible rfl
 try simp only [lyr]
 refine wpS_tk 11 ?_ hSw rfl (fun w' hin => ?_) ?_; rotate_left
 ·go_simp <;> with_reducible rfl
 try simp only [lyr]
 refine wpS_tk 12 ?_ hSw rfl (fun w' hin => ?_) ?_; rotate_left
 ·go_simp <;> with_reducible rfl
 try simp only [lyr]
 refine wpS_tk 13 ?_ hSw rfl (fun w' hin => ?_) ?_; rotate_left
 ·go_simp <;> with_reducible rfl
 try simp only [lyr]
 refine wpS_tk 14 ?_ hSw rfl (fun w' hin => ?_) ?_; rotate_left
 ·go_simp <;> with_reducible rfl
 try simp only [lyr]
 refine wpS_tk 15 ?_ hSw rfl (fun w' hin => ?_) ?_; rotate_left
 ·go_simp <;> with_reducible rfl
 try simp only [lyr]
 refine wpS_tk 16 ?_ hSw rfl (fun w' hin => ?_) ?_; rotate_left
 ·go_simp <;> with_reducible rfl
 try simp only [lyr]
 refine wpS_tk 17 ?_ hSw rfl (fun w' hin => ?_) ?_; rotate_left
 ·go_simp <;> with_reducible rfl
 try simp only [lyr]
 refine wpS_tk 18 ?_ hSw rfl (fun w' hin => ?_) ?_; rotate_left
 ·go_simp <;> with_reducible rfl
 try simp only [lyr]
 refine wpS_tk 19 ?_ hSw rfl (fun w' hin => ?_) ?_; rotate_left
 ·go_simp <;> with_reducible rfl
 try simp only [lyr]
 refine wpS_tk 20 ?_ hSw rfl (fun w' hin => ?_) ?_; rotate_left
 ·go_simp <;> with_reducible rfl
 try simp only [lyr]
 refine wpS_tk 21 ?_ hSw rfl (fun w' hin => ?_) ?_; rotate_left
 ·go_simp <;> with_reducible rfl
 try simp only [lyr]
 refine wpS_tk 22 ?_ hSw rfl (fun w' hin => ?_) ?_; rotate_left
 ·go_simp <;> with_reducible rfl
 try simp only [lyr]
 refine wpS_tk 23 ?_ hSw rfl (fun w' hin => ?_) ?_; rotate_left
 ·go_simp <;> with_reducible rfl
 try simp only [lyr]
 refine wpS_on 24 rfl (fun K hK => ?_)
 go_simp
 refine (equalH_any A' B' n' c' m' d' ah ah _ (Nat.le_trans HV.out.sl'.1 HV.out.sl'.2.1) (Nat.le_trans HW.out.sl'.1 HW.out.sl'.2.1) (ArrQ.keep HV.out.arr' (fun _ _ _ h => h) (EW.out.trans ((Ext.refl W).drew.trans hSw)).keep) (ArrQ.keep HW.out.arr' (fun _ _ _ h => h) (EW.out.trans ((Ext.refl W).drew.trans hSw)).keep)).mono ?_
 rintro e w6 ⟨rfl, hb6⟩
 rw [decide_eq_true rfl]
 simp only []
 refine hK.out _ _ (Ext W.drew) (fun _ h => h) ((hb4.trans hb5).trans hb6) (fun hSw => ?_)
 clear hK K
 try simp only [lyr]
 refine wpS_tk 25 ?_ hSw rfl (fun w' hin => ?_) ?_; rotate_left
 ·go_simp <;> with_reducible rfl
 try simp only [lyr]
 refine wpS_tk 26 ?_ hSw rfl (fun w' hin => ?_) ?_; rotate_left
 ·go_simp <;> with_reducible rfl
 try simp only [lyr]
 refine wpS_tk 27 ?_ hSw rfl (fun w' hin => ?_) ?_; rotate_left
 ·go_simp <;> with_reducible rfl
 try simp only [lyr]
 refine wpS_tk 28 ?_ hSw rfl (fun w' hin => ?_) ?_; rotate_left
 ·go_simp <;> with_reducible rfl
 try simp only [lyr]
 refine wpS_tk 29 ?_ hSw rfl (fun w' hin => ?_) ?_; rotate_left
 ·go_simp <;> with_reducible rfl
 try simp only [lyr]
 refine wpS_tk 30 ?_ hSw rfl (fun w' hin => ?_) ?_; rotate_left
 ·go_simp <;> with_reducible rfl
 try simp only [lyr]
 refine wpS_tk 31 ?_ hSw rfl (fun w' hin => ?_) ?_; rotate_left
 ·go_simp <;> with_reducible rfl
 try simp only [lyr]
 refine wpS_on 32 rfl (fun K hK => ?_)
 go_simp
 refine (equalFL_any (fun _ => True) 214 A B n c m d ar br _ (Nat.le_trans HV.out.sl.1 HV.out.sl.2.1) (Nat.le_trans HW.out.sl.1 HW.out.sl.2.1) (ArrQ.keep HV.out.arr (fun _ _ _ h => h.keep (EW.out.trans ((Ext.refl W).drew.trans hSw)).keep) (EW.out.trans ((Ext.refl W).drew.trans hSw)).keep) (ArrQ.keep HW.out.arr (fun _ _ _ h => h.keep (EW.out.trans ((Ext.refl W).drew.trans hSw)).keep) (EW.out.trans ((Ext.refl W).drew.trans hSw)).keep) (alike1_same _ _)).mono ?_
 rintro e w7 ⟨rfl, hb7⟩
 simp only []
 refine hK.out _ _ (Ext W.drew) (fun _ h => h) (((hb4.trans hb5).trans hb6).trans hb7) (fun hSw => ?_)
 clear hK K
 try simp only [lyr]
 refine wpS_tk 33 ?_ hSw rfl (fun w' hin => ?_) ?_; rotate_left
 ·go_simp <;> with_reducible rfl
 try simp only [lyr]
 refine wpS_tk 34 ?_ hSw rfl (fun w' hin => ?_) ?_; rotate_left
 ·go_simp <;> with_reducible rfl
 try simp only [lyr]
 refine wpS_done (by kernel_rfl) ?_
 clear t0 p0 t1 p1 t2 p2 t3 p3 t4 p4 t5 p5 t6 p6
 have EF := hid (EW.out.trans ((Ext.refl W).drew.trans (((hb4.trans hb5).trans hb6).trans hb7)))
 go_wp2_with fail
 go_ret
 exact ⟨ret_bool HR.out.symm, EF.out⟩
theorem same_any (S S' : Nat → Prop) (a b : Rs) (A : Option Addr) (n c : Nat) (A' : Option Addr) (n' c' : Nat) (B : Option Addr) (m d : Nat) (B' : Option Addr) (m' d' : Nat) (w : World) (hV : RsV S w a A n c A' n' c') (hW : RsV S' w b B m d B' m' d') :
  Calls Tryz.prog 112 #[rsVal a A n c A' n' c', rsVal b B m d B' m' d'] w fun e w' => e = .returned (.bool (sameR a b)) ∧ Ext w w' := by
 have HV := hid hV
 have HW := hid hW
 clear hV hW
 unfold rsVal
 by_cases kv : a.ver = b.ver
 ·have HR : Hid (sameR a b = alikeR a b) := hid (by unfold sameR; rw [decide_eq_true kv]; rfl)
  obtain ⟨ak, an0, av, ap, at0, ar, ah⟩ := a
  obtain ⟨bk, bn0, bv, bp, bt, br, bh⟩ := b
  simp only at kv ⊢
  subst kv
  go_enter Tryz.func112, Tryz.ntmps112
  go_wp2_with fail
  refine (alike_any S S' ⟨ak, an0, av, ap, at0, ar, ah⟩ ⟨bk, bn0, av, bp, bt, br, bh⟩ A n c A' n' c' B m d B' m' d' _ (HV.out.up (((Ext.refl w).alloc _).alloc _)) (HW.out.up (((Ext.refl w).alloc _).alloc _))).mono ?_
  rintro e w1 ⟨rfl, hb1⟩
  go_wp2_with fail
  go_ret
  exact ⟨ret_bool HR.out.symm, (((Ext.refl w).alloc _).alloc _).trans hb1⟩
 ·have HR : Hid (sameR a b = false) := hid (by unfold sameR; rw [decide_eq_false kv]; rfl)
  have hq : (a.ver == b.ver) = false := by simpa using kv
  go_enter Tryz.func112, Tryz.ntmps112
  go_wp2_with fail
  go_ret
  exact ⟨ret_bool HR.out.symm, ((Ext.refl w).alloc _).alloc _⟩
theorem sameR_eq (a b : Rs) : sameR a b = decide (a = b) := by
 by_cases h : a = b
 ·rw [decide_eq_true h]; exact (same_iff a b).2 h
 ·rw [decide_eq_false h]; cases hs : sameR a b with
  | false => rfl
  | true => exact absurd ((same_iff a b).1 hs) h
theorem same_same (S : Nat → Prop) (w0 : World) : SameR S w0 112 :=
 ⟨Tryz.call112, fun r B m d B' m' d' r2 B2 m2 d2 B3 m3 d3 w _ h1 h2 => (same_any S S r r2 B m d B' m' d' B2 m2 d2 B3 m3 d3 w h1 h2).mono fun e w' h => by rw [sameR_eq] at h; exact h⟩
end Go.Proofs.YtfdjbnofcniodaaGreatDoor
