/- What package frame's small and bare compute. -/
import Derived.Test.YtfdjbnofcniodaaGreatDoorQFrA
import Derived.Test.YtfdjbnofcniodaaGreatDoorQIndex
import Derived.Test.YtfdjbnofcniodaaGreatDoorQResAll
namespace Go.Proofs.YtfdjbnofcniodaaGreatDoor
open Lib (hid)
set_option maxHeartbeats 4000000
set_option maxRecDepth 100000
set_option linter.unusedVariables false
open Go.RowKit
theorem frWithin_any (n m : Int) (w : World) : Calls Tryz.prog 140 #[.int .i64 n, .int .i64 m] w fun e w' => e = .returned (.bool (inB n m)) ∧ w = w' := by
 by_cases h1 : 0 ≤ n
 ·by_cases h2 : n ≤ m
  ·have H := hid (in_tt h1 h2)
   go_enter Tryz.func140, Tryz.ntmps140
   go_wp2_with fail
   go_ret
   exact ⟨ret_bool H.out.symm, rfl⟩
  ·have H := hid (in_tf h1 h2)
   go_enter Tryz.func140, Tryz.ntmps140
   go_wp2_with fail
   go_ret
   exact ⟨ret_bool H.out.symm, rfl⟩
 ·have H := hid (in_ff (m := m) h1)
  go_enter Tryz.func140, Tryz.ntmps140
  go_wp2_with fail
  go_ret
  exact ⟨ret_bool H.out.symm, rfl⟩
def unl (b : Bool) (e : Int) : Int := if b = true then 0 else e
theorem unless_any (b : Bool) (x : Int) (w : World) : Calls Tryz.prog 139 #[.bool b, .int .i64 x] w fun e w' => e = .returned (.int .i64 (unl b x)) ∧ w = w' := by
 cases b with
 | true =>
  go_enter Tryz.func139, Tryz.ntmps139
  go_wp2_with fail
  go_ret
  exact ⟨rfl, rfl⟩
 | false =>
  go_enter Tryz.func139, Tryz.ntmps139
  go_wp2_with fail
  go_ret
  exact ⟨rfl, rfl⟩
theorem goodK_out {k : Ky} (h : inB k.kind 3 = false) : goodK k = false := by unfold goodK; rw [h]; rfl
theorem goodK_in {k : Ky} (h : inB k.kind 3 = true) : goodK k = saneN (tx k.name) := by unfold goodK; rw [h]; rfl
theorem frKey_any (k : Ky) (w : World) (hs : k.name.size ≤ maxLen) : Calls Tryz.prog 222 #[.agg #[.int .i64 k.kind, .string k.name]] w fun e w' => e = .returned (.bool (goodK k)) ∧ Ext w w' := by
 go_enter Tryz.func222, Tryz.ntmps222
 go_wp2_with fail
 refine (frWithin_any _ _ _).mono ?_
 rintro e w1 ⟨rfl, rfl⟩
 cases h : inB k.kind 3 with
 | false =>
  have HR := hid (goodK_out h)
  go_wp2_with fail
  go_ret
  exact ⟨ret_bool HR.out.symm, Ext.new _ _⟩
 | true =>
  have HR := hid (goodK_in h)
  go_wp2_with fail
  refine (sane_any _ _ hs).mono ?_
  rintro e w2 ⟨rfl, hb2⟩
  go_wp2_with fail
  go_ret
  exact ⟨ret_bool HR.out.symm, (Ext.new _ _).trans hb2⟩
theorem frBad_any (k : Ky) (w : World) (hs : k.name.size ≤ maxLen) : Calls Tryz.prog 191 #[.agg #[.int .i64 k.kind, .string k.name]] w fun e w' => e = .returned (.bool (!goodK k)) ∧ Ext w w' := by
 go_enter Tryz.func191, Tryz.ntmps191
 go_wp2_with fail
 refine (frKey_any _ _ hs).mono ?_
 rintro e w1 ⟨rfl, hb1⟩
 go_wp2_with fail
 go_ret
 exact ⟨rfl, (Ext.new _ _).trans hb1⟩
theorem frBad_pred (S : Nat → Prop) (w0 : World) : PredK S w0 191 #[] (fun k => !goodK k) :=
 ⟨Tryz.call191, fun y w _ hs => frBad_any y w hs⟩
theorem frSmall1_pred (S : Nat → Prop) (w0 : World) : PredM S w0 189 #[] (fun m => !mOk m) := by
 refine ⟨Tryz.call189, fun y v w _ hs => ?_⟩
 show Calls Tryz.prog 189 #[.agg #[.int .i64 y.kind, .string y.name, .int .i64 v]] w _
 have H : Hid ((!(inB v 2147483647)) = (!mOk (y, v))) := hid rfl
 go_enter Tryz.func189, Tryz.ntmps189
 go_wp2_with fail
 refine (frWithin_any _ _ _).mono ?_
 rintro e w' ⟨rfl, rfl⟩
 go_wp2_with fail
 go_ret
 exact ⟨ret_bool H.out, Ext.new _ _⟩
theorem frNamed1_pred (S : Nat → Prop) (w0 : World) : PredM S w0 192 #[] (fun m => !goodK m.1) := by
 refine ⟨Tryz.call192, fun y v w _ hs => ?_⟩
 show Calls Tryz.prog 192 #[.agg #[.int .i64 y.kind, .string y.name, .int .i64 v]] w _
 go_enter Tryz.func192, Tryz.ntmps192
 go_wp2_with fail
 refine (frBad_any y _ hs).mono ?_
 rintro e w1 ⟨rfl, hb1⟩
 go_wp2_with fail
 go_ret
 exact ⟨rfl, (Ext.new _ _).trans hb1⟩
set_option linter.unusedVariables false
open Go.RowKit
theorem containsK_any {T : Nat → Prop} (S : Nat → Prop) (F : Nat) (caps : Array Value) (p : Ky → Bool) (A : Option Addr) (n c : Nat) (l : List (Ky)) (w : World) (hm : n ≤ maxLen) (hA : ArrQ T w 2 KyQ A n l) (hF : PredK S w F caps p) :
  Calls Tryz.prog 132 #[.slice A n c, .func (.func F) #[] caps] w fun e w' => e = .returned (.bool (l.any p)) ∧ Ext w w' := by
 have HR := hid (idx_sign p l)
 go_enter Tryz.func132, Tryz.ntmps132
 go_wp2_with fail
 refine (indexK_any S F caps p A n c l _ hm hA hF).mono ?_
 rintro e w1 ⟨rfl, hb1⟩
 go_wp2_with fail
 go_ret
 exact ⟨ret_bool HR.out, hb1⟩
set_option linter.unusedVariables false
open Go.RowKit
theorem containsR_any {T : Nat → Prop} (S : Nat → Prop) (F : Nat) (caps : Array Value) (p : Rs → Bool) (A : Option Addr) (n c : Nat) (l : List (Rs)) (w : World) (hm : n ≤ maxLen) (hA : ArrQ T w 7 (RsQ S w) A n l) (hF : PredR S w F caps p) :
  Calls Tryz.prog 193 #[.slice A n c, .func (.func F) #[] caps] w fun e w' => e = .returned (.bool (l.any p)) ∧ Ext w w' := by
 have HR := hid (idx_sign p l)
 go_enter Tryz.func193, Tryz.ntmps193
 go_wp2_with fail
 refine (indexR_any S F caps p A n c l _ hm hA hF).mono ?_
 rintro e w1 ⟨rfl, hb1⟩
 go_wp2_with fail
 go_ret
 exact ⟨ret_bool HR.out, hb1⟩
set_option linter.unusedVariables false
open Go.RowKit
theorem box_up {w w1 : World} {cs : Array Value} {t : TypeId} (h : Ext (w.alloc (.cells cs t)) w1) : w1.heap[w.heap.size]? = some (.cells cs t (0, 0)) := (box1b h).1
theorem frNamed_any (S : Nat → Prop) (f : Fr) (s : FrS) (w : World) (hV : FrV S w f s) :
  Calls Tryz.prog 143 #[frVal f s] w fun e w' => e = .returned (.bool (namedF f)) ∧ Ext w w' := by
 have HV := hid hV
 obtain ⟨⟨A1, n1, c1⟩, ⟨A2, n2, c2⟩, ⟨A3, n3, c3⟩, ⟨A4, n4, c4⟩⟩ := s
 unfold frVal
 simp only
 clear hV
 go_enter Tryz.func143, Tryz.ntmps143
 go_wp2_with fail
 refine (containsK_any (T := S) S 191 #[] (fun k => !goodK k) A2 n2 c2 f.gone _ HV.out.sg.len (KeyL.keep HV.out.gone (Ext.new _ _).keep) (frBad_pred _ _)).mono ?_
 rintro e w1 ⟨rfl, hb1⟩
 have K1 := hid (box_up hb1)
 have E1 := hid ((Ext.new w _).trans hb1)
 clear hb1
 obtain ⟨q0, -⟩ := blk_rules K1.out
 cases h1 : f.gone.any (fun k => !goodK k) with
 | true =>
  have HR : Hid (namedF f = false) := hid (by unfold namedF; rw [show f.gone.all goodK = false from by rw [← Bool.not_eq_true, List.all_eq_true]; intro hh; rw [List.any_eq_true] at h1; obtain ⟨x, hx, hy⟩ := h1; rw [hh x hx] at hy; cases hy]; rfl)
  go_wp2_with fail
  go_ret
  exact ⟨ret_bool HR.out.symm, E1.out⟩
 | false =>
 have H1 : Hid (f.gone.all goodK = true) := hid (by rw [List.all_eq_true]; intro x hx; rw [List.any_eq_false] at h1; simpa using h1 x hx)
 clear h1
 go_wp2_with fail
 refine (containsK_any (T := S) S 191 #[] (fun k => !goodK k) A4 n4 c4 f.held _ HV.out.sk.len (KeyL.keep HV.out.held E1.out.keep) (frBad_pred _ _)).mono ?_
 rintro e w2 ⟨rfl, hb2⟩
 have K2 := hid ((hb2.block (Array.getElem?_eq_some_iff.1 K1.out).1).trans K1.out)
 have E2 := hid (E1.out.trans hb2)
 clear hb2 q0
 obtain ⟨q0, -⟩ := blk_rules K2.out
 cases h2 : f.held.any (fun k => !goodK k) with
 | true =>
  have HR : Hid (namedF f = false) := hid (by unfold namedF; rw [show f.held.all goodK = false from by rw [← Bool.not_eq_true, List.all_eq_true]; intro hh; rw [List.any_eq_true] at h2; obtain ⟨x, hx, hy⟩ := h2; rw [hh x hx] at hy; cases hy]; simp)
  go_wp2_with fail
  go_ret
  exact ⟨ret_bool HR.out.symm, E2.out⟩
 | false =>
 have H2 : Hid (f.held.all goodK = true) := hid (by rw [List.all_eq_true]; intro x hx; rw [List.any_eq_false] at h2; simpa using h2 x hx)
 clear h2
 go_wp2_with fail
 refine (containsM_any (T := S) S 192 #[] (fun m => !goodK m.1) A3 n3 c3 f.hav _ HV.out.sh.len (MkL.keep HV.out.hav E2.out.keep) (frNamed1_pred _ _)).mono ?_
 rintro e w3 ⟨rfl, hb3⟩
 have HR : Hid ((!(f.hav.any (fun m => !goodK m.1))) = namedF f) := hid (by
  unfold namedF; rw [H1.out, H2.out]
  rw [Bool.eq_iff_iff]; simp)
 have E3 := hid (E2.out.trans hb3)
 generalize f.hav.any (fun m => !goodK m.1) = v at HR ⊢
 go_wp2_with fail
 go_ret
 exact ⟨ret_bool HR.out, E3.out⟩
theorem frAdds_any (S : Nat → Prop) (f : Fr) (s : FrS) (w : World) (hV : FrV S w f s) :
  Calls Tryz.prog 144 #[frVal f s] w fun e w' => e = .returned (.int .i64 (firstE saneR f.adds)) ∧ Ext w w' := by
 have HV := hid hV
 obtain ⟨⟨A1, n1, c1⟩, ⟨A2, n2, c2⟩, ⟨A3, n3, c3⟩, ⟨A4, n4, c4⟩⟩ := s
 unfold frVal
 simp only
 clear hV
 have hn1 : n1 ≤ 9223372036854775807 := by have := HV.out.sa.len; unfold maxLen at this; exact this
 go_enter Tryz.func144, Tryz.ntmps144
 go_wp2_with fail
 go_loopw [9] (fun i wr => ∃ k : Nat, k ≤ n1 ∧ i = .int .i64 k ∧ Hid (firstE saneR f.adds = firstE saneR (f.adds.drop k)) ∧ Hid (Ext w wr)) (fun i _ => n1 - (intOf i).toNat)
 case atStart => exact ⟨0, Nat.zero_le _, rfl, hid rfl, hid (Ext.new _ _)⟩
 case round =>
  obtain ⟨k, hk, rfl, HS, HX⟩ := hrel
  by_cases hlt : k < n1
  ·obtain ⟨b, o, r, B, m, d, B', m', d', rfl, hbB, -, hlk, hv, hc0, hc1, hc2, hc3, hc4, hc5, hc6⟩ := ResL.at_ HV.out.adds hlt
   obtain ⟨d0, d1, d2, d3, d4, d5, d6⟩ := up7 (HX.out) hbB hc0 hc1 hc2 hc3 hc4 hc5 hc6
   have HL := hid hlk
   have HVr := hid hv
   have hbw := Nat.lt_of_lt_of_le hbB HX.out.size
   clear hlk hv hc0 hc1 hc2 hc3 hc4 hc5 hc6
   go_wp2_with fail
   refine (resSane_any S r B B' m d m' d' _ (HVr.out.up (HX.out.alloc _))).mono ?_
   rintro e w1 ⟨rfl, hb1⟩
   have HX1 := hid ((HX.out.alloc _).trans hb1)
   clear hb1 d0 d1 d2 d3 d4 d5 d6
   obtain ⟨x, hx⟩ : ∃ x, x = saneR r := ⟨_, rfl⟩
   rw [← hx]
   have HSt : Hid (firstE saneR (f.adds.drop k) = if x ≠ 0 then x else firstE saneR (f.adds.drop (k + 1))) := hid (by rw [hx, drop_of HL.out]; rfl)
   clear hx
   by_cases h0 : x = 0
   ·subst h0
    have HS2 : Hid (firstE saneR f.adds = firstE saneR (f.adds.drop (k + 1))) := hid (by rw [HS.out, HSt.out, if_neg (by simp)])
    go_wp2_with fail
    go_roundw
    case rel => exact ⟨k + 1, by omega, by go_num, HS2, HX1⟩
    case measure => simp [intOf]; omega
   ·have hq : (x != 0) = true := by simpa using h0
    have HR : Hid (firstE saneR f.adds = x) := hid (by rw [HS.out, HSt.out, if_pos h0])
    go_wp2_with fail
    go_ret
    exact ⟨ret_int HR.out.symm, HX1.out⟩
  ·have HR : Hid (firstE saneR f.adds = 0) := hid (by rw [HS.out, List.drop_eq_nil_of_le (by have := HV.out.adds.len; simp only at this; omega)]; rfl)
   go_wp2_with fail
   go_ret
   exact ⟨ret_int HR.out.symm, HX.out⟩
set_option linter.unusedVariables false
open Go.RowKit
theorem frKind1_pred (S : Nat → Prop) (w0 : World) (g : Nat) (kd : Int) (hg : g < w0.heap.size) (hc : w0.cell? ⟨g, 2, none⟩ = some (.int .i64 kd)) :
  PredR S w0 194 #[.pointer (some ⟨g, 0, none⟩)] (fun r => r.kind != kd) := by
 refine ⟨Tryz.call194, fun r B m d B' m' d' w he hv => ?_⟩
 show Calls Tryz.prog 194 #[rsVal r B m d B' m' d', .pointer (some ⟨g, 0, none⟩)] w _
 have d0 : w.cell? ⟨g, 2, none⟩ = some (.int .i64 kd) := (he.cell hg).trans hc
 have hgw : g < w.heap.size := Nat.lt_of_lt_of_le hg he.size
 clear he hv hc
 unfold rsVal
 go_enter Tryz.func194, Tryz.ntmps194
 go_wp2_with fail
 go_ret
 exact ⟨rfl, Ext.new _ _⟩
theorem frKind2_pred (S : Nat → Prop) (w0 : World) (g : Nat) (kd : Int) (hg : g < w0.heap.size) (hc : w0.cell? ⟨g, 2, none⟩ = some (.int .i64 kd)) :
  PredK S w0 195 #[.pointer (some ⟨g, 0, none⟩)] (fun k => k.kind != kd) := by
 refine ⟨Tryz.call195, fun y w he hv => ?_⟩
 show Calls Tryz.prog 195 #[.agg #[.int .i64 y.kind, .string y.name], .pointer (some ⟨g, 0, none⟩)] w _
 have d0 : w.cell? ⟨g, 2, none⟩ = some (.int .i64 kd) := (he.cell hg).trans hc
 have hgw : g < w.heap.size := Nat.lt_of_lt_of_le hg he.size
 clear he hv hc
 go_enter Tryz.func195, Tryz.ntmps195
 go_wp2_with fail
 go_ret
 exact ⟨rfl, Ext.new _ _⟩
theorem any_all_ne {α : Type} (f : α → Int) (kd : Int) (l : List α) : (!(l.any fun x => f x != kd)) = l.all (fun x => decide (f x = kd)) := by
 rw [Bool.eq_iff_iff]; simp
theorem frKind_any (S : Nat → Prop) (f : Fr) (s : FrS) (w : World) (hV : FrV S w f s) :
  Calls Tryz.prog 145 #[frVal f s] w fun e w' => e = .returned (.bool (kindF f)) ∧ Ext w w' := by
 have hmf : ∀ (fn : Fn) (first cap : Array Value) (w : World), (Instr.makeFunc fn first cap).run Tryz.prog w = .ok (.func fn first cap) w := fun _ _ _ _ => rfl
 have HV := hid hV
 obtain ⟨⟨A1, n1, c1⟩, ⟨A2, n2, c2⟩, ⟨A3, n3, c3⟩, ⟨A4, n4, c4⟩⟩ := s
 unfold frVal
 simp only
 clear hV
 have HK : Hid (kindF f = ((!(f.adds.any fun r => r.kind != f.kind)) && !(f.gone.any fun k => k.kind != f.kind))) := hid (by
  unfold kindF; rw [any_all_ne (fun r : Rs => r.kind), any_all_ne (fun k : Ky => k.kind)])
 go_enter Tryz.func145, Tryz.ntmps145
 go_wp2_with fail
 refine (containsR_any (T := S) S 194 #[.pointer (some ⟨w.heap.size, 0, none⟩)] (fun r => r.kind != f.kind) A1 n1 c1 f.adds _ HV.out.sa.len (ResL.keep HV.out.adds (Ext.new _ _).keep) (frKind1_pred _ _ _ _ (by simp) ((blk_rules (heap_alloc_new w _)).1 2))).mono ?_
 rintro e w1 ⟨rfl, hb1⟩
 have K1 := hid (box_up hb1)
 have E1 := hid ((Ext.new w _).trans hb1)
 clear hb1
 obtain ⟨q0, -⟩ := blk_rules K1.out
 cases h1 : f.adds.any (fun r => r.kind != f.kind) with
 | true =>
  have HR : Hid (kindF f = false) := hid (by rw [HK.out, h1]; rfl)
  go_wp2_with fail
  go_ret
  exact ⟨ret_bool HR.out.symm, E1.out⟩
 | false =>
 have HR : Hid ((!(f.gone.any fun k => k.kind != f.kind)) = kindF f) := hid (by rw [HK.out, h1]; rfl)
 clear h1
 go_wp2_with fail
 refine (containsK_any (T := S) S 195 #[.pointer (some ⟨w.heap.size, 0, none⟩)] (fun k => k.kind != f.kind) A2 n2 c2 f.gone _ HV.out.sg.len (KeyL.keep HV.out.gone E1.out.keep) (frKind2_pred _ _ _ _ (Array.getElem?_eq_some_iff.1 K1.out).1 ((blk_rules K1.out).1 2))).mono ?_
 rintro e w2 ⟨rfl, hb2⟩
 have E2 := hid (E1.out.trans hb2)
 generalize (f.gone.any fun k => k.kind != f.kind) = v at HR ⊢
 go_wp2_with fail
 go_ret
 exact ⟨ret_bool HR.out, E2.out⟩
set_option linter.unusedVariables false
open Go.RowKit
theorem any_all_not {α : Type} (p : α → Bool) (l : List α) : (!(l.any fun x => !p x)) = l.all p := by
 rw [Bool.eq_iff_iff]; simp
theorem max_if (x y : Int) : (if x < y then y else x) = max x y := by split <;> omega
theorem run_max4 {P : Program} {w : World} (ts : Array TypeId) (t : TypeId) (k k1 k2 k3 : IntKind) (x y z u : Int) : (Builtin.max_ ts t #[.int k x, .int k1 y, .int k2 z, .int k3 u]).run P w = .ok (.int k (max (max (max x y) z) u)) w := by
 simp [Builtin.max_, Builtin.max2, max_if]
def smallE (f : Fr) : Bool := f.hav.all mOk && inB f.epoch 2147483647 && inB f.nonce 2147483647 && inB f.turn 2147483647 && inB f.err 15
theorem small_big {f : Fr} {M : Int} (h : M = max (max (max (f.adds.length : Int) f.gone.length) f.hav.length) f.held.length) : smallF f = (!(decide (64 < M)) && smallE f) := by
 have h1 : (decide (f.adds.length ≤ 64) && decide (f.gone.length ≤ 64) && decide (f.hav.length ≤ 64) && decide (f.held.length ≤ 64)) = !(decide (64 < M)) := by
  rw [Bool.eq_iff_iff]; simp only [Bool.and_eq_true, decide_eq_true_eq, Bool.not_eq_true', decide_eq_false_iff_not]; omega
 unfold smallF smallE; rw [h1]; simp only [Bool.and_assoc]
theorem frSmall_any (S : Nat → Prop) (f : Fr) (s : FrS) (w : World) (hV : FrV S w f s) :
  Calls Tryz.prog 141 #[frVal f s] w fun e w' => e = .returned (.bool (smallF f)) ∧ Ext w w' := by
 have HV := hid hV
 obtain ⟨⟨A1, n1, c1⟩, ⟨A2, n2, c2⟩, ⟨A3, n3, c3⟩, ⟨A4, n4, c4⟩⟩ := s
 unfold frVal
 simp only
 clear hV
 obtain ⟨M, hM⟩ : ∃ M : Int, M = max (max (max (n1 : Int) n2) n3) n4 := ⟨_, rfl⟩
 have hmax : ∀ w, (Builtin.max_ #[3, 3, 3, 3] 3 #[.int .i64 (n1 : Int), .int .i64 (n2 : Int), .int .i64 (n3 : Int), .int .i64 (n4 : Int)]).run Tryz.prog w = .ok (.int .i64 M) w := fun w => by rw [hM]; exact run_max4 _ _ _ _ _ _ _ _ _ _
 have HB : Hid (smallF f = (!(decide (64 < M)) && smallE f)) := hid (small_big (by rw [hM, show f.adds.length = n1 from HV.out.adds.len, show f.gone.length = n2 from HV.out.gone.len, show f.hav.length = n3 from HV.out.hav.len, show f.held.length = n4 from HV.out.held.len]))
 have HA : Hid ((!(f.hav.any fun m => !mOk m)) = f.hav.all mOk) := hid (any_all_not _ _)
 clear hM
 go_enter Tryz.func141, Tryz.ntmps141
 go_wp2_with fail
 refine (containsM_any (T := S) S 189 #[] (fun m => !mOk m) A3 n3 c3 f.hav _ HV.out.sh.len (MkL.keep HV.out.hav (Ext.new _ _).keep) (frSmall1_pred _ _)).mono ?_
 rintro e w1 ⟨rfl, hb1⟩
 have K1 := hid (box_up hb1)
 have E1 := hid ((Ext.new w _).trans hb1)
 clear hb1 hmax
 obtain ⟨q0, -⟩ := blk_rules K1.out
 by_cases hB : 64 < M
 ·have HR : Hid (smallF f = false) := hid (by rw [HB.out, decide_eq_true hB]; rfl)
  have hB2 : decide (64 < M) = true := decide_eq_true hB
  go_wp2_with fail
  go_ret
  exact ⟨ret_bool HR.out.symm, E1.out⟩
 have HB1 : Hid (smallF f = smallE f) := hid (by rw [HB.out, decide_eq_false hB]; rfl)
 have hB2 : decide (64 < M) = false := decide_eq_false hB
 cases h1 : f.hav.any (fun m => !mOk m) with
 | true =>
  have HR : Hid (smallF f = false) := hid (by have h2 := HA.out; rw [h1] at h2; rw [HB1.out]; unfold smallE; rw [← h2]; rfl)
  go_wp2_with fail
  go_ret
  exact ⟨ret_bool HR.out.symm, E1.out⟩
 | false =>
 have HA1 : Hid (f.hav.all mOk = true) := hid (by have h2 := HA.out; rw [h1] at h2; exact h2.symm)
 clear h1
 go_wp2_with fail
 refine (frWithin_any _ _ _).mono ?_
 rintro e wx ⟨rfl, rfl⟩
 cases g0 : inB f.epoch 2147483647 with
 | false =>
  have HR : Hid (smallF f = false) := hid (by rw [HB1.out]; unfold smallE; rw [HA1.out, g0]; rfl)
  go_wp2_with fail
  go_ret
  exact ⟨ret_bool HR.out.symm, E1.out⟩
 | true =>
 have G0 : Hid (inB f.epoch 2147483647 = true) := hid g0
 clear g0
 go_wp2_with fail
 refine (frWithin_any _ _ _).mono ?_
 rintro e wx ⟨rfl, rfl⟩
 cases g1 : inB f.nonce 2147483647 with
 | false =>
  have HR : Hid (smallF f = false) := hid (by rw [HB1.out]; unfold smallE; rw [HA1.out, G0.out, g1]; rfl)
  go_wp2_with fail
  go_ret
  exact ⟨ret_bool HR.out.symm, E1.out⟩
 | true =>
 have G1 : Hid (inB f.nonce 2147483647 = true) := hid g1
 clear g1
 go_wp2_with fail
 refine (frWithin_any _ _ _).mono ?_
 rintro e wx ⟨rfl, rfl⟩
 cases g2 : inB f.turn 2147483647 with
 | false =>
  have HR : Hid (smallF f = false) := hid (by rw [HB1.out]; unfold smallE; rw [HA1.out, G0.out, G1.out, g2]; rfl)
  go_wp2_with fail
  go_ret
  exact ⟨ret_bool HR.out.symm, E1.out⟩
 | true =>
 have G2 : Hid (inB f.turn 2147483647 = true) := hid g2
 clear g2
 go_wp2_with fail
 refine (frWithin_any _ _ _).mono ?_
 rintro e wx ⟨rfl, rfl⟩
 have HR : Hid (inB f.err 15 = smallF f) := hid (by rw [HB1.out]; unfold smallE; rw [HA1.out, G0.out, G1.out, G2.out]; rfl)
 generalize inB f.err 15 = v at HR ⊢
 go_wp2_with fail
 go_ret
 exact ⟨ret_bool HR.out, E1.out⟩
def bareS (t : Int) (s : FrS) : FrS := if t = 0 then ⟨s.a, s.g, ⟨none, 0, 0⟩, s.k⟩ else if t = 1 then ⟨⟨none, 0, 0⟩, ⟨none, 0, 0⟩, s.h, s.k⟩ else if t = 2 then ⟨s.a, s.g, s.h, ⟨none, 0, 0⟩⟩ else if t = 3 then ⟨s.a, s.g, s.h, ⟨none, 0, 0⟩⟩ else s
theorem frBare_any (f : Fr) (s : FrS) (w : World) :
  Calls Tryz.prog 190 #[frVal f s] w fun e w' => e = .returned (frVal (bareF f) (bareS f.typ s)) ∧ Ext w w' := by
 obtain ⟨⟨A1, n1, c1⟩, ⟨A2, n2, c2⟩, ⟨A3, n3, c3⟩, ⟨A4, n4, c4⟩⟩ := s
 obtain ⟨ft, fe, fk, fn, fu, fa, fg, fr, fh, fl⟩ := f
 by_cases h0 : ft = 0
 ·subst h0
  have HR : frVal (bareF ⟨0, fe, fk, fn, fu, fa, fg, fr, fh, fl⟩) (bareS 0 ⟨⟨A1, n1, c1⟩, ⟨A2, n2, c2⟩, ⟨A3, n3, c3⟩, ⟨A4, n4, c4⟩⟩) = .agg #[.int .i64 0, .int .i64 0, .int .i64 fk, .int .i64 fn, .int .i64 fu, .slice A1 n1 c1, .slice A2 n2 c2, .int .i64 fr, .slice none 0 0, .slice A4 n4 c4] := by simp [frVal, bareF, bareS]
  dsimp only
  rw [HR]
  clear HR
  unfold frVal
  dsimp only
  go_enter Tryz.func190, Tryz.ntmps190
  go_wp2_with fail
  obtain ⟨-, -, z0, -, -⟩ := box2 (Ext.refl ((w.alloc (.cells #[.int .i64 0, .int .i64 0, .int .i64 fk, .int .i64 fn, .int .i64 fu, .slice A1 n1 c1, .slice A2 n2 c2, .int .i64 fr, .slice none 0 0, .slice A4 n4 c4] 93)).alloc (.cells #[.int .i64 0, .int .i64 0, .int .i64 fk, .int .i64 fn, .int .i64 fu, .slice A1 n1 c1, .slice A2 n2 c2, .int .i64 fr, .slice none 0 0, .slice A4 n4 c4] 93)))
  exact bodyPost_ret (v := .agg #[.int .i64 0, .int .i64 0, .int .i64 fk, .int .i64 fn, .int .i64 fu, .slice A1 n1 c1, .slice A2 n2 c2, .int .i64 fr, .slice none 0 0, .slice A4 n4 c4]) (by simp [results, Tryz.results190, go_sem, z0]) rfl ⟨rfl, ((Ext.refl w).alloc _).alloc _⟩
 by_cases h1 : ft = 1
 ·subst h1
  have HR : frVal (bareF ⟨1, fe, fk, fn, fu, fa, fg, fr, fh, fl⟩) (bareS 1 ⟨⟨A1, n1, c1⟩, ⟨A2, n2, c2⟩, ⟨A3, n3, c3⟩, ⟨A4, n4, c4⟩⟩) = .agg #[.int .i64 1, .int .i64 0, .int .i64 0, .int .i64 0, .int .i64 fu, .slice none 0 0, .slice none 0 0, .int .i64 fr, .slice A3 n3 c3, .slice A4 n4 c4] := by simp [frVal, bareF, bareS]
  dsimp only
  rw [HR]
  clear HR
  unfold frVal
  dsimp only
  go_enter Tryz.func190, Tryz.ntmps190
  go_wp2_with fail
  obtain ⟨-, -, z0, -, -⟩ := box2 (Ext.refl ((w.alloc (.cells #[.int .i64 1, .int .i64 0, .int .i64 0, .int .i64 0, .int .i64 fu, .slice none 0 0, .slice none 0 0, .int .i64 fr, .slice A3 n3 c3, .slice A4 n4 c4] 93)).alloc (.cells #[.int .i64 1, .int .i64 0, .int .i64 0, .int .i64 0, .int .i64 fu, .slice none 0 0, .slice none 0 0, .int .i64 fr, .slice A3 n3 c3, .slice A4 n4 c4] 93)))
  exact bodyPost_ret (v := .agg #[.int .i64 1, .int .i64 0, .int .i64 0, .int .i64 0, .int .i64 fu, .slice none 0 0, .slice none 0 0, .int .i64 fr, .slice A3 n3 c3, .slice A4 n4 c4]) (by simp [results, Tryz.results190, go_sem, z0]) rfl ⟨rfl, ((Ext.refl w).alloc _).alloc _⟩
 by_cases h2 : ft = 2
 ·subst h2
  have HR : frVal (bareF ⟨2, fe, fk, fn, fu, fa, fg, fr, fh, fl⟩) (bareS 2 ⟨⟨A1, n1, c1⟩, ⟨A2, n2, c2⟩, ⟨A3, n3, c3⟩, ⟨A4, n4, c4⟩⟩) = .agg #[.int .i64 2, .int .i64 0, .int .i64 0, .int .i64 0, .int .i64 0, .slice A1 n1 c1, .slice A2 n2 c2, .int .i64 0, .slice A3 n3 c3, .slice none 0 0] := by simp [frVal, bareF, bareS]
  dsimp only
  rw [HR]
  clear HR
  unfold frVal
  dsimp only
  go_enter Tryz.func190, Tryz.ntmps190
  go_wp2_with fail
  obtain ⟨-, -, z0, -, -⟩ := box2 (Ext.refl ((w.alloc (.cells #[.int .i64 2, .int .i64 0, .int .i64 0, .int .i64 0, .int .i64 0, .slice A1 n1 c1, .slice A2 n2 c2, .int .i64 0, .slice A3 n3 c3, .slice none 0 0] 93)).alloc (.cells #[.int .i64 2, .int .i64 0, .int .i64 0, .int .i64 0, .int .i64 0, .slice A1 n1 c1, .slice A2 n2 c2, .int .i64 0, .slice A3 n3 c3, .slice none 0 0] 93)))
  exact bodyPost_ret (v := .agg #[.int .i64 2, .int .i64 0, .int .i64 0, .int .i64 0, .int .i64 0, .slice A1 n1 c1, .slice A2 n2 c2, .int .i64 0, .slice A3 n3 c3, .slice none 0 0]) (by simp [results, Tryz.results190, go_sem, z0]) rfl ⟨rfl, ((Ext.refl w).alloc _).alloc _⟩
 by_cases h3 : ft = 3
 ·subst h3
  have HR : frVal (bareF ⟨3, fe, fk, fn, fu, fa, fg, fr, fh, fl⟩) (bareS 3 ⟨⟨A1, n1, c1⟩, ⟨A2, n2, c2⟩, ⟨A3, n3, c3⟩, ⟨A4, n4, c4⟩⟩) = .agg #[.int .i64 3, .int .i64 0, .int .i64 fk, .int .i64 fn, .int .i64 0, .slice A1 n1 c1, .slice A2 n2 c2, .int .i64 fr, .slice A3 n3 c3, .slice none 0 0] := by simp [frVal, bareF, bareS]
  dsimp only
  rw [HR]
  clear HR
  unfold frVal
  dsimp only
  go_enter Tryz.func190, Tryz.ntmps190
  go_wp2_with fail
  obtain ⟨-, -, z0, -, -⟩ := box2 (Ext.refl ((w.alloc (.cells #[.int .i64 3, .int .i64 0, .int .i64 fk, .int .i64 fn, .int .i64 0, .slice A1 n1 c1, .slice A2 n2 c2, .int .i64 fr, .slice A3 n3 c3, .slice none 0 0] 93)).alloc (.cells #[.int .i64 3, .int .i64 0, .int .i64 fk, .int .i64 fn, .int .i64 0, .slice A1 n1 c1, .slice A2 n2 c2, .int .i64 fr, .slice A3 n3 c3, .slice none 0 0] 93)))
  exact bodyPost_ret (v := .agg #[.int .i64 3, .int .i64 0, .int .i64 fk, .int .i64 fn, .int .i64 0, .slice A1 n1 c1, .slice A2 n2 c2, .int .i64 fr, .slice A3 n3 c3, .slice none 0 0]) (by simp [results, Tryz.results190, go_sem, z0]) rfl ⟨rfl, ((Ext.refl w).alloc _).alloc _⟩
 have HR : frVal (bareF ⟨ft, fe, fk, fn, fu, fa, fg, fr, fh, fl⟩) (bareS ft ⟨⟨A1, n1, c1⟩, ⟨A2, n2, c2⟩, ⟨A3, n3, c3⟩, ⟨A4, n4, c4⟩⟩) = .agg #[.int .i64 ft, .int .i64 0, .int .i64 fk, .int .i64 fn, .int .i64 fu, .slice A1 n1 c1, .slice A2 n2 c2, .int .i64 fr, .slice A3 n3 c3, .slice A4 n4 c4] := by simp [frVal, bareF, bareS, h0, h1, h2, h3]
 dsimp only
 rw [HR]
 clear HR
 unfold frVal
 dsimp only
 have e0 : (ft == 0) = false := by simpa using h0
 have e1 : (ft == 1) = false := by simpa using h1
 have e2 : (ft == 2) = false := by simpa using h2
 have e3 : (ft == 3) = false := by simpa using h3
 go_enter Tryz.func190, Tryz.ntmps190
 go_wp2_with fail
 obtain ⟨-, -, z0, -, -⟩ := box2 (Ext.refl ((w.alloc (.cells #[.int .i64 ft, .int .i64 0, .int .i64 fk, .int .i64 fn, .int .i64 fu, .slice A1 n1 c1, .slice A2 n2 c2, .int .i64 fr, .slice A3 n3 c3, .slice A4 n4 c4] 93)).alloc (.cells #[.int .i64 ft, .int .i64 0, .int .i64 fk, .int .i64 fn, .int .i64 fu, .slice A1 n1 c1, .slice A2 n2 c2, .int .i64 fr, .slice A3 n3 c3, .slice A4 n4 c4] 93)))
 exact bodyPost_ret (v := .agg #[.int .i64 ft, .int .i64 0, .int .i64 fk, .int .i64 fn, .int .i64 fu, .slice A1 n1 c1, .slice A2 n2 c2, .int .i64 fr, .slice A3 n3 c3, .slice A4 n4 c4]) (by simp [results, Tryz.results190, go_sem, z0]) rfl ⟨rfl, ((Ext.refl w).alloc _).alloc _⟩
end Go.Proofs.YtfdjbnofcniodaaGreatDoor
