/- What slices.IndexFunc and ContainsFunc compute, at whatever predicate. -/
import Derived.Test.YtfdjbnofcniodaaGreatDoorRows
import Derived.Test.YtfdjbnofcniodaaGreatDoorQPlain
import Derived.Outline
namespace Go.Proofs.YtfdjbnofcniodaaGreatDoor
open Lib (hid)
set_option maxHeartbeats 1000000
set_option maxRecDepth 100000
set_option linter.unusedVariables false
open Go.RowKit
def idxB {α : Type} (p : α → Bool) (l : List α) : Int := if l.any p then (l.findIdx p : Nat) else -1
theorem idx_found {α : Type} {p : α → Bool} {l : List α} {k : Nat} {x : α} (hx : l[k]? = some x) (hp : p x = true) (h : (l.take k).any p = false) : idxB p l = k := by
 unfold idxB
 have hk : k < l.length := (List.getElem?_eq_some_iff.1 hx).1
 have hm := List.mem_of_getElem? hx
 rw [if_pos (List.any_eq_true.2 ⟨x, hm, hp⟩)]
 congr 1
 rw [List.findIdx_eq hk]
 refine ⟨by rw [(List.getElem?_eq_some_iff.1 hx).2]; exact hp, fun j hj => ?_⟩
 rw [List.any_eq_false] at h
 have := h (l[j]'(by omega)) (by
  rw [List.mem_take_iff_getElem]
  exact ⟨j, by omega, rfl⟩)
 simpa using this
theorem idx_none {α : Type} {p : α → Bool} {l : List α} (h : l.any p = false) : idxB p l = -1 := by unfold idxB; rw [h]; rfl
theorem idx_sign {α : Type} (p : α → Bool) (l : List α) : decide (0 ≤ idxB p l) = l.any p := by
 unfold idxB
 cases h : l.any p with
 | true => simp
 | false => simp
theorem take_any_snoc {α : Type} {p : α → Bool} {l : List α} {k : Nat} {x : α} (hx : l[k]? = some x) (h : (l.take k).any p = false) (hp : p x = false) : (l.take (k + 1)).any p = false := by
 rw [take_snoc_of hx, List.any_append, h]; simp [hp]
def Enters (F : Nat) : Prop := ∀ (args : Array Value) (w : World), (callFunc F args).run Tryz.prog w = .ok (.enter F args) w
@[reducible] def rsVal (r : Rs) (B : Option Addr) (m d : Nat) (B' : Option Addr) (m' d' : Nat) : Value := .agg #[.int .i64 r.kind, .string r.name, .int .i64 r.ver, .int .i64 r.port, .string r.to, .slice B m d, .slice B' m' d']
set_option linter.unusedVariables false
open Go.RowKit
def PredW (S : Nat → Prop) (w0 : World) (F : Nat) (caps : Array Value) (p : ByteArray × Int → Bool) : Prop :=
 Enters F ∧ ∀ (s : ByteArray) (x : Int) (w : World), Ext w0 w → s.size ≤ maxLen → Calls Tryz.prog F (#[.agg #[.string s, .int .i64 x]] ++ caps) w fun e w' => e = .returned (.bool (p (s, x))) ∧ Ext w w'
theorem indexW_any {T : Nat → Prop} (S : Nat → Prop) (F : Nat) (caps : Array Value) (p : ByteArray × Int → Bool) (A : Option Addr) (n c : Nat) (l : List (ByteArray × Int)) (w : World) (hm : n ≤ maxLen) (hA : ArrQ T w 2 WtQ A n l) (hF : PredW S w F caps p) :
  Calls Tryz.prog 223 #[.slice A n c, .func (.func F) #[] caps] w fun e w' => e = .returned (.int .i64 (idxB p l)) ∧ Ext w w' := by
 unfold maxLen at hm
 have HA := hid hA
 have HF := hid hF
 clear hA hF
 go_enter Tryz.func223, Tryz.ntmps223
 go_wp2_with fail
 go_loopw [8] (fun i wr => ∃ k : Nat, k ≤ n ∧ i = .int .i64 k ∧ Hid ((l.take k).any p = false) ∧ Hid (Ext w wr)) (fun i _ => n - (intOf i).toNat)
 case atStart => exact ⟨0, Nat.zero_le _, rfl, hid (by simp), hid (Ext.refl _)⟩
 case round =>
  obtain ⟨k, hk, rfl, HS, HX⟩ := hrel
  by_cases hlt : k < n
  ·obtain ⟨b, o, s, x, rfl, hbB, hSb, hlk, hsz, hc0, hc1⟩ := WtL.at_ HA.out hlt
   obtain ⟨d0, d1⟩ := up2 (HX.out) hbB hc0 hc1
   have i1 : (0 : Int) ≤ (k : Int) := by omega
   have i2 : (k : Int) < (n : Int) := by omega
   have HL := hid hlk
   clear hc0 hc1 hlk
   go_wp2_with fail
   rw [HF.out.1, Oper.upon_enter]
   refine (HF.out.2 s x _ HX.out hsz).mono ?_
   rintro e w1 ⟨rfl, hb1⟩
   cases hp : p (s, x) with
   | true =>
    have HR := hid (idx_found HL.out hp HS.out)
    have HX1 := hid (HX.out.trans hb1)
    go_wp2_with fail
    go_ret
    exact ⟨ret_int HR.out.symm, HX1.out⟩
   | false =>
    have HS2 := hid (take_any_snoc HL.out HS.out hp)
    have HX1 := hid (HX.out.trans hb1)
    go_wp2_with fail
    go_roundw
    case rel => exact ⟨k + 1, by omega, by go_num, HS2, HX1⟩
    case measure => simp [intOf]; omega
  ·have HR : Hid (idxB p l = -1) := hid (idx_none (by have := HS.out; rwa [List.take_of_length_le (by have := HA.out.len; omega)] at this))
   go_wp2_with fail
   go_ret
   exact ⟨ret_int HR.out.symm, HX.out⟩
theorem containsW_any {T : Nat → Prop} (S : Nat → Prop) (F : Nat) (caps : Array Value) (p : ByteArray × Int → Bool) (A : Option Addr) (n c : Nat) (l : List (ByteArray × Int)) (w : World) (hm : n ≤ maxLen) (hA : ArrQ T w 2 WtQ A n l) (hF : PredW S w F caps p) :
  Calls Tryz.prog 198 #[.slice A n c, .func (.func F) #[] caps] w fun e w' => e = .returned (.bool (l.any p)) ∧ Ext w w' := by
 have HR := hid (idx_sign p l)
 go_enter Tryz.func198, Tryz.ntmps198
 go_wp2_with fail
 refine (indexW_any S F caps p A n c l _ hm hA hF).mono ?_
 rintro e w1 ⟨rfl, hb1⟩
 go_wp2_with fail
 go_ret
 exact ⟨ret_bool HR.out, hb1⟩
set_option linter.unusedVariables false
open Go.RowKit
def PredL (S : Nat → Prop) (w0 : World) (F : Nat) (caps : Array Value) (p : Rl → Bool) : Prop :=
 Enters F ∧ ∀ (r : Rl) (B : Option Addr) (m d : Nat) (w : World), Ext w0 w → RlV S w r B m d → Calls Tryz.prog F (#[.agg #[.string r.host, .string r.pre, .slice B m d]] ++ caps) w fun e w' => e = .returned (.bool (p r)) ∧ Ext w w'
theorem indexL_any {T : Nat → Prop} (S : Nat → Prop) (F : Nat) (caps : Array Value) (p : Rl → Bool) (A : Option Addr) (n c : Nat) (l : List (Rl)) (w : World) (hm : n ≤ maxLen) (hA : ArrQ T w 3 (RlQ S w) A n l) (hF : PredL S w F caps p) :
  Calls Tryz.prog 224 #[.slice A n c, .func (.func F) #[] caps] w fun e w' => e = .returned (.int .i64 (idxB p l)) ∧ Ext w w' := by
 unfold maxLen at hm
 have HA := hid hA
 have HF := hid hF
 clear hA hF
 go_enter Tryz.func224, Tryz.ntmps224
 go_wp2_with fail
 go_loopw [8] (fun i wr => ∃ k : Nat, k ≤ n ∧ i = .int .i64 k ∧ Hid ((l.take k).any p = false) ∧ Hid (Ext w wr)) (fun i _ => n - (intOf i).toNat)
 case atStart => exact ⟨0, Nat.zero_le _, rfl, hid (by simp), hid (Ext.refl _)⟩
 case round =>
  obtain ⟨k, hk, rfl, HS, HX⟩ := hrel
  by_cases hlt : k < n
  ·obtain ⟨b, o, r, B, m, d, rfl, hbB, hSb, hlk, hv, hc0, hc1, hc2⟩ := RlL.at_ HA.out hlt
   obtain ⟨d0, d1, d2⟩ := up3 (HX.out) hbB hc0 hc1 hc2
   have i1 : (0 : Int) ≤ (k : Int) := by omega
   have i2 : (k : Int) < (n : Int) := by omega
   have HL := hid hlk
   have HV := hid hv
   clear hv
   clear hc0 hc1 hc2 hlk
   go_wp2_with fail
   rw [HF.out.1, Oper.upon_enter]
   refine (HF.out.2 r B m d _ HX.out (HV.out.up HX.out)).mono ?_
   rintro e w1 ⟨rfl, hb1⟩
   cases hp : p r with
   | true =>
    have HR := hid (idx_found HL.out hp HS.out)
    have HX1 := hid (HX.out.trans hb1)
    go_wp2_with fail
    go_ret
    exact ⟨ret_int HR.out.symm, HX1.out⟩
   | false =>
    have HS2 := hid (take_any_snoc HL.out HS.out hp)
    have HX1 := hid (HX.out.trans hb1)
    go_wp2_with fail
    go_roundw
    case rel => exact ⟨k + 1, by omega, by go_num, HS2, HX1⟩
    case measure => simp [intOf]; omega
  ·have HR : Hid (idxB p l = -1) := hid (idx_none (by have := HS.out; rwa [List.take_of_length_le (by have := HA.out.len; omega)] at this))
   go_wp2_with fail
   go_ret
   exact ⟨ret_int HR.out.symm, HX.out⟩
theorem containsL_any {T : Nat → Prop} (S : Nat → Prop) (F : Nat) (caps : Array Value) (p : Rl → Bool) (A : Option Addr) (n c : Nat) (l : List (Rl)) (w : World) (hm : n ≤ maxLen) (hA : ArrQ T w 3 (RlQ S w) A n l) (hF : PredL S w F caps p) :
  Calls Tryz.prog 202 #[.slice A n c, .func (.func F) #[] caps] w fun e w' => e = .returned (.bool (l.any p)) ∧ Ext w w' := by
 have HR := hid (idx_sign p l)
 go_enter Tryz.func202, Tryz.ntmps202
 go_wp2_with fail
 refine (indexL_any S F caps p A n c l _ hm hA hF).mono ?_
 rintro e w1 ⟨rfl, hb1⟩
 go_wp2_with fail
 go_ret
 exact ⟨ret_bool HR.out, hb1⟩
set_option linter.unusedVariables false
open Go.RowKit
def PredK (S : Nat → Prop) (w0 : World) (F : Nat) (caps : Array Value) (p : Ky → Bool) : Prop :=
 Enters F ∧ ∀ (y : Ky) (w : World), Ext w0 w → y.name.size ≤ maxLen → Calls Tryz.prog F (#[.agg #[.int .i64 y.kind, .string y.name]] ++ caps) w fun e w' => e = .returned (.bool (p y)) ∧ Ext w w'
theorem indexK_any {T : Nat → Prop} (S : Nat → Prop) (F : Nat) (caps : Array Value) (p : Ky → Bool) (A : Option Addr) (n c : Nat) (l : List (Ky)) (w : World) (hm : n ≤ maxLen) (hA : ArrQ T w 2 KyQ A n l) (hF : PredK S w F caps p) :
  Calls Tryz.prog 180 #[.slice A n c, .func (.func F) #[] caps] w fun e w' => e = .returned (.int .i64 (idxB p l)) ∧ Ext w w' := by
 unfold maxLen at hm
 have HA := hid hA
 have HF := hid hF
 clear hA hF
 go_enter Tryz.func180, Tryz.ntmps180
 go_wp2_with fail
 go_loopw [8] (fun i wr => ∃ k : Nat, k ≤ n ∧ i = .int .i64 k ∧ Hid ((l.take k).any p = false) ∧ Hid (Ext w wr)) (fun i _ => n - (intOf i).toNat)
 case atStart => exact ⟨0, Nat.zero_le _, rfl, hid (by simp), hid (Ext.refl _)⟩
 case round =>
  obtain ⟨k, hk, rfl, HS, HX⟩ := hrel
  by_cases hlt : k < n
  ·obtain ⟨b, o, y, rfl, hbB, hSb, hlk, hsz, hc0, hc1⟩ := KeyL.at_ HA.out hlt
   obtain ⟨d0, d1⟩ := up2 (HX.out) hbB hc0 hc1
   have i1 : (0 : Int) ≤ (k : Int) := by omega
   have i2 : (k : Int) < (n : Int) := by omega
   have HL := hid hlk
   clear hc0 hc1 hlk
   go_wp2_with fail
   rw [HF.out.1, Oper.upon_enter]
   refine (HF.out.2 y _ HX.out hsz).mono ?_
   rintro e w1 ⟨rfl, hb1⟩
   cases hp : p y with
   | true =>
    have HR := hid (idx_found HL.out hp HS.out)
    have HX1 := hid (HX.out.trans hb1)
    go_wp2_with fail
    go_ret
    exact ⟨ret_int HR.out.symm, HX1.out⟩
   | false =>
    have HS2 := hid (take_any_snoc HL.out HS.out hp)
    have HX1 := hid (HX.out.trans hb1)
    go_wp2_with fail
    go_roundw
    case rel => exact ⟨k + 1, by omega, by go_num, HS2, HX1⟩
    case measure => simp [intOf]; omega
  ·have HR : Hid (idxB p l = -1) := hid (idx_none (by have := HS.out; rwa [List.take_of_length_le (by have := HA.out.len; omega)] at this))
   go_wp2_with fail
   go_ret
   exact ⟨ret_int HR.out.symm, HX.out⟩
set_option linter.unusedVariables false
open Go.RowKit
def PredR (S : Nat → Prop) (w0 : World) (F : Nat) (caps : Array Value) (p : Rs → Bool) : Prop :=
 Enters F ∧ ∀ (r : Rs) (B : Option Addr) (m d : Nat) (B' : Option Addr) (m' d' : Nat) (w : World), Ext w0 w → RsV S w r B m d B' m' d' → Calls Tryz.prog F (#[(rsVal r B m d B' m' d')] ++ caps) w fun e w' => e = .returned (.bool (p r)) ∧ Ext w w'
theorem indexR_any {T : Nat → Prop} (S : Nat → Prop) (F : Nat) (caps : Array Value) (p : Rs → Bool) (A : Option Addr) (n c : Nat) (l : List (Rs)) (w : World) (hm : n ≤ maxLen) (hA : ArrQ T w 7 (RsQ S w) A n l) (hF : PredR S w F caps p) :
  Calls Tryz.prog 106 #[.slice A n c, .func (.func F) #[] caps] w fun e w' => e = .returned (.int .i64 (idxB p l)) ∧ Ext w w' := by
 unfold maxLen at hm
 have HA := hid hA
 have HF := hid hF
 clear hA hF
 go_enter Tryz.func106, Tryz.ntmps106
 go_wp2_with fail
 go_loopw [8] (fun i wr => ∃ k : Nat, k ≤ n ∧ i = .int .i64 k ∧ Hid ((l.take k).any p = false) ∧ Hid (Ext w wr)) (fun i _ => n - (intOf i).toNat)
 case atStart => exact ⟨0, Nat.zero_le _, rfl, hid (by simp), hid (Ext.refl _)⟩
 case round =>
  obtain ⟨k, hk, rfl, HS, HX⟩ := hrel
  by_cases hlt : k < n
  ·obtain ⟨b, o, r, B, m, d, B', m', d', rfl, hbB, hSb, hlk, hv, hc0, hc1, hc2, hc3, hc4, hc5, hc6⟩ := ResL.at_ HA.out hlt
   obtain ⟨d0, d1, d2, d3, d4, d5, d6⟩ := up7 (HX.out) hbB hc0 hc1 hc2 hc3 hc4 hc5 hc6
   have i1 : (0 : Int) ≤ (k : Int) := by omega
   have i2 : (k : Int) < (n : Int) := by omega
   have HL := hid hlk
   have HV := hid hv
   clear hv
   clear hc0 hc1 hc2 hc3 hc4 hc5 hc6 hlk
   go_wp2_with fail
   rw [HF.out.1, Oper.upon_enter]
   refine (HF.out.2 r B m d B' m' d' _ HX.out (HV.out.up HX.out)).mono ?_
   rintro e w1 ⟨rfl, hb1⟩
   cases hp : p r with
   | true =>
    have HR := hid (idx_found HL.out hp HS.out)
    have HX1 := hid (HX.out.trans hb1)
    go_wp2_with fail
    go_ret
    exact ⟨ret_int HR.out.symm, HX1.out⟩
   | false =>
    have HS2 := hid (take_any_snoc HL.out HS.out hp)
    have HX1 := hid (HX.out.trans hb1)
    go_wp2_with fail
    go_roundw
    case rel => exact ⟨k + 1, by omega, by go_num, HS2, HX1⟩
    case measure => simp [intOf]; omega
  ·have HR : Hid (idxB p l = -1) := hid (idx_none (by have := HS.out; rwa [List.take_of_length_le (by have := HA.out.len; omega)] at this))
   go_wp2_with fail
   go_ret
   exact ⟨ret_int HR.out.symm, HX.out⟩
end Go.Proofs.YtfdjbnofcniodaaGreatDoor
