/- What slices.IndexFunc and ContainsFunc computes at []groyne/frame.Mark, at whatever predicate. -/
import Derived.Test.YtfdjbnofcniodaaGreatDoorQFrPlainAll
import Derived.Test.YtfdjbnofcniodaaGreatDoorQGround
import Derived.Test.YtfdjbnofcniodaaGreatDoorQSomeAll
import Derived.Test.YtfdjbnofcniodaaGreatDoorQIndex
namespace Go.Proofs.YtfdjbnofcniodaaGreatDoor
open Lib (hid)
set_option maxHeartbeats 1000000
set_option maxRecDepth 100000
set_option linter.unusedVariables false
open Go.RowKit
theorem elem_mark : ElemOk Tryz.prog 91 152 (.agg #[.int .i64 0, .string ⟨#[]⟩, .int .i64 0]) 3 32 := ElemOk.mk Tryz.underlying91 (by kernel_rfl) rfl (by omega)
def MkQ (cs : List Value) (m : Ky × Int) : Prop := cs = [.int .i64 m.1.kind, .string m.1.name, .int .i64 m.2] ∧ m.1.name.size ≤ maxLen
abbrev MkL (S : Nat → Prop) (w : World) (A : Option Addr) (n : Nat) (l : List (Ky × Int)) : Prop := ArrQ S w 3 MkQ A n l
section
variable {S T : Nat → Prop} {w w' : World} {A : Option Addr} {n : Nat}
theorem MkL.keep {l : List (Ky × Int)} (h : MkL S w A n l) (hk : Keep S w w') : MkL S w' A n l := ArrQ.keep h (fun _ _ _ h => h) hk
theorem MkL.at_ {l : List (Ky × Int)} {k : Nat} (h : MkL S w A n l) (hk : k < n) :
  ∃ b o y v, A = some ⟨b, o, none⟩ ∧ b < w.heap.size ∧ S b ∧ l[k]? = some (y, v) ∧ y.name.size ≤ maxLen ∧ w.cell? ⟨b, o + k * 3, none⟩ = some (.int .i64 y.kind) ∧ w.cell? ⟨b, o + k * 3 + 1, none⟩ = some (.string y.name) ∧ w.cell? ⟨b, o + k * 3 + 2, none⟩ = some (.int .i64 v) := by
 obtain ⟨b, o, ⟨y, v⟩, cs, hA, hS, hb, hl, _, hR, hcs⟩ := ArrQ.at_ h hk
 obtain ⟨rfl, hm⟩ := hR
 exact ⟨b, o, y, v, hA, hb, hS, hl, hm, hcs 0 _ rfl, hcs 1 _ rfl, hcs 2 _ rfl⟩
end
structure Sl where
 A : Option Addr
 n : Nat
 c : Nat
structure FrS where
 a : Sl
 g : Sl
 h : Sl
 k : Sl
def frVal (f : Fr) (s : FrS) : Value := .agg #[.int .i64 f.typ, .int .i64 f.epoch, .int .i64 f.kind, .int .i64 f.nonce, .int .i64 f.turn, .slice s.a.A s.a.n s.a.c, .slice s.g.A s.g.n s.g.c, .int .i64 f.err, .slice s.h.A s.h.n s.h.c, .slice s.k.A s.k.n s.k.c]
structure FrV (S : Nat → Prop) (w : World) (f : Fr) (s : FrS) : Prop where
 sa : SlW s.a.A s.a.n s.a.c
 sg : SlW s.g.A s.g.n s.g.c
 sh : SlW s.h.A s.h.n s.h.c
 sk : SlW s.k.A s.k.n s.k.c
 adds : ResL S w s.a.A s.a.n f.adds
 gone : KeyL S w s.g.A s.g.n f.gone
 hav : MkL S w s.h.A s.h.n f.hav
 held : KeyL S w s.k.A s.k.n f.held
theorem FrV.keep {S : Nat → Prop} {w w' : World} {f : Fr} {s : FrS} (h : FrV S w f s) (hk : Keep S w w') : FrV S w' f s :=
 ⟨h.sa, h.sg, h.sh, h.sk, ResL.keep h.adds hk, KeyL.keep h.gone hk, MkL.keep h.hav hk, KeyL.keep h.held hk⟩
theorem FrV.up {S : Nat → Prop} {w w' : World} {f : Fr} {s : FrS} (h : FrV S w f s) (he : Ext w w') : FrV S w' f s := h.keep he.keep
theorem SlW.len {A : Option Addr} {n c : Nat} (h : SlW A n c) : n ≤ maxLen := Nat.le_trans h.1 h.2.1
set_option linter.unusedVariables false
open Go.RowKit
def PredM (S : Nat → Prop) (w0 : World) (F : Nat) (caps : Array Value) (p : Ky × Int → Bool) : Prop :=
 Enters F ∧ ∀ (y : Ky) (v : Int) (w : World), Ext w0 w → y.name.size ≤ maxLen → Calls Tryz.prog F (#[.agg #[.int .i64 y.kind, .string y.name, .int .i64 v]] ++ caps) w fun e w' => e = .returned (.bool (p (y, v))) ∧ Ext w w'
theorem indexM_any {T : Nat → Prop} (S : Nat → Prop) (F : Nat) (caps : Array Value) (p : Ky × Int → Bool) (A : Option Addr) (n c : Nat) (l : List (Ky × Int)) (w : World) (hm : n ≤ maxLen) (hA : ArrQ T w 3 MkQ A n l) (hF : PredM S w F caps p) :
  Calls Tryz.prog 221 #[.slice A n c, .func (.func F) #[] caps] w fun e w' => e = .returned (.int .i64 (idxB p l)) ∧ Ext w w' := by
 unfold maxLen at hm
 have HA := hid hA
 have HF := hid hF
 clear hA hF
 go_enter Tryz.func221, Tryz.ntmps221
 go_wp2_with fail
 go_loopw [8] (fun i wr => ∃ k : Nat, k ≤ n ∧ i = .int .i64 k ∧ Hid ((l.take k).any p = false) ∧ Hid (Ext w wr)) (fun i _ => n - (intOf i).toNat)
 case atStart => exact ⟨0, Nat.zero_le _, rfl, hid (by simp), hid (Ext.refl _)⟩
 case round =>
  obtain ⟨k, hk, rfl, HS, HX⟩ := hrel
  by_cases hlt : k < n
  ·obtain ⟨b, o, y, v, rfl, hbB, hSb, hlk, hsz, hc0, hc1, hc2⟩ := MkL.at_ HA.out hlt
   obtain ⟨d0, d1, d2⟩ := up3 (HX.out) hbB hc0 hc1 hc2
   have i1 : (0 : Int) ≤ (k : Int) := by omega
   have i2 : (k : Int) < (n : Int) := by omega
   have HL := hid hlk
   clear hc0 hc1 hc2 hlk
   go_wp2_with fail
   rw [HF.out.1, Oper.upon_enter]
   refine (HF.out.2 y v _ HX.out hsz).mono ?_
   rintro e w1 ⟨rfl, hb1⟩
   cases hp : p (y, v) with
   | true =>
    have HR := hid (idx_found HL.out hp HS.out)
    have HX1 := hid (HX.out.trans hb1)
    go_wp2_with fail
    go_ret
    exact ⟨ret_int HR.out.symm, HX1.out⟩
   | false =>
    have HS2 := hid (take_any_snoc HL.out HS.out hp)
    have HX1 := hid (HX.out.trans hb1)
    go_wp2_with fail
    go_roundw
    case rel => exact ⟨k + 1, by omega, by go_num, HS2, HX1⟩
    case measure => simp [intOf]; omega
  ·have HR : Hid (idxB p l = -1) := hid (idx_none (by have := HS.out; rwa [List.take_of_length_le (by have := HA.out.len; omega)] at this))
   go_wp2_with fail
   go_ret
   exact ⟨ret_int HR.out.symm, HX.out⟩
theorem containsM_any {T : Nat → Prop} (S : Nat → Prop) (F : Nat) (caps : Array Value) (p : Ky × Int → Bool) (A : Option Addr) (n c : Nat) (l : List (Ky × Int)) (w : World) (hm : n ≤ maxLen) (hA : ArrQ T w 3 MkQ A n l) (hF : PredM S w F caps p) :
  Calls Tryz.prog 188 #[.slice A n c, .func (.func F) #[] caps] w fun e w' => e = .returned (.bool (l.any p)) ∧ Ext w w' := by
 have HR := hid (idx_sign p l)
 go_enter Tryz.func188, Tryz.ntmps188
 go_wp2_with fail
 refine (indexM_any S F caps p A n c l _ hm hA hF).mono ?_
 rintro e w1 ⟨rfl, hb1⟩
 go_wp2_with fail
 go_ret
 exact ⟨ret_bool HR.out, hb1⟩
end Go.Proofs.YtfdjbnofcniodaaGreatDoor
