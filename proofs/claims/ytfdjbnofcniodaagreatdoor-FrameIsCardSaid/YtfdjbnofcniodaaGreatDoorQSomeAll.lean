/- What is taken by a reader: over what package record's some stands. -/
import Derived.Test.YtfdjbnofcniodaaGreatDoorQCodeAll
import Derived.Test.YtfdjbnofcniodaaGreatDoorQPlain
import Derived.Test.YtfdjbnofcniodaaGreatDoorQIndex
import Derived.Test.YtfdjbnofcniodaaGreatDoorQDelA
import Derived.Outline
namespace Go.Proofs.YtfdjbnofcniodaaGreatDoor
open Lib (hid)
set_option maxHeartbeats 2000000
set_option maxRecDepth 100000
set_option linter.unusedVariables false
open Go.RowKit
theorem RdAt.box {w : World} {A : Option Addr} {n c : Nat} {bs : List UInt8} (e : Int) (hB : Byts w A n bs) (hA : A = none → c = 0) (hnc : n ≤ c) (hcm : c ≤ 9223372036854775807) :
  RdAt (w.alloc (.cells #[.slice A n c, .int .i64 e] 27)) w.heap.size ⟨bs, e⟩ := by
 refine ⟨A, n, c, heap_alloc_new w _, hA, hnc, hcm, ArrR.up hB (Ext.new _ _), fun hn b o e => ?_⟩
 obtain ⟨b', o', e', hb, _⟩ := hB.2 hn
 rw [e] at e'
 injection e' with e'
 injection e' with e1 e2
 omega
theorem RdAt.cells {w : World} {g : Nat} {r : Rd} (h : RdAt w g r) : ∃ A n c, (∀ i, w.cell? ⟨g, i, none⟩ = #[Value.slice A n c, Value.int .i64 r.e][i]?) ∧ (∀ i, w.frozen? ⟨g, i, none⟩ = false) ∧ (A = none → c = 0) ∧ n ≤ c ∧ c ≤ 9223372036854775807 ∧ Byts w A n r.b := by
 obtain ⟨A, n, c, hg, h1, h2, h3, hB, _⟩ := h
 obtain ⟨g0, g1⟩ := blk_rules hg
 exact ⟨A, n, c, g0, g1, h1, h2, h3, hB⟩
theorem Only.keepGe {w w' : World} {g lo : Nat} (h : Only g w w') (hg : g < lo) : Keep (fun b => lo ≤ b) w w' := ⟨h.size, fun b o hb hS => h.cell hb (by omega)⟩
theorem own_only {w w' : World} {g base size n : Nat} {e : TypeId} {v : Value} {xs : List Value} (h : w.ownsRow base e size v n xs) (ho : Only g w w') (hg : g < base) : w'.ownsRow base e size v n xs := by
 refine ⟨h.1, ?_⟩
 rcases h.2 with hn | ⟨b, cap, cur, rfl, hb, hh, rest⟩
 ·exact .inl hn
 ·exact .inr ⟨b, cap, cur, rfl, hb, (ho.block b (Array.getElem?_eq_some_iff.1 hh).1 (by intro e; injection e with e; omega)).trans hh, rest⟩
section
variable {w w2 W w3 : World} {g base lo size n : Nat} {e : TypeId} {v : Value} {xs : List Value}
theorem only_grown (ho : Only g w w2) (he : Ext w2 W) (hg3 : W.grownBy w3 v.ownBlock) (hown : W.ownsRow base e size v n xs) (hb : w.heap.size ≤ base) : Only g w w3 := by
 have h1 : Only g w W := ho.trans (Only.of_ext he)
 refine ⟨hg3.os.trans h1.os, hg3.tape.trans h1.tape, hg3.output.trans h1.output, Nat.le_trans h1.size hg3.size, fun i hi hne => ?_⟩
 have hlt : i < W.heap.size := Nat.lt_of_lt_of_le hi h1.size
 refine (hg3.block i hlt ?_).trans (h1.block i hi hne)
 intro he'
 have := (hown.lt i he'.symm).1
 omega
theorem rdat_grown {r : Rd} (h : RdAt W g r) (hg3 : W.grownBy w3 v.ownBlock) (hown : W.ownsRow base e size v n xs) (hb : g < base) : RdAt w3 g r := by
 obtain ⟨A, m, c, hg, h1, h2, h3, hB, ho⟩ := h
 have hlt : g < W.heap.size := (Array.getElem?_eq_some_iff.1 hg).1
 refine ⟨A, m, c, (hg3.block g hlt (fun e' => by have := (hown.lt g e'.symm).1; omega)).trans hg, h1, h2, h3, ⟨hB.1, fun hm => ?_⟩, ho⟩
 obtain ⟨b, o, e1, hbl, hc⟩ := hB.2 hm
 have hbg := ho hm b o e1
 refine ⟨b, o, e1, Nat.lt_of_lt_of_le hbl hg3.size, fun k x hx => ?_⟩
 obtain ⟨cs, a1, a2, a3⟩ := hc k x hx
 exact ⟨cs, a1, a2, fun j u hu => (World.cell?_of_block (hg3.block b hbl (fun e' => by have := (hown.lt b e'.symm).1; omega))).trans (a3 j u hu)⟩
end
def Sx (B : Nat) (v : Value) (b : Nat) : Prop := B ≤ b ∧ v.ownBlock ≠ some b
theorem rows_grow {α : Type} (Q : (Nat → Prop) → World → List Value → α → Prop) (hkeep : ∀ (S : Nat → Prop) (w w' : World) (cs : List Value) (x : α), Q S w cs x → Keep S w w' → Q S w' cs x)
  (hweak : ∀ (S T : Nat → Prop) (w : World) (cs : List Value) (x : α), Q S w cs x → (∀ b, b < w.heap.size → S b → T b) → Q T w cs x)
  {g B sz k : Nat} {e : TypeId} {v v' : Value} {wr w2 W w3 : World} {us cs : List Value} {acc : List α} {y : α} (hU : RowsOf (Q (Sx B v) wr) sz us acc) (hk : Only g wr w2) (hg : g < B) (he : Ext w2 W) (hg3 : W.grownBy w3 v.ownBlock)
  (hv' : v'.ownBlock = v.ownBlock ∨ v'.ownBlock = some W.heap.size) (hown : wr.ownsRow B e sz v k us) (hB : B ≤ wr.heap.size) (hy : Q (fun b => wr.heap.size ≤ b) w2 cs y) (hl : cs.length = sz) :
  RowsOf (Q (Sx B v') w3) sz (us ++ cs) (acc ++ [y]) := by
 have hT : Keep (fun b => B ≤ b ∧ v.ownBlock ≠ some b ∧ v'.ownBlock ≠ some b) w2 w3 := ⟨Nat.le_trans he.size hg3.size, fun b o hb hS => (World.cell?_of_block (hg3.block b (Nat.lt_of_lt_of_le hb he.size) (fun e' => hS.2.1 e'.symm))).trans (he.cell hb)⟩
 have hfin : ∀ (cs : List Value) (x : α), Q (fun b => B ≤ b ∧ v.ownBlock ≠ some b ∧ v'.ownBlock ≠ some b) w2 cs x → Q (Sx B v') w3 cs x := fun cs x h => hweak _ _ _ _ _ (hkeep _ _ _ _ _ h hT) (fun b _ hS => ⟨hS.1, hS.2.2⟩)
 refine (hU.mono fun cs x h => ?_).snoc hl ?_
 ·refine hfin cs x (hweak _ _ _ _ _ (hkeep _ _ w2 _ _ h ⟨hk.size, fun b o hb hS => hk.cell hb (by have := hS.1; omega)⟩) (fun b hb hS => ⟨hS.1, hS.2, ?_⟩))
  rcases hv' with h' | h'
  ·rw [h']; exact hS.2
  ·rw [h']; intro e'; injection e' with e'; have := he.size; omega
 ·refine hfin cs y (hweak _ _ _ _ _ hy (fun b hb hS => ⟨Nat.le_trans hB hS, ?_, ?_⟩))
  ·intro e'
   have hx := (hown.lt b e').2
   omega
  ·rcases hv' with h' | h'
   ·rw [h']; intro e'
    have hx := (hown.lt b e').2
    omega
   ·rw [h']; intro e'; injection e' with e'; have := he.size; omega
theorem some_stop {α : Type} {t : Rd → Rd × α} {N k : Nat} {rk : Rd} {acc : List α} (h : k < N) : (t rk).1.e ≠ 0 → someL t (N - k) rk acc = ((t rk).1, []) := by
 intro he
 rw [show N - k = (N - (k + 1)) + 1 by omega]
 unfold someL; rw [if_pos he]
theorem some_next {α : Type} {t : Rd → Rd × α} {N k : Nat} {rk : Rd} {acc : List α} (h : k < N) : (t rk).1.e = 0 → someL t (N - k) rk acc = someL t (N - (k + 1)) (t rk).1 (acc ++ [(t rk).2]) := by
 intro he
 rw [show N - k = (N - (k + 1)) + 1 by omega]
 conv => lhs; unfold someL
 rw [if_neg (by simpa using he)]
set_option linter.unusedVariables false
open Go.RowKit
def TkW (g : Nat) (w : World) (r' : Rd) (y : ByteArray × Int) (e : Ending) (w' : World) : Prop := e = .returned (.agg #[.string y.1, .int .i64 y.2]) ∧ y.1.size ≤ maxLen ∧ RdAt w' g r' ∧ Only g w w'
def TakesW (g : Nat) (F : Nat) (caps : Array Value) (t : Rd → Rd × (ByteArray × Int)) : Prop :=
 Enters F ∧ ∀ (rd : Rd) (w : World), RdAt w g rd → Calls Tryz.prog F (#[.pointer (some ⟨g, 0, none⟩)] ++ caps) w (TkW g w (t rd).1 (t rd).2)
def SomeW (g : Nat) (w : World) (res : Rd × List (ByteArray × Int)) (e : Ending) (w' : World) : Prop :=
 ∃ A n c, e = .returned (.slice A n c) ∧ SlW A n c ∧ ArrQ (fun b => w.heap.size ≤ b) w' 2 ((fun _ => WtQ) w') A n res.2 ∧ RdAt w' g res.1 ∧ Only g w w'
theorem someW_any (g : Nat) (F : Nat) (caps : Array Value) (t : Rd → Rd × (ByteArray × Int)) (most : Int) (rd : Rd) (w : World) (hR : RdAt w g rd) (hF : TakesW g F caps t) :
  Calls Tryz.prog 156 #[.pointer (some ⟨g, 0, none⟩), .int .i64 most, .func (.func F) #[] caps] w (SomeW g w (someB t most rd)) := by
 have HF := hid hF
 have HR := hid hR
 have hg : g < w.heap.size := hR.lt
 clear hF hR
 go_enter Tryz.func156, Tryz.ntmps156
 go_wp2_with fail
 refine (num_any g rd most _ HR.out).mono ?_
 rintro e w1 ⟨rfl, hr1, ho1⟩
 have hN := Rd.num_le rd most
 have hb := bnd_le most
 obtain ⟨N, hNe⟩ : ∃ N, N = (rd.num most).2 := ⟨_, rfl⟩
 obtain ⟨r1, hre⟩ : ∃ r1, r1 = (rd.num most).1 := ⟨_, rfl⟩
 rw [← hre] at hr1
 rw [← hNe] at hN ⊢
 have HS : Hid (someB t most rd = someL t N r1 []) := hid (by unfold someB; rw [← hNe, ← hre])
 have hN2 : N ≤ 2147483647 := by omega
 have HR1 := hid hr1
 have HO1 := hid ho1
 clear hNe hre hr1 ho1 hN hb
 go_wp2_with fail
 go_loopw [7, 12] (fun v i wr => ∃ (k : Nat) (rk : Rd) (acc : List (ByteArray × Int)) (us : List Value), k ≤ N ∧ i = .int .i64 k ∧ Hid (someL t (N - k) rk acc = someL t N r1 []) ∧ Hid (acc.length = k) ∧ Hid (wr.ownsRow w.heap.size 166 2 v k us) ∧ Hid (RowsOf WtQ 2 us acc) ∧ Hid (RdAt wr g rk) ∧ Hid (Only g w wr)) (fun _ i _ => N - (intOf i).toNat)
 case atStart => exact ⟨0, r1, [], [], Nat.zero_le _, rfl, hid (by rw [Nat.sub_zero]), hid rfl, hid own_nil, hid rfl, HR1, HO1⟩
 case round =>
  obtain ⟨k, rk, acc, us, hk, rfl, HL, HA, HW, HU, HRk, HO⟩ := hrel
  have hlr : w.heap.size ≤ wr.heap.size := HO.out.size
  by_cases hlt : k < N
  ·have HSt := hid (@some_stop _ t N k rk acc hlt)
   have HNx := hid (@some_next _ t N k rk acc hlt)
   go_wp2_with fail
   rw [HF.out.1, Oper.upon_enter]
   refine (HF.out.2 rk _ HRk.out).mono ?_
   rintro e w2 ⟨rfl, hsz, hr2, ho2⟩
   obtain ⟨y, hy⟩ : ∃ y, y = (t rk).2 := ⟨_, rfl⟩
   obtain ⟨r2, hr2e⟩ : ∃ r2, r2 = (t rk).1 := ⟨_, rfl⟩
   rw [← hr2e] at hr2 HSt HNx
   rw [← hy] at HNx hsz ⊢
   have HR2 := hid hr2
   have HO2 := hid (HO.out.trans ho2)
   have HO2x := hid ho2
   have HW2 := hid (own_only HW.out ho2 hg)
   have HSZ := hid hsz
   obtain ⟨A0, n0, c0, hg0, -, -, -, -, -⟩ := hr2
   obtain ⟨q0, q1⟩ := blk_rules hg0
   have hgl : g < w2.heap.size := (Array.getElem?_eq_some_iff.1 hg0).1
   have hl2 : w.heap.size ≤ w2.heap.size := Nat.le_trans hlr ho2.size
   have hkz : k < 4294967296 := by omega
   clear hg0 hy hr2e ho2 hsz
   by_cases he : r2.e = 0
   ·have hb1 : (r2.e != 0) = false := by simpa using he
    have HNx2 := hid (HNx.out he)
    clear he
    have hFk := flat_k (w2.alloc (.cells #[.string y.1, .int .i64 y.2] 166)) [.string y.1, .int .i64 y.2] 166 rfl
    simp only [World.size_alloc] at hFk
    have HFk := hid hFk
    clear hFk
    go_wp2_with (at_builtin
                 obtain ⟨v', w3, hrun, hown3, hg3, hnw⟩ := run_append_flat elem_wt 109 (own_up HW2.out (((Ext.refl w2).alloc (.cells #[.string y.1, .int .i64 y.2] 166)).alloc (.cells #[.string y.1, .int .i64 y.2] 166))) 1 HFk.out (by simp [Value.oneCell']) (by omega) (by omega) (by simp; omega) (fun h => by cases h)
                 refine Lib.wpList_append_run _ rfl _ _ _ _ rfl _ _ rfl rfl v' w3 hrun ?_)
    have HO3 : Hid (Only g w w3) := hid (only_grown HO2.out (((Ext.refl w2).alloc (.cells #[.string y.1, .int .i64 y.2] 166)).alloc (.cells #[.string y.1, .int .i64 y.2] 166)) hg3 (own_up HW2.out (((Ext.refl w2).alloc (.cells #[.string y.1, .int .i64 y.2] 166)).alloc (.cells #[.string y.1, .int .i64 y.2] 166))) (Nat.le_refl _))
    have HR3 : Hid (RdAt w3 g r2) := hid (rdat_grown (HR2.out.up (((Ext.refl w2).alloc (.cells #[.string y.1, .int .i64 y.2] 166)).alloc (.cells #[.string y.1, .int .i64 y.2] 166))) hg3 (own_up HW2.out (((Ext.refl w2).alloc (.cells #[.string y.1, .int .i64 y.2] 166)).alloc (.cells #[.string y.1, .int .i64 y.2] 166))) hg)
    have HU3 : Hid (RowsOf WtQ 2 (us ++ [.string y.1, .int .i64 y.2]) (acc ++ [y])) := hid (RowsOf.snoc (R := WtQ) (cs := [.string y.1, .int .i64 y.2]) rfl (show WtQ _ y from ⟨rfl, HSZ.out⟩) HU.out)
    have HA3 : Hid ((acc ++ [y]).length = k + 1) := hid (by rw [List.length_append, HA.out]; rfl)
    have HL3 : Hid (someL t (N - (k + 1)) r2 (acc ++ [y]) = someL t N r1 []) := hid (by rw [← HNx2.out]; exact HL.out)
    have HW3 := hid hown3
    clear hown3 hg3 hrun hnw q0 q1
    go_roundw
    case rel => exact ⟨k + 1, r2, acc ++ [y], _, by omega, by go_num, HL3, HA3, HW3, HU3, HR3, HO3⟩
    case measure => simp [intOf]; omega
   ·have hb1 : (r2.e != 0) = true := by simpa using he
    have HE : Hid (someB t most rd = (r2, [])) := hid (by rw [HS.out, ← HL.out]; exact HSt.out he)
    clear he
    go_wp2_with fail
    go_ret
    rw [HE.out]
    exact ⟨none, 0, 0, rfl, SlW.nil_, ArrQ.nil_, HR2.out.up (Ext.new _ _), HO2.out.trans (Only.of_ext (Ext.new _ _))⟩
  ·obtain rfl : k = N := by omega
   have HE : Hid (someB t most rd = (rk, acc)) := hid (by rw [HS.out, ← HL.out, Nat.sub_self]; rfl)
   have HLT := hid HW.out.lt
   obtain ⟨A, c, rfl, h1, h2, h3, hF⟩ := own_flat HW.out
   have HFl := hid hF
   have HSl : Hid (SlW A k c) := hid ⟨h1, h2, h3⟩
   clear hF h1 h2 h3
   go_wp2_with fail
   go_ret
   rw [HE.out]
   exact ⟨A, k, c, rfl, HSl.out, HFl.out.arrQ HU.out (by omega) (fun b o e hb => by subst e; exact (HLT.out b rfl).1), HRk.out, HO.out⟩
set_option linter.unusedVariables false
open Go.RowKit
def TkL (g : Nat) (w : World) (r' : Rd) (r : Rl) (e : Ending) (w' : World) : Prop := ∃ (B : Option Addr) (m d : Nat), e = .returned (.agg #[.string r.host, .string r.pre, .slice B m d]) ∧ RlV (fun b => w.heap.size ≤ b) w' r B m d ∧ RdAt w' g r' ∧ Only g w w'
def TakesL (g : Nat) (F : Nat) (caps : Array Value) (t : Rd → Rd × Rl) : Prop :=
 Enters F ∧ ∀ (rd : Rd) (w : World), RdAt w g rd → Calls Tryz.prog F (#[.pointer (some ⟨g, 0, none⟩)] ++ caps) w (TkL g w (t rd).1 (t rd).2)
def SomeL (g : Nat) (w : World) (res : Rd × List Rl) (e : Ending) (w' : World) : Prop :=
 ∃ A n c, e = .returned (.slice A n c) ∧ SlW A n c ∧ ArrQ (fun b => w.heap.size ≤ b) w' 3 ((fun wx => RlQ (fun b => w.heap.size ≤ b) wx) w') A n res.2 ∧ RdAt w' g res.1 ∧ Only g w w'
theorem someL_any (g : Nat) (F : Nat) (caps : Array Value) (t : Rd → Rd × Rl) (most : Int) (rd : Rd) (w : World) (hR : RdAt w g rd) (hF : TakesL g F caps t) :
  Calls Tryz.prog 77 #[.pointer (some ⟨g, 0, none⟩), .int .i64 most, .func (.func F) #[] caps] w (SomeL g w (someB t most rd)) := by
 have HF := hid hF
 have HR := hid hR
 have hg : g < w.heap.size := hR.lt
 clear hF hR
 go_enter Tryz.func77, Tryz.ntmps77
 go_wp2_with fail
 refine (num_any g rd most _ HR.out).mono ?_
 rintro e w1 ⟨rfl, hr1, ho1⟩
 have hN := Rd.num_le rd most
 have hb := bnd_le most
 obtain ⟨N, hNe⟩ : ∃ N, N = (rd.num most).2 := ⟨_, rfl⟩
 obtain ⟨r1, hre⟩ : ∃ r1, r1 = (rd.num most).1 := ⟨_, rfl⟩
 rw [← hre] at hr1
 rw [← hNe] at hN ⊢
 have HS : Hid (someB t most rd = someL t N r1 []) := hid (by unfold someB; rw [← hNe, ← hre])
 have hN2 : N ≤ 2147483647 := by omega
 have HR1 := hid hr1
 have HO1 := hid ho1
 clear hNe hre hr1 ho1 hN hb
 go_wp2_with fail
 go_loopw [7, 12] (fun v i wr => ∃ (k : Nat) (rk : Rd) (acc : List (Rl)) (us : List Value), k ≤ N ∧ i = .int .i64 k ∧ Hid (someL t (N - k) rk acc = someL t N r1 []) ∧ Hid (acc.length = k) ∧ Hid (wr.ownsRow w.heap.size 111 3 v k us) ∧ Hid (RowsOf (RlQ (Sx w.heap.size v) wr) 3 us acc) ∧ Hid (RdAt wr g rk) ∧ Hid (Only g w wr)) (fun _ i _ => N - (intOf i).toNat)
 case atStart => exact ⟨0, r1, [], [], Nat.zero_le _, rfl, hid (by rw [Nat.sub_zero]), hid rfl, hid own_nil, hid rfl, HR1, HO1⟩
 case round =>
  obtain ⟨k, rk, acc, us, hk, rfl, HL, HA, HW, HU, HRk, HO⟩ := hrel
  have hlr : w.heap.size ≤ wr.heap.size := HO.out.size
  by_cases hlt : k < N
  ·have HSt := hid (@some_stop _ t N k rk acc hlt)
   have HNx := hid (@some_next _ t N k rk acc hlt)
   go_wp2_with fail
   rw [HF.out.1, Oper.upon_enter]
   refine (HF.out.2 rk _ HRk.out).mono ?_
   rintro e w2 ⟨B, m, d, rfl, hv, hr2, ho2⟩
   obtain ⟨y, hy⟩ : ∃ y, y = (t rk).2 := ⟨_, rfl⟩
   obtain ⟨r2, hr2e⟩ : ∃ r2, r2 = (t rk).1 := ⟨_, rfl⟩
   rw [← hr2e] at hr2 HSt HNx
   rw [← hy] at HNx hv ⊢
   have HR2 := hid hr2
   have HO2 := hid (HO.out.trans ho2)
   have HO2x := hid ho2
   have HW2 := hid (own_only HW.out ho2 hg)
   have HV := hid hv
   obtain ⟨A0, n0, c0, hg0, -, -, -, -, -⟩ := hr2
   obtain ⟨q0, q1⟩ := blk_rules hg0
   have hgl : g < w2.heap.size := (Array.getElem?_eq_some_iff.1 hg0).1
   have hl2 : w.heap.size ≤ w2.heap.size := Nat.le_trans hlr ho2.size
   have hkz : k < 4294967296 := by omega
   clear hg0 hy hr2e ho2 hv
   by_cases he : r2.e = 0
   ·have hb1 : (r2.e != 0) = false := by simpa using he
    have HNx2 := hid (HNx.out he)
    clear he
    have hFk := flat_k (w2.alloc (.cells #[.string y.host, .string y.pre, .slice B m d] 111)) [.string y.host, .string y.pre, .slice B m d] 111 rfl
    simp only [World.size_alloc] at hFk
    have HFk := hid hFk
    clear hFk
    go_wp2_with (at_builtin
                 obtain ⟨v', w3, hrun, hown3, hg3, hnw⟩ := run_append_flat elem_rl 31 (own_up HW2.out (((Ext.refl w2).alloc (.cells #[.string y.host, .string y.pre, .slice B m d] 111)).alloc (.cells #[.string y.host, .string y.pre, .slice B m d] 111))) 1 HFk.out (by simp [Value.oneCell']) (by omega) (by omega) (by simp; omega) (fun h => by cases h)
                 refine Lib.wpList_append_run _ rfl _ _ _ _ rfl _ _ rfl rfl v' w3 hrun ?_)
    have HO3 : Hid (Only g w w3) := hid (only_grown HO2.out (((Ext.refl w2).alloc (.cells #[.string y.host, .string y.pre, .slice B m d] 111)).alloc (.cells #[.string y.host, .string y.pre, .slice B m d] 111)) hg3 (own_up HW2.out (((Ext.refl w2).alloc (.cells #[.string y.host, .string y.pre, .slice B m d] 111)).alloc (.cells #[.string y.host, .string y.pre, .slice B m d] 111))) (Nat.le_refl _))
    have HR3 : Hid (RdAt w3 g r2) := hid (rdat_grown (HR2.out.up (((Ext.refl w2).alloc (.cells #[.string y.host, .string y.pre, .slice B m d] 111)).alloc (.cells #[.string y.host, .string y.pre, .slice B m d] 111))) hg3 (own_up HW2.out (((Ext.refl w2).alloc (.cells #[.string y.host, .string y.pre, .slice B m d] 111)).alloc (.cells #[.string y.host, .string y.pre, .slice B m d] 111))) hg)
    have HU3 : Hid (RowsOf (RlQ (Sx w.heap.size v') w3) 3 (us ++ [.string y.host, .string y.pre, .slice B m d]) (acc ++ [y])) := hid (rows_grow RlQ (fun _ _ _ _ _ h k => h.keep k) (fun _ _ _ _ _ h k => h.weak k) HU.out HO2x.out hg (((Ext.refl w2).alloc (.cells #[.string y.host, .string y.pre, .slice B m d] 111)).alloc (.cells #[.string y.host, .string y.pre, .slice B m d] 111)) hg3 hnw HW.out hlr ⟨_, _, _, rfl, HV.out⟩ rfl)
    have HA3 : Hid ((acc ++ [y]).length = k + 1) := hid (by rw [List.length_append, HA.out]; rfl)
    have HL3 : Hid (someL t (N - (k + 1)) r2 (acc ++ [y]) = someL t N r1 []) := hid (by rw [← HNx2.out]; exact HL.out)
    have HW3 := hid hown3
    clear hown3 hg3 hrun hnw q0 q1
    go_roundw
    case rel => exact ⟨k + 1, r2, acc ++ [y], _, by omega, by go_num, HL3, HA3, HW3, HU3, HR3, HO3⟩
    case measure => simp [intOf]; omega
   ·have hb1 : (r2.e != 0) = true := by simpa using he
    have HE : Hid (someB t most rd = (r2, [])) := hid (by rw [HS.out, ← HL.out]; exact HSt.out he)
    clear he
    go_wp2_with fail
    go_ret
    rw [HE.out]
    exact ⟨none, 0, 0, rfl, SlW.nil_, ArrQ.nil_, HR2.out.up (Ext.new _ _), HO2.out.trans (Only.of_ext (Ext.new _ _))⟩
  ·obtain rfl : k = N := by omega
   have HE : Hid (someB t most rd = (rk, acc)) := hid (by rw [HS.out, ← HL.out, Nat.sub_self]; rfl)
   have HLT := hid HW.out.lt
   obtain ⟨A, c, rfl, h1, h2, h3, hF⟩ := own_flat HW.out
   have HFl := hid hF
   have HSl : Hid (SlW A k c) := hid ⟨h1, h2, h3⟩
   clear hF h1 h2 h3
   go_wp2_with fail
   go_ret
   rw [HE.out]
   exact ⟨A, k, c, rfl, HSl.out, HFl.out.arrQ (HU.out.mono fun _ _ h => h.weak fun _ _ h => h.1) (by omega) (fun b o e hb => by subst e; exact (HLT.out b rfl).1), HRk.out, HO.out⟩
set_option linter.unusedVariables false
open Go.RowKit
def TkH (g : Nat) (w : World) (r' : Rd) (x : Int) (e : Ending) (w' : World) : Prop := e = .returned (.int .i64 x) ∧ True ∧ RdAt w' g r' ∧ Only g w w'
def TakesH (g : Nat) (F : Nat) (caps : Array Value) (t : Rd → Rd × Int) : Prop :=
 Enters F ∧ ∀ (rd : Rd) (w : World), RdAt w g rd → Calls Tryz.prog F (#[.pointer (some ⟨g, 0, none⟩)] ++ caps) w (TkH g w (t rd).1 (t rd).2)
def SomeH (g : Nat) (w : World) (res : Rd × List Int) (e : Ending) (w' : World) : Prop :=
 ∃ A n c, e = .returned (.slice A n c) ∧ SlW A n c ∧ ArrQ (fun b => w.heap.size ≤ b) w' 1 ((fun _ => IntR .i64) w') A n res.2 ∧ RdAt w' g res.1 ∧ Only g w w'
theorem someH_any (g : Nat) (F : Nat) (caps : Array Value) (t : Rd → Rd × Int) (most : Int) (rd : Rd) (w : World) (hR : RdAt w g rd) (hF : TakesH g F caps t) :
  Calls Tryz.prog 79 #[.pointer (some ⟨g, 0, none⟩), .int .i64 most, .func (.func F) #[] caps] w (SomeH g w (someB t most rd)) := by
 have HF := hid hF
 have HR := hid hR
 have hg : g < w.heap.size := hR.lt
 clear hF hR
 go_enter Tryz.func79, Tryz.ntmps79
 go_wp2_with fail
 refine (num_any g rd most _ HR.out).mono ?_
 rintro e w1 ⟨rfl, hr1, ho1⟩
 have hN := Rd.num_le rd most
 have hb := bnd_le most
 obtain ⟨N, hNe⟩ : ∃ N, N = (rd.num most).2 := ⟨_, rfl⟩
 obtain ⟨r1, hre⟩ : ∃ r1, r1 = (rd.num most).1 := ⟨_, rfl⟩
 rw [← hre] at hr1
 rw [← hNe] at hN ⊢
 have HS : Hid (someB t most rd = someL t N r1 []) := hid (by unfold someB; rw [← hNe, ← hre])
 have hN2 : N ≤ 2147483647 := by omega
 have HR1 := hid hr1
 have HO1 := hid ho1
 clear hNe hre hr1 ho1 hN hb
 go_wp2_with fail
 go_loopw [7, 12] (fun v i wr => ∃ (k : Nat) (rk : Rd) (acc : List (Int)) (us : List Value), k ≤ N ∧ i = .int .i64 k ∧ Hid (someL t (N - k) rk acc = someL t N r1 []) ∧ Hid (acc.length = k) ∧ Hid (wr.ownsRow w.heap.size 3 1 v k us) ∧ Hid (RowsOf (IntR .i64) 1 us acc) ∧ Hid (RdAt wr g rk) ∧ Hid (Only g w wr)) (fun _ i _ => N - (intOf i).toNat)
 case atStart => exact ⟨0, r1, [], [], Nat.zero_le _, rfl, hid (by rw [Nat.sub_zero]), hid rfl, hid own_nil, hid rfl, HR1, HO1⟩
 case round =>
  obtain ⟨k, rk, acc, us, hk, rfl, HL, HA, HW, HU, HRk, HO⟩ := hrel
  have hlr : w.heap.size ≤ wr.heap.size := HO.out.size
  by_cases hlt : k < N
  ·have HSt := hid (@some_stop _ t N k rk acc hlt)
   have HNx := hid (@some_next _ t N k rk acc hlt)
   go_wp2_with fail
   rw [HF.out.1, Oper.upon_enter]
   refine (HF.out.2 rk _ HRk.out).mono ?_
   rintro e w2 ⟨rfl, -, hr2, ho2⟩
   obtain ⟨y, hy⟩ : ∃ y, y = (t rk).2 := ⟨_, rfl⟩
   obtain ⟨r2, hr2e⟩ : ∃ r2, r2 = (t rk).1 := ⟨_, rfl⟩
   rw [← hr2e] at hr2 HSt HNx
   rw [← hy] at HNx ⊢
   have HR2 := hid hr2
   have HO2 := hid (HO.out.trans ho2)
   have HO2x := hid ho2
   have HW2 := hid (own_only HW.out ho2 hg)
   obtain ⟨A0, n0, c0, hg0, -, -, -, -, -⟩ := hr2
   obtain ⟨q0, q1⟩ := blk_rules hg0
   have hgl : g < w2.heap.size := (Array.getElem?_eq_some_iff.1 hg0).1
   have hl2 : w.heap.size ≤ w2.heap.size := Nat.le_trans hlr ho2.size
   have hkz : k < 4294967296 := by omega
   clear hg0 hy hr2e ho2
   by_cases he : r2.e = 0
   ·have hb1 : (r2.e != 0) = false := by simpa using he
    have HNx2 := hid (HNx.out he)
    clear he
    have hFk := flat_k w2 [.int .i64 y] 3 rfl
    have HFk := hid hFk
    clear hFk
    go_wp2_with (at_builtin
                 obtain ⟨v', w3, hrun, hown3, hg3, hnw⟩ := run_append_flat elem_int 32 (own_up HW2.out (Ext.new w2 (.cells #[.int .i64 y] 3))) 1 HFk.out (by simp [Value.oneCell']) (by omega) (by omega) (by simp; omega) (fun h => by cases h)
                 refine Lib.wpList_append_run _ rfl _ _ _ _ rfl _ _ rfl rfl v' w3 hrun ?_)
    have HO3 : Hid (Only g w w3) := hid (only_grown HO2.out (Ext.new w2 (.cells #[.int .i64 y] 3)) hg3 (own_up HW2.out (Ext.new w2 (.cells #[.int .i64 y] 3))) (Nat.le_refl _))
    have HR3 : Hid (RdAt w3 g r2) := hid (rdat_grown (HR2.out.up (Ext.new w2 (.cells #[.int .i64 y] 3))) hg3 (own_up HW2.out (Ext.new w2 (.cells #[.int .i64 y] 3))) hg)
    have HU3 : Hid (RowsOf (IntR .i64) 1 (us ++ [.int .i64 y]) (acc ++ [y])) := hid (RowsOf.snoc (R := (IntR .i64)) (cs := [.int .i64 y]) rfl (show (IntR .i64) _ y from rfl) HU.out)
    have HA3 : Hid ((acc ++ [y]).length = k + 1) := hid (by rw [List.length_append, HA.out]; rfl)
    have HL3 : Hid (someL t (N - (k + 1)) r2 (acc ++ [y]) = someL t N r1 []) := hid (by rw [← HNx2.out]; exact HL.out)
    have HW3 := hid hown3
    clear hown3 hg3 hrun hnw q0 q1
    go_roundw
    case rel => exact ⟨k + 1, r2, acc ++ [y], _, by omega, by go_num, HL3, HA3, HW3, HU3, HR3, HO3⟩
    case measure => simp [intOf]; omega
   ·have hb1 : (r2.e != 0) = true := by simpa using he
    have HE : Hid (someB t most rd = (r2, [])) := hid (by rw [HS.out, ← HL.out]; exact HSt.out he)
    clear he
    go_wp2_with fail
    go_ret
    rw [HE.out]
    exact ⟨none, 0, 0, rfl, SlW.nil_, ArrQ.nil_, HR2.out, HO2.out⟩
  ·obtain rfl : k = N := by omega
   have HE : Hid (someB t most rd = (rk, acc)) := hid (by rw [HS.out, ← HL.out, Nat.sub_self]; rfl)
   have HLT := hid HW.out.lt
   obtain ⟨A, c, rfl, h1, h2, h3, hF⟩ := own_flat HW.out
   have HFl := hid hF
   have HSl : Hid (SlW A k c) := hid ⟨h1, h2, h3⟩
   clear hF h1 h2 h3
   go_wp2_with fail
   go_ret
   rw [HE.out]
   exact ⟨A, k, c, rfl, HSl.out, HFl.out.arrQ HU.out (by omega) (fun b o e hb => by subst e; exact (HLT.out b rfl).1), HRk.out, HO.out⟩
set_option linter.unusedVariables false
open Go.RowKit
def TkK (g : Nat) (w : World) (r' : Rd) (y : Ky) (e : Ending) (w' : World) : Prop := e = .returned (.agg #[.int .i64 y.kind, .string y.name]) ∧ y.name.size ≤ maxLen ∧ RdAt w' g r' ∧ Only g w w'
def TakesK (g : Nat) (F : Nat) (caps : Array Value) (t : Rd → Rd × Ky) : Prop :=
 Enters F ∧ ∀ (rd : Rd) (w : World), RdAt w g rd → Calls Tryz.prog F (#[.pointer (some ⟨g, 0, none⟩)] ++ caps) w (TkK g w (t rd).1 (t rd).2)
def SomeK (g : Nat) (w : World) (res : Rd × List Ky) (e : Ending) (w' : World) : Prop :=
 ∃ A n c, e = .returned (.slice A n c) ∧ SlW A n c ∧ ArrQ (fun b => w.heap.size ≤ b) w' 2 ((fun _ => KyQ) w') A n res.2 ∧ RdAt w' g res.1 ∧ Only g w w'
theorem someK_any (g : Nat) (F : Nat) (caps : Array Value) (t : Rd → Rd × Ky) (most : Int) (rd : Rd) (w : World) (hR : RdAt w g rd) (hF : TakesK g F caps t) :
  Calls Tryz.prog 90 #[.pointer (some ⟨g, 0, none⟩), .int .i64 most, .func (.func F) #[] caps] w (SomeK g w (someB t most rd)) := by
 have HF := hid hF
 have HR := hid hR
 have hg : g < w.heap.size := hR.lt
 clear hF hR
 go_enter Tryz.func90, Tryz.ntmps90
 go_wp2_with fail
 refine (num_any g rd most _ HR.out).mono ?_
 rintro e w1 ⟨rfl, hr1, ho1⟩
 have hN := Rd.num_le rd most
 have hb := bnd_le most
 obtain ⟨N, hNe⟩ : ∃ N, N = (rd.num most).2 := ⟨_, rfl⟩
 obtain ⟨r1, hre⟩ : ∃ r1, r1 = (rd.num most).1 := ⟨_, rfl⟩
 rw [← hre] at hr1
 rw [← hNe] at hN ⊢
 have HS : Hid (someB t most rd = someL t N r1 []) := hid (by unfold someB; rw [← hNe, ← hre])
 have hN2 : N ≤ 2147483647 := by omega
 have HR1 := hid hr1
 have HO1 := hid ho1
 clear hNe hre hr1 ho1 hN hb
 go_wp2_with fail
 go_loopw [7, 12] (fun v i wr => ∃ (k : Nat) (rk : Rd) (acc : List (Ky)) (us : List Value), k ≤ N ∧ i = .int .i64 k ∧ Hid (someL t (N - k) rk acc = someL t N r1 []) ∧ Hid (acc.length = k) ∧ Hid (wr.ownsRow w.heap.size 38 2 v k us) ∧ Hid (RowsOf KyQ 2 us acc) ∧ Hid (RdAt wr g rk) ∧ Hid (Only g w wr)) (fun _ i _ => N - (intOf i).toNat)
 case atStart => exact ⟨0, r1, [], [], Nat.zero_le _, rfl, hid (by rw [Nat.sub_zero]), hid rfl, hid own_nil, hid rfl, HR1, HO1⟩
 case round =>
  obtain ⟨k, rk, acc, us, hk, rfl, HL, HA, HW, HU, HRk, HO⟩ := hrel
  have hlr : w.heap.size ≤ wr.heap.size := HO.out.size
  by_cases hlt : k < N
  ·have HSt := hid (@some_stop _ t N k rk acc hlt)
   have HNx := hid (@some_next _ t N k rk acc hlt)
   go_wp2_with fail
   rw [HF.out.1, Oper.upon_enter]
   refine (HF.out.2 rk _ HRk.out).mono ?_
   rintro e w2 ⟨rfl, hsz, hr2, ho2⟩
   obtain ⟨y, hy⟩ : ∃ y, y = (t rk).2 := ⟨_, rfl⟩
   obtain ⟨r2, hr2e⟩ : ∃ r2, r2 = (t rk).1 := ⟨_, rfl⟩
   rw [← hr2e] at hr2 HSt HNx
   rw [← hy] at HNx hsz ⊢
   have HR2 := hid hr2
   have HO2 := hid (HO.out.trans ho2)
   have HO2x := hid ho2
   have HW2 := hid (own_only HW.out ho2 hg)
   have HSZ := hid hsz
   obtain ⟨A0, n0, c0, hg0, -, -, -, -, -⟩ := hr2
   obtain ⟨q0, q1⟩ := blk_rules hg0
   have hgl : g < w2.heap.size := (Array.getElem?_eq_some_iff.1 hg0).1
   have hl2 : w.heap.size ≤ w2.heap.size := Nat.le_trans hlr ho2.size
   have hkz : k < 4294967296 := by omega
   clear hg0 hy hr2e ho2 hsz
   by_cases he : r2.e = 0
   ·have hb1 : (r2.e != 0) = false := by simpa using he
    have HNx2 := hid (HNx.out he)
    clear he
    have hFk := flat_k (w2.alloc (.cells #[.int .i64 y.kind, .string y.name] 38)) [.int .i64 y.kind, .string y.name] 38 rfl
    simp only [World.size_alloc] at hFk
    have HFk := hid hFk
    clear hFk
    go_wp2_with (at_builtin
                 obtain ⟨v', w3, hrun, hown3, hg3, hnw⟩ := run_append_flat elem_key 46 (own_up HW2.out (((Ext.refl w2).alloc (.cells #[.int .i64 y.kind, .string y.name] 38)).alloc (.cells #[.int .i64 y.kind, .string y.name] 38))) 1 HFk.out (by simp [Value.oneCell']) (by omega) (by omega) (by simp; omega) (fun h => by cases h)
                 refine Lib.wpList_append_run _ rfl _ _ _ _ rfl _ _ rfl rfl v' w3 hrun ?_)
    have HO3 : Hid (Only g w w3) := hid (only_grown HO2.out (((Ext.refl w2).alloc (.cells #[.int .i64 y.kind, .string y.name] 38)).alloc (.cells #[.int .i64 y.kind, .string y.name] 38)) hg3 (own_up HW2.out (((Ext.refl w2).alloc (.cells #[.int .i64 y.kind, .string y.name] 38)).alloc (.cells #[.int .i64 y.kind, .string y.name] 38))) (Nat.le_refl _))
    have HR3 : Hid (RdAt w3 g r2) := hid (rdat_grown (HR2.out.up (((Ext.refl w2).alloc (.cells #[.int .i64 y.kind, .string y.name] 38)).alloc (.cells #[.int .i64 y.kind, .string y.name] 38))) hg3 (own_up HW2.out (((Ext.refl w2).alloc (.cells #[.int .i64 y.kind, .string y.name] 38)).alloc (.cells #[.int .i64 y.kind, .string y.name] 38))) hg)
    have HU3 : Hid (RowsOf KyQ 2 (us ++ [.int .i64 y.kind, .string y.name]) (acc ++ [y])) := hid (RowsOf.snoc (R := KyQ) (cs := [.int .i64 y.kind, .string y.name]) rfl (show KyQ _ y from ⟨rfl, HSZ.out⟩) HU.out)
    have HA3 : Hid ((acc ++ [y]).length = k + 1) := hid (by rw [List.length_append, HA.out]; rfl)
    have HL3 : Hid (someL t (N - (k + 1)) r2 (acc ++ [y]) = someL t N r1 []) := hid (by rw [← HNx2.out]; exact HL.out)
    have HW3 := hid hown3
    clear hown3 hg3 hrun hnw q0 q1
    go_roundw
    case rel => exact ⟨k + 1, r2, acc ++ [y], _, by omega, by go_num, HL3, HA3, HW3, HU3, HR3, HO3⟩
    case measure => simp [intOf]; omega
   ·have hb1 : (r2.e != 0) = true := by simpa using he
    have HE : Hid (someB t most rd = (r2, [])) := hid (by rw [HS.out, ← HL.out]; exact HSt.out he)
    clear he
    go_wp2_with fail
    go_ret
    rw [HE.out]
    exact ⟨none, 0, 0, rfl, SlW.nil_, ArrQ.nil_, HR2.out.up (Ext.new _ _), HO2.out.trans (Only.of_ext (Ext.new _ _))⟩
  ·obtain rfl : k = N := by omega
   have HE : Hid (someB t most rd = (rk, acc)) := hid (by rw [HS.out, ← HL.out, Nat.sub_self]; rfl)
   have HLT := hid HW.out.lt
   obtain ⟨A, c, rfl, h1, h2, h3, hF⟩ := own_flat HW.out
   have HFl := hid hF
   have HSl : Hid (SlW A k c) := hid ⟨h1, h2, h3⟩
   clear hF h1 h2 h3
   go_wp2_with fail
   go_ret
   rw [HE.out]
   exact ⟨A, k, c, rfl, HSl.out, HFl.out.arrQ HU.out (by omega) (fun b o e hb => by subst e; exact (HLT.out b rfl).1), HRk.out, HO.out⟩
set_option linter.unusedVariables false
open Go.RowKit
def TkR (g : Nat) (w : World) (r' : Rd) (r : Rs) (e : Ending) (w' : World) : Prop := ∃ (B : Option Addr) (m d : Nat) (B' : Option Addr) (m' d' : Nat), e = .returned ((rsVal r B m d B' m' d')) ∧ RsV (fun b => w.heap.size ≤ b) w' r B m d B' m' d' ∧ RdAt w' g r' ∧ Only g w w'
def TakesR (g : Nat) (F : Nat) (caps : Array Value) (t : Rd → Rd × Rs) : Prop :=
 Enters F ∧ ∀ (rd : Rd) (w : World), RdAt w g rd → Calls Tryz.prog F (#[.pointer (some ⟨g, 0, none⟩)] ++ caps) w (TkR g w (t rd).1 (t rd).2)
def SomeR (g : Nat) (w : World) (res : Rd × List Rs) (e : Ending) (w' : World) : Prop :=
 ∃ A n c, e = .returned (.slice A n c) ∧ SlW A n c ∧ ArrQ (fun b => w.heap.size ≤ b) w' 7 ((fun wx => RsQ (fun b => w.heap.size ≤ b) wx) w') A n res.2 ∧ RdAt w' g res.1 ∧ Only g w w'
theorem someR_any (g : Nat) (F : Nat) (caps : Array Value) (t : Rd → Rd × Rs) (most : Int) (rd : Rd) (w : World) (hR : RdAt w g rd) (hF : TakesR g F caps t) :
  Calls Tryz.prog 89 #[.pointer (some ⟨g, 0, none⟩), .int .i64 most, .func (.func F) #[] caps] w (SomeR g w (someB t most rd)) := by
 have HF := hid hF
 have HR := hid hR
 have hg : g < w.heap.size := hR.lt
 clear hF hR
 go_enter Tryz.func89, Tryz.ntmps89
 go_wp2_with fail
 refine (num_any g rd most _ HR.out).mono ?_
 rintro e w1 ⟨rfl, hr1, ho1⟩
 have hN := Rd.num_le rd most
 have hb := bnd_le most
 obtain ⟨N, hNe⟩ : ∃ N, N = (rd.num most).2 := ⟨_, rfl⟩
 obtain ⟨r1, hre⟩ : ∃ r1, r1 = (rd.num most).1 := ⟨_, rfl⟩
 rw [← hre] at hr1
 rw [← hNe] at hN ⊢
 have HS : Hid (someB t most rd = someL t N r1 []) := hid (by unfold someB; rw [← hNe, ← hre])
 have hN2 : N ≤ 2147483647 := by omega
 have HR1 := hid hr1
 have HO1 := hid ho1
 clear hNe hre hr1 ho1 hN hb
 go_wp2_with fail
 go_loopw [7, 12] (fun v i wr => ∃ (k : Nat) (rk : Rd) (acc : List (Rs)) (us : List Value), k ≤ N ∧ i = .int .i64 k ∧ Hid (someL t (N - k) rk acc = someL t N r1 []) ∧ Hid (acc.length = k) ∧ Hid (wr.ownsRow w.heap.size 34 7 v k us) ∧ Hid (RowsOf (RsQ (Sx w.heap.size v) wr) 7 us acc) ∧ Hid (RdAt wr g rk) ∧ Hid (Only g w wr)) (fun _ i _ => N - (intOf i).toNat)
 case atStart => exact ⟨0, r1, [], [], Nat.zero_le _, rfl, hid (by rw [Nat.sub_zero]), hid rfl, hid own_nil, hid rfl, HR1, HO1⟩
 case round =>
  obtain ⟨k, rk, acc, us, hk, rfl, HL, HA, HW, HU, HRk, HO⟩ := hrel
  have hlr : w.heap.size ≤ wr.heap.size := HO.out.size
  by_cases hlt : k < N
  ·have HSt := hid (@some_stop _ t N k rk acc hlt)
   have HNx := hid (@some_next _ t N k rk acc hlt)
   go_wp2_with fail
   rw [HF.out.1, Oper.upon_enter]
   refine (HF.out.2 rk _ HRk.out).mono ?_
   rintro e w2 ⟨B, m, d, B', m', d', rfl, hv, hr2, ho2⟩
   obtain ⟨y, hy⟩ : ∃ y, y = (t rk).2 := ⟨_, rfl⟩
   obtain ⟨r2, hr2e⟩ : ∃ r2, r2 = (t rk).1 := ⟨_, rfl⟩
   rw [← hr2e] at hr2 HSt HNx
   rw [← hy] at HNx hv ⊢
   have HR2 := hid hr2
   have HO2 := hid (HO.out.trans ho2)
   have HO2x := hid ho2
   have HW2 := hid (own_only HW.out ho2 hg)
   have HV := hid hv
   obtain ⟨A0, n0, c0, hg0, -, -, -, -, -⟩ := hr2
   obtain ⟨q0, q1⟩ := blk_rules hg0
   have hgl : g < w2.heap.size := (Array.getElem?_eq_some_iff.1 hg0).1
   have hl2 : w.heap.size ≤ w2.heap.size := Nat.le_trans hlr ho2.size
   have hkz : k < 4294967296 := by omega
   clear hg0 hy hr2e ho2 hv
   by_cases he : r2.e = 0
   ·have hb1 : (r2.e != 0) = false := by simpa using he
    have HNx2 := hid (HNx.out he)
    clear he
    have hFk := flat_k (w2.alloc (.cells #[.int .i64 y.kind, .string y.name, .int .i64 y.ver, .int .i64 y.port, .string y.to, .slice B m d, .slice B' m' d'] 34)) [.int .i64 y.kind, .string y.name, .int .i64 y.ver, .int .i64 y.port, .string y.to, .slice B m d, .slice B' m' d'] 34 rfl
    simp only [World.size_alloc] at hFk
    have HFk := hid hFk
    clear hFk
    go_wp2_with (at_builtin
                 obtain ⟨v', w3, hrun, hown3, hg3, hnw⟩ := run_append_flat elem_res 42 (own_up HW2.out (((Ext.refl w2).alloc (.cells #[.int .i64 y.kind, .string y.name, .int .i64 y.ver, .int .i64 y.port, .string y.to, .slice B m d, .slice B' m' d'] 34)).alloc (.cells #[.int .i64 y.kind, .string y.name, .int .i64 y.ver, .int .i64 y.port, .string y.to, .slice B m d, .slice B' m' d'] 34))) 1 HFk.out (by simp [Value.oneCell']) (by omega) (by omega) (by simp; omega) (fun h => by cases h)
                 refine Lib.wpList_append_run _ rfl _ _ _ _ rfl _ _ rfl rfl v' w3 hrun ?_)
    have HO3 : Hid (Only g w w3) := hid (only_grown HO2.out (((Ext.refl w2).alloc (.cells #[.int .i64 y.kind, .string y.name, .int .i64 y.ver, .int .i64 y.port, .string y.to, .slice B m d, .slice B' m' d'] 34)).alloc (.cells #[.int .i64 y.kind, .string y.name, .int .i64 y.ver, .int .i64 y.port, .string y.to, .slice B m d, .slice B' m' d'] 34)) hg3 (own_up HW2.out (((Ext.refl w2).alloc (.cells #[.int .i64 y.kind, .string y.name, .int .i64 y.ver, .int .i64 y.port, .string y.to, .slice B m d, .slice B' m' d'] 34)).alloc (.cells #[.int .i64 y.kind, .string y.name, .int .i64 y.ver, .int .i64 y.port, .string y.to, .slice B m d, .slice B' m' d'] 34))) (Nat.le_refl _))
    have HR3 : Hid (RdAt w3 g r2) := hid (rdat_grown (HR2.out.up (((Ext.refl w2).alloc (.cells #[.int .i64 y.kind, .string y.name, .int .i64 y.ver, .int .i64 y.port, .string y.to, .slice B m d, .slice B' m' d'] 34)).alloc (.cells #[.int .i64 y.kind, .string y.name, .int .i64 y.ver, .int .i64 y.port, .string y.to, .slice B m d, .slice B' m' d'] 34))) hg3 (own_up HW2.out (((Ext.refl w2).alloc (.cells #[.int .i64 y.kind, .string y.name, .int .i64 y.ver, .int .i64 y.port, .string y.to, .slice B m d, .slice B' m' d'] 34)).alloc (.cells #[.int .i64 y.kind, .string y.name, .int .i64 y.ver, .int .i64 y.port, .string y.to, .slice B m d, .slice B' m' d'] 34))) hg)
    have HU3 : Hid (RowsOf (RsQ (Sx w.heap.size v') w3) 7 (us ++ [.int .i64 y.kind, .string y.name, .int .i64 y.ver, .int .i64 y.port, .string y.to, .slice B m d, .slice B' m' d']) (acc ++ [y])) := hid (rows_grow RsQ (fun _ _ _ _ _ h k => h.keep k) (fun _ _ _ _ _ h k => h.weak k) HU.out HO2x.out hg (((Ext.refl w2).alloc (.cells #[.int .i64 y.kind, .string y.name, .int .i64 y.ver, .int .i64 y.port, .string y.to, .slice B m d, .slice B' m' d'] 34)).alloc (.cells #[.int .i64 y.kind, .string y.name, .int .i64 y.ver, .int .i64 y.port, .string y.to, .slice B m d, .slice B' m' d'] 34)) hg3 hnw HW.out hlr ⟨_, _, _, _, _, _, rfl, HV.out⟩ rfl)
    have HA3 : Hid ((acc ++ [y]).length = k + 1) := hid (by rw [List.length_append, HA.out]; rfl)
    have HL3 : Hid (someL t (N - (k + 1)) r2 (acc ++ [y]) = someL t N r1 []) := hid (by rw [← HNx2.out]; exact HL.out)
    have HW3 := hid hown3
    clear hown3 hg3 hrun hnw q0 q1
    go_roundw
    case rel => exact ⟨k + 1, r2, acc ++ [y], _, by omega, by go_num, HL3, HA3, HW3, HU3, HR3, HO3⟩
    case measure => simp [intOf]; omega
   ·have hb1 : (r2.e != 0) = true := by simpa using he
    have HE : Hid (someB t most rd = (r2, [])) := hid (by rw [HS.out, ← HL.out]; exact HSt.out he)
    clear he
    go_wp2_with fail
    go_ret
    rw [HE.out]
    exact ⟨none, 0, 0, rfl, SlW.nil_, ArrQ.nil_, HR2.out.up (Ext.new _ _), HO2.out.trans (Only.of_ext (Ext.new _ _))⟩
  ·obtain rfl : k = N := by omega
   have HE : Hid (someB t most rd = (rk, acc)) := hid (by rw [HS.out, ← HL.out, Nat.sub_self]; rfl)
   have HLT := hid HW.out.lt
   obtain ⟨A, c, rfl, h1, h2, h3, hF⟩ := own_flat HW.out
   have HFl := hid hF
   have HSl : Hid (SlW A k c) := hid ⟨h1, h2, h3⟩
   clear hF h1 h2 h3
   go_wp2_with fail
   go_ret
   rw [HE.out]
   exact ⟨A, k, c, rfl, HSl.out, HFl.out.arrQ (HU.out.mono fun _ _ h => h.weak fun _ _ h => h.1) (by omega) (fun b o e hb => by subst e; exact (HLT.out b rfl).1), HRk.out, HO.out⟩
end Go.Proofs.YtfdjbnofcniodaaGreatDoor
