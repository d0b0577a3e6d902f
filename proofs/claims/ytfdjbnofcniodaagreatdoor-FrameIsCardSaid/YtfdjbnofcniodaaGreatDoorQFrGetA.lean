/- What frame.Get gets. -/
import Derived.Test.YtfdjbnofcniodaaGreatDoorQFrPlainAll
import Derived.Test.YtfdjbnofcniodaaGreatDoorQFrA
import Derived.Test.YtfdjbnofcniodaaGreatDoorQTakeAll
import Derived.Test.YtfdjbnofcniodaaGreatDoorQFrD
namespace Go.Proofs.YtfdjbnofcniodaaGreatDoor
open Lib (hid)
set_option maxHeartbeats 16000000
set_option maxRecDepth 100000
set_option linter.unusedVariables false
open Go.RowKit
theorem own_set {w : World} {base size n p i : Nat} {e : TypeId} {v : Value} {xs : List Value} {u : Value} (h : w.ownsRow base e size v n xs) (hp : ∀ b, v.ownBlock = some b → b ≠ p) : (w.setCell ⟨p, i, none⟩ u).ownsRow base e size v n xs := by
 refine ⟨h.1, ?_⟩
 rcases h.2 with hn | ⟨b, cap, cur, rfl, hb, hh, rest⟩
 ·exact .inl hn
 ·exact .inr ⟨b, cap, cur, rfl, hb, (blk_far (hp b rfl) u).trans hh, rest⟩
def SomeM (g : Nat) (w : World) (res : Rd × List (Ky × Int)) (e : Ending) (w' : World) : Prop :=
 ∃ A n c, e = .returned (.slice A n c) ∧ SlW A n c ∧ ArrQ (fun b => w.heap.size ≤ b) w' 3 MkQ A n res.2 ∧ RdAt w' g res.1 ∧ Only g w w'
theorem frHave_any (g : Nat) (rd : Rd) (w : World) (hR : RdAt w g rd) :
  Calls Tryz.prog 135 #[.pointer (some ⟨g, 0, none⟩)] w (SomeM g w (someB takeM 64 rd)) := by
 have HR := hid hR
 have hg : g < w.heap.size := hR.lt
 clear hR
 go_enter Tryz.func135, Tryz.ntmps135
 go_wp2_with fail
 refine (num_any g rd 64 _ HR.out).mono ?_
 rintro e w1 ⟨rfl, hr1, ho1⟩
 have hN := Rd.num_le rd 64
 rw [bnd64] at hN
 obtain ⟨N, hNe⟩ : ∃ N, N = (rd.num 64).2 := ⟨_, rfl⟩
 obtain ⟨r1, hre⟩ : ∃ r1, r1 = (rd.num 64).1 := ⟨_, rfl⟩
 rw [← hre] at hr1
 rw [← hNe] at hN ⊢
 have HS : Hid (someB takeM 64 rd = someL takeM N r1 []) := hid (by unfold someB; rw [← hNe, ← hre])
 have HR1 := hid hr1
 have HO1 := hid ho1
 clear hNe hre hr1 ho1
 go_wp2_with fail
 go_loopw [3, 7] (fun v i wr => ∃ (k : Nat) (rk : Rd) (acc : List (Ky × Int)) (us : List Value), k ≤ N ∧ i = .int .i64 k ∧ Hid (someL takeM (N - k) rk acc = someL takeM N r1 []) ∧ Hid (acc.length = k) ∧ Hid (wr.ownsRow w.heap.size 152 3 v k us) ∧ Hid (RowsOf MkQ 3 us acc) ∧ Hid (RdAt wr g rk) ∧ Hid (Only g w wr)) (fun _ i _ => N - (intOf i).toNat)
 case atStart => exact ⟨0, r1, [], [], Nat.zero_le _, rfl, hid (by rw [Nat.sub_zero]), hid rfl, hid own_nil, hid rfl, HR1, HO1⟩
 case round =>
  obtain ⟨k, rk, acc, us, hk, rfl, HL, HA, HW, HU, HRk, HO⟩ := hrel
  have hlr : w.heap.size ≤ wr.heap.size := HO.out.size
  by_cases hlt : k < N
  ·have HSt := hid (@some_stop _ takeM N k rk acc hlt)
   have HNx := hid (@some_next _ takeM N k rk acc hlt)
   go_wp2_with fail
   refine ((takeKey_takes g).2 rk _ HRk.out).mono ?_
   rintro e w2 ⟨rfl, hsz, hr2, ho2⟩
   have HM1 := takeM_fst rk
   have HM2 := takeM_snd rk
   obtain ⟨y, hy⟩ : ∃ y, y = (takeK rk).2 := ⟨_, rfl⟩
   obtain ⟨r2, hr2e⟩ : ∃ r2, r2 = (takeK rk).1 := ⟨_, rfl⟩
   rw [← hr2e] at hr2 HM1 HM2
   rw [← hy] at hsz HM2 ⊢
   have HM1 := hid HM1
   have HM2 := hid HM2
   have HSZ := hid hsz
   have HR2 := hid hr2
   have HO2 := hid (HO.out.trans ho2)
   have HW2 := hid (own_only HW.out ho2 hg)
   have hl2 : w.heap.size ≤ w2.heap.size := Nat.le_trans hlr ho2.size
   have hgl : g < w2.heap.size := by omega
   clear hy hr2e ho2 hsz hr2
   go_wp2_with fail
   refine (num_any g r2 2147483647 _ (HR2.out.up (Ext.new _ _))).mono ?_
   rintro e w3 ⟨rfl, hr3, ho3⟩
   obtain ⟨r3, hr3e⟩ : ∃ r3, r3 = (r2.num 2147483647).1 := ⟨_, rfl⟩
   obtain ⟨v3, hv3e⟩ : ∃ v3 : Int, v3 = (((r2.num 2147483647).2 : Nat) : Int) := ⟨_, rfl⟩
   have HM1x : Hid ((takeM rk).1 = r3) := hid (by rw [HM1.out, hr3e])
   have HM2x : Hid ((takeM rk).2 = (y, v3)) := hid (by rw [HM2.out, hv3e])
   rw [← hr3e] at hr3
   rw [← hv3e]
   have HR3 := hid hr3
   have HK3 : Hid (w3.heap[w2.heap.size]? = some (.cells #[.int .i64 y.kind, .string y.name, .int .i64 0] 152 (0, 0))) := hid ((ho3.blk (b := w2.heap.size) (by simp) (by omega)).trans (heap_alloc_new w2 _))
   have HO3 := hid ((HO2.out.trans (Only.of_ext (Ext.new w2 (.cells #[.int .i64 y.kind, .string y.name, .int .i64 0] 152)))).trans ho3)
   have HW3 := hid (own_only (own_up HW2.out (Ext.new w2 (.cells #[.int .i64 y.kind, .string y.name, .int .i64 0] 152))) ho3 hg)
   have hz3 : w2.heap.size < w3.heap.size := by have := ho3.size; simp at this; omega
   clear hr3e hv3e hr3 ho3
   obtain ⟨q0, q1⟩ := blk_rules HK3.out
   obtain ⟨A0, n0, c0, hg0, -, -, -, -, -⟩ := HR3.out
   obtain ⟨p0, p1⟩ := blk_rules hg0
   clear hg0
   have HR4 := hid (HR3.out.setFar (p := w2.heap.size) (i := 2) (by omega) (.int .i64 v3))
   have HO4 := hid (HO3.out.setNew (p := w2.heap.size) (i := 2) (by omega) (.int .i64 v3))
   have hgl3 : g < w3.heap.size := by omega
   have hne : g ≠ w2.heap.size := by omega
   have hne' : w2.heap.size ≠ g := by omega
   have hkz : k < 4294967296 := by omega
   by_cases he : r3.e = 0
   ·have hb1 : (r3.e != 0) = false := by simpa using he
    have HNx2 : Hid (someL takeM (N - k) rk acc = someL takeM (N - (k + 1)) r3 (acc ++ [(y, v3)])) := hid (by rw [HNx.out (by rw [HM1x.out]; exact he), HM1x.out, HM2x.out])
    clear he
    have HW4 := hid (own_set (p := w2.heap.size) (i := 2) (u := .int .i64 v3) HW3.out (fun b hb => by have := (HW2.out.lt b hb).2; omega))
    have hFk := flat_k (w3.setCell ⟨w2.heap.size, 2, none⟩ (.int .i64 v3)) [.int .i64 y.kind, .string y.name, .int .i64 v3] 152 rfl
    rw [size_set] at hFk
    have hOW := own_up HW4.out (Ext.new (w3.setCell ⟨w2.heap.size, 2, none⟩ (.int .i64 v3)) (.cells #[.int .i64 y.kind, .string y.name, .int .i64 v3] 152))
    obtain ⟨v', w5, hrun, hown5, hg5, hnw⟩ := run_append_flat elem_mark 91 hOW 1 hFk (by simp [Value.oneCell']) (by omega) (by omega) (by rw [World.size_alloc, size_set]; omega) (fun h => by cases h)
    have HRUN := hid hrun
    have HO5 : Hid (Only g w w5) := hid (only_grown HO4.out (Ext.new (w3.setCell ⟨w2.heap.size, 2, none⟩ (.int .i64 v3)) (.cells #[.int .i64 y.kind, .string y.name, .int .i64 v3] 152)) hg5 hOW (Nat.le_refl _))
    have HR5 : Hid (RdAt w5 g r3) := hid (rdat_grown (HR4.out.up (Ext.new (w3.setCell ⟨w2.heap.size, 2, none⟩ (.int .i64 v3)) (.cells #[.int .i64 y.kind, .string y.name, .int .i64 v3] 152))) hg5 hOW hg)
    have HU5 : Hid (RowsOf MkQ 3 (us ++ [.int .i64 y.kind, .string y.name, .int .i64 v3]) (acc ++ [(y, v3)])) := hid (RowsOf.snoc (R := MkQ) (cs := [.int .i64 y.kind, .string y.name, .int .i64 v3]) rfl (show MkQ _ (y, v3) from ⟨rfl, HSZ.out⟩) HU.out)
    have HA5 : Hid ((acc ++ [(y, v3)]).length = k + 1) := hid (by rw [List.length_append, HA.out]; rfl)
    have HL5 : Hid (someL takeM (N - (k + 1)) r3 (acc ++ [(y, v3)]) = someL takeM N r1 []) := hid (by rw [← HNx2.out]; exact HL.out)
    have HW5 := hid hown5
    clear hown5 hg5 hrun hnw hOW hFk
    go_wp2_with (refine Lib.wpList_append_run _ rfl _ _ _ _ rfl _ _ rfl rfl v' w5 HRUN.out ?_)
    clear q0 q1 p0 p1
    go_roundw
    case rel => exact ⟨k + 1, r3, acc ++ [(y, v3)], _, by omega, by go_num, HL5, HA5, HW5, HU5, HR5, HO5⟩
    case measure => simp [intOf]; omega
   ·have hb1 : (r3.e != 0) = true := by simpa using he
    have HE : Hid (someB takeM 64 rd = (r3, [])) := hid (by rw [HS.out, ← HL.out, HSt.out (by rw [HM1x.out]; exact he), HM1x.out])
    clear he
    go_wp2_with fail
    go_ret
    rw [HE.out]
    exact ⟨none, 0, 0, rfl, SlW.nil_, ArrQ.nil_, HR4.out, HO4.out⟩
  ·obtain rfl : k = N := by omega
   have HE : Hid (someB takeM 64 rd = (rk, acc)) := hid (by rw [HS.out, ← HL.out, Nat.sub_self]; rfl)
   have HLT := hid HW.out.lt
   obtain ⟨A, c, rfl, h1, h2, h3, hF⟩ := own_flat HW.out
   have HFl := hid hF
   have HSl : Hid (SlW A k c) := hid ⟨h1, h2, h3⟩
   clear hF h1 h2 h3
   go_wp2_with fail
   go_ret
   rw [HE.out]
   exact ⟨A, k, c, rfl, HSl.out, HFl.out.arrQ HU.out (by omega) (fun b o e hb => by subst e; exact (HLT.out b rfl).1), HRk.out, HO.out⟩
set_option linter.unusedVariables false
open Go.RowKit
theorem set10 {w V : World} {p : Nat} {T : TypeId} {x0 x1 x2 x3 x4 x5 x6 x7 x8 x9 : Value} (h : w.heap[p]? = some (.cells #[x0, x1, x2, x3, x4, x5, x6, x7, x8, x9] T (0, 0))) (a0 a1 a2 a3 a4 a5 a6 a7 a8 a9 : Value)
  (hV : (((((((((w.setCell ⟨p, 0, none⟩ a0).setCell ⟨p, 1, none⟩ a1).setCell ⟨p, 2, none⟩ a2).setCell ⟨p, 3, none⟩ a3).setCell ⟨p, 4, none⟩ a4).setCell ⟨p, 5, none⟩ a5).setCell ⟨p, 6, none⟩ a6).setCell ⟨p, 7, none⟩ a7).setCell ⟨p, 8, none⟩ a8).setCell ⟨p, 9, none⟩ a9 = V) :
  V.heap[p]? = some (.cells #[a0, a1, a2, a3, a4, a5, a6, a7, a8, a9] T (0, 0)) ∧ (∀ {a : World} {g : Nat}, Only g a w → a.heap.size ≤ p → Only g a V) ∧ ∀ S : Nat → Prop, (∀ b, S b → b ≠ p) → Keep S w V := by
 subst hV
 refine ⟨?_, fun h hp => ?_, fun S hS => ?_⟩
 ·have e0 := h
  have e1 : (w.setCell ⟨p, 0, none⟩ a0).heap[p]? = some (.cells #[a0, x1, x2, x3, x4, x5, x6, x7, x8, x9] T (0, 0)) := blk_set (i := 0) e0 a0
  have e2 : ((w.setCell ⟨p, 0, none⟩ a0).setCell ⟨p, 1, none⟩ a1).heap[p]? = some (.cells #[a0, a1, x2, x3, x4, x5, x6, x7, x8, x9] T (0, 0)) := blk_set (i := 1) e1 a1
  have e3 : (((w.setCell ⟨p, 0, none⟩ a0).setCell ⟨p, 1, none⟩ a1).setCell ⟨p, 2, none⟩ a2).heap[p]? = some (.cells #[a0, a1, a2, x3, x4, x5, x6, x7, x8, x9] T (0, 0)) := blk_set (i := 2) e2 a2
  have e4 : ((((w.setCell ⟨p, 0, none⟩ a0).setCell ⟨p, 1, none⟩ a1).setCell ⟨p, 2, none⟩ a2).setCell ⟨p, 3, none⟩ a3).heap[p]? = some (.cells #[a0, a1, a2, a3, x4, x5, x6, x7, x8, x9] T (0, 0)) := blk_set (i := 3) e3 a3
  have e5 : (((((w.setCell ⟨p, 0, none⟩ a0).setCell ⟨p, 1, none⟩ a1).setCell ⟨p, 2, none⟩ a2).setCell ⟨p, 3, none⟩ a3).setCell ⟨p, 4, none⟩ a4).heap[p]? = some (.cells #[a0, a1, a2, a3, a4, x5, x6, x7, x8, x9] T (0, 0)) := blk_set (i := 4) e4 a4
  have e6 : ((((((w.setCell ⟨p, 0, none⟩ a0).setCell ⟨p, 1, none⟩ a1).setCell ⟨p, 2, none⟩ a2).setCell ⟨p, 3, none⟩ a3).setCell ⟨p, 4, none⟩ a4).setCell ⟨p, 5, none⟩ a5).heap[p]? = some (.cells #[a0, a1, a2, a3, a4, a5, x6, x7, x8, x9] T (0, 0)) := blk_set (i := 5) e5 a5
  have e7 : (((((((w.setCell ⟨p, 0, none⟩ a0).setCell ⟨p, 1, none⟩ a1).setCell ⟨p, 2, none⟩ a2).setCell ⟨p, 3, none⟩ a3).setCell ⟨p, 4, none⟩ a4).setCell ⟨p, 5, none⟩ a5).setCell ⟨p, 6, none⟩ a6).heap[p]? = some (.cells #[a0, a1, a2, a3, a4, a5, a6, x7, x8, x9] T (0, 0)) := blk_set (i := 6) e6 a6
  have e8 : ((((((((w.setCell ⟨p, 0, none⟩ a0).setCell ⟨p, 1, none⟩ a1).setCell ⟨p, 2, none⟩ a2).setCell ⟨p, 3, none⟩ a3).setCell ⟨p, 4, none⟩ a4).setCell ⟨p, 5, none⟩ a5).setCell ⟨p, 6, none⟩ a6).setCell ⟨p, 7, none⟩ a7).heap[p]? = some (.cells #[a0, a1, a2, a3, a4, a5, a6, a7, x8, x9] T (0, 0)) := blk_set (i := 7) e7 a7
  have e9 : (((((((((w.setCell ⟨p, 0, none⟩ a0).setCell ⟨p, 1, none⟩ a1).setCell ⟨p, 2, none⟩ a2).setCell ⟨p, 3, none⟩ a3).setCell ⟨p, 4, none⟩ a4).setCell ⟨p, 5, none⟩ a5).setCell ⟨p, 6, none⟩ a6).setCell ⟨p, 7, none⟩ a7).setCell ⟨p, 8, none⟩ a8).heap[p]? = some (.cells #[a0, a1, a2, a3, a4, a5, a6, a7, a8, x9] T (0, 0)) := blk_set (i := 8) e8 a8
  have e10 : ((((((((((w.setCell ⟨p, 0, none⟩ a0).setCell ⟨p, 1, none⟩ a1).setCell ⟨p, 2, none⟩ a2).setCell ⟨p, 3, none⟩ a3).setCell ⟨p, 4, none⟩ a4).setCell ⟨p, 5, none⟩ a5).setCell ⟨p, 6, none⟩ a6).setCell ⟨p, 7, none⟩ a7).setCell ⟨p, 8, none⟩ a8).setCell ⟨p, 9, none⟩ a9).heap[p]? = some (.cells #[a0, a1, a2, a3, a4, a5, a6, a7, a8, a9] T (0, 0)) := blk_set (i := 9) e9 a9
  exact e10
 ·have k0 := h
  have k1 := k0.setNew (i := 0) hp a0
  have k2 := k1.setNew (i := 1) hp a1
  have k3 := k2.setNew (i := 2) hp a2
  have k4 := k3.setNew (i := 3) hp a3
  have k5 := k4.setNew (i := 4) hp a4
  have k6 := k5.setNew (i := 5) hp a5
  have k7 := k6.setNew (i := 6) hp a6
  have k8 := k7.setNew (i := 7) hp a7
  have k9 := k8.setNew (i := 8) hp a8
  have k10 := k9.setNew (i := 9) hp a9
  exact k10
 ·have m0 := Keep.refl S w
  have m1 := m0.trans (Keep.setFar (i := 0) hS a0)
  have m2 := m1.trans (Keep.setFar (i := 1) hS a1)
  have m3 := m2.trans (Keep.setFar (i := 2) hS a2)
  have m4 := m3.trans (Keep.setFar (i := 3) hS a3)
  have m5 := m4.trans (Keep.setFar (i := 4) hS a4)
  have m6 := m5.trans (Keep.setFar (i := 5) hS a5)
  have m7 := m6.trans (Keep.setFar (i := 6) hS a6)
  have m8 := m7.trans (Keep.setFar (i := 7) hS a7)
  have m9 := m8.trans (Keep.setFar (i := 8) hS a8)
  have m10 := m9.trans (Keep.setFar (i := 9) hS a9)
  exact m10
def FGet (w : World) (x : Fr × Int) (e : Ending) (w' : World) : Prop := ∃ s, e = .returned (.tuple #[frVal x.1 s, .int .i64 x.2]) ∧ FrV (fun _ => True) w' x.1 s ∧ Ext w w'
theorem FrV.all {S : Nat → Prop} {w : World} {f : Fr} {s : FrS} (h : FrV S w f s) : FrV (fun _ => True) w f s :=
 ⟨h.sa, h.sg, h.sh, h.sk, h.adds.weak (fun _ _ _ => trivial), h.gone.weak (fun _ _ h => h) (fun _ _ _ => trivial), h.hav.weak (fun _ _ h => h) (fun _ _ _ => trivial), h.held.weak (fun _ _ h => h) (fun _ _ _ => trivial)⟩
theorem fget_out {w V : World} {b : List UInt8} {x : Fr × Int} {s : FrS} (h : getF b = x) (hV : FrV (fun _ => True) V x.1 s) (hE : Ext w V) : FGet w (getF b) (.returned (.tuple #[frVal x.1 s, .int .i64 x.2])) V := by
 rw [h]; exact ⟨s, rfl, hV, hE⟩
theorem frGet_any (A : Option Addr) (n c : Nat) (bs : List UInt8) (w : World) (hB : Byts w A n bs) (hc : A = none → c = 0) (hnc : n ≤ c) (hcm : c ≤ 9223372036854775807) :
  Calls Tryz.prog 66 #[.slice A n c] w (FGet w (getF bs)) := by
 have HR0 : Hid (RdAt (((w.alloc (.cells #[.int .i64 0, .int .i64 0, .int .i64 0, .int .i64 0, .int .i64 0, .slice none 0 0, .slice none 0 0, .int .i64 0, .slice none 0 0, .slice none 0 0] 93)).alloc (.cells #[.slice A n c, .int .i64 0] 27)).alloc (.cells #[.int .i64 0, .int .i64 0, .int .i64 0, .int .i64 0, .int .i64 0, .slice none 0 0, .slice none 0 0, .int .i64 0, .slice none 0 0, .slice none 0 0] 93)) (w.heap.size + 1) ⟨bs, 0⟩) := hid (by
  have h1 := (RdAt.box (w := w.alloc (.cells #[.int .i64 0, .int .i64 0, .int .i64 0, .int .i64 0, .int .i64 0, .slice none 0 0, .slice none 0 0, .int .i64 0, .slice none 0 0, .slice none 0 0] 93)) 0 (ArrR.up hB (Ext.new _ _)) hc hnc hcm).up (Ext.new _ (.cells #[.int .i64 0, .int .i64 0, .int .i64 0, .int .i64 0, .int .i64 0, .slice none 0 0, .slice none 0 0, .int .i64 0, .slice none 0 0, .slice none 0 0] 93))
  rw [World.size_alloc] at h1; exact h1)
 have hk4 : f0T bs = 0 ∨ f0T bs = 1 ∨ f0T bs = 2 ∨ f0T bs = 3 := by have := f0T_le bs; omega
 obtain ⟨K, hK⟩ : ∃ K : Int, K = ((f0T bs : Nat) : Int) := ⟨_, rfl⟩
 have HKK := hid hK
 have HKn : Hid ((((Rd.mk bs 0).num 3).2 : Nat) = K) := hid hK.symm
 have HOF : Hid (∀ (r : Rd) (f : Fr), takeF0 ⟨bs, 0⟩ = (r, f) → getF bs = if r.done ≠ 0 then (fr0, r.done) else if saneF f ≠ 0 then (fr0, saneF f) else (f, 0)) := hid (fun r f h => getF_of h)
 have HF0 := hid (@f0_hello bs)
 have HF1 := hid (@f0_push bs)
 have HF2 := hid (@f0_ack bs)
 have HF3 := hid (@f0_drain bs)
 clear hB hK
 go_enter Tryz.func66, Tryz.ntmps66
 go_wp2_with fail
 have HKR0 : Hid ((((w.alloc (.cells #[.int .i64 0, .int .i64 0, .int .i64 0, .int .i64 0, .int .i64 0, .slice none 0 0, .slice none 0 0, .int .i64 0, .slice none 0 0, .slice none 0 0] 93)).alloc (.cells #[.slice A n c, .int .i64 0] 27)).alloc (.cells #[.int .i64 0, .int .i64 0, .int .i64 0, .int .i64 0, .int .i64 0, .slice none 0 0, .slice none 0 0, .int .i64 0, .slice none 0 0, .slice none 0 0] 93)).heap[w.heap.size]? = some (.cells #[.int .i64 0, .int .i64 0, .int .i64 0, .int .i64 0, .int .i64 0, .slice none 0 0, .slice none 0 0, .int .i64 0, .slice none 0 0, .slice none 0 0] 93 (0, 0))) := hid ((((Ext.new _ _).alloc _).block (b := w.heap.size) (by simp)).trans (heap_alloc_new w _))
 have HKF0 : Hid ((((w.alloc (.cells #[.int .i64 0, .int .i64 0, .int .i64 0, .int .i64 0, .int .i64 0, .slice none 0 0, .slice none 0 0, .int .i64 0, .slice none 0 0, .slice none 0 0] 93)).alloc (.cells #[.slice A n c, .int .i64 0] 27)).alloc (.cells #[.int .i64 0, .int .i64 0, .int .i64 0, .int .i64 0, .int .i64 0, .slice none 0 0, .slice none 0 0, .int .i64 0, .slice none 0 0, .slice none 0 0] 93)).heap[w.heap.size + 2]? = some (.cells #[.int .i64 0, .int .i64 0, .int .i64 0, .int .i64 0, .int .i64 0, .slice none 0 0, .slice none 0 0, .int .i64 0, .slice none 0 0, .slice none 0 0] 93 (0, 0))) := hid (by
  have h1 := heap_alloc_new ((w.alloc (.cells #[.int .i64 0, .int .i64 0, .int .i64 0, .int .i64 0, .int .i64 0, .slice none 0 0, .slice none 0 0, .int .i64 0, .slice none 0 0, .slice none 0 0] 93)).alloc (.cells #[.slice A n c, .int .i64 0] 27)) (.cells #[.int .i64 0, .int .i64 0, .int .i64 0, .int .i64 0, .int .i64 0, .slice none 0 0, .slice none 0 0, .int .i64 0, .slice none 0 0, .slice none 0 0] 93)
  rw [World.size_alloc, World.size_alloc] at h1; exact h1)
 have HO0 : Hid (Only (w.heap.size + 1) w (((w.alloc (.cells #[.int .i64 0, .int .i64 0, .int .i64 0, .int .i64 0, .int .i64 0, .slice none 0 0, .slice none 0 0, .int .i64 0, .slice none 0 0, .slice none 0 0] 93)).alloc (.cells #[.slice A n c, .int .i64 0] 27)).alloc (.cells #[.int .i64 0, .int .i64 0, .int .i64 0, .int .i64 0, .int .i64 0, .slice none 0 0, .slice none 0 0, .int .i64 0, .slice none 0 0, .slice none 0 0] 93))) := hid (Only.of_ext (((Ext.new w _).alloc _).alloc _))
 have hz0 : w.heap.size + 2 < (((w.alloc (.cells #[.int .i64 0, .int .i64 0, .int .i64 0, .int .i64 0, .int .i64 0, .slice none 0 0, .slice none 0 0, .int .i64 0, .slice none 0 0, .slice none 0 0] 93)).alloc (.cells #[.slice A n c, .int .i64 0] 27)).alloc (.cells #[.int .i64 0, .int .i64 0, .int .i64 0, .int .i64 0, .int .i64 0, .slice none 0 0, .slice none 0 0, .int .i64 0, .slice none 0 0, .slice none 0 0] 93)).heap.size := by simp only [World.size_alloc]; omega
 generalize ((w.alloc (.cells #[.int .i64 0, .int .i64 0, .int .i64 0, .int .i64 0, .int .i64 0, .slice none 0 0, .slice none 0 0, .int .i64 0, .slice none 0 0, .slice none 0 0] 93)).alloc (.cells #[.slice A n c, .int .i64 0] 27)).alloc (.cells #[.int .i64 0, .int .i64 0, .int .i64 0, .int .i64 0, .int .i64 0, .slice none 0 0, .slice none 0 0, .int .i64 0, .slice none 0 0, .slice none 0 0] 93) = w0 at HR0 HKR0 HKF0 HO0 hz0 ⊢
 refine (num_any (w.heap.size + 1) ⟨bs, 0⟩ 3 _ HR0.out).mono ?_
 rintro e w1 ⟨rfl, hr1, ho1⟩
 have HR1 := hid hr1
 have HKR1 := hid ((ho1.blk (b := w.heap.size) (by omega) (by omega)).trans HKR0.out)
 have HKF1 := hid ((ho1.blk (b := w.heap.size + 2) (by omega) (by omega)).trans HKF0.out)
 have HO1 := hid (HO0.out.trans ho1)
 have hz1 : w.heap.size + 2 < w1.heap.size := Nat.lt_of_lt_of_le hz0 ho1.size
 rw [HKn.out]
 clear hr1 ho1
 obtain ⟨qF0, qF1⟩ := blk_rules HKF1.out
 go_wp2_with fail
 clear qF0 qF1
 have HKR2 := hid ((blk_far (g := w.heap.size) (g' := w.heap.size + 2) (i := 0) (by omega) (.int .i64 K)).trans HKR1.out)
 have HKF2 : Hid (_ = some (Obj.cells #[.int .i64 K, .int .i64 0, .int .i64 0, .int .i64 0, .int .i64 0, .slice none 0 0, .slice none 0 0, .int .i64 0, .slice none 0 0, .slice none 0 0] 93 (0, 0))) := hid (blk_set (i := 0) HKF1.out (.int .i64 K))
 have HR2 := hid (HR1.out.setFar (p := w.heap.size + 2) (i := 0) (by omega) (.int .i64 K))
 have HO2 := hid (HO1.out.setNew (p := w.heap.size + 2) (i := 0) (by omega) (.int .i64 K))
 have hz2 : w.heap.size + 2 < (w1.setCell ⟨w.heap.size + 2, 0, none⟩ (.int .i64 K)).heap.size := by rw [size_set]; exact hz1
 generalize w1.setCell ⟨w.heap.size + 2, 0, none⟩ (.int .i64 K) = w2 at HKR2 HKF2 HR2 HO2 hz2 ⊢
 refine (num_any (w.heap.size + 1) _ 2147483647 _ HR2.out).mono ?_
 rintro e w3 ⟨rfl, hr3, ho3⟩
 have HR3 := hid hr3
 have HKR3 := hid ((ho3.blk (b := w.heap.size) (by omega) (by omega)).trans HKR2.out)
 have HKF3 := hid ((ho3.blk (b := w.heap.size + 2) (by omega) (by omega)).trans HKF2.out)
 have HO3 := hid (HO2.out.trans ho3)
 have hz3 : w.heap.size + 2 < w3.heap.size := Nat.lt_of_lt_of_le hz2 ho3.size
 clear hr3 ho3
 have HE0 : Hid ((((Rd.mk bs 0).num 3).1.num 2147483647).2 = f0E bs) := hid rfl
 rw [show (((Rd.mk bs 0).num 3).1.num 2147483647).1 = f0R bs from rfl] at HR3
 rw [HE0.out]
 rcases hk4 with hk | hk | hk | hk
 ·have b0 : (K == 0) = true := by rw [HKK.out, hk]; rfl
  have b1 : (K == 1) = false := by rw [HKK.out, hk]; rfl
  have b2 : (K == 2) = false := by rw [HKK.out, hk]; rfl
  have b3 : (K == 3) = false := by rw [HKK.out, hk]; rfl
  have hK0 : K = 0 := by rw [HKK.out, hk]; rfl
  have HKe : Hid (K = 0) := hid hK0
  clear hK0
  obtain ⟨qF0, qF1⟩ := blk_rules HKF3.out
  go_wp2_with fail
  clear qF0 qF1
  have HKR4 := hid ((blk_far (g := w.heap.size) (g' := w.heap.size + 2) (i := 1) (by omega) (.int .i64 (f0E bs : Nat))).trans HKR3.out)
  have HKF4 : Hid (_ = some (Obj.cells #[.int .i64 K, .int .i64 (f0E bs : Nat), .int .i64 0, .int .i64 0, .int .i64 0, .slice none 0 0, .slice none 0 0, .int .i64 0, .slice none 0 0, .slice none 0 0] 93 (0, 0))) := hid (blk_set (i := 1) HKF3.out (.int .i64 (f0E bs : Nat)))
  have HR4 := hid (HR3.out.setFar (p := w.heap.size + 2) (i := 1) (by omega) (.int .i64 (f0E bs : Nat)))
  have HO4 := hid (HO3.out.setNew (p := w.heap.size + 2) (i := 1) (by omega) (.int .i64 (f0E bs : Nat)))
  have hz4 : w.heap.size + 2 < (w3.setCell ⟨w.heap.size + 2, 1, none⟩ (.int .i64 (f0E bs : Nat))).heap.size := by rw [size_set]; exact hz3
  generalize w3.setCell ⟨w.heap.size + 2, 1, none⟩ (.int .i64 (f0E bs : Nat)) = w4 at HKR4 HKF4 HR4 HO4 hz4 ⊢
  refine (frHave_any (w.heap.size + 1) _ _ HR4.out).mono ?_
  rintro e w5 ⟨AHH, nHH, cHH, rfl, hsl, harr, hr5, ho5⟩
  have HR5 := hid hr5
  have HKR5 := hid ((ho5.blk (b := w.heap.size) (by omega) (by omega)).trans HKR4.out)
  have HKF5 := hid ((ho5.blk (b := w.heap.size + 2) (by omega) (by omega)).trans HKF4.out)
  have HO5 := hid (HO4.out.trans ho5)
  have hz5 : w.heap.size + 2 < w5.heap.size := Nat.lt_of_lt_of_le hz4 ho5.size
  have HH_5 : Hid (MkL (fun b => w.heap.size + 3 ≤ b) w5 AHH nHH _) := hid (ArrQ.weak harr (fun _ _ h => h) (fun b _ hb => by omega))
  have HSHH := hid hsl
  clear harr hsl
  clear hr5 ho5
  obtain ⟨qF0, qF1⟩ := blk_rules HKF5.out
  go_wp2_with fail
  clear qF0 qF1
  have HKR6 := hid ((blk_far (g := w.heap.size) (g' := w.heap.size + 2) (i := 8) (by omega) (.slice AHH nHH cHH)).trans HKR5.out)
  have HKF6 : Hid (_ = some (Obj.cells #[.int .i64 K, .int .i64 (f0E bs : Nat), .int .i64 0, .int .i64 0, .int .i64 0, .slice none 0 0, .slice none 0 0, .int .i64 0, .slice AHH nHH cHH, .slice none 0 0] 93 (0, 0))) := hid (blk_set (i := 8) HKF5.out (.slice AHH nHH cHH))
  have HR6 := hid (HR5.out.setFar (p := w.heap.size + 2) (i := 8) (by omega) (.slice AHH nHH cHH))
  have HO6 := hid (HO5.out.setNew (p := w.heap.size + 2) (i := 8) (by omega) (.slice AHH nHH cHH))
  have hz6 : w.heap.size + 2 < (w5.setCell ⟨w.heap.size + 2, 8, none⟩ (.slice AHH nHH cHH)).heap.size := by rw [size_set]; exact hz5
  have HH_6 := hid (MkL.keep HH_5.out (Keep.setFar (p := w.heap.size + 2) (i := 8) (fun b hb => by omega) (.slice AHH nHH cHH)))
  generalize w5.setCell ⟨w.heap.size + 2, 8, none⟩ (.slice AHH nHH cHH) = w6 at HKR6 HKF6 HR6 HO6 hz6 HH_6 ⊢
  have HT : Hid (takeF0 ⟨bs, 0⟩ = ((someB takeM 64 (f0R bs)).1, ⟨K, (f0E bs : Nat), 0, 0, 0, [], [], 0, (someB takeM 64 (f0R bs)).2, []⟩)) := hid (by rw [HKe.out]; exact HF0.out hk)
  clear hk
  obtain ⟨rr, hrr⟩ : ∃ rr, rr = (someB takeM 64 (f0R bs)).1 := ⟨_, rfl⟩
  rw [← hrr] at HT HR6
  clear hrr
  refine (done_any (w.heap.size + 1) _ _ HR6.out).mono ?_
  rintro e w7 ⟨rfl, hr7, ho7⟩
  have HR7 := hid hr7
  have HKR7 := hid ((ho7.blk (b := w.heap.size) (by omega) (by omega)).trans HKR6.out)
  have HKF7 := hid ((ho7.blk (b := w.heap.size + 2) (by omega) (by omega)).trans HKF6.out)
  have HO7 := hid (HO6.out.trans ho7)
  have hz7 : w.heap.size + 2 < w7.heap.size := Nat.lt_of_lt_of_le hz6 ho7.size
  have HH_7 := hid (MkL.keep HH_6.out (Only.keepGe (lo := w.heap.size + 3) ho7 (by omega)))
  clear hr7 ho7
  obtain ⟨D, hD⟩ : ∃ D, D = rr.done := ⟨_, rfl⟩
  rw [← hD]
  have HD := hid hD
  clear hD
  by_cases hd : D = 0
  ·have hd1 : (D != 0) = false := by simpa using hd
   have HG0 : Hid (getF bs = if saneF ⟨K, (f0E bs : Nat), 0, 0, 0, [], [], 0, (someB takeM 64 (f0R bs)).2, []⟩ ≠ 0 then (fr0, saneF ⟨K, (f0E bs : Nat), 0, 0, 0, [], [], 0, (someB takeM 64 (f0R bs)).2, []⟩) else (⟨K, (f0E bs : Nat), 0, 0, 0, [], [], 0, (someB takeM 64 (f0R bs)).2, []⟩, 0)) := hid (by rw [HOF.out _ _ HT.out, if_neg (by rw [← HD.out]; simpa using hd)])
   clear hd
   obtain ⟨qF0, qF1⟩ := blk_rules HKF7.out
   go_wp2_with fail
   clear qF0 qF1
   refine (frSane_any (fun b => w.heap.size + 3 ≤ b) ⟨K, (f0E bs : Nat), 0, 0, 0, [], [], 0, (someB takeM 64 (f0R bs)).2, []⟩ ⟨⟨none, 0, 0⟩, ⟨none, 0, 0⟩, ⟨AHH, nHH, cHH⟩, ⟨none, 0, 0⟩⟩ _ ⟨SlW.nil_, SlW.nil_, HSHH.out, SlW.nil_, ArrQ.nil_, ArrQ.nil_, HH_7.out, ArrQ.nil_⟩).mono ?_
   rintro e w8 ⟨rfl, hb8⟩
   have HR8 := hid (HR7.out.up hb8)
   have HKR8 : Hid (w8.heap[w.heap.size]? = some (.cells #[.int .i64 0, .int .i64 0, .int .i64 0, .int .i64 0, .int .i64 0, .slice none 0 0, .slice none 0 0, .int .i64 0, .slice none 0 0, .slice none 0 0] 93 (0, 0))) := hid ((hb8.block (b := w.heap.size) (by omega)).trans HKR7.out)
   have HKF8 : Hid (w8.heap[w.heap.size + 2]? = some (.cells #[.int .i64 K, .int .i64 (f0E bs : Nat), .int .i64 0, .int .i64 0, .int .i64 0, .slice none 0 0, .slice none 0 0, .int .i64 0, .slice AHH nHH cHH, .slice none 0 0] 93 (0, 0))) := hid ((hb8.block (b := w.heap.size + 2) (by omega)).trans HKF7.out)
   have HO8 := hid (HO7.out.trans (Only.of_ext hb8))
   have hz8 : w.heap.size + 2 < w8.heap.size := Nat.lt_of_lt_of_le hz7 hb8.size
   have HH_8 := hid (MkL.keep HH_7.out (hb8.keep))
   clear hb8
   obtain ⟨E, hE⟩ : ∃ E, E = saneF ⟨K, (f0E bs : Nat), 0, 0, 0, [], [], 0, (someB takeM 64 (f0R bs)).2, []⟩ := ⟨_, rfl⟩
   rw [← hE] at HG0 ⊢
   clear hE HT
   by_cases he : E = 0
   ·have he1 : (E != 0) = false := by simpa using he
    have HG1 : Hid (getF bs = (⟨K, (f0E bs : Nat), 0, 0, 0, [], [], 0, (someB takeM 64 (f0R bs)).2, []⟩, 0)) := hid (by rw [HG0.out, if_neg (by simpa using he)])
    clear he
    obtain ⟨qF0, qF1⟩ := blk_rules HKF8.out
    obtain ⟨qR0, qR1⟩ := blk_rules HKR8.out
    go_wp2_with fail
    clear qF0 qF1 qR0 qR1
    generalize hVV : (((((((((w8.setCell ⟨w.heap.size, 0, none⟩ (.int .i64 K)).setCell ⟨w.heap.size, 1, none⟩ (.int .i64 (f0E bs : Nat))).setCell ⟨w.heap.size, 2, none⟩ (.int .i64 0)).setCell ⟨w.heap.size, 3, none⟩ (.int .i64 0)).setCell ⟨w.heap.size, 4, none⟩ (.int .i64 0)).setCell ⟨w.heap.size, 5, none⟩ (.slice none 0 0)).setCell ⟨w.heap.size, 6, none⟩ (.slice none 0 0)).setCell ⟨w.heap.size, 7, none⟩ (.int .i64 0)).setCell ⟨w.heap.size, 8, none⟩ (.slice AHH nHH cHH)).setCell ⟨w.heap.size, 9, none⟩ (.slice none 0 0) = V
    obtain ⟨bV, oV, kV⟩ := set10 HKR8.out (.int .i64 K) (.int .i64 (f0E bs : Nat)) (.int .i64 0) (.int .i64 0) (.int .i64 0) (.slice none 0 0) (.slice none 0 0) (.int .i64 0) (.slice AHH nHH cHH) (.slice none 0 0) hVV
    have OV := Only.ext (Ext.refl w) (oV HO8.out (Nat.le_refl _)) (Nat.le_succ _)
    clear hVV oV
    obtain ⟨z0, -⟩ := blk_rules bV
    refine bodyPost_ret (v := .tuple #[.agg #[.int .i64 K, .int .i64 (f0E bs : Nat), .int .i64 0, .int .i64 0, .int .i64 0, .slice none 0 0, .slice none 0 0, .int .i64 0, .slice AHH nHH cHH, .slice none 0 0], .int .i64 0]) (by simp [results, Tryz.results66, go_sem, z0]) rfl ?_
    exact fget_out (x := (⟨K, (f0E bs : Nat), 0, 0, 0, [], [], 0, (someB takeM 64 (f0R bs)).2, []⟩, 0)) (s := ⟨⟨none, 0, 0⟩, ⟨none, 0, 0⟩, ⟨AHH, nHH, cHH⟩, ⟨none, 0, 0⟩⟩) HG1.out (FrV.all (FrV.keep (S := fun b => w.heap.size + 3 ≤ b) ⟨SlW.nil_, SlW.nil_, HSHH.out, SlW.nil_, ArrQ.nil_, ArrQ.nil_, HH_8.out, ArrQ.nil_⟩ (kV _ (fun b hb => by omega)))) OV
   ·have he1 : (E != 0) = true := by simpa using he
    have HG1 : Hid (getF bs = (fr0, E)) := hid (by rw [HG0.out, if_pos (by simpa using he)])
    clear he
    obtain ⟨qR0, qR1⟩ := blk_rules HKR8.out
    go_wp2_with fail
    clear qR0 qR1
    generalize hVV : (((((((((w8.setCell ⟨w.heap.size, 0, none⟩ (.int .i64 0)).setCell ⟨w.heap.size, 1, none⟩ (.int .i64 0)).setCell ⟨w.heap.size, 2, none⟩ (.int .i64 0)).setCell ⟨w.heap.size, 3, none⟩ (.int .i64 0)).setCell ⟨w.heap.size, 4, none⟩ (.int .i64 0)).setCell ⟨w.heap.size, 5, none⟩ (.slice none 0 0)).setCell ⟨w.heap.size, 6, none⟩ (.slice none 0 0)).setCell ⟨w.heap.size, 7, none⟩ (.int .i64 0)).setCell ⟨w.heap.size, 8, none⟩ (.slice none 0 0)).setCell ⟨w.heap.size, 9, none⟩ (.slice none 0 0) = V
    obtain ⟨bV, oV, kV⟩ := set10 HKR8.out (.int .i64 0) (.int .i64 0) (.int .i64 0) (.int .i64 0) (.int .i64 0) (.slice none 0 0) (.slice none 0 0) (.int .i64 0) (.slice none 0 0) (.slice none 0 0) hVV
    have OV := Only.ext (Ext.refl w) (oV HO8.out (Nat.le_refl _)) (Nat.le_succ _)
    clear hVV oV
    obtain ⟨z0, -⟩ := blk_rules bV
    refine bodyPost_ret (v := .tuple #[.agg #[.int .i64 0, .int .i64 0, .int .i64 0, .int .i64 0, .int .i64 0, .slice none 0 0, .slice none 0 0, .int .i64 0, .slice none 0 0, .slice none 0 0], .int .i64 E]) (by simp [results, Tryz.results66, go_sem, z0]) rfl ?_
    exact fget_out (x := (fr0, E)) (s := nilS) (HG1.out) (FrV.nil_ _ _ _ _ _ _ _ _) OV
  ·have hd1 : (D != 0) = true := by simpa using hd
   have HG0 : Hid (getF bs = (fr0, D)) := hid (by rw [HOF.out _ _ HT.out, if_pos (by rw [← HD.out]; simpa using hd), ← HD.out])
   clear hd HT
   obtain ⟨qR0, qR1⟩ := blk_rules HKR7.out
   go_wp2_with fail
   clear qR0 qR1
   generalize hVV : (((((((((w7.setCell ⟨w.heap.size, 0, none⟩ (.int .i64 0)).setCell ⟨w.heap.size, 1, none⟩ (.int .i64 0)).setCell ⟨w.heap.size, 2, none⟩ (.int .i64 0)).setCell ⟨w.heap.size, 3, none⟩ (.int .i64 0)).setCell ⟨w.heap.size, 4, none⟩ (.int .i64 0)).setCell ⟨w.heap.size, 5, none⟩ (.slice none 0 0)).setCell ⟨w.heap.size, 6, none⟩ (.slice none 0 0)).setCell ⟨w.heap.size, 7, none⟩ (.int .i64 0)).setCell ⟨w.heap.size, 8, none⟩ (.slice none 0 0)).setCell ⟨w.heap.size, 9, none⟩ (.slice none 0 0) = V
   obtain ⟨bV, oV, kV⟩ := set10 HKR7.out (.int .i64 0) (.int .i64 0) (.int .i64 0) (.int .i64 0) (.int .i64 0) (.slice none 0 0) (.slice none 0 0) (.int .i64 0) (.slice none 0 0) (.slice none 0 0) hVV
   have OV := Only.ext (Ext.refl w) (oV HO7.out (Nat.le_refl _)) (Nat.le_succ _)
   clear hVV oV
   obtain ⟨z0, -⟩ := blk_rules bV
   refine bodyPost_ret (v := .tuple #[.agg #[.int .i64 0, .int .i64 0, .int .i64 0, .int .i64 0, .int .i64 0, .slice none 0 0, .slice none 0 0, .int .i64 0, .slice none 0 0, .slice none 0 0], .int .i64 D]) (by simp [results, Tryz.results66, go_sem, z0]) rfl ?_
   exact fget_out (x := (fr0, D)) (s := nilS) (HG0.out) (FrV.nil_ _ _ _ _ _ _ _ _) OV
 ·have b0 : (K == 0) = false := by rw [HKK.out, hk]; rfl
  have b1 : (K == 1) = true := by rw [HKK.out, hk]; rfl
  have b2 : (K == 2) = false := by rw [HKK.out, hk]; rfl
  have b3 : (K == 3) = false := by rw [HKK.out, hk]; rfl
  have hK1 : K = 1 := by rw [HKK.out, hk]; rfl
  have HKe : Hid (K = 1) := hid hK1
  clear hK1
  obtain ⟨qF0, qF1⟩ := blk_rules HKF3.out
  go_wp2_with fail
  clear qF0 qF1
  have HKR4 := hid ((blk_far (g := w.heap.size) (g' := w.heap.size + 2) (i := 1) (by omega) (.int .i64 (f0E bs : Nat))).trans HKR3.out)
  have HKF4 : Hid (_ = some (Obj.cells #[.int .i64 K, .int .i64 (f0E bs : Nat), .int .i64 0, .int .i64 0, .int .i64 0, .slice none 0 0, .slice none 0 0, .int .i64 0, .slice none 0 0, .slice none 0 0] 93 (0, 0))) := hid (blk_set (i := 1) HKF3.out (.int .i64 (f0E bs : Nat)))
  have HR4 := hid (HR3.out.setFar (p := w.heap.size + 2) (i := 1) (by omega) (.int .i64 (f0E bs : Nat)))
  have HO4 := hid (HO3.out.setNew (p := w.heap.size + 2) (i := 1) (by omega) (.int .i64 (f0E bs : Nat)))
  have hz4 : w.heap.size + 2 < (w3.setCell ⟨w.heap.size + 2, 1, none⟩ (.int .i64 (f0E bs : Nat))).heap.size := by rw [size_set]; exact hz3
  generalize w3.setCell ⟨w.heap.size + 2, 1, none⟩ (.int .i64 (f0E bs : Nat)) = w4 at HKR4 HKF4 HR4 HO4 hz4 ⊢
  refine (num_any (w.heap.size + 1) _ 3 _ HR4.out).mono ?_
  rintro e w5 ⟨rfl, hr5, ho5⟩
  have HR5 := hid hr5
  have HKR5 := hid ((ho5.blk (b := w.heap.size) (by omega) (by omega)).trans HKR4.out)
  have HKF5 := hid ((ho5.blk (b := w.heap.size + 2) (by omega) (by omega)).trans HKF4.out)
  have HO5 := hid (HO4.out.trans ho5)
  have hz5 : w.heap.size + 2 < w5.heap.size := Nat.lt_of_lt_of_le hz4 ho5.size
  clear hr5 ho5
  obtain ⟨qF0, qF1⟩ := blk_rules HKF5.out
  go_wp2_with fail
  clear qF0 qF1
  have HKR6 := hid ((blk_far (g := w.heap.size) (g' := w.heap.size + 2) (i := 2) (by omega) (.int .i64 ((((f0R bs).num 3).2 : Nat) : Int))).trans HKR5.out)
  have HKF6 : Hid (_ = some (Obj.cells #[.int .i64 K, .int .i64 (f0E bs : Nat), .int .i64 ((((f0R bs).num 3).2 : Nat) : Int), .int .i64 0, .int .i64 0, .slice none 0 0, .slice none 0 0, .int .i64 0, .slice none 0 0, .slice none 0 0] 93 (0, 0))) := hid (blk_set (i := 2) HKF5.out (.int .i64 ((((f0R bs).num 3).2 : Nat) : Int)))
  have HR6 := hid (HR5.out.setFar (p := w.heap.size + 2) (i := 2) (by omega) (.int .i64 ((((f0R bs).num 3).2 : Nat) : Int)))
  have HO6 := hid (HO5.out.setNew (p := w.heap.size + 2) (i := 2) (by omega) (.int .i64 ((((f0R bs).num 3).2 : Nat) : Int)))
  have hz6 : w.heap.size + 2 < (w5.setCell ⟨w.heap.size + 2, 2, none⟩ (.int .i64 ((((f0R bs).num 3).2 : Nat) : Int))).heap.size := by rw [size_set]; exact hz5
  generalize w5.setCell ⟨w.heap.size + 2, 2, none⟩ (.int .i64 ((((f0R bs).num 3).2 : Nat) : Int)) = w6 at HKR6 HKF6 HR6 HO6 hz6 ⊢
  refine (num_any (w.heap.size + 1) _ 2147483647 _ HR6.out).mono ?_
  rintro e w7 ⟨rfl, hr7, ho7⟩
  have HR7 := hid hr7
  have HKR7 := hid ((ho7.blk (b := w.heap.size) (by omega) (by omega)).trans HKR6.out)
  have HKF7 := hid ((ho7.blk (b := w.heap.size + 2) (by omega) (by omega)).trans HKF6.out)
  have HO7 := hid (HO6.out.trans ho7)
  have hz7 : w.heap.size + 2 < w7.heap.size := Nat.lt_of_lt_of_le hz6 ho7.size
  clear hr7 ho7
  obtain ⟨qF0, qF1⟩ := blk_rules HKF7.out
  go_wp2_with fail
  clear qF0 qF1
  have HKR8 := hid ((blk_far (g := w.heap.size) (g' := w.heap.size + 2) (i := 3) (by omega) (.int .i64 (((((f0R bs).num 3).1.num 2147483647).2 : Nat) : Int))).trans HKR7.out)
  have HKF8 : Hid (_ = some (Obj.cells #[.int .i64 K, .int .i64 (f0E bs : Nat), .int .i64 ((((f0R bs).num 3).2 : Nat) : Int), .int .i64 (((((f0R bs).num 3).1.num 2147483647).2 : Nat) : Int), .int .i64 0, .slice none 0 0, .slice none 0 0, .int .i64 0, .slice none 0 0, .slice none 0 0] 93 (0, 0))) := hid (blk_set (i := 3) HKF7.out (.int .i64 (((((f0R bs).num 3).1.num 2147483647).2 : Nat) : Int)))
  have HR8 := hid (HR7.out.setFar (p := w.heap.size + 2) (i := 3) (by omega) (.int .i64 (((((f0R bs).num 3).1.num 2147483647).2 : Nat) : Int)))
  have HO8 := hid (HO7.out.setNew (p := w.heap.size + 2) (i := 3) (by omega) (.int .i64 (((((f0R bs).num 3).1.num 2147483647).2 : Nat) : Int)))
  have hz8 : w.heap.size + 2 < (w7.setCell ⟨w.heap.size + 2, 3, none⟩ (.int .i64 (((((f0R bs).num 3).1.num 2147483647).2 : Nat) : Int))).heap.size := by rw [size_set]; exact hz7
  generalize w7.setCell ⟨w.heap.size + 2, 3, none⟩ (.int .i64 (((((f0R bs).num 3).1.num 2147483647).2 : Nat) : Int)) = w8 at HKR8 HKF8 HR8 HO8 hz8 ⊢
  refine (takeAll_any (w.heap.size + 1) _ _ HR8.out).mono ?_
  rintro e w9 ⟨AHA, nHA, cHA, rfl, hsl, harr, hr9, ho9⟩
  have HR9 := hid hr9
  have HKR9 := hid ((ho9.blk (b := w.heap.size) (by omega) (by omega)).trans HKR8.out)
  have HKF9 := hid ((ho9.blk (b := w.heap.size + 2) (by omega) (by omega)).trans HKF8.out)
  have HO9 := hid (HO8.out.trans ho9)
  have hz9 : w.heap.size + 2 < w9.heap.size := Nat.lt_of_lt_of_le hz8 ho9.size
  have HA_9 : Hid (ResL (fun b => w.heap.size + 3 ≤ b) w9 AHA nHA _) := hid (ResL.weak harr (fun b _ hb => by omega))
  have HSHA := hid hsl
  clear harr hsl
  clear hr9 ho9
  obtain ⟨qF0, qF1⟩ := blk_rules HKF9.out
  go_wp2_with fail
  clear qF0 qF1
  have HKR10 := hid ((blk_far (g := w.heap.size) (g' := w.heap.size + 2) (i := 5) (by omega) (.slice AHA nHA cHA)).trans HKR9.out)
  have HKF10 : Hid (_ = some (Obj.cells #[.int .i64 K, .int .i64 (f0E bs : Nat), .int .i64 ((((f0R bs).num 3).2 : Nat) : Int), .int .i64 (((((f0R bs).num 3).1.num 2147483647).2 : Nat) : Int), .int .i64 0, .slice AHA nHA cHA, .slice none 0 0, .int .i64 0, .slice none 0 0, .slice none 0 0] 93 (0, 0))) := hid (blk_set (i := 5) HKF9.out (.slice AHA nHA cHA))
  have HR10 := hid (HR9.out.setFar (p := w.heap.size + 2) (i := 5) (by omega) (.slice AHA nHA cHA))
  have HO10 := hid (HO9.out.setNew (p := w.heap.size + 2) (i := 5) (by omega) (.slice AHA nHA cHA))
  have hz10 : w.heap.size + 2 < (w9.setCell ⟨w.heap.size + 2, 5, none⟩ (.slice AHA nHA cHA)).heap.size := by rw [size_set]; exact hz9
  have HA_10 := hid (ResL.keep HA_9.out (Keep.setFar (p := w.heap.size + 2) (i := 5) (fun b hb => by omega) (.slice AHA nHA cHA)))
  generalize w9.setCell ⟨w.heap.size + 2, 5, none⟩ (.slice AHA nHA cHA) = w10 at HKR10 HKF10 HR10 HO10 hz10 HA_10 ⊢
  refine (takeKeys_any (w.heap.size + 1) _ _ HR10.out).mono ?_
  rintro e w11 ⟨AHG, nHG, cHG, rfl, hsl, harr, hr11, ho11⟩
  have HR11 := hid hr11
  have HKR11 := hid ((ho11.blk (b := w.heap.size) (by omega) (by omega)).trans HKR10.out)
  have HKF11 := hid ((ho11.blk (b := w.heap.size + 2) (by omega) (by omega)).trans HKF10.out)
  have HO11 := hid (HO10.out.trans ho11)
  have hz11 : w.heap.size + 2 < w11.heap.size := Nat.lt_of_lt_of_le hz10 ho11.size
  have HA_11 := hid (ResL.keep HA_10.out (Only.keepGe (lo := w.heap.size + 3) ho11 (by omega)))
  have HG_11 : Hid (KeyL (fun b => w.heap.size + 3 ≤ b) w11 AHG nHG _) := hid (ArrQ.weak harr (fun _ _ h => h) (fun b _ hb => by omega))
  have HSHG := hid hsl
  clear harr hsl
  clear hr11 ho11
  obtain ⟨qF0, qF1⟩ := blk_rules HKF11.out
  go_wp2_with fail
  clear qF0 qF1
  have HKR12 := hid ((blk_far (g := w.heap.size) (g' := w.heap.size + 2) (i := 6) (by omega) (.slice AHG nHG cHG)).trans HKR11.out)
  have HKF12 : Hid (_ = some (Obj.cells #[.int .i64 K, .int .i64 (f0E bs : Nat), .int .i64 ((((f0R bs).num 3).2 : Nat) : Int), .int .i64 (((((f0R bs).num 3).1.num 2147483647).2 : Nat) : Int), .int .i64 0, .slice AHA nHA cHA, .slice AHG nHG cHG, .int .i64 0, .slice none 0 0, .slice none 0 0] 93 (0, 0))) := hid (blk_set (i := 6) HKF11.out (.slice AHG nHG cHG))
  have HR12 := hid (HR11.out.setFar (p := w.heap.size + 2) (i := 6) (by omega) (.slice AHG nHG cHG))
  have HO12 := hid (HO11.out.setNew (p := w.heap.size + 2) (i := 6) (by omega) (.slice AHG nHG cHG))
  have hz12 : w.heap.size + 2 < (w11.setCell ⟨w.heap.size + 2, 6, none⟩ (.slice AHG nHG cHG)).heap.size := by rw [size_set]; exact hz11
  have HA_12 := hid (ResL.keep HA_11.out (Keep.setFar (p := w.heap.size + 2) (i := 6) (fun b hb => by omega) (.slice AHG nHG cHG)))
  have HG_12 := hid (KeyL.keep HG_11.out (Keep.setFar (p := w.heap.size + 2) (i := 6) (fun b hb => by omega) (.slice AHG nHG cHG)))
  generalize w11.setCell ⟨w.heap.size + 2, 6, none⟩ (.slice AHG nHG cHG) = w12 at HKR12 HKF12 HR12 HO12 hz12 HA_12 HG_12 ⊢
  have HT : Hid (takeF0 ⟨bs, 0⟩ = ((someB takeK 64 (someB takeR 64 (((f0R bs).num 3).1.num 2147483647).1).1).1, ⟨K, (f0E bs : Nat), ((((f0R bs).num 3).2 : Nat) : Int), (((((f0R bs).num 3).1.num 2147483647).2 : Nat) : Int), 0, (someB takeR 64 (((f0R bs).num 3).1.num 2147483647).1).2, (someB takeK 64 (someB takeR 64 (((f0R bs).num 3).1.num 2147483647).1).1).2, 0, [], []⟩)) := hid (by rw [HKe.out]; exact HF1.out hk)
  clear hk
  obtain ⟨rr, hrr⟩ : ∃ rr, rr = (someB takeK 64 (someB takeR 64 (((f0R bs).num 3).1.num 2147483647).1).1).1 := ⟨_, rfl⟩
  rw [← hrr] at HT HR12
  clear hrr
  refine (done_any (w.heap.size + 1) _ _ HR12.out).mono ?_
  rintro e w13 ⟨rfl, hr13, ho13⟩
  have HR13 := hid hr13
  have HKR13 := hid ((ho13.blk (b := w.heap.size) (by omega) (by omega)).trans HKR12.out)
  have HKF13 := hid ((ho13.blk (b := w.heap.size + 2) (by omega) (by omega)).trans HKF12.out)
  have HO13 := hid (HO12.out.trans ho13)
  have hz13 : w.heap.size + 2 < w13.heap.size := Nat.lt_of_lt_of_le hz12 ho13.size
  have HA_13 := hid (ResL.keep HA_12.out (Only.keepGe (lo := w.heap.size + 3) ho13 (by omega)))
  have HG_13 := hid (KeyL.keep HG_12.out (Only.keepGe (lo := w.heap.size + 3) ho13 (by omega)))
  clear hr13 ho13
  obtain ⟨D, hD⟩ : ∃ D, D = rr.done := ⟨_, rfl⟩
  rw [← hD]
  have HD := hid hD
  clear hD
  by_cases hd : D = 0
  ·have hd1 : (D != 0) = false := by simpa using hd
   have HG0 : Hid (getF bs = if saneF ⟨K, (f0E bs : Nat), ((((f0R bs).num 3).2 : Nat) : Int), (((((f0R bs).num 3).1.num 2147483647).2 : Nat) : Int), 0, (someB takeR 64 (((f0R bs).num 3).1.num 2147483647).1).2, (someB takeK 64 (someB takeR 64 (((f0R bs).num 3).1.num 2147483647).1).1).2, 0, [], []⟩ ≠ 0 then (fr0, saneF ⟨K, (f0E bs : Nat), ((((f0R bs).num 3).2 : Nat) : Int), (((((f0R bs).num 3).1.num 2147483647).2 : Nat) : Int), 0, (someB takeR 64 (((f0R bs).num 3).1.num 2147483647).1).2, (someB takeK 64 (someB takeR 64 (((f0R bs).num 3).1.num 2147483647).1).1).2, 0, [], []⟩) else (⟨K, (f0E bs : Nat), ((((f0R bs).num 3).2 : Nat) : Int), (((((f0R bs).num 3).1.num 2147483647).2 : Nat) : Int), 0, (someB takeR 64 (((f0R bs).num 3).1.num 2147483647).1).2, (someB takeK 64 (someB takeR 64 (((f0R bs).num 3).1.num 2147483647).1).1).2, 0, [], []⟩, 0)) := hid (by rw [HOF.out _ _ HT.out, if_neg (by rw [← HD.out]; simpa using hd)])
   clear hd
   obtain ⟨qF0, qF1⟩ := blk_rules HKF13.out
   go_wp2_with fail
   clear qF0 qF1
   refine (frSane_any (fun b => w.heap.size + 3 ≤ b) ⟨K, (f0E bs : Nat), ((((f0R bs).num 3).2 : Nat) : Int), (((((f0R bs).num 3).1.num 2147483647).2 : Nat) : Int), 0, (someB takeR 64 (((f0R bs).num 3).1.num 2147483647).1).2, (someB takeK 64 (someB takeR 64 (((f0R bs).num 3).1.num 2147483647).1).1).2, 0, [], []⟩ ⟨⟨AHA, nHA, cHA⟩, ⟨AHG, nHG, cHG⟩, ⟨none, 0, 0⟩, ⟨none, 0, 0⟩⟩ _ ⟨HSHA.out, HSHG.out, SlW.nil_, SlW.nil_, HA_13.out, HG_13.out, ArrQ.nil_, ArrQ.nil_⟩).mono ?_
   rintro e w14 ⟨rfl, hb14⟩
   have HR14 := hid (HR13.out.up hb14)
   have HKR14 : Hid (w14.heap[w.heap.size]? = some (.cells #[.int .i64 0, .int .i64 0, .int .i64 0, .int .i64 0, .int .i64 0, .slice none 0 0, .slice none 0 0, .int .i64 0, .slice none 0 0, .slice none 0 0] 93 (0, 0))) := hid ((hb14.block (b := w.heap.size) (by omega)).trans HKR13.out)
   have HKF14 : Hid (w14.heap[w.heap.size + 2]? = some (.cells #[.int .i64 K, .int .i64 (f0E bs : Nat), .int .i64 ((((f0R bs).num 3).2 : Nat) : Int), .int .i64 (((((f0R bs).num 3).1.num 2147483647).2 : Nat) : Int), .int .i64 0, .slice AHA nHA cHA, .slice AHG nHG cHG, .int .i64 0, .slice none 0 0, .slice none 0 0] 93 (0, 0))) := hid ((hb14.block (b := w.heap.size + 2) (by omega)).trans HKF13.out)
   have HO14 := hid (HO13.out.trans (Only.of_ext hb14))
   have hz14 : w.heap.size + 2 < w14.heap.size := Nat.lt_of_lt_of_le hz13 hb14.size
   have HA_14 := hid (ResL.keep HA_13.out (hb14.keep))
   have HG_14 := hid (KeyL.keep HG_13.out (hb14.keep))
   clear hb14
   obtain ⟨E, hE⟩ : ∃ E, E = saneF ⟨K, (f0E bs : Nat), ((((f0R bs).num 3).2 : Nat) : Int), (((((f0R bs).num 3).1.num 2147483647).2 : Nat) : Int), 0, (someB takeR 64 (((f0R bs).num 3).1.num 2147483647).1).2, (someB takeK 64 (someB takeR 64 (((f0R bs).num 3).1.num 2147483647).1).1).2, 0, [], []⟩ := ⟨_, rfl⟩
   rw [← hE] at HG0 ⊢
   clear hE HT
   by_cases he : E = 0
   ·have he1 : (E != 0) = false := by simpa using he
    have HG1 : Hid (getF bs = (⟨K, (f0E bs : Nat), ((((f0R bs).num 3).2 : Nat) : Int), (((((f0R bs).num 3).1.num 2147483647).2 : Nat) : Int), 0, (someB takeR 64 (((f0R bs).num 3).1.num 2147483647).1).2, (someB takeK 64 (someB takeR 64 (((f0R bs).num 3).1.num 2147483647).1).1).2, 0, [], []⟩, 0)) := hid (by rw [HG0.out, if_neg (by simpa using he)])
    clear he
    obtain ⟨qF0, qF1⟩ := blk_rules HKF14.out
    obtain ⟨qR0, qR1⟩ := blk_rules HKR14.out
    go_wp2_with fail
    clear qF0 qF1 qR0 qR1
    generalize hVV : (((((((((w14.setCell ⟨w.heap.size, 0, none⟩ (.int .i64 K)).setCell ⟨w.heap.size, 1, none⟩ (.int .i64 (f0E bs : Nat))).setCell ⟨w.heap.size, 2, none⟩ (.int .i64 ((((f0R bs).num 3).2 : Nat) : Int))).setCell ⟨w.heap.size, 3, none⟩ (.int .i64 (((((f0R bs).num 3).1.num 2147483647).2 : Nat) : Int))).setCell ⟨w.heap.size, 4, none⟩ (.int .i64 0)).setCell ⟨w.heap.size, 5, none⟩ (.slice AHA nHA cHA)).setCell ⟨w.heap.size, 6, none⟩ (.slice AHG nHG cHG)).setCell ⟨w.heap.size, 7, none⟩ (.int .i64 0)).setCell ⟨w.heap.size, 8, none⟩ (.slice none 0 0)).setCell ⟨w.heap.size, 9, none⟩ (.slice none 0 0) = V
    obtain ⟨bV, oV, kV⟩ := set10 HKR14.out (.int .i64 K) (.int .i64 (f0E bs : Nat)) (.int .i64 ((((f0R bs).num 3).2 : Nat) : Int)) (.int .i64 (((((f0R bs).num 3).1.num 2147483647).2 : Nat) : Int)) (.int .i64 0) (.slice AHA nHA cHA) (.slice AHG nHG cHG) (.int .i64 0) (.slice none 0 0) (.slice none 0 0) hVV
    have OV := Only.ext (Ext.refl w) (oV HO14.out (Nat.le_refl _)) (Nat.le_succ _)
    clear hVV oV
    obtain ⟨z0, -⟩ := blk_rules bV
    refine bodyPost_ret (v := .tuple #[.agg #[.int .i64 K, .int .i64 (f0E bs : Nat), .int .i64 ((((f0R bs).num 3).2 : Nat) : Int), .int .i64 (((((f0R bs).num 3).1.num 2147483647).2 : Nat) : Int), .int .i64 0, .slice AHA nHA cHA, .slice AHG nHG cHG, .int .i64 0, .slice none 0 0, .slice none 0 0], .int .i64 0]) (by simp [results, Tryz.results66, go_sem, z0]) rfl ?_
    exact fget_out (x := (⟨K, (f0E bs : Nat), ((((f0R bs).num 3).2 : Nat) : Int), (((((f0R bs).num 3).1.num 2147483647).2 : Nat) : Int), 0, (someB takeR 64 (((f0R bs).num 3).1.num 2147483647).1).2, (someB takeK 64 (someB takeR 64 (((f0R bs).num 3).1.num 2147483647).1).1).2, 0, [], []⟩, 0)) (s := ⟨⟨AHA, nHA, cHA⟩, ⟨AHG, nHG, cHG⟩, ⟨none, 0, 0⟩, ⟨none, 0, 0⟩⟩) HG1.out (FrV.all (FrV.keep (S := fun b => w.heap.size + 3 ≤ b) ⟨HSHA.out, HSHG.out, SlW.nil_, SlW.nil_, HA_14.out, HG_14.out, ArrQ.nil_, ArrQ.nil_⟩ (kV _ (fun b hb => by omega)))) OV
   ·have he1 : (E != 0) = true := by simpa using he
    have HG1 : Hid (getF bs = (fr0, E)) := hid (by rw [HG0.out, if_pos (by simpa using he)])
    clear he
    obtain ⟨qR0, qR1⟩ := blk_rules HKR14.out
    go_wp2_with fail
    clear qR0 qR1
    generalize hVV : (((((((((w14.setCell ⟨w.heap.size, 0, none⟩ (.int .i64 0)).setCell ⟨w.heap.size, 1, none⟩ (.int .i64 0)).setCell ⟨w.heap.size, 2, none⟩ (.int .i64 0)).setCell ⟨w.heap.size, 3, none⟩ (.int .i64 0)).setCell ⟨w.heap.size, 4, none⟩ (.int .i64 0)).setCell ⟨w.heap.size, 5, none⟩ (.slice none 0 0)).setCell ⟨w.heap.size, 6, none⟩ (.slice none 0 0)).setCell ⟨w.heap.size, 7, none⟩ (.int .i64 0)).setCell ⟨w.heap.size, 8, none⟩ (.slice none 0 0)).setCell ⟨w.heap.size, 9, none⟩ (.slice none 0 0) = V
    obtain ⟨bV, oV, kV⟩ := set10 HKR14.out (.int .i64 0) (.int .i64 0) (.int .i64 0) (.int .i64 0) (.int .i64 0) (.slice none 0 0) (.slice none 0 0) (.int .i64 0) (.slice none 0 0) (.slice none 0 0) hVV
    have OV := Only.ext (Ext.refl w) (oV HO14.out (Nat.le_refl _)) (Nat.le_succ _)
    clear hVV oV
    obtain ⟨z0, -⟩ := blk_rules bV
    refine bodyPost_ret (v := .tuple #[.agg #[.int .i64 0, .int .i64 0, .int .i64 0, .int .i64 0, .int .i64 0, .slice none 0 0, .slice none 0 0, .int .i64 0, .slice none 0 0, .slice none 0 0], .int .i64 E]) (by simp [results, Tryz.results66, go_sem, z0]) rfl ?_
    exact fget_out (x := (fr0, E)) (s := nilS) (HG1.out) (FrV.nil_ _ _ _ _ _ _ _ _) OV
  ·have hd1 : (D != 0) = true := by simpa using hd
   have HG0 : Hid (getF bs = (fr0, D)) := hid (by rw [HOF.out _ _ HT.out, if_pos (by rw [← HD.out]; simpa using hd), ← HD.out])
   clear hd HT
   obtain ⟨qR0, qR1⟩ := blk_rules HKR13.out
   go_wp2_with fail
   clear qR0 qR1
   generalize hVV : (((((((((w13.setCell ⟨w.heap.size, 0, none⟩ (.int .i64 0)).setCell ⟨w.heap.size, 1, none⟩ (.int .i64 0)).setCell ⟨w.heap.size, 2, none⟩ (.int .i64 0)).setCell ⟨w.heap.size, 3, none⟩ (.int .i64 0)).setCell ⟨w.heap.size, 4, none⟩ (.int .i64 0)).setCell ⟨w.heap.size, 5, none⟩ (.slice none 0 0)).setCell ⟨w.heap.size, 6, none⟩ (.slice none 0 0)).setCell ⟨w.heap.size, 7, none⟩ (.int .i64 0)).setCell ⟨w.heap.size, 8, none⟩ (.slice none 0 0)).setCell ⟨w.heap.size, 9, none⟩ (.slice none 0 0) = V
   obtain ⟨bV, oV, kV⟩ := set10 HKR13.out (.int .i64 0) (.int .i64 0) (.int .i64 0) (.int .i64 0) (.int .i64 0) (.slice none 0 0) (.slice none 0 0) (.int .i64 0) (.slice none 0 0) (.slice none 0 0) hVV
   have OV := Only.ext (Ext.refl w) (oV HO13.out (Nat.le_refl _)) (Nat.le_succ _)
   clear hVV oV
   obtain ⟨z0, -⟩ := blk_rules bV
   refine bodyPost_ret (v := .tuple #[.agg #[.int .i64 0, .int .i64 0, .int .i64 0, .int .i64 0, .int .i64 0, .slice none 0 0, .slice none 0 0, .int .i64 0, .slice none 0 0, .slice none 0 0], .int .i64 D]) (by simp [results, Tryz.results66, go_sem, z0]) rfl ?_
   exact fget_out (x := (fr0, D)) (s := nilS) (HG0.out) (FrV.nil_ _ _ _ _ _ _ _ _) OV
 ·have b0 : (K == 0) = false := by rw [HKK.out, hk]; rfl
  have b1 : (K == 1) = false := by rw [HKK.out, hk]; rfl
  have b2 : (K == 2) = true := by rw [HKK.out, hk]; rfl
  have b3 : (K == 3) = false := by rw [HKK.out, hk]; rfl
  have hK2 : K = 2 := by rw [HKK.out, hk]; rfl
  have HKe : Hid (K = 2) := hid hK2
  clear hK2
  obtain ⟨qF0, qF1⟩ := blk_rules HKF3.out
  go_wp2_with fail
  clear qF0 qF1
  have HKR4 := hid ((blk_far (g := w.heap.size) (g' := w.heap.size + 2) (i := 1) (by omega) (.int .i64 (f0E bs : Nat))).trans HKR3.out)
  have HKF4 : Hid (_ = some (Obj.cells #[.int .i64 K, .int .i64 (f0E bs : Nat), .int .i64 0, .int .i64 0, .int .i64 0, .slice none 0 0, .slice none 0 0, .int .i64 0, .slice none 0 0, .slice none 0 0] 93 (0, 0))) := hid (blk_set (i := 1) HKF3.out (.int .i64 (f0E bs : Nat)))
  have HR4 := hid (HR3.out.setFar (p := w.heap.size + 2) (i := 1) (by omega) (.int .i64 (f0E bs : Nat)))
  have HO4 := hid (HO3.out.setNew (p := w.heap.size + 2) (i := 1) (by omega) (.int .i64 (f0E bs : Nat)))
  have hz4 : w.heap.size + 2 < (w3.setCell ⟨w.heap.size + 2, 1, none⟩ (.int .i64 (f0E bs : Nat))).heap.size := by rw [size_set]; exact hz3
  generalize w3.setCell ⟨w.heap.size + 2, 1, none⟩ (.int .i64 (f0E bs : Nat)) = w4 at HKR4 HKF4 HR4 HO4 hz4 ⊢
  refine (num_any (w.heap.size + 1) _ 3 _ HR4.out).mono ?_
  rintro e w5 ⟨rfl, hr5, ho5⟩
  have HR5 := hid hr5
  have HKR5 := hid ((ho5.blk (b := w.heap.size) (by omega) (by omega)).trans HKR4.out)
  have HKF5 := hid ((ho5.blk (b := w.heap.size + 2) (by omega) (by omega)).trans HKF4.out)
  have HO5 := hid (HO4.out.trans ho5)
  have hz5 : w.heap.size + 2 < w5.heap.size := Nat.lt_of_lt_of_le hz4 ho5.size
  clear hr5 ho5
  obtain ⟨qF0, qF1⟩ := blk_rules HKF5.out
  go_wp2_with fail
  clear qF0 qF1
  have HKR6 := hid ((blk_far (g := w.heap.size) (g' := w.heap.size + 2) (i := 2) (by omega) (.int .i64 ((((f0R bs).num 3).2 : Nat) : Int))).trans HKR5.out)
  have HKF6 : Hid (_ = some (Obj.cells #[.int .i64 K, .int .i64 (f0E bs : Nat), .int .i64 ((((f0R bs).num 3).2 : Nat) : Int), .int .i64 0, .int .i64 0, .slice none 0 0, .slice none 0 0, .int .i64 0, .slice none 0 0, .slice none 0 0] 93 (0, 0))) := hid (blk_set (i := 2) HKF5.out (.int .i64 ((((f0R bs).num 3).2 : Nat) : Int)))
  have HR6 := hid (HR5.out.setFar (p := w.heap.size + 2) (i := 2) (by omega) (.int .i64 ((((f0R bs).num 3).2 : Nat) : Int)))
  have HO6 := hid (HO5.out.setNew (p := w.heap.size + 2) (i := 2) (by omega) (.int .i64 ((((f0R bs).num 3).2 : Nat) : Int)))
  have hz6 : w.heap.size + 2 < (w5.setCell ⟨w.heap.size + 2, 2, none⟩ (.int .i64 ((((f0R bs).num 3).2 : Nat) : Int))).heap.size := by rw [size_set]; exact hz5
  generalize w5.setCell ⟨w.heap.size + 2, 2, none⟩ (.int .i64 ((((f0R bs).num 3).2 : Nat) : Int)) = w6 at HKR6 HKF6 HR6 HO6 hz6 ⊢
  refine (num_any (w.heap.size + 1) _ 2147483647 _ HR6.out).mono ?_
  rintro e w7 ⟨rfl, hr7, ho7⟩
  have HR7 := hid hr7
  have HKR7 := hid ((ho7.blk (b := w.heap.size) (by omega) (by omega)).trans HKR6.out)
  have HKF7 := hid ((ho7.blk (b := w.heap.size + 2) (by omega) (by omega)).trans HKF6.out)
  have HO7 := hid (HO6.out.trans ho7)
  have hz7 : w.heap.size + 2 < w7.heap.size := Nat.lt_of_lt_of_le hz6 ho7.size
  clear hr7 ho7
  obtain ⟨qF0, qF1⟩ := blk_rules HKF7.out
  go_wp2_with fail
  clear qF0 qF1
  have HKR8 := hid ((blk_far (g := w.heap.size) (g' := w.heap.size + 2) (i := 3) (by omega) (.int .i64 (((((f0R bs).num 3).1.num 2147483647).2 : Nat) : Int))).trans HKR7.out)
  have HKF8 : Hid (_ = some (Obj.cells #[.int .i64 K, .int .i64 (f0E bs : Nat), .int .i64 ((((f0R bs).num 3).2 : Nat) : Int), .int .i64 (((((f0R bs).num 3).1.num 2147483647).2 : Nat) : Int), .int .i64 0, .slice none 0 0, .slice none 0 0, .int .i64 0, .slice none 0 0, .slice none 0 0] 93 (0, 0))) := hid (blk_set (i := 3) HKF7.out (.int .i64 (((((f0R bs).num 3).1.num 2147483647).2 : Nat) : Int)))
  have HR8 := hid (HR7.out.setFar (p := w.heap.size + 2) (i := 3) (by omega) (.int .i64 (((((f0R bs).num 3).1.num 2147483647).2 : Nat) : Int)))
  have HO8 := hid (HO7.out.setNew (p := w.heap.size + 2) (i := 3) (by omega) (.int .i64 (((((f0R bs).num 3).1.num 2147483647).2 : Nat) : Int)))
  have hz8 : w.heap.size + 2 < (w7.setCell ⟨w.heap.size + 2, 3, none⟩ (.int .i64 (((((f0R bs).num 3).1.num 2147483647).2 : Nat) : Int))).heap.size := by rw [size_set]; exact hz7
  generalize w7.setCell ⟨w.heap.size + 2, 3, none⟩ (.int .i64 (((((f0R bs).num 3).1.num 2147483647).2 : Nat) : Int)) = w8 at HKR8 HKF8 HR8 HO8 hz8 ⊢
  refine (num_any (w.heap.size + 1) _ 15 _ HR8.out).mono ?_
  rintro e w9 ⟨rfl, hr9, ho9⟩
  have HR9 := hid hr9
  have HKR9 := hid ((ho9.blk (b := w.heap.size) (by omega) (by omega)).trans HKR8.out)
  have HKF9 := hid ((ho9.blk (b := w.heap.size + 2) (by omega) (by omega)).trans HKF8.out)
  have HO9 := hid (HO8.out.trans ho9)
  have hz9 : w.heap.size + 2 < w9.heap.size := Nat.lt_of_lt_of_le hz8 ho9.size
  clear hr9 ho9
  obtain ⟨qF0, qF1⟩ := blk_rules HKF9.out
  go_wp2_with fail
  clear qF0 qF1
  have HKR10 := hid ((blk_far (g := w.heap.size) (g' := w.heap.size + 2) (i := 7) (by omega) (.int .i64 ((((((f0R bs).num 3).1.num 2147483647).1.num 15).2 : Nat) : Int))).trans HKR9.out)
  have HKF10 : Hid (_ = some (Obj.cells #[.int .i64 K, .int .i64 (f0E bs : Nat), .int .i64 ((((f0R bs).num 3).2 : Nat) : Int), .int .i64 (((((f0R bs).num 3).1.num 2147483647).2 : Nat) : Int), .int .i64 0, .slice none 0 0, .slice none 0 0, .int .i64 ((((((f0R bs).num 3).1.num 2147483647).1.num 15).2 : Nat) : Int), .slice none 0 0, .slice none 0 0] 93 (0, 0))) := hid (blk_set (i := 7) HKF9.out (.int .i64 ((((((f0R bs).num 3).1.num 2147483647).1.num 15).2 : Nat) : Int)))
  have HR10 := hid (HR9.out.setFar (p := w.heap.size + 2) (i := 7) (by omega) (.int .i64 ((((((f0R bs).num 3).1.num 2147483647).1.num 15).2 : Nat) : Int)))
  have HO10 := hid (HO9.out.setNew (p := w.heap.size + 2) (i := 7) (by omega) (.int .i64 ((((((f0R bs).num 3).1.num 2147483647).1.num 15).2 : Nat) : Int)))
  have hz10 : w.heap.size + 2 < (w9.setCell ⟨w.heap.size + 2, 7, none⟩ (.int .i64 ((((((f0R bs).num 3).1.num 2147483647).1.num 15).2 : Nat) : Int))).heap.size := by rw [size_set]; exact hz9
  generalize w9.setCell ⟨w.heap.size + 2, 7, none⟩ (.int .i64 ((((((f0R bs).num 3).1.num 2147483647).1.num 15).2 : Nat) : Int)) = w10 at HKR10 HKF10 HR10 HO10 hz10 ⊢
  refine (num_any (w.heap.size + 1) _ 2147483647 _ HR10.out).mono ?_
  rintro e w11 ⟨rfl, hr11, ho11⟩
  have HR11 := hid hr11
  have HKR11 := hid ((ho11.blk (b := w.heap.size) (by omega) (by omega)).trans HKR10.out)
  have HKF11 := hid ((ho11.blk (b := w.heap.size + 2) (by omega) (by omega)).trans HKF10.out)
  have HO11 := hid (HO10.out.trans ho11)
  have hz11 : w.heap.size + 2 < w11.heap.size := Nat.lt_of_lt_of_le hz10 ho11.size
  clear hr11 ho11
  obtain ⟨qF0, qF1⟩ := blk_rules HKF11.out
  go_wp2_with fail
  clear qF0 qF1
  have HKR12 := hid ((blk_far (g := w.heap.size) (g' := w.heap.size + 2) (i := 4) (by omega) (.int .i64 (((((((f0R bs).num 3).1.num 2147483647).1.num 15).1.num 2147483647).2 : Nat) : Int))).trans HKR11.out)
  have HKF12 : Hid (_ = some (Obj.cells #[.int .i64 K, .int .i64 (f0E bs : Nat), .int .i64 ((((f0R bs).num 3).2 : Nat) : Int), .int .i64 (((((f0R bs).num 3).1.num 2147483647).2 : Nat) : Int), .int .i64 (((((((f0R bs).num 3).1.num 2147483647).1.num 15).1.num 2147483647).2 : Nat) : Int), .slice none 0 0, .slice none 0 0, .int .i64 ((((((f0R bs).num 3).1.num 2147483647).1.num 15).2 : Nat) : Int), .slice none 0 0, .slice none 0 0] 93 (0, 0))) := hid (blk_set (i := 4) HKF11.out (.int .i64 (((((((f0R bs).num 3).1.num 2147483647).1.num 15).1.num 2147483647).2 : Nat) : Int)))
  have HR12 := hid (HR11.out.setFar (p := w.heap.size + 2) (i := 4) (by omega) (.int .i64 (((((((f0R bs).num 3).1.num 2147483647).1.num 15).1.num 2147483647).2 : Nat) : Int)))
  have HO12 := hid (HO11.out.setNew (p := w.heap.size + 2) (i := 4) (by omega) (.int .i64 (((((((f0R bs).num 3).1.num 2147483647).1.num 15).1.num 2147483647).2 : Nat) : Int)))
  have hz12 : w.heap.size + 2 < (w11.setCell ⟨w.heap.size + 2, 4, none⟩ (.int .i64 (((((((f0R bs).num 3).1.num 2147483647).1.num 15).1.num 2147483647).2 : Nat) : Int))).heap.size := by rw [size_set]; exact hz11
  generalize w11.setCell ⟨w.heap.size + 2, 4, none⟩ (.int .i64 (((((((f0R bs).num 3).1.num 2147483647).1.num 15).1.num 2147483647).2 : Nat) : Int)) = w12 at HKR12 HKF12 HR12 HO12 hz12 ⊢
  refine (takeKeys_any (w.heap.size + 1) _ _ HR12.out).mono ?_
  rintro e w13 ⟨AHG, nHG, cHG, rfl, hsl, harr, hr13, ho13⟩
  have HR13 := hid hr13
  have HKR13 := hid ((ho13.blk (b := w.heap.size) (by omega) (by omega)).trans HKR12.out)
  have HKF13 := hid ((ho13.blk (b := w.heap.size + 2) (by omega) (by omega)).trans HKF12.out)
  have HO13 := hid (HO12.out.trans ho13)
  have hz13 : w.heap.size + 2 < w13.heap.size := Nat.lt_of_lt_of_le hz12 ho13.size
  have HG_13 : Hid (KeyL (fun b => w.heap.size + 3 ≤ b) w13 AHG nHG _) := hid (ArrQ.weak harr (fun _ _ h => h) (fun b _ hb => by omega))
  have HSHG := hid hsl
  clear harr hsl
  clear hr13 ho13
  obtain ⟨qF0, qF1⟩ := blk_rules HKF13.out
  go_wp2_with fail
  clear qF0 qF1
  have HKR14 := hid ((blk_far (g := w.heap.size) (g' := w.heap.size + 2) (i := 9) (by omega) (.slice AHG nHG cHG)).trans HKR13.out)
  have HKF14 : Hid (_ = some (Obj.cells #[.int .i64 K, .int .i64 (f0E bs : Nat), .int .i64 ((((f0R bs).num 3).2 : Nat) : Int), .int .i64 (((((f0R bs).num 3).1.num 2147483647).2 : Nat) : Int), .int .i64 (((((((f0R bs).num 3).1.num 2147483647).1.num 15).1.num 2147483647).2 : Nat) : Int), .slice none 0 0, .slice none 0 0, .int .i64 ((((((f0R bs).num 3).1.num 2147483647).1.num 15).2 : Nat) : Int), .slice none 0 0, .slice AHG nHG cHG] 93 (0, 0))) := hid (blk_set (i := 9) HKF13.out (.slice AHG nHG cHG))
  have HR14 := hid (HR13.out.setFar (p := w.heap.size + 2) (i := 9) (by omega) (.slice AHG nHG cHG))
  have HO14 := hid (HO13.out.setNew (p := w.heap.size + 2) (i := 9) (by omega) (.slice AHG nHG cHG))
  have hz14 : w.heap.size + 2 < (w13.setCell ⟨w.heap.size + 2, 9, none⟩ (.slice AHG nHG cHG)).heap.size := by rw [size_set]; exact hz13
  have HG_14 := hid (KeyL.keep HG_13.out (Keep.setFar (p := w.heap.size + 2) (i := 9) (fun b hb => by omega) (.slice AHG nHG cHG)))
  generalize w13.setCell ⟨w.heap.size + 2, 9, none⟩ (.slice AHG nHG cHG) = w14 at HKR14 HKF14 HR14 HO14 hz14 HG_14 ⊢
  have HT : Hid (takeF0 ⟨bs, 0⟩ = ((someB takeK 64 (((((f0R bs).num 3).1.num 2147483647).1.num 15).1.num 2147483647).1).1, ⟨K, (f0E bs : Nat), ((((f0R bs).num 3).2 : Nat) : Int), (((((f0R bs).num 3).1.num 2147483647).2 : Nat) : Int), (((((((f0R bs).num 3).1.num 2147483647).1.num 15).1.num 2147483647).2 : Nat) : Int), [], [], ((((((f0R bs).num 3).1.num 2147483647).1.num 15).2 : Nat) : Int), [], (someB takeK 64 (((((f0R bs).num 3).1.num 2147483647).1.num 15).1.num 2147483647).1).2⟩)) := hid (by rw [HKe.out]; exact HF2.out hk)
  clear hk
  obtain ⟨rr, hrr⟩ : ∃ rr, rr = (someB takeK 64 (((((f0R bs).num 3).1.num 2147483647).1.num 15).1.num 2147483647).1).1 := ⟨_, rfl⟩
  rw [← hrr] at HT HR14
  clear hrr
  refine (done_any (w.heap.size + 1) _ _ HR14.out).mono ?_
  rintro e w15 ⟨rfl, hr15, ho15⟩
  have HR15 := hid hr15
  have HKR15 := hid ((ho15.blk (b := w.heap.size) (by omega) (by omega)).trans HKR14.out)
  have HKF15 := hid ((ho15.blk (b := w.heap.size + 2) (by omega) (by omega)).trans HKF14.out)
  have HO15 := hid (HO14.out.trans ho15)
  have hz15 : w.heap.size + 2 < w15.heap.size := Nat.lt_of_lt_of_le hz14 ho15.size
  have HG_15 := hid (KeyL.keep HG_14.out (Only.keepGe (lo := w.heap.size + 3) ho15 (by omega)))
  clear hr15 ho15
  obtain ⟨D, hD⟩ : ∃ D, D = rr.done := ⟨_, rfl⟩
  rw [← hD]
  have HD := hid hD
  clear hD
  by_cases hd : D = 0
  ·have hd1 : (D != 0) = false := by simpa using hd
   have HG0 : Hid (getF bs = if saneF ⟨K, (f0E bs : Nat), ((((f0R bs).num 3).2 : Nat) : Int), (((((f0R bs).num 3).1.num 2147483647).2 : Nat) : Int), (((((((f0R bs).num 3).1.num 2147483647).1.num 15).1.num 2147483647).2 : Nat) : Int), [], [], ((((((f0R bs).num 3).1.num 2147483647).1.num 15).2 : Nat) : Int), [], (someB takeK 64 (((((f0R bs).num 3).1.num 2147483647).1.num 15).1.num 2147483647).1).2⟩ ≠ 0 then (fr0, saneF ⟨K, (f0E bs : Nat), ((((f0R bs).num 3).2 : Nat) : Int), (((((f0R bs).num 3).1.num 2147483647).2 : Nat) : Int), (((((((f0R bs).num 3).1.num 2147483647).1.num 15).1.num 2147483647).2 : Nat) : Int), [], [], ((((((f0R bs).num 3).1.num 2147483647).1.num 15).2 : Nat) : Int), [], (someB takeK 64 (((((f0R bs).num 3).1.num 2147483647).1.num 15).1.num 2147483647).1).2⟩) else (⟨K, (f0E bs : Nat), ((((f0R bs).num 3).2 : Nat) : Int), (((((f0R bs).num 3).1.num 2147483647).2 : Nat) : Int), (((((((f0R bs).num 3).1.num 2147483647).1.num 15).1.num 2147483647).2 : Nat) : Int), [], [], ((((((f0R bs).num 3).1.num 2147483647).1.num 15).2 : Nat) : Int), [], (someB takeK 64 (((((f0R bs).num 3).1.num 2147483647).1.num 15).1.num 2147483647).1).2⟩, 0)) := hid (by rw [HOF.out _ _ HT.out, if_neg (by rw [← HD.out]; simpa using hd)])
   clear hd
   obtain ⟨qF0, qF1⟩ := blk_rules HKF15.out
   go_wp2_with fail
   clear qF0 qF1
   refine (frSane_any (fun b => w.heap.size + 3 ≤ b) ⟨K, (f0E bs : Nat), ((((f0R bs).num 3).2 : Nat) : Int), (((((f0R bs).num 3).1.num 2147483647).2 : Nat) : Int), (((((((f0R bs).num 3).1.num 2147483647).1.num 15).1.num 2147483647).2 : Nat) : Int), [], [], ((((((f0R bs).num 3).1.num 2147483647).1.num 15).2 : Nat) : Int), [], (someB takeK 64 (((((f0R bs).num 3).1.num 2147483647).1.num 15).1.num 2147483647).1).2⟩ ⟨⟨none, 0, 0⟩, ⟨none, 0, 0⟩, ⟨none, 0, 0⟩, ⟨AHG, nHG, cHG⟩⟩ _ ⟨SlW.nil_, SlW.nil_, SlW.nil_, HSHG.out, ArrQ.nil_, ArrQ.nil_, ArrQ.nil_, HG_15.out⟩).mono ?_
   rintro e w16 ⟨rfl, hb16⟩
   have HR16 := hid (HR15.out.up hb16)
   have HKR16 : Hid (w16.heap[w.heap.size]? = some (.cells #[.int .i64 0, .int .i64 0, .int .i64 0, .int .i64 0, .int .i64 0, .slice none 0 0, .slice none 0 0, .int .i64 0, .slice none 0 0, .slice none 0 0] 93 (0, 0))) := hid ((hb16.block (b := w.heap.size) (by omega)).trans HKR15.out)
   have HKF16 : Hid (w16.heap[w.heap.size + 2]? = some (.cells #[.int .i64 K, .int .i64 (f0E bs : Nat), .int .i64 ((((f0R bs).num 3).2 : Nat) : Int), .int .i64 (((((f0R bs).num 3).1.num 2147483647).2 : Nat) : Int), .int .i64 (((((((f0R bs).num 3).1.num 2147483647).1.num 15).1.num 2147483647).2 : Nat) : Int), .slice none 0 0, .slice none 0 0, .int .i64 ((((((f0R bs).num 3).1.num 2147483647).1.num 15).2 : Nat) : Int), .slice none 0 0, .slice AHG nHG cHG] 93 (0, 0))) := hid ((hb16.block (b := w.heap.size + 2) (by omega)).trans HKF15.out)
   have HO16 := hid (HO15.out.trans (Only.of_ext hb16))
   have hz16 : w.heap.size + 2 < w16.heap.size := Nat.lt_of_lt_of_le hz15 hb16.size
   have HG_16 := hid (KeyL.keep HG_15.out (hb16.keep))
   clear hb16
   obtain ⟨E, hE⟩ : ∃ E, E = saneF ⟨K, (f0E bs : Nat), ((((f0R bs).num 3).2 : Nat) : Int), (((((f0R bs).num 3).1.num 2147483647).2 : Nat) : Int), (((((((f0R bs).num 3).1.num 2147483647).1.num 15).1.num 2147483647).2 : Nat) : Int), [], [], ((((((f0R bs).num 3).1.num 2147483647).1.num 15).2 : Nat) : Int), [], (someB takeK 64 (((((f0R bs).num 3).1.num 2147483647).1.num 15).1.num 2147483647).1).2⟩ := ⟨_, rfl⟩
   rw [← hE] at HG0 ⊢
   clear hE HT
   by_cases he : E = 0
   ·have he1 : (E != 0) = false := by simpa using he
    have HG1 : Hid (getF bs = (⟨K, (f0E bs : Nat), ((((f0R bs).num 3).2 : Nat) : Int), (((((f0R bs).num 3).1.num 2147483647).2 : Nat) : Int), (((((((f0R bs).num 3).1.num 2147483647).1.num 15).1.num 2147483647).2 : Nat) : Int), [], [], ((((((f0R bs).num 3).1.num 2147483647).1.num 15).2 : Nat) : Int), [], (someB takeK 64 (((((f0R bs).num 3).1.num 2147483647).1.num 15).1.num 2147483647).1).2⟩, 0)) := hid (by rw [HG0.out, if_neg (by simpa using he)])
    clear he
    obtain ⟨qF0, qF1⟩ := blk_rules HKF16.out
    obtain ⟨qR0, qR1⟩ := blk_rules HKR16.out
    go_wp2_with fail
    clear qF0 qF1 qR0 qR1
    generalize hVV : (((((((((w16.setCell ⟨w.heap.size, 0, none⟩ (.int .i64 K)).setCell ⟨w.heap.size, 1, none⟩ (.int .i64 (f0E bs : Nat))).setCell ⟨w.heap.size, 2, none⟩ (.int .i64 ((((f0R bs).num 3).2 : Nat) : Int))).setCell ⟨w.heap.size, 3, none⟩ (.int .i64 (((((f0R bs).num 3).1.num 2147483647).2 : Nat) : Int))).setCell ⟨w.heap.size, 4, none⟩ (.int .i64 (((((((f0R bs).num 3).1.num 2147483647).1.num 15).1.num 2147483647).2 : Nat) : Int))).setCell ⟨w.heap.size, 5, none⟩ (.slice none 0 0)).setCell ⟨w.heap.size, 6, none⟩ (.slice none 0 0)).setCell ⟨w.heap.size, 7, none⟩ (.int .i64 ((((((f0R bs).num 3).1.num 2147483647).1.num 15).2 : Nat) : Int))).setCell ⟨w.heap.size, 8, none⟩ (.slice none 0 0)).setCell ⟨w.heap.size, 9, none⟩ (.slice AHG nHG cHG) = V
    obtain ⟨bV, oV, kV⟩ := set10 HKR16.out (.int .i64 K) (.int .i64 (f0E bs : Nat)) (.int .i64 ((((f0R bs).num 3).2 : Nat) : Int)) (.int .i64 (((((f0R bs).num 3).1.num 2147483647).2 : Nat) : Int)) (.int .i64 (((((((f0R bs).num 3).1.num 2147483647).1.num 15).1.num 2147483647).2 : Nat) : Int)) (.slice none 0 0) (.slice none 0 0) (.int .i64 ((((((f0R bs).num 3).1.num 2147483647).1.num 15).2 : Nat) : Int)) (.slice none 0 0) (.slice AHG nHG cHG) hVV
    have OV := Only.ext (Ext.refl w) (oV HO16.out (Nat.le_refl _)) (Nat.le_succ _)
    clear hVV oV
    obtain ⟨z0, -⟩ := blk_rules bV
    refine bodyPost_ret (v := .tuple #[.agg #[.int .i64 K, .int .i64 (f0E bs : Nat), .int .i64 ((((f0R bs).num 3).2 : Nat) : Int), .int .i64 (((((f0R bs).num 3).1.num 2147483647).2 : Nat) : Int), .int .i64 (((((((f0R bs).num 3).1.num 2147483647).1.num 15).1.num 2147483647).2 : Nat) : Int), .slice none 0 0, .slice none 0 0, .int .i64 ((((((f0R bs).num 3).1.num 2147483647).1.num 15).2 : Nat) : Int), .slice none 0 0, .slice AHG nHG cHG], .int .i64 0]) (by simp [results, Tryz.results66, go_sem, z0]) rfl ?_
    exact fget_out (x := (⟨K, (f0E bs : Nat), ((((f0R bs).num 3).2 : Nat) : Int), (((((f0R bs).num 3).1.num 2147483647).2 : Nat) : Int), (((((((f0R bs).num 3).1.num 2147483647).1.num 15).1.num 2147483647).2 : Nat) : Int), [], [], ((((((f0R bs).num 3).1.num 2147483647).1.num 15).2 : Nat) : Int), [], (someB takeK 64 (((((f0R bs).num 3).1.num 2147483647).1.num 15).1.num 2147483647).1).2⟩, 0)) (s := ⟨⟨none, 0, 0⟩, ⟨none, 0, 0⟩, ⟨none, 0, 0⟩, ⟨AHG, nHG, cHG⟩⟩) HG1.out (FrV.all (FrV.keep (S := fun b => w.heap.size + 3 ≤ b) ⟨SlW.nil_, SlW.nil_, SlW.nil_, HSHG.out, ArrQ.nil_, ArrQ.nil_, ArrQ.nil_, HG_16.out⟩ (kV _ (fun b hb => by omega)))) OV
   ·have he1 : (E != 0) = true := by simpa using he
    have HG1 : Hid (getF bs = (fr0, E)) := hid (by rw [HG0.out, if_pos (by simpa using he)])
    clear he
    obtain ⟨qR0, qR1⟩ := blk_rules HKR16.out
    go_wp2_with fail
    clear qR0 qR1
    generalize hVV : (((((((((w16.setCell ⟨w.heap.size, 0, none⟩ (.int .i64 0)).setCell ⟨w.heap.size, 1, none⟩ (.int .i64 0)).setCell ⟨w.heap.size, 2, none⟩ (.int .i64 0)).setCell ⟨w.heap.size, 3, none⟩ (.int .i64 0)).setCell ⟨w.heap.size, 4, none⟩ (.int .i64 0)).setCell ⟨w.heap.size, 5, none⟩ (.slice none 0 0)).setCell ⟨w.heap.size, 6, none⟩ (.slice none 0 0)).setCell ⟨w.heap.size, 7, none⟩ (.int .i64 0)).setCell ⟨w.heap.size, 8, none⟩ (.slice none 0 0)).setCell ⟨w.heap.size, 9, none⟩ (.slice none 0 0) = V
    obtain ⟨bV, oV, kV⟩ := set10 HKR16.out (.int .i64 0) (.int .i64 0) (.int .i64 0) (.int .i64 0) (.int .i64 0) (.slice none 0 0) (.slice none 0 0) (.int .i64 0) (.slice none 0 0) (.slice none 0 0) hVV
    have OV := Only.ext (Ext.refl w) (oV HO16.out (Nat.le_refl _)) (Nat.le_succ _)
    clear hVV oV
    obtain ⟨z0, -⟩ := blk_rules bV
    refine bodyPost_ret (v := .tuple #[.agg #[.int .i64 0, .int .i64 0, .int .i64 0, .int .i64 0, .int .i64 0, .slice none 0 0, .slice none 0 0, .int .i64 0, .slice none 0 0, .slice none 0 0], .int .i64 E]) (by simp [results, Tryz.results66, go_sem, z0]) rfl ?_
    exact fget_out (x := (fr0, E)) (s := nilS) (HG1.out) (FrV.nil_ _ _ _ _ _ _ _ _) OV
  ·have hd1 : (D != 0) = true := by simpa using hd
   have HG0 : Hid (getF bs = (fr0, D)) := hid (by rw [HOF.out _ _ HT.out, if_pos (by rw [← HD.out]; simpa using hd), ← HD.out])
   clear hd HT
   obtain ⟨qR0, qR1⟩ := blk_rules HKR15.out
   go_wp2_with fail
   clear qR0 qR1
   generalize hVV : (((((((((w15.setCell ⟨w.heap.size, 0, none⟩ (.int .i64 0)).setCell ⟨w.heap.size, 1, none⟩ (.int .i64 0)).setCell ⟨w.heap.size, 2, none⟩ (.int .i64 0)).setCell ⟨w.heap.size, 3, none⟩ (.int .i64 0)).setCell ⟨w.heap.size, 4, none⟩ (.int .i64 0)).setCell ⟨w.heap.size, 5, none⟩ (.slice none 0 0)).setCell ⟨w.heap.size, 6, none⟩ (.slice none 0 0)).setCell ⟨w.heap.size, 7, none⟩ (.int .i64 0)).setCell ⟨w.heap.size, 8, none⟩ (.slice none 0 0)).setCell ⟨w.heap.size, 9, none⟩ (.slice none 0 0) = V
   obtain ⟨bV, oV, kV⟩ := set10 HKR15.out (.int .i64 0) (.int .i64 0) (.int .i64 0) (.int .i64 0) (.int .i64 0) (.slice none 0 0) (.slice none 0 0) (.int .i64 0) (.slice none 0 0) (.slice none 0 0) hVV
   have OV := Only.ext (Ext.refl w) (oV HO15.out (Nat.le_refl _)) (Nat.le_succ _)
   clear hVV oV
   obtain ⟨z0, -⟩ := blk_rules bV
   refine bodyPost_ret (v := .tuple #[.agg #[.int .i64 0, .int .i64 0, .int .i64 0, .int .i64 0, .int .i64 0, .slice none 0 0, .slice none 0 0, .int .i64 0, .slice none 0 0, .slice none 0 0], .int .i64 D]) (by simp [results, Tryz.results66, go_sem, z0]) rfl ?_
   exact fget_out (x := (fr0, D)) (s := nilS) (HG0.out) (FrV.nil_ _ _ _ _ _ _ _ _) OV
 ·have b0 : (K == 0) = false := by rw [HKK.out, hk]; rfl
  have b1 : (K == 1) = false := by rw [HKK.out, hk]; rfl
  have b2 : (K == 2) = false := by rw [HKK.out, hk]; rfl
  have b3 : (K == 3) = true := by rw [HKK.out, hk]; rfl
  have hK3 : K = 3 := by rw [HKK.out, hk]; rfl
  have HKe : Hid (K = 3) := hid hK3
  clear hK3
  obtain ⟨qF0, qF1⟩ := blk_rules HKF3.out
  go_wp2_with fail
  clear qF0 qF1
  have HKR4 := hid ((blk_far (g := w.heap.size) (g' := w.heap.size + 2) (i := 1) (by omega) (.int .i64 (f0E bs : Nat))).trans HKR3.out)
  have HKF4 : Hid (_ = some (Obj.cells #[.int .i64 K, .int .i64 (f0E bs : Nat), .int .i64 0, .int .i64 0, .int .i64 0, .slice none 0 0, .slice none 0 0, .int .i64 0, .slice none 0 0, .slice none 0 0] 93 (0, 0))) := hid (blk_set (i := 1) HKF3.out (.int .i64 (f0E bs : Nat)))
  have HR4 := hid (HR3.out.setFar (p := w.heap.size + 2) (i := 1) (by omega) (.int .i64 (f0E bs : Nat)))
  have HO4 := hid (HO3.out.setNew (p := w.heap.size + 2) (i := 1) (by omega) (.int .i64 (f0E bs : Nat)))
  have hz4 : w.heap.size + 2 < (w3.setCell ⟨w.heap.size + 2, 1, none⟩ (.int .i64 (f0E bs : Nat))).heap.size := by rw [size_set]; exact hz3
  generalize w3.setCell ⟨w.heap.size + 2, 1, none⟩ (.int .i64 (f0E bs : Nat)) = w4 at HKR4 HKF4 HR4 HO4 hz4 ⊢
  refine (num_any (w.heap.size + 1) _ 2147483647 _ HR4.out).mono ?_
  rintro e w5 ⟨rfl, hr5, ho5⟩
  have HR5 := hid hr5
  have HKR5 := hid ((ho5.blk (b := w.heap.size) (by omega) (by omega)).trans HKR4.out)
  have HKF5 := hid ((ho5.blk (b := w.heap.size + 2) (by omega) (by omega)).trans HKF4.out)
  have HO5 := hid (HO4.out.trans ho5)
  have hz5 : w.heap.size + 2 < w5.heap.size := Nat.lt_of_lt_of_le hz4 ho5.size
  clear hr5 ho5
  obtain ⟨qF0, qF1⟩ := blk_rules HKF5.out
  go_wp2_with fail
  clear qF0 qF1
  have HKR6 := hid ((blk_far (g := w.heap.size) (g' := w.heap.size + 2) (i := 4) (by omega) (.int .i64 ((((f0R bs).num 2147483647).2 : Nat) : Int))).trans HKR5.out)
  have HKF6 : Hid (_ = some (Obj.cells #[.int .i64 K, .int .i64 (f0E bs : Nat), .int .i64 0, .int .i64 0, .int .i64 ((((f0R bs).num 2147483647).2 : Nat) : Int), .slice none 0 0, .slice none 0 0, .int .i64 0, .slice none 0 0, .slice none 0 0] 93 (0, 0))) := hid (blk_set (i := 4) HKF5.out (.int .i64 ((((f0R bs).num 2147483647).2 : Nat) : Int)))
  have HR6 := hid (HR5.out.setFar (p := w.heap.size + 2) (i := 4) (by omega) (.int .i64 ((((f0R bs).num 2147483647).2 : Nat) : Int)))
  have HO6 := hid (HO5.out.setNew (p := w.heap.size + 2) (i := 4) (by omega) (.int .i64 ((((f0R bs).num 2147483647).2 : Nat) : Int)))
  have hz6 : w.heap.size + 2 < (w5.setCell ⟨w.heap.size + 2, 4, none⟩ (.int .i64 ((((f0R bs).num 2147483647).2 : Nat) : Int))).heap.size := by rw [size_set]; exact hz5
  generalize w5.setCell ⟨w.heap.size + 2, 4, none⟩ (.int .i64 ((((f0R bs).num 2147483647).2 : Nat) : Int)) = w6 at HKR6 HKF6 HR6 HO6 hz6 ⊢
  refine (takeKeys_any (w.heap.size + 1) _ _ HR6.out).mono ?_
  rintro e w7 ⟨AHG, nHG, cHG, rfl, hsl, harr, hr7, ho7⟩
  have HR7 := hid hr7
  have HKR7 := hid ((ho7.blk (b := w.heap.size) (by omega) (by omega)).trans HKR6.out)
  have HKF7 := hid ((ho7.blk (b := w.heap.size + 2) (by omega) (by omega)).trans HKF6.out)
  have HO7 := hid (HO6.out.trans ho7)
  have hz7 : w.heap.size + 2 < w7.heap.size := Nat.lt_of_lt_of_le hz6 ho7.size
  have HG_7 : Hid (KeyL (fun b => w.heap.size + 3 ≤ b) w7 AHG nHG _) := hid (ArrQ.weak harr (fun _ _ h => h) (fun b _ hb => by omega))
  have HSHG := hid hsl
  clear harr hsl
  clear hr7 ho7
  obtain ⟨qF0, qF1⟩ := blk_rules HKF7.out
  go_wp2_with fail
  clear qF0 qF1
  have HKR8 := hid ((blk_far (g := w.heap.size) (g' := w.heap.size + 2) (i := 9) (by omega) (.slice AHG nHG cHG)).trans HKR7.out)
  have HKF8 : Hid (_ = some (Obj.cells #[.int .i64 K, .int .i64 (f0E bs : Nat), .int .i64 0, .int .i64 0, .int .i64 ((((f0R bs).num 2147483647).2 : Nat) : Int), .slice none 0 0, .slice none 0 0, .int .i64 0, .slice none 0 0, .slice AHG nHG cHG] 93 (0, 0))) := hid (blk_set (i := 9) HKF7.out (.slice AHG nHG cHG))
  have HR8 := hid (HR7.out.setFar (p := w.heap.size + 2) (i := 9) (by omega) (.slice AHG nHG cHG))
  have HO8 := hid (HO7.out.setNew (p := w.heap.size + 2) (i := 9) (by omega) (.slice AHG nHG cHG))
  have hz8 : w.heap.size + 2 < (w7.setCell ⟨w.heap.size + 2, 9, none⟩ (.slice AHG nHG cHG)).heap.size := by rw [size_set]; exact hz7
  have HG_8 := hid (KeyL.keep HG_7.out (Keep.setFar (p := w.heap.size + 2) (i := 9) (fun b hb => by omega) (.slice AHG nHG cHG)))
  generalize w7.setCell ⟨w.heap.size + 2, 9, none⟩ (.slice AHG nHG cHG) = w8 at HKR8 HKF8 HR8 HO8 hz8 HG_8 ⊢
  have HT : Hid (takeF0 ⟨bs, 0⟩ = ((someB takeK 64 ((f0R bs).num 2147483647).1).1, ⟨K, (f0E bs : Nat), 0, 0, ((((f0R bs).num 2147483647).2 : Nat) : Int), [], [], 0, [], (someB takeK 64 ((f0R bs).num 2147483647).1).2⟩)) := hid (by rw [HKe.out]; exact HF3.out hk)
  clear hk
  obtain ⟨rr, hrr⟩ : ∃ rr, rr = (someB takeK 64 ((f0R bs).num 2147483647).1).1 := ⟨_, rfl⟩
  rw [← hrr] at HT HR8
  clear hrr
  refine (done_any (w.heap.size + 1) _ _ HR8.out).mono ?_
  rintro e w9 ⟨rfl, hr9, ho9⟩
  have HR9 := hid hr9
  have HKR9 := hid ((ho9.blk (b := w.heap.size) (by omega) (by omega)).trans HKR8.out)
  have HKF9 := hid ((ho9.blk (b := w.heap.size + 2) (by omega) (by omega)).trans HKF8.out)
  have HO9 := hid (HO8.out.trans ho9)
  have hz9 : w.heap.size + 2 < w9.heap.size := Nat.lt_of_lt_of_le hz8 ho9.size
  have HG_9 := hid (KeyL.keep HG_8.out (Only.keepGe (lo := w.heap.size + 3) ho9 (by omega)))
  clear hr9 ho9
  obtain ⟨D, hD⟩ : ∃ D, D = rr.done := ⟨_, rfl⟩
  rw [← hD]
  have HD := hid hD
  clear hD
  by_cases hd : D = 0
  ·have hd1 : (D != 0) = false := by simpa using hd
   have HG0 : Hid (getF bs = if saneF ⟨K, (f0E bs : Nat), 0, 0, ((((f0R bs).num 2147483647).2 : Nat) : Int), [], [], 0, [], (someB takeK 64 ((f0R bs).num 2147483647).1).2⟩ ≠ 0 then (fr0, saneF ⟨K, (f0E bs : Nat), 0, 0, ((((f0R bs).num 2147483647).2 : Nat) : Int), [], [], 0, [], (someB takeK 64 ((f0R bs).num 2147483647).1).2⟩) else (⟨K, (f0E bs : Nat), 0, 0, ((((f0R bs).num 2147483647).2 : Nat) : Int), [], [], 0, [], (someB takeK 64 ((f0R bs).num 2147483647).1).2⟩, 0)) := hid (by rw [HOF.out _ _ HT.out, if_neg (by rw [← HD.out]; simpa using hd)])
   clear hd
   obtain ⟨qF0, qF1⟩ := blk_rules HKF9.out
   go_wp2_with fail
   clear qF0 qF1
   refine (frSane_any (fun b => w.heap.size + 3 ≤ b) ⟨K, (f0E bs : Nat), 0, 0, ((((f0R bs).num 2147483647).2 : Nat) : Int), [], [], 0, [], (someB takeK 64 ((f0R bs).num 2147483647).1).2⟩ ⟨⟨none, 0, 0⟩, ⟨none, 0, 0⟩, ⟨none, 0, 0⟩, ⟨AHG, nHG, cHG⟩⟩ _ ⟨SlW.nil_, SlW.nil_, SlW.nil_, HSHG.out, ArrQ.nil_, ArrQ.nil_, ArrQ.nil_, HG_9.out⟩).mono ?_
   rintro e w10 ⟨rfl, hb10⟩
   have HR10 := hid (HR9.out.up hb10)
   have HKR10 : Hid (w10.heap[w.heap.size]? = some (.cells #[.int .i64 0, .int .i64 0, .int .i64 0, .int .i64 0, .int .i64 0, .slice none 0 0, .slice none 0 0, .int .i64 0, .slice none 0 0, .slice none 0 0] 93 (0, 0))) := hid ((hb10.block (b := w.heap.size) (by omega)).trans HKR9.out)
   have HKF10 : Hid (w10.heap[w.heap.size + 2]? = some (.cells #[.int .i64 K, .int .i64 (f0E bs : Nat), .int .i64 0, .int .i64 0, .int .i64 ((((f0R bs).num 2147483647).2 : Nat) : Int), .slice none 0 0, .slice none 0 0, .int .i64 0, .slice none 0 0, .slice AHG nHG cHG] 93 (0, 0))) := hid ((hb10.block (b := w.heap.size + 2) (by omega)).trans HKF9.out)
   have HO10 := hid (HO9.out.trans (Only.of_ext hb10))
   have hz10 : w.heap.size + 2 < w10.heap.size := Nat.lt_of_lt_of_le hz9 hb10.size
   have HG_10 := hid (KeyL.keep HG_9.out (hb10.keep))
   clear hb10
   obtain ⟨E, hE⟩ : ∃ E, E = saneF ⟨K, (f0E bs : Nat), 0, 0, ((((f0R bs).num 2147483647).2 : Nat) : Int), [], [], 0, [], (someB takeK 64 ((f0R bs).num 2147483647).1).2⟩ := ⟨_, rfl⟩
   rw [← hE] at HG0 ⊢
   clear hE HT
   by_cases he : E = 0
   ·have he1 : (E != 0) = false := by simpa using he
    have HG1 : Hid (getF bs = (⟨K, (f0E bs : Nat), 0, 0, ((((f0R bs).num 2147483647).2 : Nat) : Int), [], [], 0, [], (someB takeK 64 ((f0R bs).num 2147483647).1).2⟩, 0)) := hid (by rw [HG0.out, if_neg (by simpa using he)])
    clear he
    obtain ⟨qF0, qF1⟩ := blk_rules HKF10.out
    obtain ⟨qR0, qR1⟩ := blk_rules HKR10.out
    go_wp2_with fail
    clear qF0 qF1 qR0 qR1
    generalize hVV : (((((((((w10.setCell ⟨w.heap.size, 0, none⟩ (.int .i64 K)).setCell ⟨w.heap.size, 1, none⟩ (.int .i64 (f0E bs : Nat))).setCell ⟨w.heap.size, 2, none⟩ (.int .i64 0)).setCell ⟨w.heap.size, 3, none⟩ (.int .i64 0)).setCell ⟨w.heap.size, 4, none⟩ (.int .i64 ((((f0R bs).num 2147483647).2 : Nat) : Int))).setCell ⟨w.heap.size, 5, none⟩ (.slice none 0 0)).setCell ⟨w.heap.size, 6, none⟩ (.slice none 0 0)).setCell ⟨w.heap.size, 7, none⟩ (.int .i64 0)).setCell ⟨w.heap.size, 8, none⟩ (.slice none 0 0)).setCell ⟨w.heap.size, 9, none⟩ (.slice AHG nHG cHG) = V
    obtain ⟨bV, oV, kV⟩ := set10 HKR10.out (.int .i64 K) (.int .i64 (f0E bs : Nat)) (.int .i64 0) (.int .i64 0) (.int .i64 ((((f0R bs).num 2147483647).2 : Nat) : Int)) (.slice none 0 0) (.slice none 0 0) (.int .i64 0) (.slice none 0 0) (.slice AHG nHG cHG) hVV
    have OV := Only.ext (Ext.refl w) (oV HO10.out (Nat.le_refl _)) (Nat.le_succ _)
    clear hVV oV
    obtain ⟨z0, -⟩ := blk_rules bV
    refine bodyPost_ret (v := .tuple #[.agg #[.int .i64 K, .int .i64 (f0E bs : Nat), .int .i64 0, .int .i64 0, .int .i64 ((((f0R bs).num 2147483647).2 : Nat) : Int), .slice none 0 0, .slice none 0 0, .int .i64 0, .slice none 0 0, .slice AHG nHG cHG], .int .i64 0]) (by simp [results, Tryz.results66, go_sem, z0]) rfl ?_
    exact fget_out (x := (⟨K, (f0E bs : Nat), 0, 0, ((((f0R bs).num 2147483647).2 : Nat) : Int), [], [], 0, [], (someB takeK 64 ((f0R bs).num 2147483647).1).2⟩, 0)) (s := ⟨⟨none, 0, 0⟩, ⟨none, 0, 0⟩, ⟨none, 0, 0⟩, ⟨AHG, nHG, cHG⟩⟩) HG1.out (FrV.all (FrV.keep (S := fun b => w.heap.size + 3 ≤ b) ⟨SlW.nil_, SlW.nil_, SlW.nil_, HSHG.out, ArrQ.nil_, ArrQ.nil_, ArrQ.nil_, HG_10.out⟩ (kV _ (fun b hb => by omega)))) OV
   ·have he1 : (E != 0) = true := by simpa using he
    have HG1 : Hid (getF bs = (fr0, E)) := hid (by rw [HG0.out, if_pos (by simpa using he)])
    clear he
    obtain ⟨qR0, qR1⟩ := blk_rules HKR10.out
    go_wp2_with fail
    clear qR0 qR1
    generalize hVV : (((((((((w10.setCell ⟨w.heap.size, 0, none⟩ (.int .i64 0)).setCell ⟨w.heap.size, 1, none⟩ (.int .i64 0)).setCell ⟨w.heap.size, 2, none⟩ (.int .i64 0)).setCell ⟨w.heap.size, 3, none⟩ (.int .i64 0)).setCell ⟨w.heap.size, 4, none⟩ (.int .i64 0)).setCell ⟨w.heap.size, 5, none⟩ (.slice none 0 0)).setCell ⟨w.heap.size, 6, none⟩ (.slice none 0 0)).setCell ⟨w.heap.size, 7, none⟩ (.int .i64 0)).setCell ⟨w.heap.size, 8, none⟩ (.slice none 0 0)).setCell ⟨w.heap.size, 9, none⟩ (.slice none 0 0) = V
    obtain ⟨bV, oV, kV⟩ := set10 HKR10.out (.int .i64 0) (.int .i64 0) (.int .i64 0) (.int .i64 0) (.int .i64 0) (.slice none 0 0) (.slice none 0 0) (.int .i64 0) (.slice none 0 0) (.slice none 0 0) hVV
    have OV := Only.ext (Ext.refl w) (oV HO10.out (Nat.le_refl _)) (Nat.le_succ _)
    clear hVV oV
    obtain ⟨z0, -⟩ := blk_rules bV
    refine bodyPost_ret (v := .tuple #[.agg #[.int .i64 0, .int .i64 0, .int .i64 0, .int .i64 0, .int .i64 0, .slice none 0 0, .slice none 0 0, .int .i64 0, .slice none 0 0, .slice none 0 0], .int .i64 E]) (by simp [results, Tryz.results66, go_sem, z0]) rfl ?_
    exact fget_out (x := (fr0, E)) (s := nilS) (HG1.out) (FrV.nil_ _ _ _ _ _ _ _ _) OV
  ·have hd1 : (D != 0) = true := by simpa using hd
   have HG0 : Hid (getF bs = (fr0, D)) := hid (by rw [HOF.out _ _ HT.out, if_pos (by rw [← HD.out]; simpa using hd), ← HD.out])
   clear hd HT
   obtain ⟨qR0, qR1⟩ := blk_rules HKR9.out
   go_wp2_with fail
   clear qR0 qR1
   generalize hVV : (((((((((w9.setCell ⟨w.heap.size, 0, none⟩ (.int .i64 0)).setCell ⟨w.heap.size, 1, none⟩ (.int .i64 0)).setCell ⟨w.heap.size, 2, none⟩ (.int .i64 0)).setCell ⟨w.heap.size, 3, none⟩ (.int .i64 0)).setCell ⟨w.heap.size, 4, none⟩ (.int .i64 0)).setCell ⟨w.heap.size, 5, none⟩ (.slice none 0 0)).setCell ⟨w.heap.size, 6, none⟩ (.slice none 0 0)).setCell ⟨w.heap.size, 7, none⟩ (.int .i64 0)).setCell ⟨w.heap.size, 8, none⟩ (.slice none 0 0)).setCell ⟨w.heap.size, 9, none⟩ (.slice none 0 0) = V
   obtain ⟨bV, oV, kV⟩ := set10 HKR9.out (.int .i64 0) (.int .i64 0) (.int .i64 0) (.int .i64 0) (.int .i64 0) (.slice none 0 0) (.slice none 0 0) (.int .i64 0) (.slice none 0 0) (.slice none 0 0) hVV
   have OV := Only.ext (Ext.refl w) (oV HO9.out (Nat.le_refl _)) (Nat.le_succ _)
   clear hVV oV
   obtain ⟨z0, -⟩ := blk_rules bV
   refine bodyPost_ret (v := .tuple #[.agg #[.int .i64 0, .int .i64 0, .int .i64 0, .int .i64 0, .int .i64 0, .slice none 0 0, .slice none 0 0, .int .i64 0, .slice none 0 0, .slice none 0 0], .int .i64 D]) (by simp [results, Tryz.results66, go_sem, z0]) rfl ?_
   exact fget_out (x := (fr0, D)) (s := nilS) (HG0.out) (FrV.nil_ _ _ _ _ _ _ _ _) OV
end Go.Proofs.YtfdjbnofcniodaaGreatDoor
