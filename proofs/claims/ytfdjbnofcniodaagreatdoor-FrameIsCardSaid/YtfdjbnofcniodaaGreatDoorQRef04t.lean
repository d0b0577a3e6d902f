/- What the document's functions of layer 4 that take compute: rule, take, Take, TakeKey, TakeAll, TakeKeys. -/
import Derived.Test.YtfdjbnofcniodaaGreatDoorQRef04p
namespace Go.Proofs.YtfdjbnofcniodaaGreatDoor
open Lib (hid)
set_option maxHeartbeats 16000000
set_option maxRecDepth 100000
set_option linter.unusedVariables false
open Go.RowKit
def LoopR {α : Type} (t : Rd → Rd × α) (N : Nat) (r1 : Rd) (k : Nat) (rk : Rd) (acc : List α) : Prop := (rk.e = 0 → someL t (N - k) rk acc = someL t N r1 []) ∧ (rk.e ≠ 0 → (someL t N r1 []).1 = rk)
theorem loopR_start {α : Type} (t : Rd → Rd × α) {N : Nat} {r1 : Rd} (h : r1.e ≠ 0 → N = 0) : LoopR t N r1 0 r1 [] :=
 ⟨fun _ => by rw [Nat.sub_zero], fun he => by rw [h he]; rfl⟩
theorem loopR_step {α : Type} {t : Rd → Rd × α} {N k : Nat} {r1 rk : Rd} {acc : List α} (h : LoopR t N r1 k rk acc) (hk : k < N) (he : rk.e = 0) {y : α} (hy : (t rk).1.e = 0 → y = (t rk).2) : LoopR t N r1 (k + 1) (t rk).1 (acc ++ [y]) := by
 have h1 := h.1 he
 refine ⟨fun h2 => ?_, fun h2 => ?_⟩
 ·rw [hy h2, ← some_next hk h2]; exact h1
 ·rw [← h1, some_stop hk h2]
theorem loopR_end {α : Type} {t : Rd → Rd × α} {N k : Nat} {r1 rk : Rd} {acc : List α} (h : LoopR t N r1 k rk acc) (hk : k ≤ N) (hx : ¬ (k < N ∧ rk.e = 0)) : (someL t N r1 []).1 = rk ∧ (rk.e = 0 → (someL t N r1 []).2 = acc) := by
 by_cases he : rk.e = 0
 ·have e : k = N := Nat.le_antisymm hk (by rcases Nat.lt_or_ge k N with h1 | h1; exact absurd ⟨h1, he⟩ hx; exact h1)
  subst e
  have h1 := h.1 he
  rw [Nat.sub_self] at h1
  rw [← h1]
  exact ⟨rfl, fun _ => rfl⟩
 ·exact ⟨h.2 he, fun h2 => absurd h2 he⟩
theorem num_zero (rd : Rd) (i : Int) (h : (rd.num i).1.e ≠ 0) : (rd.num i).2 = 0 := by
 by_cases he : rd.e = 0
 ·obtain ⟨b, e⟩ := rd
  obtain rfl : e = 0 := he
  rcases numR_cases b i with ⟨er, _, _, hN⟩ | ⟨m, j, _, _, _, hN⟩
  ·rw [hN]
  ·rw [hN] at h; exact absurd rfl h
 ·rw [Rd.num_err he]
theorem own_setR {w : World} {base size n p i : Nat} {e : TypeId} {v : Value} {xs : List Value} {u : Value} (h : w.ownsRow base e size v n xs) (hp : p < base) : (w.setCell ⟨p, i, none⟩ u).ownsRow base e size v n xs := by
 refine ⟨h.1, ?_⟩
 rcases h.2 with hn | ⟨b, cap, cur, rfl, hb, hh, rest⟩
 ·exact .inl hn
 ·exact .inr ⟨b, cap, cur, rfl, hb, (blk_far (by omega) u).trans hh, rest⟩
theorem own_setV {w : World} {base size n p i : Nat} {e : TypeId} {v : Value} {xs : List Value} {u : Value} (h : w.ownsRow base e size v n xs) (hp : ∀ b, v.ownBlock = some b → b ≠ p) : (w.setCell ⟨p, i, none⟩ u).ownsRow base e size v n xs := by
 refine ⟨h.1, ?_⟩
 rcases h.2 with hn | ⟨b, cap, cur, rfl, hb, hh, rest⟩
 ·exact .inl hn
 ·exact .inr ⟨b, cap, cur, rfl, hb, (blk_far (hp b rfl) u).trans hh, rest⟩
theorem RfAt.cells2 {w : World} {g : Nat} {r : Rd} (h : RfAt w g r) : ∃ A n c, w.cell? ⟨g, 0, none⟩ = some (.slice A n c) ∧ w.cell? ⟨g, 1, none⟩ = some (.int .i64 r.e) := by
 obtain ⟨A, n, c, hg, _⟩ := h
 exact ⟨A, n, c, (blk_rules hg).1 0, (blk_rules hg).1 1⟩
theorem setR2 {w V : World} {p : Nat} {T : TypeId} {x0 x1 : Value} (h : w.heap[p]? = some (.cells #[x0, x1] T (0, 0))) (a0 a1 : Value)
  (hV : (w.setCell ⟨p, 0, none⟩ a0).setCell ⟨p, 1, none⟩ a1 = V) : V.heap[p]? = some (.cells #[a0, a1] T (0, 0)) ∧ (∀ (g : Nat) (r : Rd), RfAt w g r → g < p → RfAt V g r) ∧ (∀ (g : Nat) (a : World), Only g a w → a.heap.size ≤ p → Only g a V) ∧ (∀ S : Nat → Prop, (∀ b, S b → b ≠ p) → Keep S w V) := by
 subst hV
 exact ⟨(blk_set (i := 1) (blk_set (i := 0) h a0) a1), fun g r hr hg => ((hr.setFar (i := 0) hg a0).setFar (i := 1) hg a1), fun g a ho hw => ((ho.setNew (i := 0) hw a0).setNew (i := 1) hw a1), fun S hS => (((Keep.refl S w).trans (Keep.setFar (i := 0) hS a0)).trans (Keep.setFar (i := 1) hS a1))⟩
theorem setR3 {w V : World} {p : Nat} {T : TypeId} {x0 x1 x2 : Value} (h : w.heap[p]? = some (.cells #[x0, x1, x2] T (0, 0))) (a0 a1 a2 : Value)
  (hV : ((w.setCell ⟨p, 0, none⟩ a0).setCell ⟨p, 1, none⟩ a1).setCell ⟨p, 2, none⟩ a2 = V) : V.heap[p]? = some (.cells #[a0, a1, a2] T (0, 0)) ∧ (∀ (g : Nat) (r : Rd), RfAt w g r → g < p → RfAt V g r) ∧ (∀ (g : Nat) (a : World), Only g a w → a.heap.size ≤ p → Only g a V) ∧ (∀ S : Nat → Prop, (∀ b, S b → b ≠ p) → Keep S w V) := by
 subst hV
 exact ⟨(blk_set (i := 2) (blk_set (i := 1) (blk_set (i := 0) h a0) a1) a2), fun g r hr hg => (((hr.setFar (i := 0) hg a0).setFar (i := 1) hg a1).setFar (i := 2) hg a2), fun g a ho hw => (((ho.setNew (i := 0) hw a0).setNew (i := 1) hw a1).setNew (i := 2) hw a2), fun S hS => ((((Keep.refl S w).trans (Keep.setFar (i := 0) hS a0)).trans (Keep.setFar (i := 1) hS a1)).trans (Keep.setFar (i := 2) hS a2))⟩
theorem setR7 {w V : World} {p : Nat} {T : TypeId} {x0 x1 x2 x3 x4 x5 x6 : Value} (h : w.heap[p]? = some (.cells #[x0, x1, x2, x3, x4, x5, x6] T (0, 0))) (a0 a1 a2 a3 a4 a5 a6 : Value)
  (hV : ((((((w.setCell ⟨p, 0, none⟩ a0).setCell ⟨p, 1, none⟩ a1).setCell ⟨p, 2, none⟩ a2).setCell ⟨p, 3, none⟩ a3).setCell ⟨p, 4, none⟩ a4).setCell ⟨p, 5, none⟩ a5).setCell ⟨p, 6, none⟩ a6 = V) : V.heap[p]? = some (.cells #[a0, a1, a2, a3, a4, a5, a6] T (0, 0)) ∧ (∀ (g : Nat) (r : Rd), RfAt w g r → g < p → RfAt V g r) ∧ (∀ (g : Nat) (a : World), Only g a w → a.heap.size ≤ p → Only g a V) ∧ (∀ S : Nat → Prop, (∀ b, S b → b ≠ p) → Keep S w V) := by
 subst hV
 have e0 := h
 have e1 : (w.setCell ⟨p, 0, none⟩ a0).heap[p]? = some (.cells #[a0, x1, x2, x3, x4, x5, x6] T (0, 0)) := blk_set (i := 0) e0 a0
 have e2 : ((w.setCell ⟨p, 0, none⟩ a0).setCell ⟨p, 1, none⟩ a1).heap[p]? = some (.cells #[a0, a1, x2, x3, x4, x5, x6] T (0, 0)) := blk_set (i := 1) e1 a1
 have e3 : (((w.setCell ⟨p, 0, none⟩ a0).setCell ⟨p, 1, none⟩ a1).setCell ⟨p, 2, none⟩ a2).heap[p]? = some (.cells #[a0, a1, a2, x3, x4, x5, x6] T (0, 0)) := blk_set (i := 2) e2 a2
 have e4 : ((((w.setCell ⟨p, 0, none⟩ a0).setCell ⟨p, 1, none⟩ a1).setCell ⟨p, 2, none⟩ a2).setCell ⟨p, 3, none⟩ a3).heap[p]? = some (.cells #[a0, a1, a2, a3, x4, x5, x6] T (0, 0)) := blk_set (i := 3) e3 a3
 have e5 : (((((w.setCell ⟨p, 0, none⟩ a0).setCell ⟨p, 1, none⟩ a1).setCell ⟨p, 2, none⟩ a2).setCell ⟨p, 3, none⟩ a3).setCell ⟨p, 4, none⟩ a4).heap[p]? = some (.cells #[a0, a1, a2, a3, a4, x5, x6] T (0, 0)) := blk_set (i := 4) e4 a4
 have e6 : ((((((w.setCell ⟨p, 0, none⟩ a0).setCell ⟨p, 1, none⟩ a1).setCell ⟨p, 2, none⟩ a2).setCell ⟨p, 3, none⟩ a3).setCell ⟨p, 4, none⟩ a4).setCell ⟨p, 5, none⟩ a5).heap[p]? = some (.cells #[a0, a1, a2, a3, a4, a5, x6] T (0, 0)) := blk_set (i := 5) e5 a5
 have e7 : (((((((w.setCell ⟨p, 0, none⟩ a0).setCell ⟨p, 1, none⟩ a1).setCell ⟨p, 2, none⟩ a2).setCell ⟨p, 3, none⟩ a3).setCell ⟨p, 4, none⟩ a4).setCell ⟨p, 5, none⟩ a5).setCell ⟨p, 6, none⟩ a6).heap[p]? = some (.cells #[a0, a1, a2, a3, a4, a5, a6] T (0, 0)) := blk_set (i := 6) e6 a6
 exact ⟨e7, fun g r hr hg => (((((((hr.setFar (i := 0) hg a0).setFar (i := 1) hg a1).setFar (i := 2) hg a2).setFar (i := 3) hg a3).setFar (i := 4) hg a4).setFar (i := 5) hg a5).setFar (i := 6) hg a6), fun g a ho hw => (((((((ho.setNew (i := 0) hw a0).setNew (i := 1) hw a1).setNew (i := 2) hw a2).setNew (i := 3) hw a3).setNew (i := 4) hw a4).setNew (i := 5) hw a5).setNew (i := 6) hw a6), fun S hS => ((((((((Keep.refl S w).trans (Keep.setFar (i := 0) hS a0)).trans (Keep.setFar (i := 1) hS a1)).trans (Keep.setFar (i := 2) hS a2)).trans (Keep.setFar (i := 3) hS a3)).trans (Keep.setFar (i := 4) hS a4)).trans (Keep.setFar (i := 5) hS a5)).trans (Keep.setFar (i := 6) hS a6))⟩
def TkRl (g : Nat) (w : World) (res : Rd × Rl) (e : Ending) (w' : World) : Prop := ∃ (x : Rl) (A : Option Addr) (n c : Nat), e = .returned (.agg #[.string x.host, .string x.pre, .slice A n c]) ∧ RlV (fun b => w.heap.size ≤ b) w' x A n c ∧ RfAt w' g res.1 ∧ Only g w w' ∧ (res.1.e = 0 → x = res.2)
def TkRs (g : Nat) (w : World) (res : Rd × Rs) (e : Ending) (w' : World) : Prop := ∃ (r : Rs) (B : Option Addr) (m d : Nat) (B' : Option Addr) (m' d' : Nat), e = .returned (rsVal r B m d B' m' d') ∧ RsV (fun b => w.heap.size ≤ b) w' r B m d B' m' d' ∧ RfAt w' g res.1 ∧ Only g w w' ∧ (res.1.e = 0 → r = res.2)
theorem refRule_takes (g : Nat) (rd : Rd) (w : World) (h : RfAt w g rd) : Calls Tryz.prog 164 #[.pointer (some ⟨g, 0, none⟩)] w (TkRl g w (takeRl rd)) := by
 have hg := h.lt
 have HR := hid h
 have HE1 : Hid ((takeRl rd).1 = (someB takeW 4 ((rd.txt 40).1.txt 40).1).1) := hid rfl
 have HE2 : Hid ((takeRl rd).2 = ⟨mkS (rd.txt 40).2, mkS ((rd.txt 40).1.txt 40).2, (someB takeW 4 ((rd.txt 40).1.txt 40).1).2⟩) := hid rfl
 clear h
 go_enter Tryz.func164, Tryz.ntmps164
 go_wp2_with fail
 refine (refTxt04_any g rd 40 _ (HR.out.up (Ext.new _ _))).mono ?_
 rintro e w1 ⟨rfl, hr1, ho1⟩
 have HR1 := hid hr1
 have HKR1 : Hid (w1.heap[w.heap.size]? = some (.cells #[.string ⟨#[]⟩, .string ⟨#[]⟩, .slice none 0 0] 111 (0, 0))) := hid ((ho1.blk (b := w.heap.size) (by simp <;> omega) (by omega)).trans (heap_alloc_new w _))
 have HO1 := hid ((Only.of_ext (Ext.new _ _)).trans ho1)
 have hz1 : w.heap.size < w1.heap.size := by have := ho1.size; simp at this; omega
 clear hr1 ho1
 go_wp2_with fail
 have HKR2 : Hid ((w1.alloc (.cells #[.string (bstr (rd.txt 40).2), .string ⟨#[]⟩, .slice none 0 0] 111)).heap[w.heap.size]? = some (.cells #[.string ⟨#[]⟩, .string ⟨#[]⟩, .slice none 0 0] 111 (0, 0))) := hid (((Ext.new w1 (.cells #[.string (bstr (rd.txt 40).2), .string ⟨#[]⟩, .slice none 0 0] 111)).block (b := w.heap.size) (by omega)).trans HKR1.out)
 have HKL2 : Hid ((w1.alloc (.cells #[.string (bstr (rd.txt 40).2), .string ⟨#[]⟩, .slice none 0 0] 111)).heap[w1.heap.size]? = some (.cells #[.string (bstr (rd.txt 40).2), .string ⟨#[]⟩, .slice none 0 0] 111 (0, 0))) := hid (heap_alloc_new w1 _)
 have HR2 := hid (HR1.out.up (Ext.new w1 (.cells #[.string (bstr (rd.txt 40).2), .string ⟨#[]⟩, .slice none 0 0] 111)))
 have HO2 := hid (HO1.out.trans (Only.of_ext (Ext.new w1 (.cells #[.string (bstr (rd.txt 40).2), .string ⟨#[]⟩, .slice none 0 0] 111))))
 have hz2 : w1.heap.size < (w1.alloc (.cells #[.string (bstr (rd.txt 40).2), .string ⟨#[]⟩, .slice none 0 0] 111)).heap.size := by simp
 generalize w1.alloc (.cells #[.string (bstr (rd.txt 40).2), .string ⟨#[]⟩, .slice none 0 0] 111) = w2 at HKR2 HKL2 HR2 HO2 hz2 ⊢
 refine (refTxt04_any g _ 40 _ HR2.out).mono ?_
 rintro e w3 ⟨rfl, hr3, ho3⟩
 have HR3 := hid hr3
 have HKR3 := hid ((ho3.blk (b := w.heap.size) (by omega) (by omega)).trans HKR2.out)
 have HKL3 := hid ((ho3.blk (b := w1.heap.size) (by omega) (by omega)).trans HKL2.out)
 have HO3 := hid (HO2.out.trans ho3)
 have hz3 : w1.heap.size < w3.heap.size := Nat.lt_of_lt_of_le hz2 ho3.size
 clear hr3 ho3
 obtain ⟨qL0, qL1⟩ := blk_rules HKL3.out
 go_wp2_with fail
 clear qL0 qL1
 have HKR4 := hid ((blk_far (g := w.heap.size) (g' := w1.heap.size) (i := 1) (by omega) (.string (bstr ((rd.txt 40).1.txt 40).2))).trans HKR3.out)
 have HKL4 : Hid (_ = some (Obj.cells #[.string (bstr (rd.txt 40).2), .string (bstr ((rd.txt 40).1.txt 40).2), .slice none 0 0] 111 (0, 0))) := hid (blk_set (i := 1) HKL3.out (.string (bstr ((rd.txt 40).1.txt 40).2)))
 have HR4 := hid (HR3.out.setFar (p := w1.heap.size) (i := 1) (by omega) (.string (bstr ((rd.txt 40).1.txt 40).2)))
 have HO4 := hid (HO3.out.setNew (p := w1.heap.size) (i := 1) (by omega) (.string (bstr ((rd.txt 40).1.txt 40).2)))
 have hz4 : w1.heap.size < (w3.setCell ⟨w1.heap.size, 1, none⟩ (.string (bstr ((rd.txt 40).1.txt 40).2))).heap.size := by rw [size_set]; exact hz3
 generalize w3.setCell ⟨w1.heap.size, 1, none⟩ (.string (bstr ((rd.txt 40).1.txt 40).2)) = w4 at HKR4 HKL4 HR4 HO4 hz4 ⊢
 refine (refNum04_any g _ 4 _ HR4.out).mono ?_
 rintro e w5 ⟨rfl, hr5, ho5⟩
 have HR5 := hid hr5
 have HKR5 := hid ((ho5.blk (b := w.heap.size) (by omega) (by omega)).trans HKR4.out)
 have HKL5 := hid ((ho5.blk (b := w1.heap.size) (by omega) (by omega)).trans HKL4.out)
 have HO5 := hid (HO4.out.trans ho5)
 have hz5 : w1.heap.size < w5.heap.size := Nat.lt_of_lt_of_le hz4 ho5.size
 clear hr5 ho5
 have hN4 : (((rd.txt 40).1.txt 40).1.num 4).2 ≤ 4 := by have := Rd.num_le ((rd.txt 40).1.txt 40).1 4; rw [bnd4] at this; omega
 have HNZ := hid (num_zero ((rd.txt 40).1.txt 40).1 4)
 have HSB : Hid (someB takeW 4 ((rd.txt 40).1.txt 40).1 = someL takeW (((rd.txt 40).1.txt 40).1.num 4).2 (((rd.txt 40).1.txt 40).1.num 4).1 []) := hid rfl
 obtain ⟨N, hNe⟩ : ∃ N, N = (((rd.txt 40).1.txt 40).1.num 4).2 := ⟨_, rfl⟩
 obtain ⟨r0, hre⟩ : ∃ r0, r0 = (((rd.txt 40).1.txt 40).1.num 4).1 := ⟨_, rfl⟩
 rw [← hNe, ← hre] at HSB
 have HST : Hid (r0.e ≠ 0 → N = 0) := hid (by rw [hre, hNe]; exact HNZ.out)
 rw [← hre] at HR5
 rw [← hNe] at hN4 ⊢
 clear hNe hre HNZ
 obtain ⟨q, hq⟩ : ∃ q, q = w1.heap.size := ⟨_, rfl⟩
 rw [← hq] at HKL5 hz5 ⊢
 have hgq : g < q := by rw [hq]; have := HO1.out.size; omega
 have hwq : w.heap.size < q := by rw [hq]; have := hz1; omega
 clear hq
 obtain ⟨base, hbs⟩ : ∃ base, base = w5.heap.size := ⟨_, rfl⟩
 have hqb : q < base := by rw [hbs]; exact hz5
 have hb0 : base ≤ w5.heap.size := by rw [hbs]; exact Nat.le_refl _
 clear hbs
 go_wp2_with fail
 go_loopw [5] (fun i wr => ∃ (k : Nat) (rk : Rd) (acc : List (ByteArray × Int)) (us : List Value) (Av : Option Addr) (cv : Nat), k ≤ N ∧ i = .int .i64 k ∧ Hid (LoopR takeW N r0 k rk acc) ∧ Hid (acc.length = k) ∧ Hid (wr.heap[w.heap.size]? = some (.cells #[.string ⟨#[]⟩, .string ⟨#[]⟩, .slice none 0 0] 111 (0, 0))) ∧ Hid (wr.heap[q]? = some (.cells #[.string (bstr (rd.txt 40).2), .string (bstr ((rd.txt 40).1.txt 40).2), .slice Av k cv] 111 (0, 0))) ∧ Hid (wr.ownsRow base 166 2 (.slice Av k cv) k us) ∧ Hid (RowsOf WtQ 2 us acc) ∧ Hid (RfAt wr g rk) ∧ Hid (Only g w wr) ∧ base ≤ wr.heap.size) (fun i _ => N - (intOf i).toNat)
 case atStart => exact ⟨0, r0, [], [], none, 0, Nat.zero_le _, by go_num, hid (loopR_start takeW HST.out), hid rfl, HKR5, HKL5, hid own_nil, hid rfl, HR5, HO5, hb0⟩
 case round =>
  obtain ⟨k, rk, acc, us, Av, cv, hk, rfl, HL, HA, KR, KQ, HW, HU, HRk, HO, hbr⟩ := hrel
  have hqr : q < wr.heap.size := (Array.getElem?_eq_some_iff.1 KQ.out).1
  have hgr : g < wr.heap.size := by omega
  obtain ⟨Ag, ng, cg, g0, g1⟩ := HRk.out.cells2
  by_cases hgo : k < N ∧ rk.e = 0
  ·obtain ⟨hlt, he⟩ := hgo
   have HE := hid he
   rw [he] at g1
   clear he
   have i1 : (k : Int) < (N : Int) := by omega
   go_wp2_with fail
   clear g0 g1
   refine (refTxt04_any g rk 12 _ HRk.out).mono ?_
   rintro e v1 ⟨rfl, hr, ho⟩
   have HR1 := hid hr
   have HO1 := hid ho
   have KR1 := hid ((ho.blk (b := w.heap.size) (by omega) (by omega)).trans KR.out)
   have KQ1 := hid ((ho.blk (b := q) hqr (by omega)).trans KQ.out)
   have HW1 := hid (own_only HW.out ho (by omega))
   have hl1 : wr.heap.size ≤ v1.heap.size := ho.size
   have HO1 := hid (HO.out.trans ho)
   clear hr ho
   go_wp2_with fail
   refine (refNum04_any g _ 100 _ (HR1.out.up (Ext.new _ _))).mono ?_
   rintro e v2 ⟨rfl, hr, ho⟩
   have HR2 := hid hr
   have XB : Ext v1 (v1.alloc (.cells #[.string (bstr (rk.txt 12).2), .int .i64 0] 166)) := Ext.new _ _
   have hbx : v1.heap.size < (v1.alloc (.cells #[.string (bstr (rk.txt 12).2), .int .i64 0] 166)).heap.size := by simp
   have KB2 := hid ((ho.blk (b := v1.heap.size) hbx (by omega)).trans (heap_alloc_new v1 _))
   have KR2 := hid ((ho.blk (b := w.heap.size) (by omega) (by omega)).trans ((XB.block (b := w.heap.size) (by omega)).trans KR1.out))
   have KQ2 := hid ((ho.blk (b := q) (by omega) (by omega)).trans ((XB.block (b := q) (by omega)).trans KQ1.out))
   have HW2 := hid (own_only (own_up HW1.out XB) ho (by omega))
   have hl2 : v1.heap.size < v2.heap.size := Nat.lt_of_lt_of_le hbx ho.size
   have HO2 := hid (HO1.out.trans ((Only.of_ext XB).trans ho))
   clear hr ho XB
   have KB3 : Hid (_ = _) := hid (blk_set (i := 1) KB2.out (.int .i64 (((rk.txt 12).1.num 100).2 : Nat)))
   have KR3 : Hid (_ = _) := hid ((blk_far (g := w.heap.size) (g' := v1.heap.size) (i := 1) (by omega) (.int .i64 (((rk.txt 12).1.num 100).2 : Nat))).trans KR2.out)
   have KQ3 : Hid (_ = _) := hid ((blk_far (g := q) (g' := v1.heap.size) (i := 1) (by omega) (.int .i64 (((rk.txt 12).1.num 100).2 : Nat))).trans KQ2.out)
   have HR3 := hid (HR2.out.setFar (p := v1.heap.size) (i := 1) (by omega) (.int .i64 (((rk.txt 12).1.num 100).2 : Nat)))
   have HO3 := hid (HO2.out.setNew (p := v1.heap.size) (i := 1) (by omega) (.int .i64 (((rk.txt 12).1.num 100).2 : Nat)))
   have HW3 := hid (own_setV (p := v1.heap.size) (i := 1) (u := .int .i64 (((rk.txt 12).1.num 100).2 : Nat)) HW2.out (fun b hb => by have := (HW1.out.lt b hb).2; omega))
   have hl3 : (v2.setCell ⟨v1.heap.size, 1, none⟩ (.int .i64 (((rk.txt 12).1.num 100).2 : Nat))).heap.size = v2.heap.size := size_set _ _ _
   have hFk := flat_k (v2.setCell ⟨v1.heap.size, 1, none⟩ (.int .i64 (((rk.txt 12).1.num 100).2 : Nat))) [.string (bstr (rk.txt 12).2), .int .i64 (((rk.txt 12).1.num 100).2 : Nat)] 166 rfl
   have hOW := own_up HW3.out (Ext.new _ (.cells #[.string (bstr (rk.txt 12).2), .int .i64 (((rk.txt 12).1.num 100).2 : Nat)] 166))
   obtain ⟨v', v4, hrun, hown4, hg4, hnw⟩ := run_append_flat elem_wt 109 hOW 1 hFk (by simp [Value.oneCell']) (by omega) (by omega) (by simp only [World.size_alloc, hl3]; omega) (fun h => by cases h)
   obtain ⟨A4, c4, rfl, -, -, -, -⟩ := own_flat hown4
   simp only [hl3] at hrun
   have HRUN := hid hrun
   have GA : ∀ b, b < base → v4.heap[b]? = (v2.setCell ⟨v1.heap.size, 1, none⟩ (.int .i64 (((rk.txt 12).1.num 100).2 : Nat))).heap[b]? := fun b hb => (hg4.block b (by simp only [World.size_alloc, hl3]; omega) (fun e' => by have := (hOW.lt b e'.symm).1; omega)).trans ((Ext.new _ _).block (by rw [hl3]; omega))
   have KR4 := hid ((GA w.heap.size (by omega)).trans KR3.out)
   have KQ4 := hid ((GA q hqb).trans KQ3.out)
   have HR4 := hid (rfat_grown (HR3.out.up (Ext.new _ (.cells #[.string (bstr (rk.txt 12).2), .int .i64 (((rk.txt 12).1.num 100).2 : Nat)] 166))) hg4 hOW (by omega))
   have HO4 := hid (only_grown HO3.out (Ext.new _ (.cells #[.string (bstr (rk.txt 12).2), .int .i64 (((rk.txt 12).1.num 100).2 : Nat)] 166)) hg4 hOW (by omega))
   have hl4 : base ≤ v4.heap.size := by have h9 := hg4.size; simp only [World.size_alloc, hl3] at h9; omega
   have HW4 := hid hown4
   have hu4 : WtQ [.string (bstr (rk.txt 12).2), .int .i64 (((rk.txt 12).1.num 100).2 : Nat)] (takeW rk).2 := ⟨rfl, Rd.txt_max _ _⟩
   have HU4 := hid (RowsOf.snoc rfl hu4 HU.out)
   have HL4 := hid (loopR_step HL.out hlt HE.out (y := (takeW rk).2) (fun _ => rfl))
   have HA4 : Hid ((acc ++ [(takeW rk).2]).length = k + 1) := hid (by rw [List.length_append, HA.out]; rfl)
   clear hFk hOW hrun hown4 hg4 hnw GA hu4
   obtain ⟨qb0, qb1⟩ := blk_rules KB2.out
   obtain ⟨qq0, qq1⟩ := blk_rules KQ2.out
   obtain ⟨qs0, qs1⟩ := blk_rules KQ4.out
   go_wp2_with (refine Lib.wpList_append_run _ rfl _ _ _ _ rfl _ _ rfl rfl _ v4 HRUN.out ?_)
   clear qb0 qb1 qq0 qq1 qs0 qs1
   go_roundw
   case rel => exact ⟨k + 1, _, _, _, A4, c4, by omega, by go_num, HL4, HA4, hid ((blk_far (g := w.heap.size) (g' := q) (i := 2) (by omega) _).trans KR4.out), hid (blk_set (i := 2) KQ4.out _), hid (own_setR (p := q) (i := 2) HW4.out hqb), HU4, hid (HR4.out.setFar (p := q) (i := 2) hgq _), hid (HO4.out.setNew (p := q) (i := 2) (by omega) _), by rw [size_set]; omega⟩
   case measure => simp [intOf]; omega
  ·have HEND := hid (loopR_end HL.out hk hgo)
   obtain ⟨A9, c9, e9, h1, h2, h3, hF⟩ := own_flat HW.out
   injection e9 with e1 e2 e3
   subst e1 e3
   have HF := hid (hF.arrQ (S := fun b => base ≤ b) HU.out (by omega) (fun b o e hb => by subst e; exact (HW.out.lt b rfl).1))
   have HSL : Hid (SlW Av k cv) := hid ⟨h1, h2, h3⟩
   have HGO := hid hgo
   clear hgo hF h1 h2 h3
   obtain ⟨qs0, qs1⟩ := blk_rules KQ.out
   obtain ⟨qr0, qr1⟩ := blk_rules KR.out
   have hwr : w.heap.size < wr.heap.size := by omega
   by_cases hlt : k < N
   ·have hne : (rk.e == 0) = false := by rw [beq_eq_false_iff_ne]; exact fun h => HGO.out ⟨hlt, h⟩
    go_wp2_with fail
    clear qs0 qs1 qr0 qr1 g0 g1
    generalize hV : ((wr.setCell { block := w.heap.size, off := 0 } (Value.string (bstr (rd.txt 40).2))).setCell { block := w.heap.size, off := 1 } (Value.string (bstr ((rd.txt 40).1.txt 40).2))).setCell { block := w.heap.size, off := 2 } (Value.slice Av k cv) = V
    obtain ⟨bV, rV, oV, kV⟩ := setR3 KR.out _ _ _ hV
    clear hV
    obtain ⟨z0, -⟩ := blk_rules bV
    exact bodyPost_ret (v := .agg #[.string (bstr (rd.txt 40).2), .string (bstr ((rd.txt 40).1.txt 40).2), .slice Av k cv]) (by simp [results, Tryz.results164, go_sem, z0]) rfl
     ⟨⟨mkS (rd.txt 40).2, mkS ((rd.txt 40).1.txt 40).2, acc⟩, Av, k, cv, rfl, ⟨Rd.txt_max _ _, Rd.txt_max _ _, HSL.out, (ArrQ.keep HF.out (fun _ _ _ h => h) (kV _ (fun b hb => by omega))).weak (fun _ _ h => h) (fun b _ hb => by omega)⟩, by rw [HE1.out, HSB.out, HEND.out.1]; exact rV _ _ HRk.out (by omega), oV _ _ HO.out (Nat.le_refl _), fun he => by rw [HE1.out, HSB.out, HEND.out.1] at he; rw [HE2.out, HSB.out, HEND.out.2 he]⟩
   ·have hne : ¬ (k : Int) < (N : Int) := by omega
    go_wp2_with fail
    clear qs0 qs1 qr0 qr1 g0 g1
    generalize hV : ((wr.setCell { block := w.heap.size, off := 0 } (Value.string (bstr (rd.txt 40).2))).setCell { block := w.heap.size, off := 1 } (Value.string (bstr ((rd.txt 40).1.txt 40).2))).setCell { block := w.heap.size, off := 2 } (Value.slice Av k cv) = V
    obtain ⟨bV, rV, oV, kV⟩ := setR3 KR.out _ _ _ hV
    clear hV
    obtain ⟨z0, -⟩ := blk_rules bV
    exact bodyPost_ret (v := .agg #[.string (bstr (rd.txt 40).2), .string (bstr ((rd.txt 40).1.txt 40).2), .slice Av k cv]) (by simp [results, Tryz.results164, go_sem, z0]) rfl
     ⟨⟨mkS (rd.txt 40).2, mkS ((rd.txt 40).1.txt 40).2, acc⟩, Av, k, cv, rfl, ⟨Rd.txt_max _ _, Rd.txt_max _ _, HSL.out, (ArrQ.keep HF.out (fun _ _ _ h => h) (kV _ (fun b hb => by omega))).weak (fun _ _ h => h) (fun b _ hb => by omega)⟩, by rw [HE1.out, HSB.out, HEND.out.1]; exact rV _ _ HRk.out (by omega), oV _ _ HO.out (Nat.le_refl _), fun he => by rw [HE1.out, HSB.out, HEND.out.1] at he; rw [HE2.out, HSB.out, HEND.out.2 he]⟩
theorem wpS_twoR {P : Program} {Q : Exit → Act → World → Prop} {md : Region.Mode} (i j : Nat) {S : World → Prop} {l : List Oper} {oi oj : Oper} {fuel : Nat} {listed : Array Bool} {a : Act} {w : World} (hi : l[i]? = some oi) (hj : l[j]? = some oj)
  (hr : Region.ready md l.toArray listed = [i, j]) (hwi : Region.wanted oi (yielded l.toArray a.tmps) = true) (hwj : Region.wanted oj (yielded l.toArray a.tmps) = true)
  (h1 : ∀ K : Act → World → Prop, Shut (∀ a w' (S' : World → Prop), (∀ x, S' x → S x) → S' w' → (S' w' → wpS P md l.toArray Q S' fuel (listed.setIfInBounds i true) a w') → K a w') → Oper.wp P oi a w K Q)
  (h2 : ∀ K : Act → World → Prop, Shut (∀ a w' (S' : World → Prop), (∀ x, S' x → S x) → S' w' → (S' w' → wpS P md l.toArray Q S' fuel (listed.setIfInBounds j true) a w') → K a w') → Oper.wp P oj a w K Q) : wpS P md l.toArray Q S (fuel + 1) listed a w := by
 refine wpAnyH_all hr (by simp) fun k hk => ?_
 rcases (by simpa using hk : k = i ∨ k = j) with rfl | rfl
 ·refine wpOp_step (o := oi) (by simpa using hi) fun K hK => ?_
  rw [if_pos hwi]
  exact h1 K fun a w' S' hSS hS hh => hK a w' ⟨hSS _ hS, wpAnyH_stronger hSS _ _ _ _ (hh hS)⟩
 ·refine wpOp_step (o := oj) (by simpa using hj) fun K hK => ?_
  rw [if_pos hwj]
  exact h2 K fun a w' S' hSS hS hh => hK a w' ⟨hSS _ hS, wpAnyH_stronger hSS _ _ _ _ (hh hS)⟩
theorem refTake0_takes (g : Nat) (rd : Rd) (w : World) (h : RfAt w g rd) : Calls Tryz.prog 83 #[.pointer (some ⟨g, 0, none⟩)] w (TkRs g w (takeR0 rd)) := by
 have hg := h.lt
 have HR := hid h
 have hk4 : (rd.num 3).2 = 0 ∨ (rd.num 3).2 = 1 ∨ (rd.num 3).2 = 2 ∨ (rd.num 3).2 = 3 := by have := Rd.num_le rd 3; rw [bnd3] at this; omega
 obtain ⟨K, hK⟩ : ∃ K : Int, K = (((rd.num 3).2 : Nat) : Int) := ⟨_, rfl⟩
 have HKK := hid hK
 clear h hK
 go_enter Tryz.func83, Tryz.ntmps83
 go_wp2_with fail
 refine (refNum04_any g rd 3 _ (HR.out.up (Ext.new _ _))).mono ?_
 rintro e w1 ⟨rfl, hr1, ho1⟩
 have HR1 := hid hr1
 have HKR1 : Hid (w1.heap[w.heap.size]? = some (.cells #[.int .i64 0, .string ⟨#[]⟩, .int .i64 0, .int .i64 0, .string ⟨#[]⟩, .slice none 0 0, .slice none 0 0] 34 (0, 0))) := hid ((ho1.blk (b := w.heap.size) (by simp <;> omega) (by omega)).trans (heap_alloc_new w _))
 have HO1 := hid ((Only.of_ext (Ext.new _ _)).trans ho1)
 have hz1 : w.heap.size < w1.heap.size := by have := ho1.size; simp at this; omega
 rw [← HKK.out]
 clear hr1 ho1
 go_wp2_with fail
 have HKR2 : Hid ((w1.alloc (.cells #[.int .i64 K, .string ⟨#[]⟩, .int .i64 0, .int .i64 0, .string ⟨#[]⟩, .slice none 0 0, .slice none 0 0] 34)).heap[w.heap.size]? = some (.cells #[.int .i64 0, .string ⟨#[]⟩, .int .i64 0, .int .i64 0, .string ⟨#[]⟩, .slice none 0 0, .slice none 0 0] 34 (0, 0))) := hid (((Ext.new w1 (.cells #[.int .i64 K, .string ⟨#[]⟩, .int .i64 0, .int .i64 0, .string ⟨#[]⟩, .slice none 0 0, .slice none 0 0] 34)).block (b := w.heap.size) (by omega)).trans HKR1.out)
 have HKL2 : Hid ((w1.alloc (.cells #[.int .i64 K, .string ⟨#[]⟩, .int .i64 0, .int .i64 0, .string ⟨#[]⟩, .slice none 0 0, .slice none 0 0] 34)).heap[w1.heap.size]? = some (.cells #[.int .i64 K, .string ⟨#[]⟩, .int .i64 0, .int .i64 0, .string ⟨#[]⟩, .slice none 0 0, .slice none 0 0] 34 (0, 0))) := hid (heap_alloc_new w1 _)
 have HR2 := hid (HR1.out.up (Ext.new w1 (.cells #[.int .i64 K, .string ⟨#[]⟩, .int .i64 0, .int .i64 0, .string ⟨#[]⟩, .slice none 0 0, .slice none 0 0] 34)))
 have HO2 := hid (HO1.out.trans (Only.of_ext (Ext.new w1 (.cells #[.int .i64 K, .string ⟨#[]⟩, .int .i64 0, .int .i64 0, .string ⟨#[]⟩, .slice none 0 0, .slice none 0 0] 34))))
 have hz2 : w1.heap.size < (w1.alloc (.cells #[.int .i64 K, .string ⟨#[]⟩, .int .i64 0, .int .i64 0, .string ⟨#[]⟩, .slice none 0 0, .slice none 0 0] 34)).heap.size := by simp
 generalize w1.alloc (.cells #[.int .i64 K, .string ⟨#[]⟩, .int .i64 0, .int .i64 0, .string ⟨#[]⟩, .slice none 0 0, .slice none 0 0] 34) = w2 at HKR2 HKL2 HR2 HO2 hz2 ⊢
 refine (refTxt04_any g _ 12 _ HR2.out).mono ?_
 rintro e w3 ⟨rfl, hr3, ho3⟩
 have HR3 := hid hr3
 have HKR3 := hid ((ho3.blk (b := w.heap.size) (by omega) (by omega)).trans HKR2.out)
 have HKL3 := hid ((ho3.blk (b := w1.heap.size) (by omega) (by omega)).trans HKL2.out)
 have HO3 := hid (HO2.out.trans ho3)
 have hz3 : w1.heap.size < w3.heap.size := Nat.lt_of_lt_of_le hz2 ho3.size
 clear hr3 ho3
 obtain ⟨qL0, qL1⟩ := blk_rules HKL3.out
 go_wp2_with fail
 clear qL0 qL1
 have HKR4 := hid ((blk_far (g := w.heap.size) (g' := w1.heap.size) (i := 1) (by omega) (.string (bstr ((rd.num 3).1.txt 12).2))).trans HKR3.out)
 have HKL4 : Hid (_ = some (Obj.cells #[.int .i64 K, .string (bstr ((rd.num 3).1.txt 12).2), .int .i64 0, .int .i64 0, .string ⟨#[]⟩, .slice none 0 0, .slice none 0 0] 34 (0, 0))) := hid (blk_set (i := 1) HKL3.out (.string (bstr ((rd.num 3).1.txt 12).2)))
 have HR4 := hid (HR3.out.setFar (p := w1.heap.size) (i := 1) (by omega) (.string (bstr ((rd.num 3).1.txt 12).2)))
 have HO4 := hid (HO3.out.setNew (p := w1.heap.size) (i := 1) (by omega) (.string (bstr ((rd.num 3).1.txt 12).2)))
 have hz4 : w1.heap.size < (w3.setCell ⟨w1.heap.size, 1, none⟩ (.string (bstr ((rd.num 3).1.txt 12).2))).heap.size := by rw [size_set]; exact hz3
 generalize w3.setCell ⟨w1.heap.size, 1, none⟩ (.string (bstr ((rd.num 3).1.txt 12).2)) = w4 at HKR4 HKL4 HR4 HO4 hz4 ⊢
 refine (refNum04_any g _ 2147483647 _ HR4.out).mono ?_
 rintro e w5 ⟨rfl, hr5, ho5⟩
 have HR5 := hid hr5
 have HKR5 := hid ((ho5.blk (b := w.heap.size) (by omega) (by omega)).trans HKR4.out)
 have HKL5 := hid ((ho5.blk (b := w1.heap.size) (by omega) (by omega)).trans HKL4.out)
 have HO5 := hid (HO4.out.trans ho5)
 have hz5 : w1.heap.size < w5.heap.size := Nat.lt_of_lt_of_le hz4 ho5.size
 clear hr5 ho5
 rcases hk4 with hk | hk | hk | hk
 ·have b0 : (K == 0) = true := by rw [HKK.out, hk]; rfl
  have HE1 : Hid ((takeR0 rd).1 = (((((rd.num 3).1.txt 12).1.num 2147483647).1.num 65535).1.txt 12).1) := hid (by show (takeBody (rd.num 3).2 _ _ _).1 = _; unfold takeBody; rw [if_pos hk]; rfl)
  have HE2 : Hid ((takeR0 rd).2 = ⟨K, mkS ((rd.num 3).1.txt 12).2, (((((rd.num 3).1.txt 12).1.num 2147483647).2 : Nat) : Int), ((((((rd.num 3).1.txt 12).1.num 2147483647).1.num 65535).2 : Nat) : Int), mkS (((((rd.num 3).1.txt 12).1.num 2147483647).1.num 65535).1.txt 12).2, [], []⟩) := hid (by rw [HKK.out]; show (takeBody (rd.num 3).2 _ _ _).2 = _; unfold takeBody; rw [if_pos hk]; rfl)
  clear hk
  obtain ⟨qL0, qL1⟩ := blk_rules HKL5.out
  go_wp2_with fail
  clear qL0 qL1
  have HKR6 := hid ((blk_far (g := w.heap.size) (g' := w1.heap.size) (i := 2) (by omega) (.int .i64 (((((rd.num 3).1.txt 12).1.num 2147483647).2 : Nat) : Int))).trans HKR5.out)
  have HKL6 : Hid (_ = some (Obj.cells #[.int .i64 K, .string (bstr ((rd.num 3).1.txt 12).2), .int .i64 (((((rd.num 3).1.txt 12).1.num 2147483647).2 : Nat) : Int), .int .i64 0, .string ⟨#[]⟩, .slice none 0 0, .slice none 0 0] 34 (0, 0))) := hid (blk_set (i := 2) HKL5.out (.int .i64 (((((rd.num 3).1.txt 12).1.num 2147483647).2 : Nat) : Int)))
  have HR6 := hid (HR5.out.setFar (p := w1.heap.size) (i := 2) (by omega) (.int .i64 (((((rd.num 3).1.txt 12).1.num 2147483647).2 : Nat) : Int)))
  have HO6 := hid (HO5.out.setNew (p := w1.heap.size) (i := 2) (by omega) (.int .i64 (((((rd.num 3).1.txt 12).1.num 2147483647).2 : Nat) : Int)))
  have hz6 : w1.heap.size < (w5.setCell ⟨w1.heap.size, 2, none⟩ (.int .i64 (((((rd.num 3).1.txt 12).1.num 2147483647).2 : Nat) : Int))).heap.size := by rw [size_set]; exact hz5
  generalize w5.setCell ⟨w1.heap.size, 2, none⟩ (.int .i64 (((((rd.num 3).1.txt 12).1.num 2147483647).2 : Nat) : Int)) = w6 at HKR6 HKL6 HR6 HO6 hz6 ⊢
  refine (refNum04_any g _ 65535 _ HR6.out).mono ?_
  rintro e w7 ⟨rfl, hr7, ho7⟩
  have HR7 := hid hr7
  have HKR7 := hid ((ho7.blk (b := w.heap.size) (by omega) (by omega)).trans HKR6.out)
  have HKL7 := hid ((ho7.blk (b := w1.heap.size) (by omega) (by omega)).trans HKL6.out)
  have HO7 := hid (HO6.out.trans ho7)
  have hz7 : w1.heap.size < w7.heap.size := Nat.lt_of_lt_of_le hz6 ho7.size
  clear hr7 ho7
  obtain ⟨qL0, qL1⟩ := blk_rules HKL7.out
  go_wp2_with fail
  clear qL0 qL1
  have HKR8 := hid ((blk_far (g := w.heap.size) (g' := w1.heap.size) (i := 3) (by omega) (.int .i64 ((((((rd.num 3).1.txt 12).1.num 2147483647).1.num 65535).2 : Nat) : Int))).trans HKR7.out)
  have HKL8 : Hid (_ = some (Obj.cells #[.int .i64 K, .string (bstr ((rd.num 3).1.txt 12).2), .int .i64 (((((rd.num 3).1.txt 12).1.num 2147483647).2 : Nat) : Int), .int .i64 ((((((rd.num 3).1.txt 12).1.num 2147483647).1.num 65535).2 : Nat) : Int), .string ⟨#[]⟩, .slice none 0 0, .slice none 0 0] 34 (0, 0))) := hid (blk_set (i := 3) HKL7.out (.int .i64 ((((((rd.num 3).1.txt 12).1.num 2147483647).1.num 65535).2 : Nat) : Int)))
  have HR8 := hid (HR7.out.setFar (p := w1.heap.size) (i := 3) (by omega) (.int .i64 ((((((rd.num 3).1.txt 12).1.num 2147483647).1.num 65535).2 : Nat) : Int)))
  have HO8 := hid (HO7.out.setNew (p := w1.heap.size) (i := 3) (by omega) (.int .i64 ((((((rd.num 3).1.txt 12).1.num 2147483647).1.num 65535).2 : Nat) : Int)))
  have hz8 : w1.heap.size < (w7.setCell ⟨w1.heap.size, 3, none⟩ (.int .i64 ((((((rd.num 3).1.txt 12).1.num 2147483647).1.num 65535).2 : Nat) : Int))).heap.size := by rw [size_set]; exact hz7
  generalize w7.setCell ⟨w1.heap.size, 3, none⟩ (.int .i64 ((((((rd.num 3).1.txt 12).1.num 2147483647).1.num 65535).2 : Nat) : Int)) = w8 at HKR8 HKL8 HR8 HO8 hz8 ⊢
  refine (refTxt04_any g _ 12 _ HR8.out).mono ?_
  rintro e w9 ⟨rfl, hr9, ho9⟩
  have HR9 := hid hr9
  have HKR9 := hid ((ho9.blk (b := w.heap.size) (by omega) (by omega)).trans HKR8.out)
  have HKL9 := hid ((ho9.blk (b := w1.heap.size) (by omega) (by omega)).trans HKL8.out)
  have HO9 := hid (HO8.out.trans ho9)
  have hz9 : w1.heap.size < w9.heap.size := Nat.lt_of_lt_of_le hz8 ho9.size
  clear hr9 ho9
  obtain ⟨qL0, qL1⟩ := blk_rules HKL9.out
  obtain ⟨qR0, qR1⟩ := blk_rules HKR9.out
  go_wp2_with fail
  clear qL0 qL1 qR0 qR1
  have HKR10 := hid ((blk_far (g := w.heap.size) (g' := w1.heap.size) (i := 4) (by omega) (.string (bstr (((((rd.num 3).1.txt 12).1.num 2147483647).1.num 65535).1.txt 12).2))).trans HKR9.out)
  have HKL10 : Hid (_ = some (Obj.cells #[.int .i64 K, .string (bstr ((rd.num 3).1.txt 12).2), .int .i64 (((((rd.num 3).1.txt 12).1.num 2147483647).2 : Nat) : Int), .int .i64 ((((((rd.num 3).1.txt 12).1.num 2147483647).1.num 65535).2 : Nat) : Int), .string (bstr (((((rd.num 3).1.txt 12).1.num 2147483647).1.num 65535).1.txt 12).2), .slice none 0 0, .slice none 0 0] 34 (0, 0))) := hid (blk_set (i := 4) HKL9.out (.string (bstr (((((rd.num 3).1.txt 12).1.num 2147483647).1.num 65535).1.txt 12).2)))
  have HR10 := hid (HR9.out.setFar (p := w1.heap.size) (i := 4) (by omega) (.string (bstr (((((rd.num 3).1.txt 12).1.num 2147483647).1.num 65535).1.txt 12).2)))
  have HO10 := hid (HO9.out.setNew (p := w1.heap.size) (i := 4) (by omega) (.string (bstr (((((rd.num 3).1.txt 12).1.num 2147483647).1.num 65535).1.txt 12).2)))
  have hz10 : w1.heap.size < (w9.setCell ⟨w1.heap.size, 4, none⟩ (.string (bstr (((((rd.num 3).1.txt 12).1.num 2147483647).1.num 65535).1.txt 12).2))).heap.size := by rw [size_set]; exact hz9
  generalize w9.setCell ⟨w1.heap.size, 4, none⟩ (.string (bstr (((((rd.num 3).1.txt 12).1.num 2147483647).1.num 65535).1.txt 12).2)) = w10 at HKR10 HKL10 HR10 HO10 hz10 ⊢
  generalize hV : ((((((w10.setCell { block := w.heap.size, off := 0 } (Value.int IntKind.i64 K)).setCell { block := w.heap.size, off := 1 } (Value.string (bstr ((rd.num 3).1.txt 12).2))).setCell { block := w.heap.size, off := 2 } (Value.int IntKind.i64 (((((rd.num 3).1.txt 12).1.num 2147483647).2 : Nat) : Int))).setCell { block := w.heap.size, off := 3 } (Value.int IntKind.i64 ((((((rd.num 3).1.txt 12).1.num 2147483647).1.num 65535).2 : Nat) : Int))).setCell { block := w.heap.size, off := 4 } (Value.string (bstr (((((rd.num 3).1.txt 12).1.num 2147483647).1.num 65535).1.txt 12).2))).setCell { block := w.heap.size, off := 5 } (Value.slice none 0 0)).setCell { block := w.heap.size, off := 6 } (Value.slice none 0 0) = V
  obtain ⟨bV, rV, oV, kV⟩ := setR7 HKR10.out _ _ _ _ _ _ _ hV
  clear hV
  obtain ⟨z0, -⟩ := blk_rules bV
  exact bodyPost_ret (v := .agg #[.int .i64 K, .string (bstr ((rd.num 3).1.txt 12).2), .int .i64 (((((rd.num 3).1.txt 12).1.num 2147483647).2 : Nat) : Int), .int .i64 ((((((rd.num 3).1.txt 12).1.num 2147483647).1.num 65535).2 : Nat) : Int), .string (bstr (((((rd.num 3).1.txt 12).1.num 2147483647).1.num 65535).1.txt 12).2), .slice none 0 0, .slice none 0 0]) (by simp [results, Tryz.results83, go_sem, z0]) rfl
   ⟨⟨K, mkS ((rd.num 3).1.txt 12).2, (((((rd.num 3).1.txt 12).1.num 2147483647).2 : Nat) : Int), ((((((rd.num 3).1.txt 12).1.num 2147483647).1.num 65535).2 : Nat) : Int), mkS (((((rd.num 3).1.txt 12).1.num 2147483647).1.num 65535).1.txt 12).2, [], []⟩, none, 0, 0, none, 0, 0, rfl, ⟨Rd.txt_max _ _, Rd.txt_max _ _, SlW.nil_, SlW.nil_, ArrQ.nil_, ArrQ.nil_⟩, by rw [HE1.out]; exact rV _ _ HR10.out (by omega), oV _ _ HO10.out (Nat.le_refl _), fun _ => HE2.out.symm⟩
 ·have b0 : (K == 0) = false := by rw [HKK.out, hk]; rfl
  have b1 : (K == 1) = true := by rw [HKK.out, hk]; rfl
  have HE1 : Hid ((takeR0 rd).1 = (someB takeRl 8 (((rd.num 3).1.txt 12).1.num 2147483647).1).1) := hid (by show (takeBody (rd.num 3).2 _ _ _).1 = _; unfold takeBody; rw [if_neg (by omega), if_pos hk]; rfl)
  have HE2 : Hid ((takeR0 rd).2 = ⟨K, mkS ((rd.num 3).1.txt 12).2, (((((rd.num 3).1.txt 12).1.num 2147483647).2 : Nat) : Int), 0, ⟨#[]⟩, (someB takeRl 8 (((rd.num 3).1.txt 12).1.num 2147483647).1).2, []⟩) := hid (by rw [HKK.out]; show (takeBody (rd.num 3).2 _ _ _).2 = _; unfold takeBody; rw [if_neg (by omega), if_pos hk]; rfl)
  clear hk
  obtain ⟨qL0, qL1⟩ := blk_rules HKL5.out
  go_wp2_with fail
  clear qL0 qL1
  have HKR6 := hid ((blk_far (g := w.heap.size) (g' := w1.heap.size) (i := 2) (by omega) (.int .i64 (((((rd.num 3).1.txt 12).1.num 2147483647).2 : Nat) : Int))).trans HKR5.out)
  have HKL6 : Hid (_ = some (Obj.cells #[.int .i64 K, .string (bstr ((rd.num 3).1.txt 12).2), .int .i64 (((((rd.num 3).1.txt 12).1.num 2147483647).2 : Nat) : Int), .int .i64 0, .string ⟨#[]⟩, .slice none 0 0, .slice none 0 0] 34 (0, 0))) := hid (blk_set (i := 2) HKL5.out (.int .i64 (((((rd.num 3).1.txt 12).1.num 2147483647).2 : Nat) : Int)))
  have HR6 := hid (HR5.out.setFar (p := w1.heap.size) (i := 2) (by omega) (.int .i64 (((((rd.num 3).1.txt 12).1.num 2147483647).2 : Nat) : Int)))
  have HO6 := hid (HO5.out.setNew (p := w1.heap.size) (i := 2) (by omega) (.int .i64 (((((rd.num 3).1.txt 12).1.num 2147483647).2 : Nat) : Int)))
  have hz6 : w1.heap.size < (w5.setCell ⟨w1.heap.size, 2, none⟩ (.int .i64 (((((rd.num 3).1.txt 12).1.num 2147483647).2 : Nat) : Int))).heap.size := by rw [size_set]; exact hz5
  generalize w5.setCell ⟨w1.heap.size, 2, none⟩ (.int .i64 (((((rd.num 3).1.txt 12).1.num 2147483647).2 : Nat) : Int)) = w6 at HKR6 HKL6 HR6 HO6 hz6 ⊢
  refine (refNum04_any g _ 8 _ HR6.out).mono ?_
  rintro e w7 ⟨rfl, hr7, ho7⟩
  have HR7 := hid hr7
  have HKR7 := hid ((ho7.blk (b := w.heap.size) (by omega) (by omega)).trans HKR6.out)
  have HKL7 := hid ((ho7.blk (b := w1.heap.size) (by omega) (by omega)).trans HKL6.out)
  have HO7 := hid (HO6.out.trans ho7)
  have hz7 : w1.heap.size < w7.heap.size := Nat.lt_of_lt_of_le hz6 ho7.size
  clear hr7 ho7
  have hN8 : ((((rd.num 3).1.txt 12).1.num 2147483647).1.num 8).2 ≤ 8 := by have := Rd.num_le (((rd.num 3).1.txt 12).1.num 2147483647).1 8; rw [bnd8] at this; omega
  have HNZ := hid (num_zero (((rd.num 3).1.txt 12).1.num 2147483647).1 8)
  have HSB : Hid (someB takeRl 8 (((rd.num 3).1.txt 12).1.num 2147483647).1 = someL takeRl ((((rd.num 3).1.txt 12).1.num 2147483647).1.num 8).2 ((((rd.num 3).1.txt 12).1.num 2147483647).1.num 8).1 []) := hid rfl
  obtain ⟨N, hNe⟩ : ∃ N, N = ((((rd.num 3).1.txt 12).1.num 2147483647).1.num 8).2 := ⟨_, rfl⟩
  obtain ⟨r0, hre⟩ : ∃ r0, r0 = ((((rd.num 3).1.txt 12).1.num 2147483647).1.num 8).1 := ⟨_, rfl⟩
  rw [← hNe, ← hre] at HSB
  have HST : Hid (r0.e ≠ 0 → N = 0) := hid (by rw [hre, hNe]; exact HNZ.out)
  rw [← hre] at HR7
  rw [← hNe] at hN8 ⊢
  clear hNe hre HNZ
  obtain ⟨q, hq⟩ : ∃ q, q = w1.heap.size := ⟨_, rfl⟩
  rw [← hq] at HKL7 hz7 ⊢
  have hgq : g < q := by rw [hq]; have := HO1.out.size; omega
  have hwq : w.heap.size < q := by rw [hq]; have := hz1; omega
  clear hq
  obtain ⟨base, hbs⟩ : ∃ base, base = w7.heap.size := ⟨_, rfl⟩
  have hqb : q < base := by rw [hbs]; exact hz7
  have hb0 : base ≤ w7.heap.size := by rw [hbs]; exact Nat.le_refl _
  clear hbs
  go_wp2_with fail
  go_loopw [5] (fun i wr => ∃ (k : Nat) (rk : Rd) (acc : List Rl) (us : List Value) (Av : Option Addr) (cv : Nat), k ≤ N ∧ i = .int .i64 k ∧ Hid (LoopR takeRl N r0 k rk acc) ∧ Hid (acc.length = k) ∧ Hid (wr.heap[w.heap.size]? = some (.cells #[.int .i64 0, .string ⟨#[]⟩, .int .i64 0, .int .i64 0, .string ⟨#[]⟩, .slice none 0 0, .slice none 0 0] 34 (0, 0))) ∧ Hid (wr.heap[q]? = some (.cells #[.int .i64 K, .string (bstr ((rd.num 3).1.txt 12).2), .int .i64 (((((rd.num 3).1.txt 12).1.num 2147483647).2 : Nat) : Int), .int .i64 0, .string ⟨#[]⟩, .slice Av k cv, .slice none 0 0] 34 (0, 0))) ∧ Hid (wr.ownsRow base 111 3 (.slice Av k cv) k us) ∧ Hid (RowsOf (RlQ (Sx base (.slice Av k cv)) wr) 3 us acc) ∧ Hid (RfAt wr g rk) ∧ Hid (Only g w wr) ∧ base ≤ wr.heap.size) (fun i _ => N - (intOf i).toNat)
  case atStart => exact ⟨0, r0, [], [], none, 0, Nat.zero_le _, by go_num, hid (loopR_start takeRl HST.out), hid rfl, HKR7, HKL7, hid own_nil, hid rfl, HR7, HO7, hb0⟩
  case round =>
   obtain ⟨k, rk, acc, us, Av, cv, hk, rfl, HL, HA, KR, KQ, HW, HU, HRk, HO, hbr⟩ := hrel
   have hqr : q < wr.heap.size := (Array.getElem?_eq_some_iff.1 KQ.out).1
   have hgr : g < wr.heap.size := by omega
   obtain ⟨Ag, ng, cg, g0, g1⟩ := HRk.out.cells2
   by_cases hgo : k < N ∧ rk.e = 0
   ·obtain ⟨hlt, he⟩ := hgo
    have HE := hid he
    rw [he] at g1
    clear he
    have i1 : (k : Int) < (N : Int) := by omega
    go_wp2_with fail
    clear g0 g1
    obtain ⟨qq0, -⟩ := blk_rules KQ.out
    have c0 := qq0 5
    clear qq0
    have hSw : (fun _ : World => True) wr.drew := trivial
    refine wpS_begin (fun _ : World => True) (by kernel_rfl) ?_
    refine wpS_tk 0 ?_ hSw rfl (fun w' hin => ?_) ?_; rotate_left
    ·(try simp only [] at hin); go_simp <;> with_reducible rfl
    try simp only [lyr]
    refine wpS_tk 2 ?_ hSw rfl (fun w' hin => ?_) ?_; rotate_left
    ·(try simp only [] at hin); go_simp <;> with_reducible rfl
    try simp only [lyr]
    refine wpS_twoR 1 3 rfl rfl (by kernel_rfl) (by rfl) (by rfl) (fun K hK => ?_) (fun K hK => ?_)
    ·go_simp
     refine hK.out _ _ (fun _ : World => True) (fun _ _ => trivial) trivial (fun hSw => ?_)
     clear hK K
     try simp only [lyr]
     refine wpS_on 3 rfl (fun K hK => ?_)
     go_simp
     refine (refRule_takes g rk _ (HRk.out.up ((Ext.refl wr).drew))).mono ?_
     rintro e v1 ⟨x, C, m, d, rfl, hv, hr, ho, hx⟩
     have HOx : Hid (Only g wr v1) := hid ((Only.of_ext (Ext.refl wr).drew).trans ho)
     have HR1 := hid hr
     have HX := hid hx
     have HV := hid hv
     have KR1 := hid ((HOx.out.blk (b := w.heap.size) (by omega) (by omega)).trans KR.out)
     have KQ1 := hid ((HOx.out.blk (b := q) hqr (by omega)).trans KQ.out)
     have HW1 := hid (own_only HW.out HOx.out (by omega))
     have HO1 := hid (HO.out.trans HOx.out)
     have hl1 : wr.heap.size ≤ v1.heap.size := HOx.out.size
     have hqv : q < v1.heap.size := by omega
     obtain ⟨qq0, -⟩ := blk_rules KQ1.out
     have c1 := qq0 5
     clear qq0
     have hFk := flat_k v1 [.string x.host, .string x.pre, .slice C m d] 111 rfl
     have hOW := own_up HW1.out (Ext.new v1 (.cells #[.string x.host, .string x.pre, .slice C m d] 111))
     obtain ⟨v', v4, hrun, hown4, hg4, hnw⟩ := run_append_flat elem_rl 31 hOW 1 hFk (by simp [Value.oneCell']) (by omega) (by omega) (by simp only [World.size_alloc]; omega) (fun h => by cases h)
     obtain ⟨A4, c4, rfl, -, -, -, -⟩ := own_flat hown4
     have HRUN := hid hrun
     have GA : ∀ b, b < base → v4.heap[b]? = v1.heap[b]? := fun b hb => (hg4.block b (by simp only [World.size_alloc]; omega) (fun e' => by have := (hOW.lt b e'.symm).1; omega)).trans ((Ext.new v1 _).block (by omega))
     have KR4 := hid ((GA w.heap.size (by omega)).trans KR1.out)
     have KQ4 := hid ((GA q hqb).trans KQ1.out)
     have HR4 := hid (rfat_grown (HR1.out.up (Ext.new v1 (.cells #[.string x.host, .string x.pre, .slice C m d] 111))) hg4 hOW (by omega))
     have HO4 := hid (only_grown HO1.out (Ext.new v1 (.cells #[.string x.host, .string x.pre, .slice C m d] 111)) hg4 hOW (by omega))
     have hl4 : base ≤ v4.heap.size := by have h9 := hg4.size; simp only [World.size_alloc] at h9; omega
     have HW4 := hid hown4
     have HU4 := hid (rows_grow RlQ (fun _ _ _ _ _ h k => h.keep k) (fun _ _ _ _ _ h k => h.weak k) HU.out HOx.out (show g < base by omega) (Ext.new v1 (.cells #[.string x.host, .string x.pre, .slice C m d] 111)) hg4 hnw HW.out hbr ⟨C, m, d, rfl, HV.out⟩ rfl)
     have HL4 := hid (loopR_step HL.out hlt HE.out HX.out)
     have HA4 : Hid ((acc ++ [x]).length = k + 1) := hid (by rw [List.length_append, HA.out]; rfl)
     clear hFk hOW hrun hown4 hg4 hnw GA hr ho hx
     obtain ⟨qs0, qs1⟩ := blk_rules KQ4.out
     simp only []
     refine hK.out _ _ (fun _ : World => True) (fun _ _ => trivial) trivial (fun hSw => ?_)
     clear hK K
     try simp only [lyr]
     refine wpS_on 4 rfl (fun K hK => ?_)
     go_simp
     refine hK.out _ _ (fun _ : World => True) (fun _ _ => trivial) trivial (fun hSw => ?_)
     clear hK K
     try simp only [lyr]
     refine wpS_on 5 rfl (fun K hK => ?_)
     refine Lib.wp_append_run _ _ _ _ _ rfl _ _ rfl rfl _ v4 HRUN.out ?_
     refine hK.out _ _ (fun _ : World => True) (fun _ _ => trivial) trivial (fun hSw => ?_)
     clear hK K
     try simp only [lyr]
     refine wpS_tk 6 ?_ hSw rfl (fun w' hin => ?_) ?_; rotate_left
     ·(try simp only [] at hin); go_simp <;> with_reducible rfl
     try simp only [lyr]
     refine wpS_on 7 rfl (fun K hK => ?_)
     go_simp
     refine hK.out _ _ (fun _ : World => True) (fun _ _ => trivial) trivial (fun hSw => ?_)
     clear hK K
     try simp only [lyr]
     refine wpS_done (by kernel_rfl) ?_
     clear qs0 qs1 hSw
     go_wp2_with fail
     clear c0 c1
     go_roundw
     case rel => exact ⟨k + 1, _, _, _, A4, c4, by omega, by go_num, HL4, HA4, hid ((blk_far (g := w.heap.size) (g' := q) (i := 5) (by omega) _).trans KR4.out), hid (blk_set (i := 5) KQ4.out _), hid (own_setR (p := q) (i := 5) HW4.out hqb), hid (HU4.out.mono (fun _ _ h => h.keep (Keep.setFar (p := q) (i := 5) (fun b hb => by have := hb.1; omega) _))), hid (HR4.out.setFar (p := q) (i := 5) hgq _), hid (HO4.out.setNew (p := q) (i := 5) (by omega) _), by rw [size_set]; omega⟩
     case measure => simp [intOf]; omega
    ·go_simp
     refine (refRule_takes g rk _ (HRk.out.up ((Ext.refl wr).drew))).mono ?_
     rintro e v1 ⟨x, C, m, d, rfl, hv, hr, ho, hx⟩
     have HOx : Hid (Only g wr v1) := hid ((Only.of_ext (Ext.refl wr).drew).trans ho)
     have HR1 := hid hr
     have HX := hid hx
     have HV := hid hv
     have KR1 := hid ((HOx.out.blk (b := w.heap.size) (by omega) (by omega)).trans KR.out)
     have KQ1 := hid ((HOx.out.blk (b := q) hqr (by omega)).trans KQ.out)
     have HW1 := hid (own_only HW.out HOx.out (by omega))
     have HO1 := hid (HO.out.trans HOx.out)
     have hl1 : wr.heap.size ≤ v1.heap.size := HOx.out.size
     have hqv : q < v1.heap.size := by omega
     obtain ⟨qq0, -⟩ := blk_rules KQ1.out
     have c1 := qq0 5
     clear qq0
     have hFk := flat_k v1 [.string x.host, .string x.pre, .slice C m d] 111 rfl
     have hOW := own_up HW1.out (Ext.new v1 (.cells #[.string x.host, .string x.pre, .slice C m d] 111))
     obtain ⟨v', v4, hrun, hown4, hg4, hnw⟩ := run_append_flat elem_rl 31 hOW 1 hFk (by simp [Value.oneCell']) (by omega) (by omega) (by simp only [World.size_alloc]; omega) (fun h => by cases h)
     obtain ⟨A4, c4, rfl, -, -, -, -⟩ := own_flat hown4
     have HRUN := hid hrun
     have GA : ∀ b, b < base → v4.heap[b]? = v1.heap[b]? := fun b hb => (hg4.block b (by simp only [World.size_alloc]; omega) (fun e' => by have := (hOW.lt b e'.symm).1; omega)).trans ((Ext.new v1 _).block (by omega))
     have KR4 := hid ((GA w.heap.size (by omega)).trans KR1.out)
     have KQ4 := hid ((GA q hqb).trans KQ1.out)
     have HR4 := hid (rfat_grown (HR1.out.up (Ext.new v1 (.cells #[.string x.host, .string x.pre, .slice C m d] 111))) hg4 hOW (by omega))
     have HO4 := hid (only_grown HO1.out (Ext.new v1 (.cells #[.string x.host, .string x.pre, .slice C m d] 111)) hg4 hOW (by omega))
     have hl4 : base ≤ v4.heap.size := by have h9 := hg4.size; simp only [World.size_alloc] at h9; omega
     have HW4 := hid hown4
     have HU4 := hid (rows_grow RlQ (fun _ _ _ _ _ h k => h.keep k) (fun _ _ _ _ _ h k => h.weak k) HU.out HOx.out (show g < base by omega) (Ext.new v1 (.cells #[.string x.host, .string x.pre, .slice C m d] 111)) hg4 hnw HW.out hbr ⟨C, m, d, rfl, HV.out⟩ rfl)
     have HL4 := hid (loopR_step HL.out hlt HE.out HX.out)
     have HA4 : Hid ((acc ++ [x]).length = k + 1) := hid (by rw [List.length_append, HA.out]; rfl)
     clear hFk hOW hrun hown4 hg4 hnw GA hr ho hx
     obtain ⟨qs0, qs1⟩ := blk_rules KQ4.out
     simp only []
     refine hK.out _ _ (fun _ : World => True) (fun _ _ => trivial) trivial (fun hSw => ?_)
     clear hK K
     try simp only [lyr]
     refine wpS_twoR 1 4 rfl rfl (by kernel_rfl) (by rfl) (by rfl) (fun K hK => ?_) (fun K hK => ?_)
     ·go_simp
      refine hK.out _ _ (fun _ : World => True) (fun _ _ => trivial) trivial (fun hSw => ?_)
      clear hK K
      try simp only [lyr]
      refine wpS_on 4 rfl (fun K hK => ?_)
      go_simp
      refine hK.out _ _ (fun _ : World => True) (fun _ _ => trivial) trivial (fun hSw => ?_)
      clear hK K
      try simp only [lyr]
      refine wpS_on 5 rfl (fun K hK => ?_)
      refine Lib.wp_append_run _ _ _ _ _ rfl _ _ rfl rfl _ v4 HRUN.out ?_
      refine hK.out _ _ (fun _ : World => True) (fun _ _ => trivial) trivial (fun hSw => ?_)
      clear hK K
      try simp only [lyr]
      refine wpS_tk 6 ?_ hSw rfl (fun w' hin => ?_) ?_; rotate_left
      ·(try simp only [] at hin); go_simp <;> with_reducible rfl
      try simp only [lyr]
      refine wpS_on 7 rfl (fun K hK => ?_)
      go_simp
      refine hK.out _ _ (fun _ : World => True) (fun _ _ => trivial) trivial (fun hSw => ?_)
      clear hK K
      try simp only [lyr]
      refine wpS_done (by kernel_rfl) ?_
      clear qs0 qs1 hSw
      go_wp2_with fail
      clear c0 c1
      go_roundw
      case rel => exact ⟨k + 1, _, _, _, A4, c4, by omega, by go_num, HL4, HA4, hid ((blk_far (g := w.heap.size) (g' := q) (i := 5) (by omega) _).trans KR4.out), hid (blk_set (i := 5) KQ4.out _), hid (own_setR (p := q) (i := 5) HW4.out hqb), hid (HU4.out.mono (fun _ _ h => h.keep (Keep.setFar (p := q) (i := 5) (fun b hb => by have := hb.1; omega) _))), hid (HR4.out.setFar (p := q) (i := 5) hgq _), hid (HO4.out.setNew (p := q) (i := 5) (by omega) _), by rw [size_set]; omega⟩
      case measure => simp [intOf]; omega
     ·go_simp
      refine hK.out _ _ (fun _ : World => True) (fun _ _ => trivial) trivial (fun hSw => ?_)
      clear hK K
      try simp only [lyr]
      refine wpS_on 1 rfl (fun K hK => ?_)
      go_simp
      refine hK.out _ _ (fun _ : World => True) (fun _ _ => trivial) trivial (fun hSw => ?_)
      clear hK K
      try simp only [lyr]
      refine wpS_on 5 rfl (fun K hK => ?_)
      refine Lib.wp_append_run _ _ _ _ _ rfl _ _ rfl rfl _ v4 HRUN.out ?_
      refine hK.out _ _ (fun _ : World => True) (fun _ _ => trivial) trivial (fun hSw => ?_)
      clear hK K
      try simp only [lyr]
      refine wpS_tk 6 ?_ hSw rfl (fun w' hin => ?_) ?_; rotate_left
      ·(try simp only [] at hin); go_simp <;> with_reducible rfl
      try simp only [lyr]
      refine wpS_on 7 rfl (fun K hK => ?_)
      go_simp
      refine hK.out _ _ (fun _ : World => True) (fun _ _ => trivial) trivial (fun hSw => ?_)
      clear hK K
      try simp only [lyr]
      refine wpS_done (by kernel_rfl) ?_
      clear qs0 qs1 hSw
      go_wp2_with fail
      clear c0 c1
      go_roundw
      case rel => exact ⟨k + 1, _, _, _, A4, c4, by omega, by go_num, HL4, HA4, hid ((blk_far (g := w.heap.size) (g' := q) (i := 5) (by omega) _).trans KR4.out), hid (blk_set (i := 5) KQ4.out _), hid (own_setR (p := q) (i := 5) HW4.out hqb), hid (HU4.out.mono (fun _ _ h => h.keep (Keep.setFar (p := q) (i := 5) (fun b hb => by have := hb.1; omega) _))), hid (HR4.out.setFar (p := q) (i := 5) hgq _), hid (HO4.out.setNew (p := q) (i := 5) (by omega) _), by rw [size_set]; omega⟩
      case measure => simp [intOf]; omega
   ·have HEND := hid (loopR_end HL.out hk hgo)
    obtain ⟨A9, c9, e9, h1, h2, h3, hF⟩ := own_flat HW.out
    injection e9 with e1 e2 e3
    subst e1 e3
    have HF := hid (hF.arrQ (S := fun b => base ≤ b) (HU.out.mono (fun _ _ h => h.weak (fun _ _ h => h.1))) (by omega) (fun b o e hb => by subst e; exact (HW.out.lt b rfl).1))
    have HSL : Hid (SlW Av k cv) := hid ⟨h1, h2, h3⟩
    have HGO := hid hgo
    clear hgo hF h1 h2 h3
    obtain ⟨qs0, qs1⟩ := blk_rules KQ.out
    obtain ⟨qr0, qr1⟩ := blk_rules KR.out
    have hwr : w.heap.size < wr.heap.size := by omega
    by_cases hlt : k < N
    ·have hne : (rk.e == 0) = false := by rw [beq_eq_false_iff_ne]; exact fun h => HGO.out ⟨hlt, h⟩
     go_wp2_with fail
     clear qs0 qs1 qr0 qr1 g0 g1
     generalize hV : ((((((wr.setCell { block := w.heap.size, off := 0 } (Value.int IntKind.i64 K)).setCell { block := w.heap.size, off := 1 } (Value.string (bstr ((rd.num 3).1.txt 12).2))).setCell { block := w.heap.size, off := 2 } (Value.int IntKind.i64 (((((rd.num 3).1.txt 12).1.num 2147483647).2 : Nat) : Int))).setCell { block := w.heap.size, off := 3 } (Value.int IntKind.i64 0)).setCell { block := w.heap.size, off := 4 } (Value.string ⟨#[]⟩)).setCell { block := w.heap.size, off := 5 } (Value.slice Av k cv)).setCell { block := w.heap.size, off := 6 } (Value.slice none 0 0) = V
     obtain ⟨bV, rV, oV, kV⟩ := setR7 KR.out _ _ _ _ _ _ _ hV
     clear hV
     obtain ⟨z0, -⟩ := blk_rules bV
     exact bodyPost_ret (v := .agg #[.int .i64 K, .string (bstr ((rd.num 3).1.txt 12).2), .int .i64 (((((rd.num 3).1.txt 12).1.num 2147483647).2 : Nat) : Int), .int .i64 0, .string ⟨#[]⟩, .slice Av k cv, .slice none 0 0]) (by simp [results, Tryz.results83, go_sem, z0]) rfl
      ⟨⟨K, mkS ((rd.num 3).1.txt 12).2, (((((rd.num 3).1.txt 12).1.num 2147483647).2 : Nat) : Int), 0, ⟨#[]⟩, acc, []⟩, Av, k, cv, none, 0, 0, rfl, ⟨Rd.txt_max _ _, nil_max, HSL.out, SlW.nil_, ArrQ.weak (ArrQ.keep HF.out (fun _ _ _ h => h.keep (kV _ (fun b hb => by omega))) (kV _ (fun b hb => by omega))) (fun _ _ h => h.weak (fun b _ hb => by omega)) (fun b _ hb => by omega), ArrQ.nil_⟩, by rw [HE1.out, HSB.out, HEND.out.1]; exact rV _ _ HRk.out (by omega), oV _ _ HO.out (Nat.le_refl _), fun he => by rw [HE1.out, HSB.out, HEND.out.1] at he; rw [HE2.out, HSB.out, HEND.out.2 he]⟩
    ·have hne : ¬ (k : Int) < (N : Int) := by omega
     go_wp2_with fail
     clear qs0 qs1 qr0 qr1 g0 g1
     generalize hV : ((((((wr.setCell { block := w.heap.size, off := 0 } (Value.int IntKind.i64 K)).setCell { block := w.heap.size, off := 1 } (Value.string (bstr ((rd.num 3).1.txt 12).2))).setCell { block := w.heap.size, off := 2 } (Value.int IntKind.i64 (((((rd.num 3).1.txt 12).1.num 2147483647).2 : Nat) : Int))).setCell { block := w.heap.size, off := 3 } (Value.int IntKind.i64 0)).setCell { block := w.heap.size, off := 4 } (Value.string ⟨#[]⟩)).setCell { block := w.heap.size, off := 5 } (Value.slice Av k cv)).setCell { block := w.heap.size, off := 6 } (Value.slice none 0 0) = V
     obtain ⟨bV, rV, oV, kV⟩ := setR7 KR.out _ _ _ _ _ _ _ hV
     clear hV
     obtain ⟨z0, -⟩ := blk_rules bV
     exact bodyPost_ret (v := .agg #[.int .i64 K, .string (bstr ((rd.num 3).1.txt 12).2), .int .i64 (((((rd.num 3).1.txt 12).1.num 2147483647).2 : Nat) : Int), .int .i64 0, .string ⟨#[]⟩, .slice Av k cv, .slice none 0 0]) (by simp [results, Tryz.results83, go_sem, z0]) rfl
      ⟨⟨K, mkS ((rd.num 3).1.txt 12).2, (((((rd.num 3).1.txt 12).1.num 2147483647).2 : Nat) : Int), 0, ⟨#[]⟩, acc, []⟩, Av, k, cv, none, 0, 0, rfl, ⟨Rd.txt_max _ _, nil_max, HSL.out, SlW.nil_, ArrQ.weak (ArrQ.keep HF.out (fun _ _ _ h => h.keep (kV _ (fun b hb => by omega))) (kV _ (fun b hb => by omega))) (fun _ _ h => h.weak (fun b _ hb => by omega)) (fun b _ hb => by omega), ArrQ.nil_⟩, by rw [HE1.out, HSB.out, HEND.out.1]; exact rV _ _ HRk.out (by omega), oV _ _ HO.out (Nat.le_refl _), fun he => by rw [HE1.out, HSB.out, HEND.out.1] at he; rw [HE2.out, HSB.out, HEND.out.2 he]⟩
 ·have b0 : (K == 0) = false := by rw [HKK.out, hk]; rfl
  have b1 : (K == 1) = false := by rw [HKK.out, hk]; rfl
  have b2 : (K == 2) = true := by rw [HKK.out, hk]; rfl
  have HE1 : Hid ((takeR0 rd).1 = ((((rd.num 3).1.txt 12).1.num 2147483647).1.txt 12).1) := hid (by show (takeBody (rd.num 3).2 _ _ _).1 = _; unfold takeBody; rw [if_neg (by omega), if_neg (by omega), if_pos hk]; rfl)
  have HE2 : Hid ((takeR0 rd).2 = ⟨K, mkS ((rd.num 3).1.txt 12).2, (((((rd.num 3).1.txt 12).1.num 2147483647).2 : Nat) : Int), 0, mkS ((((rd.num 3).1.txt 12).1.num 2147483647).1.txt 12).2, [], []⟩) := hid (by rw [HKK.out]; show (takeBody (rd.num 3).2 _ _ _).2 = _; unfold takeBody; rw [if_neg (by omega), if_neg (by omega), if_pos hk]; rfl)
  clear hk
  obtain ⟨qL0, qL1⟩ := blk_rules HKL5.out
  go_wp2_with fail
  clear qL0 qL1
  have HKR6 := hid ((blk_far (g := w.heap.size) (g' := w1.heap.size) (i := 2) (by omega) (.int .i64 (((((rd.num 3).1.txt 12).1.num 2147483647).2 : Nat) : Int))).trans HKR5.out)
  have HKL6 : Hid (_ = some (Obj.cells #[.int .i64 K, .string (bstr ((rd.num 3).1.txt 12).2), .int .i64 (((((rd.num 3).1.txt 12).1.num 2147483647).2 : Nat) : Int), .int .i64 0, .string ⟨#[]⟩, .slice none 0 0, .slice none 0 0] 34 (0, 0))) := hid (blk_set (i := 2) HKL5.out (.int .i64 (((((rd.num 3).1.txt 12).1.num 2147483647).2 : Nat) : Int)))
  have HR6 := hid (HR5.out.setFar (p := w1.heap.size) (i := 2) (by omega) (.int .i64 (((((rd.num 3).1.txt 12).1.num 2147483647).2 : Nat) : Int)))
  have HO6 := hid (HO5.out.setNew (p := w1.heap.size) (i := 2) (by omega) (.int .i64 (((((rd.num 3).1.txt 12).1.num 2147483647).2 : Nat) : Int)))
  have hz6 : w1.heap.size < (w5.setCell ⟨w1.heap.size, 2, none⟩ (.int .i64 (((((rd.num 3).1.txt 12).1.num 2147483647).2 : Nat) : Int))).heap.size := by rw [size_set]; exact hz5
  generalize w5.setCell ⟨w1.heap.size, 2, none⟩ (.int .i64 (((((rd.num 3).1.txt 12).1.num 2147483647).2 : Nat) : Int)) = w6 at HKR6 HKL6 HR6 HO6 hz6 ⊢
  refine (refTxt04_any g _ 12 _ HR6.out).mono ?_
  rintro e w7 ⟨rfl, hr7, ho7⟩
  have HR7 := hid hr7
  have HKR7 := hid ((ho7.blk (b := w.heap.size) (by omega) (by omega)).trans HKR6.out)
  have HKL7 := hid ((ho7.blk (b := w1.heap.size) (by omega) (by omega)).trans HKL6.out)
  have HO7 := hid (HO6.out.trans ho7)
  have hz7 : w1.heap.size < w7.heap.size := Nat.lt_of_lt_of_le hz6 ho7.size
  clear hr7 ho7
  obtain ⟨qL0, qL1⟩ := blk_rules HKL7.out
  obtain ⟨qR0, qR1⟩ := blk_rules HKR7.out
  go_wp2_with fail
  clear qL0 qL1 qR0 qR1
  have HKR8 := hid ((blk_far (g := w.heap.size) (g' := w1.heap.size) (i := 4) (by omega) (.string (bstr ((((rd.num 3).1.txt 12).1.num 2147483647).1.txt 12).2))).trans HKR7.out)
  have HKL8 : Hid (_ = some (Obj.cells #[.int .i64 K, .string (bstr ((rd.num 3).1.txt 12).2), .int .i64 (((((rd.num 3).1.txt 12).1.num 2147483647).2 : Nat) : Int), .int .i64 0, .string (bstr ((((rd.num 3).1.txt 12).1.num 2147483647).1.txt 12).2), .slice none 0 0, .slice none 0 0] 34 (0, 0))) := hid (blk_set (i := 4) HKL7.out (.string (bstr ((((rd.num 3).1.txt 12).1.num 2147483647).1.txt 12).2)))
  have HR8 := hid (HR7.out.setFar (p := w1.heap.size) (i := 4) (by omega) (.string (bstr ((((rd.num 3).1.txt 12).1.num 2147483647).1.txt 12).2)))
  have HO8 := hid (HO7.out.setNew (p := w1.heap.size) (i := 4) (by omega) (.string (bstr ((((rd.num 3).1.txt 12).1.num 2147483647).1.txt 12).2)))
  have hz8 : w1.heap.size < (w7.setCell ⟨w1.heap.size, 4, none⟩ (.string (bstr ((((rd.num 3).1.txt 12).1.num 2147483647).1.txt 12).2))).heap.size := by rw [size_set]; exact hz7
  generalize w7.setCell ⟨w1.heap.size, 4, none⟩ (.string (bstr ((((rd.num 3).1.txt 12).1.num 2147483647).1.txt 12).2)) = w8 at HKR8 HKL8 HR8 HO8 hz8 ⊢
  generalize hV : ((((((w8.setCell { block := w.heap.size, off := 0 } (Value.int IntKind.i64 K)).setCell { block := w.heap.size, off := 1 } (Value.string (bstr ((rd.num 3).1.txt 12).2))).setCell { block := w.heap.size, off := 2 } (Value.int IntKind.i64 (((((rd.num 3).1.txt 12).1.num 2147483647).2 : Nat) : Int))).setCell { block := w.heap.size, off := 3 } (Value.int IntKind.i64 0)).setCell { block := w.heap.size, off := 4 } (Value.string (bstr ((((rd.num 3).1.txt 12).1.num 2147483647).1.txt 12).2))).setCell { block := w.heap.size, off := 5 } (Value.slice none 0 0)).setCell { block := w.heap.size, off := 6 } (Value.slice none 0 0) = V
  obtain ⟨bV, rV, oV, kV⟩ := setR7 HKR8.out _ _ _ _ _ _ _ hV
  clear hV
  obtain ⟨z0, -⟩ := blk_rules bV
  exact bodyPost_ret (v := .agg #[.int .i64 K, .string (bstr ((rd.num 3).1.txt 12).2), .int .i64 (((((rd.num 3).1.txt 12).1.num 2147483647).2 : Nat) : Int), .int .i64 0, .string (bstr ((((rd.num 3).1.txt 12).1.num 2147483647).1.txt 12).2), .slice none 0 0, .slice none 0 0]) (by simp [results, Tryz.results83, go_sem, z0]) rfl
   ⟨⟨K, mkS ((rd.num 3).1.txt 12).2, (((((rd.num 3).1.txt 12).1.num 2147483647).2 : Nat) : Int), 0, mkS ((((rd.num 3).1.txt 12).1.num 2147483647).1.txt 12).2, [], []⟩, none, 0, 0, none, 0, 0, rfl, ⟨Rd.txt_max _ _, Rd.txt_max _ _, SlW.nil_, SlW.nil_, ArrQ.nil_, ArrQ.nil_⟩, by rw [HE1.out]; exact rV _ _ HR8.out (by omega), oV _ _ HO8.out (Nat.le_refl _), fun _ => HE2.out.symm⟩
 ·have b0 : (K == 0) = false := by rw [HKK.out, hk]; rfl
  have b1 : (K == 1) = false := by rw [HKK.out, hk]; rfl
  have b2 : (K == 2) = false := by rw [HKK.out, hk]; rfl
  have b3 : (K == 3) = true := by rw [HKK.out, hk]; rfl
  have HE1 : Hid ((takeR0 rd).1 = (someB takeH 8 (((rd.num 3).1.txt 12).1.num 2147483647).1).1) := hid (by show (takeBody (rd.num 3).2 _ _ _).1 = _; unfold takeBody; rw [if_neg (by omega), if_neg (by omega), if_neg (by omega)]; rfl)
  have HE2 : Hid ((takeR0 rd).2 = ⟨K, mkS ((rd.num 3).1.txt 12).2, (((((rd.num 3).1.txt 12).1.num 2147483647).2 : Nat) : Int), 0, ⟨#[]⟩, [], (someB takeH 8 (((rd.num 3).1.txt 12).1.num 2147483647).1).2⟩) := hid (by rw [HKK.out]; show (takeBody (rd.num 3).2 _ _ _).2 = _; unfold takeBody; rw [if_neg (by omega), if_neg (by omega), if_neg (by omega)]; rfl)
  clear hk
  obtain ⟨qL0, qL1⟩ := blk_rules HKL5.out
  go_wp2_with fail
  clear qL0 qL1
  have HKR6 := hid ((blk_far (g := w.heap.size) (g' := w1.heap.size) (i := 2) (by omega) (.int .i64 (((((rd.num 3).1.txt 12).1.num 2147483647).2 : Nat) : Int))).trans HKR5.out)
  have HKL6 : Hid (_ = some (Obj.cells #[.int .i64 K, .string (bstr ((rd.num 3).1.txt 12).2), .int .i64 (((((rd.num 3).1.txt 12).1.num 2147483647).2 : Nat) : Int), .int .i64 0, .string ⟨#[]⟩, .slice none 0 0, .slice none 0 0] 34 (0, 0))) := hid (blk_set (i := 2) HKL5.out (.int .i64 (((((rd.num 3).1.txt 12).1.num 2147483647).2 : Nat) : Int)))
  have HR6 := hid (HR5.out.setFar (p := w1.heap.size) (i := 2) (by omega) (.int .i64 (((((rd.num 3).1.txt 12).1.num 2147483647).2 : Nat) : Int)))
  have HO6 := hid (HO5.out.setNew (p := w1.heap.size) (i := 2) (by omega) (.int .i64 (((((rd.num 3).1.txt 12).1.num 2147483647).2 : Nat) : Int)))
  have hz6 : w1.heap.size < (w5.setCell ⟨w1.heap.size, 2, none⟩ (.int .i64 (((((rd.num 3).1.txt 12).1.num 2147483647).2 : Nat) : Int))).heap.size := by rw [size_set]; exact hz5
  generalize w5.setCell ⟨w1.heap.size, 2, none⟩ (.int .i64 (((((rd.num 3).1.txt 12).1.num 2147483647).2 : Nat) : Int)) = w6 at HKR6 HKL6 HR6 HO6 hz6 ⊢
  refine (refNum04_any g _ 8 _ HR6.out).mono ?_
  rintro e w7 ⟨rfl, hr7, ho7⟩
  have HR7 := hid hr7
  have HKR7 := hid ((ho7.blk (b := w.heap.size) (by omega) (by omega)).trans HKR6.out)
  have HKL7 := hid ((ho7.blk (b := w1.heap.size) (by omega) (by omega)).trans HKL6.out)
  have HO7 := hid (HO6.out.trans ho7)
  have hz7 : w1.heap.size < w7.heap.size := Nat.lt_of_lt_of_le hz6 ho7.size
  clear hr7 ho7
  have hN8 : ((((rd.num 3).1.txt 12).1.num 2147483647).1.num 8).2 ≤ 8 := by have := Rd.num_le (((rd.num 3).1.txt 12).1.num 2147483647).1 8; rw [bnd8] at this; omega
  have HNZ := hid (num_zero (((rd.num 3).1.txt 12).1.num 2147483647).1 8)
  have HSB : Hid (someB takeH 8 (((rd.num 3).1.txt 12).1.num 2147483647).1 = someL takeH ((((rd.num 3).1.txt 12).1.num 2147483647).1.num 8).2 ((((rd.num 3).1.txt 12).1.num 2147483647).1.num 8).1 []) := hid rfl
  obtain ⟨N, hNe⟩ : ∃ N, N = ((((rd.num 3).1.txt 12).1.num 2147483647).1.num 8).2 := ⟨_, rfl⟩
  obtain ⟨r0, hre⟩ : ∃ r0, r0 = ((((rd.num 3).1.txt 12).1.num 2147483647).1.num 8).1 := ⟨_, rfl⟩
  rw [← hNe, ← hre] at HSB
  have HST : Hid (r0.e ≠ 0 → N = 0) := hid (by rw [hre, hNe]; exact HNZ.out)
  rw [← hre] at HR7
  rw [← hNe] at hN8 ⊢
  clear hNe hre HNZ
  obtain ⟨q, hq⟩ : ∃ q, q = w1.heap.size := ⟨_, rfl⟩
  rw [← hq] at HKL7 hz7 ⊢
  have hgq : g < q := by rw [hq]; have := HO1.out.size; omega
  have hwq : w.heap.size < q := by rw [hq]; have := hz1; omega
  clear hq
  obtain ⟨base, hbs⟩ : ∃ base, base = w7.heap.size := ⟨_, rfl⟩
  have hqb : q < base := by rw [hbs]; exact hz7
  have hb0 : base ≤ w7.heap.size := by rw [hbs]; exact Nat.le_refl _
  clear hbs
  go_wp2_with fail
  go_loopw [7] (fun i wr => ∃ (k : Nat) (rk : Rd) (acc : List Int) (us : List Value) (Av : Option Addr) (cv : Nat), k ≤ N ∧ i = .int .i64 k ∧ Hid (LoopR takeH N r0 k rk acc) ∧ Hid (acc.length = k) ∧ Hid (wr.heap[w.heap.size]? = some (.cells #[.int .i64 0, .string ⟨#[]⟩, .int .i64 0, .int .i64 0, .string ⟨#[]⟩, .slice none 0 0, .slice none 0 0] 34 (0, 0))) ∧ Hid (wr.heap[q]? = some (.cells #[.int .i64 K, .string (bstr ((rd.num 3).1.txt 12).2), .int .i64 (((((rd.num 3).1.txt 12).1.num 2147483647).2 : Nat) : Int), .int .i64 0, .string ⟨#[]⟩, .slice none 0 0, .slice Av k cv] 34 (0, 0))) ∧ Hid (wr.ownsRow base 3 1 (.slice Av k cv) k us) ∧ Hid (RowsOf (IntR .i64) 1 us acc) ∧ Hid (RfAt wr g rk) ∧ Hid (Only g w wr) ∧ base ≤ wr.heap.size) (fun i _ => N - (intOf i).toNat)
  case atStart => exact ⟨0, r0, [], [], none, 0, Nat.zero_le _, by go_num, hid (loopR_start takeH HST.out), hid rfl, HKR7, HKL7, hid own_nil, hid rfl, HR7, HO7, hb0⟩
  case round =>
   obtain ⟨k, rk, acc, us, Av, cv, hk, rfl, HL, HA, KR, KQ, HW, HU, HRk, HO, hbr⟩ := hrel
   have hqr : q < wr.heap.size := (Array.getElem?_eq_some_iff.1 KQ.out).1
   have hgr : g < wr.heap.size := by omega
   obtain ⟨Ag, ng, cg, g0, g1⟩ := HRk.out.cells2
   by_cases hgo : k < N ∧ rk.e = 0
   ·obtain ⟨hlt, he⟩ := hgo
    have HE := hid he
    rw [he] at g1
    clear he
    have i1 : (k : Int) < (N : Int) := by omega
    go_wp2_with fail
    clear g0 g1
    obtain ⟨qq0, -⟩ := blk_rules KQ.out
    have c0 := qq0 6
    clear qq0
    have hSw : (fun _ : World => True) wr.drew := trivial
    refine wpS_begin (fun _ : World => True) (by kernel_rfl) ?_
    refine wpS_tk 0 ?_ hSw rfl (fun w' hin => ?_) ?_; rotate_left
    ·(try simp only [] at hin); go_simp <;> with_reducible rfl
    try simp only [lyr]
    refine wpS_tk 2 ?_ hSw rfl (fun w' hin => ?_) ?_; rotate_left
    ·(try simp only [] at hin); go_simp <;> with_reducible rfl
    try simp only [lyr]
    refine wpS_twoR 1 3 rfl rfl (by kernel_rfl) (by rfl) (by rfl) (fun K hK => ?_) (fun K hK => ?_)
    ·go_simp
     refine hK.out _ _ (fun _ : World => True) (fun _ _ => trivial) trivial (fun hSw => ?_)
     clear hK K
     try simp only [lyr]
     refine wpS_on 3 rfl (fun K hK => ?_)
     go_simp
     refine (refNum04_any g rk 2147483647 _ (HRk.out.up ((Ext.refl wr).drew))).mono ?_
     rintro e v1 ⟨rfl, hr, ho⟩
     have hx : (takeH rk).1.e = 0 → ((((rk.num 2147483647).2 : Nat) : Int)) = (takeH rk).2 := fun _ => rfl
     have hr : RfAt v1 g (takeH rk).1 := hr
     generalize (((rk.num 2147483647).2 : Nat) : Int) = x at hx ⊢
     have HOx : Hid (Only g wr v1) := hid ((Only.of_ext (Ext.refl wr).drew).trans ho)
     have HR1 := hid hr
     have HX := hid hx
     have KR1 := hid ((HOx.out.blk (b := w.heap.size) (by omega) (by omega)).trans KR.out)
     have KQ1 := hid ((HOx.out.blk (b := q) hqr (by omega)).trans KQ.out)
     have HW1 := hid (own_only HW.out HOx.out (by omega))
     have HO1 := hid (HO.out.trans HOx.out)
     have hl1 : wr.heap.size ≤ v1.heap.size := HOx.out.size
     have hqv : q < v1.heap.size := by omega
     obtain ⟨qq0, -⟩ := blk_rules KQ1.out
     have c1 := qq0 6
     clear qq0
     have hFk := flat_k v1 [.int .i64 x] 3 rfl
     have hOW := own_up HW1.out (Ext.new v1 (.cells #[.int .i64 x] 3))
     obtain ⟨v', v4, hrun, hown4, hg4, hnw⟩ := run_append_flat elem_int 32 hOW 1 hFk (by simp [Value.oneCell']) (by omega) (by omega) (by simp only [World.size_alloc]; omega) (fun h => by cases h)
     obtain ⟨A4, c4, rfl, -, -, -, -⟩ := own_flat hown4
     have HRUN := hid hrun
     have GA : ∀ b, b < base → v4.heap[b]? = v1.heap[b]? := fun b hb => (hg4.block b (by simp only [World.size_alloc]; omega) (fun e' => by have := (hOW.lt b e'.symm).1; omega)).trans ((Ext.new v1 _).block (by omega))
     have KR4 := hid ((GA w.heap.size (by omega)).trans KR1.out)
     have KQ4 := hid ((GA q hqb).trans KQ1.out)
     have HR4 := hid (rfat_grown (HR1.out.up (Ext.new v1 (.cells #[.int .i64 x] 3))) hg4 hOW (by omega))
     have HO4 := hid (only_grown HO1.out (Ext.new v1 (.cells #[.int .i64 x] 3)) hg4 hOW (by omega))
     have hl4 : base ≤ v4.heap.size := by have h9 := hg4.size; simp only [World.size_alloc] at h9; omega
     have HW4 := hid hown4
     have HU4 := hid (RowsOf.snoc rfl (show IntR .i64 [.int .i64 x] x from rfl) HU.out)
     have HL4 := hid (loopR_step HL.out hlt HE.out HX.out)
     have HA4 : Hid ((acc ++ [x]).length = k + 1) := hid (by rw [List.length_append, HA.out]; rfl)
     clear hFk hOW hrun hown4 hg4 hnw GA hr ho hx
     obtain ⟨qs0, qs1⟩ := blk_rules KQ4.out
     simp only []
     refine hK.out _ _ (fun _ : World => True) (fun _ _ => trivial) trivial (fun hSw => ?_)
     clear hK K
     try simp only [lyr]
     refine wpS_on 4 rfl (fun K hK => ?_)
     go_simp
     refine hK.out _ _ (fun _ : World => True) (fun _ _ => trivial) trivial (fun hSw => ?_)
     clear hK K
     try simp only [lyr]
     refine wpS_on 5 rfl (fun K hK => ?_)
     refine Lib.wp_append_run _ _ _ _ _ rfl _ _ rfl rfl _ v4 HRUN.out ?_
     refine hK.out _ _ (fun _ : World => True) (fun _ _ => trivial) trivial (fun hSw => ?_)
     clear hK K
     try simp only [lyr]
     refine wpS_tk 6 ?_ hSw rfl (fun w' hin => ?_) ?_; rotate_left
     ·(try simp only [] at hin); go_simp <;> with_reducible rfl
     try simp only [lyr]
     refine wpS_on 7 rfl (fun K hK => ?_)
     go_simp
     refine hK.out _ _ (fun _ : World => True) (fun _ _ => trivial) trivial (fun hSw => ?_)
     clear hK K
     try simp only [lyr]
     refine wpS_done (by kernel_rfl) ?_
     clear qs0 qs1 hSw
     go_wp2_with fail
     clear c0 c1
     go_roundw
     case rel => exact ⟨k + 1, _, _, _, A4, c4, by omega, by go_num, HL4, HA4, hid ((blk_far (g := w.heap.size) (g' := q) (i := 6) (by omega) _).trans KR4.out), hid (blk_set (i := 6) KQ4.out _), hid (own_setR (p := q) (i := 6) HW4.out hqb), hid (HU4.out), hid (HR4.out.setFar (p := q) (i := 6) hgq _), hid (HO4.out.setNew (p := q) (i := 6) (by omega) _), by rw [size_set]; omega⟩
     case measure => simp [intOf]; omega
    ·go_simp
     refine (refNum04_any g rk 2147483647 _ (HRk.out.up ((Ext.refl wr).drew))).mono ?_
     rintro e v1 ⟨rfl, hr, ho⟩
     have hx : (takeH rk).1.e = 0 → ((((rk.num 2147483647).2 : Nat) : Int)) = (takeH rk).2 := fun _ => rfl
     have hr : RfAt v1 g (takeH rk).1 := hr
     generalize (((rk.num 2147483647).2 : Nat) : Int) = x at hx ⊢
     have HOx : Hid (Only g wr v1) := hid ((Only.of_ext (Ext.refl wr).drew).trans ho)
     have HR1 := hid hr
     have HX := hid hx
     have KR1 := hid ((HOx.out.blk (b := w.heap.size) (by omega) (by omega)).trans KR.out)
     have KQ1 := hid ((HOx.out.blk (b := q) hqr (by omega)).trans KQ.out)
     have HW1 := hid (own_only HW.out HOx.out (by omega))
     have HO1 := hid (HO.out.trans HOx.out)
     have hl1 : wr.heap.size ≤ v1.heap.size := HOx.out.size
     have hqv : q < v1.heap.size := by omega
     obtain ⟨qq0, -⟩ := blk_rules KQ1.out
     have c1 := qq0 6
     clear qq0
     have hFk := flat_k v1 [.int .i64 x] 3 rfl
     have hOW := own_up HW1.out (Ext.new v1 (.cells #[.int .i64 x] 3))
     obtain ⟨v', v4, hrun, hown4, hg4, hnw⟩ := run_append_flat elem_int 32 hOW 1 hFk (by simp [Value.oneCell']) (by omega) (by omega) (by simp only [World.size_alloc]; omega) (fun h => by cases h)
     obtain ⟨A4, c4, rfl, -, -, -, -⟩ := own_flat hown4
     have HRUN := hid hrun
     have GA : ∀ b, b < base → v4.heap[b]? = v1.heap[b]? := fun b hb => (hg4.block b (by simp only [World.size_alloc]; omega) (fun e' => by have := (hOW.lt b e'.symm).1; omega)).trans ((Ext.new v1 _).block (by omega))
     have KR4 := hid ((GA w.heap.size (by omega)).trans KR1.out)
     have KQ4 := hid ((GA q hqb).trans KQ1.out)
     have HR4 := hid (rfat_grown (HR1.out.up (Ext.new v1 (.cells #[.int .i64 x] 3))) hg4 hOW (by omega))
     have HO4 := hid (only_grown HO1.out (Ext.new v1 (.cells #[.int .i64 x] 3)) hg4 hOW (by omega))
     have hl4 : base ≤ v4.heap.size := by have h9 := hg4.size; simp only [World.size_alloc] at h9; omega
     have HW4 := hid hown4
     have HU4 := hid (RowsOf.snoc rfl (show IntR .i64 [.int .i64 x] x from rfl) HU.out)
     have HL4 := hid (loopR_step HL.out hlt HE.out HX.out)
     have HA4 : Hid ((acc ++ [x]).length = k + 1) := hid (by rw [List.length_append, HA.out]; rfl)
     clear hFk hOW hrun hown4 hg4 hnw GA hr ho hx
     obtain ⟨qs0, qs1⟩ := blk_rules KQ4.out
     simp only []
     refine hK.out _ _ (fun _ : World => True) (fun _ _ => trivial) trivial (fun hSw => ?_)
     clear hK K
     try simp only [lyr]
     refine wpS_twoR 1 4 rfl rfl (by kernel_rfl) (by rfl) (by rfl) (fun K hK => ?_) (fun K hK => ?_)
     ·go_simp
      refine hK.out _ _ (fun _ : World => True) (fun _ _ => trivial) trivial (fun hSw => ?_)
      clear hK K
      try simp only [lyr]
      refine wpS_on 4 rfl (fun K hK => ?_)
      go_simp
      refine hK.out _ _ (fun _ : World => True) (fun _ _ => trivial) trivial (fun hSw => ?_)
      clear hK K
      try simp only [lyr]
      refine wpS_on 5 rfl (fun K hK => ?_)
      refine Lib.wp_append_run _ _ _ _ _ rfl _ _ rfl rfl _ v4 HRUN.out ?_
      refine hK.out _ _ (fun _ : World => True) (fun _ _ => trivial) trivial (fun hSw => ?_)
      clear hK K
      try simp only [lyr]
      refine wpS_tk 6 ?_ hSw rfl (fun w' hin => ?_) ?_; rotate_left
      ·(try simp only [] at hin); go_simp <;> with_reducible rfl
      try simp only [lyr]
      refine wpS_on 7 rfl (fun K hK => ?_)
      go_simp
      refine hK.out _ _ (fun _ : World => True) (fun _ _ => trivial) trivial (fun hSw => ?_)
      clear hK K
      try simp only [lyr]
      refine wpS_done (by kernel_rfl) ?_
      clear qs0 qs1 hSw
      go_wp2_with fail
      clear c0 c1
      go_roundw
      case rel => exact ⟨k + 1, _, _, _, A4, c4, by omega, by go_num, HL4, HA4, hid ((blk_far (g := w.heap.size) (g' := q) (i := 6) (by omega) _).trans KR4.out), hid (blk_set (i := 6) KQ4.out _), hid (own_setR (p := q) (i := 6) HW4.out hqb), hid (HU4.out), hid (HR4.out.setFar (p := q) (i := 6) hgq _), hid (HO4.out.setNew (p := q) (i := 6) (by omega) _), by rw [size_set]; omega⟩
      case measure => simp [intOf]; omega
     ·go_simp
      refine hK.out _ _ (fun _ : World => True) (fun _ _ => trivial) trivial (fun hSw => ?_)
      clear hK K
      try simp only [lyr]
      refine wpS_on 1 rfl (fun K hK => ?_)
      go_simp
      refine hK.out _ _ (fun _ : World => True) (fun _ _ => trivial) trivial (fun hSw => ?_)
      clear hK K
      try simp only [lyr]
      refine wpS_on 5 rfl (fun K hK => ?_)
      refine Lib.wp_append_run _ _ _ _ _ rfl _ _ rfl rfl _ v4 HRUN.out ?_
      refine hK.out _ _ (fun _ : World => True) (fun _ _ => trivial) trivial (fun hSw => ?_)
      clear hK K
      try simp only [lyr]
      refine wpS_tk 6 ?_ hSw rfl (fun w' hin => ?_) ?_; rotate_left
      ·(try simp only [] at hin); go_simp <;> with_reducible rfl
      try simp only [lyr]
      refine wpS_on 7 rfl (fun K hK => ?_)
      go_simp
      refine hK.out _ _ (fun _ : World => True) (fun _ _ => trivial) trivial (fun hSw => ?_)
      clear hK K
      try simp only [lyr]
      refine wpS_done (by kernel_rfl) ?_
      clear qs0 qs1 hSw
      go_wp2_with fail
      clear c0 c1
      go_roundw
      case rel => exact ⟨k + 1, _, _, _, A4, c4, by omega, by go_num, HL4, HA4, hid ((blk_far (g := w.heap.size) (g' := q) (i := 6) (by omega) _).trans KR4.out), hid (blk_set (i := 6) KQ4.out _), hid (own_setR (p := q) (i := 6) HW4.out hqb), hid (HU4.out), hid (HR4.out.setFar (p := q) (i := 6) hgq _), hid (HO4.out.setNew (p := q) (i := 6) (by omega) _), by rw [size_set]; omega⟩
      case measure => simp [intOf]; omega
   ·have HEND := hid (loopR_end HL.out hk hgo)
    obtain ⟨A9, c9, e9, h1, h2, h3, hF⟩ := own_flat HW.out
    injection e9 with e1 e2 e3
    subst e1 e3
    have HF := hid (hF.arrQ (S := fun b => base ≤ b) HU.out (by omega) (fun b o e hb => by subst e; exact (HW.out.lt b rfl).1))
    have HSL : Hid (SlW Av k cv) := hid ⟨h1, h2, h3⟩
    have HGO := hid hgo
    clear hgo hF h1 h2 h3
    obtain ⟨qs0, qs1⟩ := blk_rules KQ.out
    obtain ⟨qr0, qr1⟩ := blk_rules KR.out
    have hwr : w.heap.size < wr.heap.size := by omega
    by_cases hlt : k < N
    ·have hne : (rk.e == 0) = false := by rw [beq_eq_false_iff_ne]; exact fun h => HGO.out ⟨hlt, h⟩
     go_wp2_with fail
     clear qs0 qs1 qr0 qr1 g0 g1
     generalize hV : ((((((wr.setCell { block := w.heap.size, off := 0 } (Value.int IntKind.i64 K)).setCell { block := w.heap.size, off := 1 } (Value.string (bstr ((rd.num 3).1.txt 12).2))).setCell { block := w.heap.size, off := 2 } (Value.int IntKind.i64 (((((rd.num 3).1.txt 12).1.num 2147483647).2 : Nat) : Int))).setCell { block := w.heap.size, off := 3 } (Value.int IntKind.i64 0)).setCell { block := w.heap.size, off := 4 } (Value.string ⟨#[]⟩)).setCell { block := w.heap.size, off := 5 } (Value.slice none 0 0)).setCell { block := w.heap.size, off := 6 } (Value.slice Av k cv) = V
     obtain ⟨bV, rV, oV, kV⟩ := setR7 KR.out _ _ _ _ _ _ _ hV
     clear hV
     obtain ⟨z0, -⟩ := blk_rules bV
     exact bodyPost_ret (v := .agg #[.int .i64 K, .string (bstr ((rd.num 3).1.txt 12).2), .int .i64 (((((rd.num 3).1.txt 12).1.num 2147483647).2 : Nat) : Int), .int .i64 0, .string ⟨#[]⟩, .slice none 0 0, .slice Av k cv]) (by simp [results, Tryz.results83, go_sem, z0]) rfl
      ⟨⟨K, mkS ((rd.num 3).1.txt 12).2, (((((rd.num 3).1.txt 12).1.num 2147483647).2 : Nat) : Int), 0, ⟨#[]⟩, [], acc⟩, none, 0, 0, Av, k, cv, rfl, ⟨Rd.txt_max _ _, nil_max, SlW.nil_, HSL.out, ArrQ.nil_, (ArrQ.keep HF.out (fun _ _ _ h => h) (kV _ (fun b hb => by omega))).weak (fun _ _ h => h) (fun b _ hb => by omega)⟩, by rw [HE1.out, HSB.out, HEND.out.1]; exact rV _ _ HRk.out (by omega), oV _ _ HO.out (Nat.le_refl _), fun he => by rw [HE1.out, HSB.out, HEND.out.1] at he; rw [HE2.out, HSB.out, HEND.out.2 he]⟩
    ·have hne : ¬ (k : Int) < (N : Int) := by omega
     go_wp2_with fail
     clear qs0 qs1 qr0 qr1 g0 g1
     generalize hV : ((((((wr.setCell { block := w.heap.size, off := 0 } (Value.int IntKind.i64 K)).setCell { block := w.heap.size, off := 1 } (Value.string (bstr ((rd.num 3).1.txt 12).2))).setCell { block := w.heap.size, off := 2 } (Value.int IntKind.i64 (((((rd.num 3).1.txt 12).1.num 2147483647).2 : Nat) : Int))).setCell { block := w.heap.size, off := 3 } (Value.int IntKind.i64 0)).setCell { block := w.heap.size, off := 4 } (Value.string ⟨#[]⟩)).setCell { block := w.heap.size, off := 5 } (Value.slice none 0 0)).setCell { block := w.heap.size, off := 6 } (Value.slice Av k cv) = V
     obtain ⟨bV, rV, oV, kV⟩ := setR7 KR.out _ _ _ _ _ _ _ hV
     clear hV
     obtain ⟨z0, -⟩ := blk_rules bV
     exact bodyPost_ret (v := .agg #[.int .i64 K, .string (bstr ((rd.num 3).1.txt 12).2), .int .i64 (((((rd.num 3).1.txt 12).1.num 2147483647).2 : Nat) : Int), .int .i64 0, .string ⟨#[]⟩, .slice none 0 0, .slice Av k cv]) (by simp [results, Tryz.results83, go_sem, z0]) rfl
      ⟨⟨K, mkS ((rd.num 3).1.txt 12).2, (((((rd.num 3).1.txt 12).1.num 2147483647).2 : Nat) : Int), 0, ⟨#[]⟩, [], acc⟩, none, 0, 0, Av, k, cv, rfl, ⟨Rd.txt_max _ _, nil_max, SlW.nil_, HSL.out, ArrQ.nil_, (ArrQ.keep HF.out (fun _ _ _ h => h) (kV _ (fun b hb => by omega))).weak (fun _ _ h => h) (fun b _ hb => by omega)⟩, by rw [HE1.out, HSB.out, HEND.out.1]; exact rV _ _ HRk.out (by omega), oV _ _ HO.out (Nat.le_refl _), fun he => by rw [HE1.out, HSB.out, HEND.out.1] at he; rw [HE2.out, HSB.out, HEND.out.2 he]⟩
end Go.Proofs.YtfdjbnofcniodaaGreatDoor
