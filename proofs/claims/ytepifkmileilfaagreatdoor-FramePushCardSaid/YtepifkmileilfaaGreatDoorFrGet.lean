/- What frame.Get gets. -/
import Derived.Test.YtepifkmileilfaaGreatDoorFr6
import Derived.Test.YtepifkmileilfaaGreatDoorFrHave
namespace Go.Proofs.YtepifkmileilfaaGreatDoor
set_option linter.unusedVariables false
open Go.RowKit

/-- ten cells are stored into a box: the box, and what is beside it -/
theorem set10 {w V : World} {p : Nat} {T : TypeId} {x0 x1 x2 x3 x4 x5 x6 x7 x8 x9 : Value} (h : w.heap[p]? = some (.cells #[x0, x1, x2, x3, x4, x5, x6, x7, x8, x9] T (0, 0))) (a0 a1 a2 a3 a4 a5 a6 a7 a8 a9 : Value)
    (hV : (((((((((w.setCell ⟨p, 0, none⟩ a0).setCell ⟨p, 1, none⟩ a1).setCell ⟨p, 2, none⟩ a2).setCell ⟨p, 3, none⟩ a3).setCell ⟨p, 4, none⟩ a4).setCell ⟨p, 5, none⟩ a5).setCell ⟨p, 6, none⟩ a6).setCell ⟨p, 7, none⟩ a7).setCell ⟨p, 8, none⟩ a8).setCell ⟨p, 9, none⟩ a9 = V) :
    V.heap[p]? = some (.cells #[a0, a1, a2, a3, a4, a5, a6, a7, a8, a9] T (0, 0)) ∧ (∀ {a : World} {g : Nat}, Only g a w → a.heap.size ≤ p → Only g a V) ∧ ∀ S : Nat → Prop, (∀ b, S b → b ≠ p) → Keep S w V := by
  subst hV
  refine ⟨?_, fun h hp => ?_, fun S hS => ?_⟩
  · have e0 := h
    have e1 : (w.setCell ⟨p, 0, none⟩ a0).heap[p]? = some (.cells #[a0, x1, x2, x3, x4, x5, x6, x7, x8, x9] T (0, 0)) := blk_set (i := 0) e0 a0
    have e2 : ((w.setCell ⟨p, 0, none⟩ a0).setCell ⟨p, 1, none⟩ a1).heap[p]? = some (.cells #[a0, a1, x2, x3, x4, x5, x6, x7, x8, x9] T (0, 0)) := blk_set (i := 1) e1 a1
    have e3 : (((w.setCell ⟨p, 0, none⟩ a0).setCell ⟨p, 1, none⟩ a1).setCell ⟨p, 2, none⟩ a2).heap[p]? = some (.cells #[a0, a1, a2, x3, x4, x5, x6, x7, x8, x9] T (0, 0)) := blk_set (i := 2) e2 a2
    have e4 : ((((w.setCell ⟨p, 0, none⟩ a0).setCell ⟨p, 1, none⟩ a1).setCell ⟨p, 2, none⟩ a2).setCell ⟨p, 3, none⟩ a3).heap[p]? = some (.cells #[a0, a1, a2, a3, x4, x5, x6, x7, x8, x9] T (0, 0)) := blk_set (i := 3) e3 a3
    have e5 : (((((w.setCell ⟨p, 0, none⟩ a0).setCell ⟨p, 1, none⟩ a1).setCell ⟨p, 2, none⟩ a2).setCell ⟨p, 3, none⟩ a3).setCell ⟨p, 4, none⟩ a4).heap[p]? = some (.cells #[a0, a1, a2, a3, a4, x5, x6, x7, x8, x9] T (0, 0)) := blk_set (i := 4) e4 a4
    have e6 : ((((((w.setCell ⟨p, 0, none⟩ a0).setCell ⟨p, 1, none⟩ a1).setCell ⟨p, 2, none⟩ a2).setCell ⟨p, 3, none⟩ a3).setCell ⟨p, 4, none⟩ a4).setCell ⟨p, 5, none⟩ a5).heap[p]? = some (.cells #[a0, a1, a2, a3, a4, a5, x6, x7, x8, x9] T (0, 0)) := blk_set (i := 5) e5 a5
    have e7 : (((((((w.setCell ⟨p, 0, none⟩ a0).setCell ⟨p, 1, none⟩ a1).setCell ⟨p, 2, none⟩ a2).setCell ⟨p, 3, none⟩ a3).setCell ⟨p, 4, none⟩ a4).setCell ⟨p, 5, none⟩ a5).setCell ⟨p, 6, none⟩ a6).heap[p]? = some (.cells #[a0, a1, a2, a3, a4, a5, a6, x7, x8, x9] T (0, 0)) := blk_set (i := 6) e6 a6
    have e8 : ((((((((w.setCell ⟨p, 0, none⟩ a0).setCell ⟨p, 1, none⟩ a1).setCell ⟨p, 2, none⟩ a2).setCell ⟨p, 3, none⟩ a3).setCell ⟨p, 4, none⟩ a4).setCell ⟨p, 5, none⟩ a5).setCell ⟨p, 6, none⟩ a6).setCell ⟨p, 7, none⟩ a7).heap[p]? = some (.cells #[a0, a1, a2, a3, a4, a5, a6, a7, x8, x9] T (0, 0)) := blk_set (i := 7) e7 a7
    have e9 : (((((((((w.setCell ⟨p, 0, none⟩ a0).setCell ⟨p, 1, none⟩ a1).setCell ⟨p, 2, none⟩ a2).setCell ⟨p, 3, none⟩ a3).setCell ⟨p, 4, none⟩ a4).setCell ⟨p, 5, none⟩ a5).setCell ⟨p, 6, none⟩ a6).setCell ⟨p, 7, none⟩ a7).setCell ⟨p, 8, none⟩ a8).heap[p]? = some (.cells #[a0, a1, a2, a3, a4, a5, a6, a7, a8, x9] T (0, 0)) := blk_set (i := 8) e8 a8
    have e10 : ((((((((((w.setCell ⟨p, 0, none⟩ a0).setCell ⟨p, 1, none⟩ a1).setCell ⟨p, 2, none⟩ a2).setCell ⟨p, 3, none⟩ a3).setCell ⟨p, 4, none⟩ a4).setCell ⟨p, 5, none⟩ a5).setCell ⟨p, 6, none⟩ a6).setCell ⟨p, 7, none⟩ a7).setCell ⟨p, 8, none⟩ a8).setCell ⟨p, 9, none⟩ a9).heap[p]? = some (.cells #[a0, a1, a2, a3, a4, a5, a6, a7, a8, a9] T (0, 0)) := blk_set (i := 9) e9 a9
    exact e10
  · have k0 := h
    have k1 := k0.setNew (i := 0) hp a0
    have k2 := k1.setNew (i := 1) hp a1
    have k3 := k2.setNew (i := 2) hp a2
    have k4 := k3.setNew (i := 3) hp a3
    have k5 := k4.setNew (i := 4) hp a4
    have k6 := k5.setNew (i := 5) hp a5
    have k7 := k6.setNew (i := 6) hp a6
    have k8 := k7.setNew (i := 7) hp a7
    have k9 := k8.setNew (i := 8) hp a8
    have k10 := k9.setNew (i := 9) hp a9
    exact k10
  · have m0 := Keep.refl S w
    have m1 := m0.trans (Keep.setFar (i := 0) hS a0)
    have m2 := m1.trans (Keep.setFar (i := 1) hS a1)
    have m3 := m2.trans (Keep.setFar (i := 2) hS a2)
    have m4 := m3.trans (Keep.setFar (i := 3) hS a3)
    have m5 := m4.trans (Keep.setFar (i := 4) hS a4)
    have m6 := m5.trans (Keep.setFar (i := 5) hS a5)
    have m7 := m6.trans (Keep.setFar (i := 6) hS a6)
    have m8 := m7.trans (Keep.setFar (i := 7) hS a7)
    have m9 := m8.trans (Keep.setFar (i := 8) hS a8)
    have m10 := m9.trans (Keep.setFar (i := 9) hS a9)
    exact m10
/-- what is got -/
def FGet (w : World) (x : Fr × Int) (e : Ending) (w' : World) : Prop := ∃ s, e = .returned (.tuple #[frVal x.1 s, .int .i64 x.2]) ∧ FrV (fun _ => True) w' x.1 s ∧ Ext w w'
theorem FrV.all {S : Nat → Prop} {w : World} {f : Fr} {s : FrS} (h : FrV S w f s) : FrV (fun _ => True) w f s :=
  ⟨h.sa, h.sg, h.sh, h.sk, h.adds.weak (fun _ _ _ => trivial), h.gone.weak (fun _ _ h => h) (fun _ _ _ => trivial), h.hav.weak (fun _ _ h => h) (fun _ _ _ => trivial), h.held.weak (fun _ _ h => h) (fun _ _ _ => trivial)⟩
theorem fget_out {w V : World} {b : List UInt8} {x : Fr × Int} {s : FrS} (h : getF b = x) (hV : FrV (fun _ => True) V x.1 s) (hE : Ext w V) : FGet w (getF b) (.returned (.tuple #[frVal x.1 s, .int .i64 x.2])) V := by
  rw [h]; exact ⟨s, rfl, hV, hE⟩

set_option maxRecDepth 100000 in
set_option maxHeartbeats 16000000 in
theorem frGet_any (A : Option Addr) (n c : Nat) (bs : List UInt8) (w : World) (hB : Byts w A n bs) (hc : A = none → c = 0) (hnc : n ≤ c) (hcm : c ≤ 9223372036854775807) :
    Calls Tryz.prog 71 #[.slice A n c] w (FGet w (getF bs)) := by
  have HR0 : Hid (RdAt (((w.alloc (.cells #[.int .i64 0, .int .i64 0, .int .i64 0, .int .i64 0, .int .i64 0, .slice none 0 0, .slice none 0 0, .int .i64 0, .slice none 0 0, .slice none 0 0] 93)).alloc (.cells #[.slice A n c, .int .i64 0] 27)).alloc (.cells #[.int .i64 0, .int .i64 0, .int .i64 0, .int .i64 0, .int .i64 0, .slice none 0 0, .slice none 0 0, .int .i64 0, .slice none 0 0, .slice none 0 0] 93)) (w.heap.size + 1) ⟨bs, 0⟩) := Lib.hid (by
    have h1 := (RdAt.box (w := w.alloc (.cells #[.int .i64 0, .int .i64 0, .int .i64 0, .int .i64 0, .int .i64 0, .slice none 0 0, .slice none 0 0, .int .i64 0, .slice none 0 0, .slice none 0 0] 93)) 0 (ArrR.up hB (Ext.new _ _)) hc hnc hcm).up (Ext.new _ (.cells #[.int .i64 0, .int .i64 0, .int .i64 0, .int .i64 0, .int .i64 0, .slice none 0 0, .slice none 0 0, .int .i64 0, .slice none 0 0, .slice none 0 0] 93))
    rw [World.size_alloc] at h1; exact h1)
  have hk4 : f0T bs = 0 ∨ f0T bs = 1 ∨ f0T bs = 2 ∨ f0T bs = 3 := by have := f0T_le bs; omega
  obtain ⟨K, hK⟩ : ∃ K : Int, K = ((f0T bs : Nat) : Int) := ⟨_, rfl⟩
  have HKK := Lib.hid hK
  have HKn : Hid ((((Rd.mk bs 0).num 3).2 : Nat) = K) := Lib.hid hK.symm
  have HOF : Hid (∀ (r : Rd) (f : Fr), takeF0 ⟨bs, 0⟩ = (r, f) → getF bs = if r.done ≠ 0 then (fr0, r.done) else if saneF f ≠ 0 then (fr0, saneF f) else (f, 0)) := Lib.hid (fun r f h => getF_of h)
  have HF0 := Lib.hid (@f0_hello bs)
  have HF1 := Lib.hid (@f0_push bs)
  have HF2 := Lib.hid (@f0_ack bs)
  have HF3 := Lib.hid (@f0_drain bs)
  clear hB hK
  go_enter Tryz.func71, Tryz.ntmps71
  go_wp2_with fail
  have HKR0 : Hid ((((w.alloc (.cells #[.int .i64 0, .int .i64 0, .int .i64 0, .int .i64 0, .int .i64 0, .slice none 0 0, .slice none 0 0, .int .i64 0, .slice none 0 0, .slice none 0 0] 93)).alloc (.cells #[.slice A n c, .int .i64 0] 27)).alloc (.cells #[.int .i64 0, .int .i64 0, .int .i64 0, .int .i64 0, .int .i64 0, .slice none 0 0, .slice none 0 0, .int .i64 0, .slice none 0 0, .slice none 0 0] 93)).heap[w.heap.size]? = some (.cells #[.int .i64 0, .int .i64 0, .int .i64 0, .int .i64 0, .int .i64 0, .slice none 0 0, .slice none 0 0, .int .i64 0, .slice none 0 0, .slice none 0 0] 93 (0, 0))) := Lib.hid ((((Ext.new _ _).alloc _).block (b := w.heap.size) (by simp)).trans (heap_alloc_new w _))
  have HKF0 : Hid ((((w.alloc (.cells #[.int .i64 0, .int .i64 0, .int .i64 0, .int .i64 0, .int .i64 0, .slice none 0 0, .slice none 0 0, .int .i64 0, .slice none 0 0, .slice none 0 0] 93)).alloc (.cells #[.slice A n c, .int .i64 0] 27)).alloc (.cells #[.int .i64 0, .int .i64 0, .int .i64 0, .int .i64 0, .int .i64 0, .slice none 0 0, .slice none 0 0, .int .i64 0, .slice none 0 0, .slice none 0 0] 93)).heap[w.heap.size + 2]? = some (.cells #[.int .i64 0, .int .i64 0, .int .i64 0, .int .i64 0, .int .i64 0, .slice none 0 0, .slice none 0 0, .int .i64 0, .slice none 0 0, .slice none 0 0] 93 (0, 0))) := Lib.hid (by
    have h1 := heap_alloc_new ((w.alloc (.cells #[.int .i64 0, .int .i64 0, .int .i64 0, .int .i64 0, .int .i64 0, .slice none 0 0, .slice none 0 0, .int .i64 0, .slice none 0 0, .slice none 0 0] 93)).alloc (.cells #[.slice A n c, .int .i64 0] 27)) (.cells #[.int .i64 0, .int .i64 0, .int .i64 0, .int .i64 0, .int .i64 0, .slice none 0 0, .slice none 0 0, .int .i64 0, .slice none 0 0, .slice none 0 0] 93)
    rw [World.size_alloc, World.size_alloc] at h1; exact h1)
  have HO0 : Hid (Only (w.heap.size + 1) w (((w.alloc (.cells #[.int .i64 0, .int .i64 0, .int .i64 0, .int .i64 0, .int .i64 0, .slice none 0 0, .slice none 0 0, .int .i64 0, .slice none 0 0, .slice none 0 0] 93)).alloc (.cells #[.slice A n c, .int .i64 0] 27)).alloc (.cells #[.int .i64 0, .int .i64 0, .int .i64 0, .int .i64 0, .int .i64 0, .slice none 0 0, .slice none 0 0, .int .i64 0, .slice none 0 0, .slice none 0 0] 93))) := Lib.hid (Only.of_ext (((Ext.new w _).alloc _).alloc _))
  have hz0 : w.heap.size + 2 < (((w.alloc (.cells #[.int .i64 0, .int .i64 0, .int .i64 0, .int .i64 0, .int .i64 0, .slice none 0 0, .slice none 0 0, .int .i64 0, .slice none 0 0, .slice none 0 0] 93)).alloc (.cells #[.slice A n c, .int .i64 0] 27)).alloc (.cells #[.int .i64 0, .int .i64 0, .int .i64 0, .int .i64 0, .int .i64 0, .slice none 0 0, .slice none 0 0, .int .i64 0, .slice none 0 0, .slice none 0 0] 93)).heap.size := by simp only [World.size_alloc]; omega
  generalize ((w.alloc (.cells #[.int .i64 0, .int .i64 0, .int .i64 0, .int .i64 0, .int .i64 0, .slice none 0 0, .slice none 0 0, .int .i64 0, .slice none 0 0, .slice none 0 0] 93)).alloc (.cells #[.slice A n c, .int .i64 0] 27)).alloc (.cells #[.int .i64 0, .int .i64 0, .int .i64 0, .int .i64 0, .int .i64 0, .slice none 0 0, .slice none 0 0, .int .i64 0, .slice none 0 0, .slice none 0 0] 93) = w0 at HR0 HKR0 HKF0 HO0 hz0 ⊢
  refine (num_any (w.heap.size + 1) ⟨bs, 0⟩ 3 _ HR0.out).mono ?_
  rintro e w1 ⟨rfl, hr1, ho1⟩
  have HR1 := Lib.hid hr1
  have HKR1 : Hid (w1.heap[w.heap.size]? = some (.cells #[.int .i64 0, .int .i64 0, .int .i64 0, .int .i64 0, .int .i64 0, .slice none 0 0, .slice none 0 0, .int .i64 0, .slice none 0 0, .slice none 0 0] 93 (0, 0))) := Lib.hid ((ho1.blk (b := w.heap.size) (by omega) (by omega)).trans HKR0.out)
  have HKF1 : Hid (w1.heap[w.heap.size + 2]? = some (.cells #[.int .i64 0, .int .i64 0, .int .i64 0, .int .i64 0, .int .i64 0, .slice none 0 0, .slice none 0 0, .int .i64 0, .slice none 0 0, .slice none 0 0] 93 (0, 0))) := Lib.hid ((ho1.blk (b := w.heap.size + 2) (by omega) (by omega)).trans HKF0.out)
  have HO1 := Lib.hid (HO0.out.trans ho1)
  have hz1 : w.heap.size + 2 < w1.heap.size := Nat.lt_of_lt_of_le hz0 ho1.size
  rw [HKn.out]
  clear hr1 ho1
  obtain ⟨qF0, qF1⟩ := blk_rules HKF1.out
  go_wp2_with fail
  clear qF0 qF1
  have HKR2 : Hid ((w1.setCell ⟨w.heap.size + 2, 0, none⟩ (.int .i64 K)).heap[w.heap.size]? = some (.cells #[.int .i64 0, .int .i64 0, .int .i64 0, .int .i64 0, .int .i64 0, .slice none 0 0, .slice none 0 0, .int .i64 0, .slice none 0 0, .slice none 0 0] 93 (0, 0))) := Lib.hid ((blk_far (g := w.heap.size) (g' := w.heap.size + 2) (i := 0) (by omega) (.int .i64 K)).trans HKR1.out)
  have HKF2 : Hid ((w1.setCell ⟨w.heap.size + 2, 0, none⟩ (.int .i64 K)).heap[w.heap.size + 2]? = some (.cells #[.int .i64 K, .int .i64 0, .int .i64 0, .int .i64 0, .int .i64 0, .slice none 0 0, .slice none 0 0, .int .i64 0, .slice none 0 0, .slice none 0 0] 93 (0, 0))) := Lib.hid (blk_set (i := 0) HKF1.out (.int .i64 K))
  have HR2 := Lib.hid (HR1.out.setFar (p := w.heap.size + 2) (i := 0) (by omega) (.int .i64 K))
  have HO2 := Lib.hid (HO1.out.setNew (p := w.heap.size + 2) (i := 0) (by omega) (.int .i64 K))
  have hz2 : w.heap.size + 2 < (w1.setCell ⟨w.heap.size + 2, 0, none⟩ (.int .i64 K)).heap.size := by rw [size_set]; exact hz1
  generalize w1.setCell ⟨w.heap.size + 2, 0, none⟩ (.int .i64 K) = w2 at HKR2 HKF2 HR2 HO2 hz2 ⊢
  refine (num_any (w.heap.size + 1) _ 2147483647 _ HR2.out).mono ?_
  rintro e w3 ⟨rfl, hr3, ho3⟩
  have HR3 := Lib.hid hr3
  have HKR3 : Hid (w3.heap[w.heap.size]? = some (.cells #[.int .i64 0, .int .i64 0, .int .i64 0, .int .i64 0, .int .i64 0, .slice none 0 0, .slice none 0 0, .int .i64 0, .slice none 0 0, .slice none 0 0] 93 (0, 0))) := Lib.hid ((ho3.blk (b := w.heap.size) (by omega) (by omega)).trans HKR2.out)
  have HKF3 : Hid (w3.heap[w.heap.size + 2]? = some (.cells #[.int .i64 K, .int .i64 0, .int .i64 0, .int .i64 0, .int .i64 0, .slice none 0 0, .slice none 0 0, .int .i64 0, .slice none 0 0, .slice none 0 0] 93 (0, 0))) := Lib.hid ((ho3.blk (b := w.heap.size + 2) (by omega) (by omega)).trans HKF2.out)
  have HO3 := Lib.hid (HO2.out.trans ho3)
  have hz3 : w.heap.size + 2 < w3.heap.size := Nat.lt_of_lt_of_le hz2 ho3.size
  clear hr3 ho3
  have HE0 : Hid ((((Rd.mk bs 0).num 3).1.num 2147483647).2 = f0E bs) := Lib.hid rfl
  rw [show (((Rd.mk bs 0).num 3).1.num 2147483647).1 = f0R bs from rfl] at HR3
  rw [HE0.out]
  rcases hk4 with hk | hk | hk | hk
  · have b0 : (K == 0) = true := by rw [HKK.out, hk]; rfl
    have b1 : (K == 1) = false := by rw [HKK.out, hk]; rfl
    have b2 : (K == 2) = false := by rw [HKK.out, hk]; rfl
    have b3 : (K == 3) = false := by rw [HKK.out, hk]; rfl
    have hK0 : K = 0 := by rw [HKK.out, hk]; rfl
    have HKe : Hid (K = 0) := Lib.hid hK0
    clear hK0
    obtain ⟨qF0, qF1⟩ := blk_rules HKF3.out
    go_wp2_with fail
    clear qF0 qF1
    have HKR4 : Hid ((w3.setCell ⟨w.heap.size + 2, 1, none⟩ (.int .i64 (f0E bs : Nat))).heap[w.heap.size]? = some (.cells #[.int .i64 0, .int .i64 0, .int .i64 0, .int .i64 0, .int .i64 0, .slice none 0 0, .slice none 0 0, .int .i64 0, .slice none 0 0, .slice none 0 0] 93 (0, 0))) := Lib.hid ((blk_far (g := w.heap.size) (g' := w.heap.size + 2) (i := 1) (by omega) (.int .i64 (f0E bs : Nat))).trans HKR3.out)
    have HKF4 : Hid ((w3.setCell ⟨w.heap.size + 2, 1, none⟩ (.int .i64 (f0E bs : Nat))).heap[w.heap.size + 2]? = some (.cells #[.int .i64 K, .int .i64 (f0E bs : Nat), .int .i64 0, .int .i64 0, .int .i64 0, .slice none 0 0, .slice none 0 0, .int .i64 0, .slice none 0 0, .slice none 0 0] 93 (0, 0))) := Lib.hid (blk_set (i := 1) HKF3.out (.int .i64 (f0E bs : Nat)))
    have HR4 := Lib.hid (HR3.out.setFar (p := w.heap.size + 2) (i := 1) (by omega) (.int .i64 (f0E bs : Nat)))
    have HO4 := Lib.hid (HO3.out.setNew (p := w.heap.size + 2) (i := 1) (by omega) (.int .i64 (f0E bs : Nat)))
    have hz4 : w.heap.size + 2 < (w3.setCell ⟨w.heap.size + 2, 1, none⟩ (.int .i64 (f0E bs : Nat))).heap.size := by rw [size_set]; exact hz3
    generalize w3.setCell ⟨w.heap.size + 2, 1, none⟩ (.int .i64 (f0E bs : Nat)) = w4 at HKR4 HKF4 HR4 HO4 hz4 ⊢
    refine (frHave_any (w.heap.size + 1) _ _ HR4.out).mono ?_
    rintro e w5 ⟨AHH, nHH, cHH, rfl, hsl, harr, hr5, ho5⟩
    have HR5 := Lib.hid hr5
    have HKR5 : Hid (w5.heap[w.heap.size]? = some (.cells #[.int .i64 0, .int .i64 0, .int .i64 0, .int .i64 0, .int .i64 0, .slice none 0 0, .slice none 0 0, .int .i64 0, .slice none 0 0, .slice none 0 0] 93 (0, 0))) := Lib.hid ((ho5.blk (b := w.heap.size) (by omega) (by omega)).trans HKR4.out)
    have HKF5 : Hid (w5.heap[w.heap.size + 2]? = some (.cells #[.int .i64 K, .int .i64 (f0E bs : Nat), .int .i64 0, .int .i64 0, .int .i64 0, .slice none 0 0, .slice none 0 0, .int .i64 0, .slice none 0 0, .slice none 0 0] 93 (0, 0))) := Lib.hid ((ho5.blk (b := w.heap.size + 2) (by omega) (by omega)).trans HKF4.out)
    have HO5 := Lib.hid (HO4.out.trans ho5)
    have hz5 : w.heap.size + 2 < w5.heap.size := Nat.lt_of_lt_of_le hz4 ho5.size
    have HH_5 : Hid (MkL (fun b => w.heap.size + 3 ≤ b) w5 AHH nHH _) := Lib.hid (ArrQ.weak harr (fun _ _ h => h) (fun b _ hb => by omega))
    have HSHH := Lib.hid hsl
    clear harr hsl
    clear hr5 ho5
    obtain ⟨qF0, qF1⟩ := blk_rules HKF5.out
    go_wp2_with fail
    clear qF0 qF1
    have HKR6 : Hid ((w5.setCell ⟨w.heap.size + 2, 8, none⟩ (.slice AHH nHH cHH)).heap[w.heap.size]? = some (.cells #[.int .i64 0, .int .i64 0, .int .i64 0, .int .i64 0, .int .i64 0, .slice none 0 0, .slice none 0 0, .int .i64 0, .slice none 0 0, .slice none 0 0] 93 (0, 0))) := Lib.hid ((blk_far (g := w.heap.size) (g' := w.heap.size + 2) (i := 8) (by omega) (.slice AHH nHH cHH)).trans HKR5.out)
    have HKF6 : Hid ((w5.setCell ⟨w.heap.size + 2, 8, none⟩ (.slice AHH nHH cHH)).heap[w.heap.size + 2]? = some (.cells #[.int .i64 K, .int .i64 (f0E bs : Nat), .int .i64 0, .int .i64 0, .int .i64 0, .slice none 0 0, .slice none 0 0, .int .i64 0, .slice AHH nHH cHH, .slice none 0 0] 93 (0, 0))) := Lib.hid (blk_set (i := 8) HKF5.out (.slice AHH nHH cHH))
    have HR6 := Lib.hid (HR5.out.setFar (p := w.heap.size + 2) (i := 8) (by omega) (.slice AHH nHH cHH))
    have HO6 := Lib.hid (HO5.out.setNew (p := w.heap.size + 2) (i := 8) (by omega) (.slice AHH nHH cHH))
    have hz6 : w.heap.size + 2 < (w5.setCell ⟨w.heap.size + 2, 8, none⟩ (.slice AHH nHH cHH)).heap.size := by rw [size_set]; exact hz5
    have HH_6 := Lib.hid (MkL.keep HH_5.out (Keep.setFar (p := w.heap.size + 2) (i := 8) (fun b hb => by omega) (.slice AHH nHH cHH)))
    generalize w5.setCell ⟨w.heap.size + 2, 8, none⟩ (.slice AHH nHH cHH) = w6 at HKR6 HKF6 HR6 HO6 hz6 HH_6 ⊢
    have HT : Hid (takeF0 ⟨bs, 0⟩ = ((someB takeM 64 (f0R bs)).1, ⟨K, (f0E bs : Nat), 0, 0, 0, [], [], 0, (someB takeM 64 (f0R bs)).2, []⟩)) := Lib.hid (by rw [HKe.out]; exact HF0.out hk)
    clear hk
    obtain ⟨rr, hrr⟩ : ∃ rr, rr = (someB takeM 64 (f0R bs)).1 := ⟨_, rfl⟩
    rw [← hrr] at HT HR6
    clear hrr
    refine (done_any (w.heap.size + 1) _ _ HR6.out).mono ?_
    rintro e w7 ⟨rfl, hr7, ho7⟩
    have HR7 := Lib.hid hr7
    have HKR7 : Hid (w7.heap[w.heap.size]? = some (.cells #[.int .i64 0, .int .i64 0, .int .i64 0, .int .i64 0, .int .i64 0, .slice none 0 0, .slice none 0 0, .int .i64 0, .slice none 0 0, .slice none 0 0] 93 (0, 0))) := Lib.hid ((ho7.blk (b := w.heap.size) (by omega) (by omega)).trans HKR6.out)
    have HKF7 : Hid (w7.heap[w.heap.size + 2]? = some (.cells #[.int .i64 K, .int .i64 (f0E bs : Nat), .int .i64 0, .int .i64 0, .int .i64 0, .slice none 0 0, .slice none 0 0, .int .i64 0, .slice AHH nHH cHH, .slice none 0 0] 93 (0, 0))) := Lib.hid ((ho7.blk (b := w.heap.size + 2) (by omega) (by omega)).trans HKF6.out)
    have HO7 := Lib.hid (HO6.out.trans ho7)
    have hz7 : w.heap.size + 2 < w7.heap.size := Nat.lt_of_lt_of_le hz6 ho7.size
    have HH_7 := Lib.hid (MkL.keep HH_6.out (Only.keepGe (lo := w.heap.size + 3) ho7 (by omega)))
    clear hr7 ho7
    obtain ⟨D, hD⟩ : ∃ D, D = rr.done := ⟨_, rfl⟩
    rw [← hD]
    have HD := Lib.hid hD
    clear hD
    by_cases hd : D = 0
    · have hd1 : (D != 0) = false := by simpa using hd
      have HG0 : Hid (getF bs = if saneF ⟨K, (f0E bs : Nat), 0, 0, 0, [], [], 0, (someB takeM 64 (f0R bs)).2, []⟩ ≠ 0 then (fr0, saneF ⟨K, (f0E bs : Nat), 0, 0, 0, [], [], 0, (someB takeM 64 (f0R bs)).2, []⟩) else (⟨K, (f0E bs : Nat), 0, 0, 0, [], [], 0, (someB takeM 64 (f0R bs)).2, []⟩, 0)) := Lib.hid (by rw [HOF.out _ _ HT.out, if_neg (by rw [← HD.out]; simpa using hd)])
      clear hd
      obtain ⟨qF0, qF1⟩ := blk_rules HKF7.out
      go_wp2_with fail
      clear qF0 qF1
      refine (frSane_any (fun b => w.heap.size + 3 ≤ b) ⟨K, (f0E bs : Nat), 0, 0, 0, [], [], 0, (someB takeM 64 (f0R bs)).2, []⟩ ⟨⟨none, 0, 0⟩, ⟨none, 0, 0⟩, ⟨AHH, nHH, cHH⟩, ⟨none, 0, 0⟩⟩ _ ⟨SlW.nil_, SlW.nil_, HSHH.out, SlW.nil_, ArrQ.nil_, ArrQ.nil_, HH_7.out, ArrQ.nil_⟩).mono ?_
      rintro e w8 ⟨rfl, hb8⟩
      have HR8 := Lib.hid (HR7.out.up hb8)
      have HKR8 : Hid (w8.heap[w.heap.size]? = some (.cells #[.int .i64 0, .int .i64 0, .int .i64 0, .int .i64 0, .int .i64 0, .slice none 0 0, .slice none 0 0, .int .i64 0, .slice none 0 0, .slice none 0 0] 93 (0, 0))) := Lib.hid ((hb8.block (b := w.heap.size) (by omega)).trans HKR7.out)
      have HKF8 : Hid (w8.heap[w.heap.size + 2]? = some (.cells #[.int .i64 K, .int .i64 (f0E bs : Nat), .int .i64 0, .int .i64 0, .int .i64 0, .slice none 0 0, .slice none 0 0, .int .i64 0, .slice AHH nHH cHH, .slice none 0 0] 93 (0, 0))) := Lib.hid ((hb8.block (b := w.heap.size + 2) (by omega)).trans HKF7.out)
      have HO8 := Lib.hid (HO7.out.trans (Only.of_ext hb8))
      have hz8 : w.heap.size + 2 < w8.heap.size := Nat.lt_of_lt_of_le hz7 hb8.size
      have HH_8 := Lib.hid (MkL.keep HH_7.out (hb8.keep))
      clear hb8
      obtain ⟨E, hE⟩ : ∃ E, E = saneF ⟨K, (f0E bs : Nat), 0, 0, 0, [], [], 0, (someB takeM 64 (f0R bs)).2, []⟩ := ⟨_, rfl⟩
      rw [← hE] at HG0 ⊢
      clear hE HT
      by_cases he : E = 0
      · have he1 : (E != 0) = false := by simpa using he
        have HG1 : Hid (getF bs = (⟨K, (f0E bs : Nat), 0, 0, 0, [], [], 0, (someB takeM 64 (f0R bs)).2, []⟩, 0)) := Lib.hid (by rw [HG0.out, if_neg (by simpa using he)])
        clear he
        obtain ⟨qF0, qF1⟩ := blk_rules HKF8.out
        obtain ⟨qR0, qR1⟩ := blk_rules HKR8.out
        go_wp2_with fail
        clear qF0 qF1 qR0 qR1
        generalize hVV : (((((((((w8.setCell ⟨w.heap.size, 0, none⟩ (.int .i64 K)).setCell ⟨w.heap.size, 1, none⟩ (.int .i64 (f0E bs : Nat))).setCell ⟨w.heap.size, 2, none⟩ (.int .i64 0)).setCell ⟨w.heap.size, 3, none⟩ (.int .i64 0)).setCell ⟨w.heap.size, 4, none⟩ (.int .i64 0)).setCell ⟨w.heap.size, 5, none⟩ (.slice none 0 0)).setCell ⟨w.heap.size, 6, none⟩ (.slice none 0 0)).setCell ⟨w.heap.size, 7, none⟩ (.int .i64 0)).setCell ⟨w.heap.size, 8, none⟩ (.slice AHH nHH cHH)).setCell ⟨w.heap.size, 9, none⟩ (.slice none 0 0) = V
        obtain ⟨bV, oV, kV⟩ := set10 HKR8.out (.int .i64 K) (.int .i64 (f0E bs : Nat)) (.int .i64 0) (.int .i64 0) (.int .i64 0) (.slice none 0 0) (.slice none 0 0) (.int .i64 0) (.slice AHH nHH cHH) (.slice none 0 0) hVV
        have OV := Only.ext (Ext.refl w) (oV HO8.out (Nat.le_refl _)) (Nat.le_succ _)
        clear hVV oV
        obtain ⟨z0, -⟩ := blk_rules bV
        refine bodyPost_ret (v := .tuple #[.agg #[.int .i64 K, .int .i64 (f0E bs : Nat), .int .i64 0, .int .i64 0, .int .i64 0, .slice none 0 0, .slice none 0 0, .int .i64 0, .slice AHH nHH cHH, .slice none 0 0], .int .i64 0]) (by simp [results, Tryz.results71, go_sem, z0]) rfl ?_
        exact fget_out (x := (⟨K, (f0E bs : Nat), 0, 0, 0, [], [], 0, (someB takeM 64 (f0R bs)).2, []⟩, 0)) (s := ⟨⟨none, 0, 0⟩, ⟨none, 0, 0⟩, ⟨AHH, nHH, cHH⟩, ⟨none, 0, 0⟩⟩) HG1.out (FrV.all (FrV.keep (S := fun b => w.heap.size + 3 ≤ b) ⟨SlW.nil_, SlW.nil_, HSHH.out, SlW.nil_, ArrQ.nil_, ArrQ.nil_, HH_8.out, ArrQ.nil_⟩ (kV _ (fun b hb => by omega)))) OV
      · have he1 : (E != 0) = true := by simpa using he
        have HG1 : Hid (getF bs = (fr0, E)) := Lib.hid (by rw [HG0.out, if_pos (by simpa using he)])
        clear he
        obtain ⟨qR0, qR1⟩ := blk_rules HKR8.out
        go_wp2_with fail
        clear qR0 qR1
        generalize hVV : (((((((((w8.setCell ⟨w.heap.size, 0, none⟩ (.int .i64 0)).setCell ⟨w.heap.size, 1, none⟩ (.int .i64 0)).setCell ⟨w.heap.size, 2, none⟩ (.int .i64 0)).setCell ⟨w.heap.size, 3, none⟩ (.int .i64 0)).setCell ⟨w.heap.size, 4, none⟩ (.int .i64 0)).setCell ⟨w.heap.size, 5, none⟩ (.slice none 0 0)).setCell ⟨w.heap.size, 6, none⟩ (.slice none 0 0)).setCell ⟨w.heap.size, 7, none⟩ (.int .i64 0)).setCell ⟨w.heap.size, 8, none⟩ (.slice none 0 0)).setCell ⟨w.heap.size, 9, none⟩ (.slice none 0 0) = V
        obtain ⟨bV, oV, kV⟩ := set10 HKR8.out (.int .i64 0) (.int .i64 0) (.int .i64 0) (.int .i64 0) (.int .i64 0) (.slice none 0 0) (.slice none 0 0) (.int .i64 0) (.slice none 0 0) (.slice none 0 0) hVV
        have OV := Only.ext (Ext.refl w) (oV HO8.out (Nat.le_refl _)) (Nat.le_succ _)
        clear hVV oV
        obtain ⟨z0, -⟩ := blk_rules bV
        refine bodyPost_ret (v := .tuple #[.agg #[.int .i64 0, .int .i64 0, .int .i64 0, .int .i64 0, .int .i64 0, .slice none 0 0, .slice none 0 0, .int .i64 0, .slice none 0 0, .slice none 0 0], .int .i64 E]) (by simp [results, Tryz.results71, go_sem, z0]) rfl ?_
        exact fget_out (x := (fr0, E)) (s := nilS) (HG1.out) (FrV.nil_ _ _ _ _ _ _ _ _) OV
    · have hd1 : (D != 0) = true := by simpa using hd
      have HG0 : Hid (getF bs = (fr0, D)) := Lib.hid (by rw [HOF.out _ _ HT.out, if_pos (by rw [← HD.out]; simpa using hd), ← HD.out])
      clear hd HT
      obtain ⟨qR0, qR1⟩ := blk_rules HKR7.out
      go_wp2_with fail
      clear qR0 qR1
      generalize hVV : (((((((((w7.setCell ⟨w.heap.size, 0, none⟩ (.int .i64 0)).setCell ⟨w.heap.size, 1, none⟩ (.int .i64 0)).setCell ⟨w.heap.size, 2, none⟩ (.int .i64 0)).setCell ⟨w.heap.size, 3, none⟩ (.int .i64 0)).setCell ⟨w.heap.size, 4, none⟩ (.int .i64 0)).setCell ⟨w.heap.size, 5, none⟩ (.slice none 0 0)).setCell ⟨w.heap.size, 6, none⟩ (.slice none 0 0)).setCell ⟨w.heap.size, 7, none⟩ (.int .i64 0)).setCell ⟨w.heap.size, 8, none⟩ (.slice none 0 0)).setCell ⟨w.heap.size, 9, none⟩ (.slice none 0 0) = V
      obtain ⟨bV, oV, kV⟩ := set10 HKR7.out (.int .i64 0) (.int .i64 0) (.int .i64 0) (.int .i64 0) (.int .i64 0) (.slice none 0 0) (.slice none 0 0) (.int .i64 0) (.slice none 0 0) (.slice none 0 0) hVV
      have OV := Only.ext (Ext.refl w) (oV HO7.out (Nat.le_refl _)) (Nat.le_succ _)
      clear hVV oV
      obtain ⟨z0, -⟩ := blk_rules bV
      refine bodyPost_ret (v := .tuple #[.agg #[.int .i64 0, .int .i64 0, .int .i64 0, .int .i64 0, .int .i64 0, .slice none 0 0, .slice none 0 0, .int .i64 0, .slice none 0 0, .slice none 0 0], .int .i64 D]) (by simp [results, Tryz.results71, go_sem, z0]) rfl ?_
      exact fget_out (x := (fr0, D)) (s := nilS) (HG0.out) (FrV.nil_ _ _ _ _ _ _ _ _) OV
  · have b0 : (K == 0) = false := by rw [HKK.out, hk]; rfl
    have b1 : (K == 1) = true := by rw [HKK.out, hk]; rfl
    have b2 : (K == 2) = false := by rw [HKK.out, hk]; rfl
    have b3 : (K == 3) = false := by rw [HKK.out, hk]; rfl
    have hK1 : K = 1 := by rw [HKK.out, hk]; rfl
    have HKe : Hid (K = 1) := Lib.hid hK1
    clear hK1
    obtain ⟨qF0, qF1⟩ := blk_rules HKF3.out
    go_wp2_with fail
    clear qF0 qF1
    have HKR4 : Hid ((w3.setCell ⟨w.heap.size + 2, 1, none⟩ (.int .i64 (f0E bs : Nat))).heap[w.heap.size]? = some (.cells #[.int .i64 0, .int .i64 0, .int .i64 0, .int .i64 0, .int .i64 0, .slice none 0 0, .slice none 0 0, .int .i64 0, .slice none 0 0, .slice none 0 0] 93 (0, 0))) := Lib.hid ((blk_far (g := w.heap.size) (g' := w.heap.size + 2) (i := 1) (by omega) (.int .i64 (f0E bs : Nat))).trans HKR3.out)
    have HKF4 : Hid ((w3.setCell ⟨w.heap.size + 2, 1, none⟩ (.int .i64 (f0E bs : Nat))).heap[w.heap.size + 2]? = some (.cells #[.int .i64 K, .int .i64 (f0E bs : Nat), .int .i64 0, .int .i64 0, .int .i64 0, .slice none 0 0, .slice none 0 0, .int .i64 0, .slice none 0 0, .slice none 0 0] 93 (0, 0))) := Lib.hid (blk_set (i := 1) HKF3.out (.int .i64 (f0E bs : Nat)))
    have HR4 := Lib.hid (HR3.out.setFar (p := w.heap.size + 2) (i := 1) (by omega) (.int .i64 (f0E bs : Nat)))
    have HO4 := Lib.hid (HO3.out.setNew (p := w.heap.size + 2) (i := 1) (by omega) (.int .i64 (f0E bs : Nat)))
    have hz4 : w.heap.size + 2 < (w3.setCell ⟨w.heap.size + 2, 1, none⟩ (.int .i64 (f0E bs : Nat))).heap.size := by rw [size_set]; exact hz3
    generalize w3.setCell ⟨w.heap.size + 2, 1, none⟩ (.int .i64 (f0E bs : Nat)) = w4 at HKR4 HKF4 HR4 HO4 hz4 ⊢
    refine (num_any (w.heap.size + 1) _ 3 _ HR4.out).mono ?_
    rintro e w5 ⟨rfl, hr5, ho5⟩
    have HR5 := Lib.hid hr5
    have HKR5 : Hid (w5.heap[w.heap.size]? = some (.cells #[.int .i64 0, .int .i64 0, .int .i64 0, .int .i64 0, .int .i64 0, .slice none 0 0, .slice none 0 0, .int .i64 0, .slice none 0 0, .slice none 0 0] 93 (0, 0))) := Lib.hid ((ho5.blk (b := w.heap.size) (by omega) (by omega)).trans HKR4.out)
    have HKF5 : Hid (w5.heap[w.heap.size + 2]? = some (.cells #[.int .i64 K, .int .i64 (f0E bs : Nat), .int .i64 0, .int .i64 0, .int .i64 0, .slice none 0 0, .slice none 0 0, .int .i64 0, .slice none 0 0, .slice none 0 0] 93 (0, 0))) := Lib.hid ((ho5.blk (b := w.heap.size + 2) (by omega) (by omega)).trans HKF4.out)
    have HO5 := Lib.hid (HO4.out.trans ho5)
    have hz5 : w.heap.size + 2 < w5.heap.size := Nat.lt_of_lt_of_le hz4 ho5.size
    clear hr5 ho5
    obtain ⟨qF0, qF1⟩ := blk_rules HKF5.out
    go_wp2_with fail
    clear qF0 qF1
    have HKR6 : Hid ((w5.setCell ⟨w.heap.size + 2, 2, none⟩ (.int .i64 ((((f0R bs).num 3).2 : Nat) : Int))).heap[w.heap.size]? = some (.cells #[.int .i64 0, .int .i64 0, .int .i64 0, .int .i64 0, .int .i64 0, .slice none 0 0, .slice none 0 0, .int .i64 0, .slice none 0 0, .slice none 0 0] 93 (0, 0))) := Lib.hid ((blk_far (g := w.heap.size) (g' := w.heap.size + 2) (i := 2) (by omega) (.int .i64 ((((f0R bs).num 3).2 : Nat) : Int))).trans HKR5.out)
    have HKF6 : Hid ((w5.setCell ⟨w.heap.size + 2, 2, none⟩ (.int .i64 ((((f0R bs).num 3).2 : Nat) : Int))).heap[w.heap.size + 2]? = some (.cells #[.int .i64 K, .int .i64 (f0E bs : Nat), .int .i64 ((((f0R bs).num 3).2 : Nat) : Int), .int .i64 0, .int .i64 0, .slice none 0 0, .slice none 0 0, .int .i64 0, .slice none 0 0, .slice none 0 0] 93 (0, 0))) := Lib.hid (blk_set (i := 2) HKF5.out (.int .i64 ((((f0R bs).num 3).2 : Nat) : Int)))
    have HR6 := Lib.hid (HR5.out.setFar (p := w.heap.size + 2) (i := 2) (by omega) (.int .i64 ((((f0R bs).num 3).2 : Nat) : Int)))
    have HO6 := Lib.hid (HO5.out.setNew (p := w.heap.size + 2) (i := 2) (by omega) (.int .i64 ((((f0R bs).num 3).2 : Nat) : Int)))
    have hz6 : w.heap.size + 2 < (w5.setCell ⟨w.heap.size + 2, 2, none⟩ (.int .i64 ((((f0R bs).num 3).2 : Nat) : Int))).heap.size := by rw [size_set]; exact hz5
    generalize w5.setCell ⟨w.heap.size + 2, 2, none⟩ (.int .i64 ((((f0R bs).num 3).2 : Nat) : Int)) = w6 at HKR6 HKF6 HR6 HO6 hz6 ⊢
    refine (num_any (w.heap.size + 1) _ 2147483647 _ HR6.out).mono ?_
    rintro e w7 ⟨rfl, hr7, ho7⟩
    have HR7 := Lib.hid hr7
    have HKR7 : Hid (w7.heap[w.heap.size]? = some (.cells #[.int .i64 0, .int .i64 0, .int .i64 0, .int .i64 0, .int .i64 0, .slice none 0 0, .slice none 0 0, .int .i64 0, .slice none 0 0, .slice none 0 0] 93 (0, 0))) := Lib.hid ((ho7.blk (b := w.heap.size) (by omega) (by omega)).trans HKR6.out)
    have HKF7 : Hid (w7.heap[w.heap.size + 2]? = some (.cells #[.int .i64 K, .int .i64 (f0E bs : Nat), .int .i64 ((((f0R bs).num 3).2 : Nat) : Int), .int .i64 0, .int .i64 0, .slice none 0 0, .slice none 0 0, .int .i64 0, .slice none 0 0, .slice none 0 0] 93 (0, 0))) := Lib.hid ((ho7.blk (b := w.heap.size + 2) (by omega) (by omega)).trans HKF6.out)
    have HO7 := Lib.hid (HO6.out.trans ho7)
    have hz7 : w.heap.size + 2 < w7.heap.size := Nat.lt_of_lt_of_le hz6 ho7.size
    clear hr7 ho7
    obtain ⟨qF0, qF1⟩ := blk_rules HKF7.out
    go_wp2_with fail
    clear qF0 qF1
    have HKR8 : Hid ((w7.setCell ⟨w.heap.size + 2, 3, none⟩ (.int .i64 (((((f0R bs).num 3).1.num 2147483647).2 : Nat) : Int))).heap[w.heap.size]? = some (.cells #[.int .i64 0, .int .i64 0, .int .i64 0, .int .i64 0, .int .i64 0, .slice none 0 0, .slice none 0 0, .int .i64 0, .slice none 0 0, .slice none 0 0] 93 (0, 0))) := Lib.hid ((blk_far (g := w.heap.size) (g' := w.heap.size + 2) (i := 3) (by omega) (.int .i64 (((((f0R bs).num 3).1.num 2147483647).2 : Nat) : Int))).trans HKR7.out)
    have HKF8 : Hid ((w7.setCell ⟨w.heap.size + 2, 3, none⟩ (.int .i64 (((((f0R bs).num 3).1.num 2147483647).2 : Nat) : Int))).heap[w.heap.size + 2]? = some (.cells #[.int .i64 K, .int .i64 (f0E bs : Nat), .int .i64 ((((f0R bs).num 3).2 : Nat) : Int), .int .i64 (((((f0R bs).num 3).1.num 2147483647).2 : Nat) : Int), .int .i64 0, .slice none 0 0, .slice none 0 0, .int .i64 0, .slice none 0 0, .slice none 0 0] 93 (0, 0))) := Lib.hid (blk_set (i := 3) HKF7.out (.int .i64 (((((f0R bs).num 3).1.num 2147483647).2 : Nat) : Int)))
    have HR8 := Lib.hid (HR7.out.setFar (p := w.heap.size + 2) (i := 3) (by omega) (.int .i64 (((((f0R bs).num 3).1.num 2147483647).2 : Nat) : Int)))
    have HO8 := Lib.hid (HO7.out.setNew (p := w.heap.size + 2) (i := 3) (by omega) (.int .i64 (((((f0R bs).num 3).1.num 2147483647).2 : Nat) : Int)))
    have hz8 : w.heap.size + 2 < (w7.setCell ⟨w.heap.size + 2, 3, none⟩ (.int .i64 (((((f0R bs).num 3).1.num 2147483647).2 : Nat) : Int))).heap.size := by rw [size_set]; exact hz7
    generalize w7.setCell ⟨w.heap.size + 2, 3, none⟩ (.int .i64 (((((f0R bs).num 3).1.num 2147483647).2 : Nat) : Int)) = w8 at HKR8 HKF8 HR8 HO8 hz8 ⊢
    refine (takeAll_any (w.heap.size + 1) _ _ HR8.out).mono ?_
    rintro e w9 ⟨AHA, nHA, cHA, rfl, hsl, harr, hr9, ho9⟩
    have HR9 := Lib.hid hr9
    have HKR9 : Hid (w9.heap[w.heap.size]? = some (.cells #[.int .i64 0, .int .i64 0, .int .i64 0, .int .i64 0, .int .i64 0, .slice none 0 0, .slice none 0 0, .int .i64 0, .slice none 0 0, .slice none 0 0] 93 (0, 0))) := Lib.hid ((ho9.blk (b := w.heap.size) (by omega) (by omega)).trans HKR8.out)
    have HKF9 : Hid (w9.heap[w.heap.size + 2]? = some (.cells #[.int .i64 K, .int .i64 (f0E bs : Nat), .int .i64 ((((f0R bs).num 3).2 : Nat) : Int), .int .i64 (((((f0R bs).num 3).1.num 2147483647).2 : Nat) : Int), .int .i64 0, .slice none 0 0, .slice none 0 0, .int .i64 0, .slice none 0 0, .slice none 0 0] 93 (0, 0))) := Lib.hid ((ho9.blk (b := w.heap.size + 2) (by omega) (by omega)).trans HKF8.out)
    have HO9 := Lib.hid (HO8.out.trans ho9)
    have hz9 : w.heap.size + 2 < w9.heap.size := Nat.lt_of_lt_of_le hz8 ho9.size
    have HA_9 : Hid (ResL (fun b => w.heap.size + 3 ≤ b) w9 AHA nHA _) := Lib.hid (ResL.weak harr (fun b _ hb => by omega))
    have HSHA := Lib.hid hsl
    clear harr hsl
    clear hr9 ho9
    obtain ⟨qF0, qF1⟩ := blk_rules HKF9.out
    go_wp2_with fail
    clear qF0 qF1
    have HKR10 : Hid ((w9.setCell ⟨w.heap.size + 2, 5, none⟩ (.slice AHA nHA cHA)).heap[w.heap.size]? = some (.cells #[.int .i64 0, .int .i64 0, .int .i64 0, .int .i64 0, .int .i64 0, .slice none 0 0, .slice none 0 0, .int .i64 0, .slice none 0 0, .slice none 0 0] 93 (0, 0))) := Lib.hid ((blk_far (g := w.heap.size) (g' := w.heap.size + 2) (i := 5) (by omega) (.slice AHA nHA cHA)).trans HKR9.out)
    have HKF10 : Hid ((w9.setCell ⟨w.heap.size + 2, 5, none⟩ (.slice AHA nHA cHA)).heap[w.heap.size + 2]? = some (.cells #[.int .i64 K, .int .i64 (f0E bs : Nat), .int .i64 ((((f0R bs).num 3).2 : Nat) : Int), .int .i64 (((((f0R bs).num 3).1.num 2147483647).2 : Nat) : Int), .int .i64 0, .slice AHA nHA cHA, .slice none 0 0, .int .i64 0, .slice none 0 0, .slice none 0 0] 93 (0, 0))) := Lib.hid (blk_set (i := 5) HKF9.out (.slice AHA nHA cHA))
    have HR10 := Lib.hid (HR9.out.setFar (p := w.heap.size + 2) (i := 5) (by omega) (.slice AHA nHA cHA))
    have HO10 := Lib.hid (HO9.out.setNew (p := w.heap.size + 2) (i := 5) (by omega) (.slice AHA nHA cHA))
    have hz10 : w.heap.size + 2 < (w9.setCell ⟨w.heap.size + 2, 5, none⟩ (.slice AHA nHA cHA)).heap.size := by rw [size_set]; exact hz9
    have HA_10 := Lib.hid (ResL.keep HA_9.out (Keep.setFar (p := w.heap.size + 2) (i := 5) (fun b hb => by omega) (.slice AHA nHA cHA)))
    generalize w9.setCell ⟨w.heap.size + 2, 5, none⟩ (.slice AHA nHA cHA) = w10 at HKR10 HKF10 HR10 HO10 hz10 HA_10 ⊢
    refine (takeKeys_any (w.heap.size + 1) _ _ HR10.out).mono ?_
    rintro e w11 ⟨AHG, nHG, cHG, rfl, hsl, harr, hr11, ho11⟩
    have HR11 := Lib.hid hr11
    have HKR11 : Hid (w11.heap[w.heap.size]? = some (.cells #[.int .i64 0, .int .i64 0, .int .i64 0, .int .i64 0, .int .i64 0, .slice none 0 0, .slice none 0 0, .int .i64 0, .slice none 0 0, .slice none 0 0] 93 (0, 0))) := Lib.hid ((ho11.blk (b := w.heap.size) (by omega) (by omega)).trans HKR10.out)
    have HKF11 : Hid (w11.heap[w.heap.size + 2]? = some (.cells #[.int .i64 K, .int .i64 (f0E bs : Nat), .int .i64 ((((f0R bs).num 3).2 : Nat) : Int), .int .i64 (((((f0R bs).num 3).1.num 2147483647).2 : Nat) : Int), .int .i64 0, .slice AHA nHA cHA, .slice none 0 0, .int .i64 0, .slice none 0 0, .slice none 0 0] 93 (0, 0))) := Lib.hid ((ho11.blk (b := w.heap.size + 2) (by omega) (by omega)).trans HKF10.out)
    have HO11 := Lib.hid (HO10.out.trans ho11)
    have hz11 : w.heap.size + 2 < w11.heap.size := Nat.lt_of_lt_of_le hz10 ho11.size
    have HA_11 := Lib.hid (ResL.keep HA_10.out (Only.keepGe (lo := w.heap.size + 3) ho11 (by omega)))
    have HG_11 : Hid (KeyL (fun b => w.heap.size + 3 ≤ b) w11 AHG nHG _) := Lib.hid (ArrQ.weak harr (fun _ _ h => h) (fun b _ hb => by omega))
    have HSHG := Lib.hid hsl
    clear harr hsl
    clear hr11 ho11
    obtain ⟨qF0, qF1⟩ := blk_rules HKF11.out
    go_wp2_with fail
    clear qF0 qF1
    have HKR12 : Hid ((w11.setCell ⟨w.heap.size + 2, 6, none⟩ (.slice AHG nHG cHG)).heap[w.heap.size]? = some (.cells #[.int .i64 0, .int .i64 0, .int .i64 0, .int .i64 0, .int .i64 0, .slice none 0 0, .slice none 0 0, .int .i64 0, .slice none 0 0, .slice none 0 0] 93 (0, 0))) := Lib.hid ((blk_far (g := w.heap.size) (g' := w.heap.size + 2) (i := 6) (by omega) (.slice AHG nHG cHG)).trans HKR11.out)
    have HKF12 : Hid ((w11.setCell ⟨w.heap.size + 2, 6, none⟩ (.slice AHG nHG cHG)).heap[w.heap.size + 2]? = some (.cells #[.int .i64 K, .int .i64 (f0E bs : Nat), .int .i64 ((((f0R bs).num 3).2 : Nat) : Int), .int .i64 (((((f0R bs).num 3).1.num 2147483647).2 : Nat) : Int), .int .i64 0, .slice AHA nHA cHA, .slice AHG nHG cHG, .int .i64 0, .slice none 0 0, .slice none 0 0] 93 (0, 0))) := Lib.hid (blk_set (i := 6) HKF11.out (.slice AHG nHG cHG))
    have HR12 := Lib.hid (HR11.out.setFar (p := w.heap.size + 2) (i := 6) (by omega) (.slice AHG nHG cHG))
    have HO12 := Lib.hid (HO11.out.setNew (p := w.heap.size + 2) (i := 6) (by omega) (.slice AHG nHG cHG))
    have hz12 : w.heap.size + 2 < (w11.setCell ⟨w.heap.size + 2, 6, none⟩ (.slice AHG nHG cHG)).heap.size := by rw [size_set]; exact hz11
    have HA_12 := Lib.hid (ResL.keep HA_11.out (Keep.setFar (p := w.heap.size + 2) (i := 6) (fun b hb => by omega) (.slice AHG nHG cHG)))
    have HG_12 := Lib.hid (KeyL.keep HG_11.out (Keep.setFar (p := w.heap.size + 2) (i := 6) (fun b hb => by omega) (.slice AHG nHG cHG)))
    generalize w11.setCell ⟨w.heap.size + 2, 6, none⟩ (.slice AHG nHG cHG) = w12 at HKR12 HKF12 HR12 HO12 hz12 HA_12 HG_12 ⊢
    have HT : Hid (takeF0 ⟨bs, 0⟩ = ((someB takeK 64 (someB takeR 64 (((f0R bs).num 3).1.num 2147483647).1).1).1, ⟨K, (f0E bs : Nat), ((((f0R bs).num 3).2 : Nat) : Int), (((((f0R bs).num 3).1.num 2147483647).2 : Nat) : Int), 0, (someB takeR 64 (((f0R bs).num 3).1.num 2147483647).1).2, (someB takeK 64 (someB takeR 64 (((f0R bs).num 3).1.num 2147483647).1).1).2, 0, [], []⟩)) := Lib.hid (by rw [HKe.out]; exact HF1.out hk)
    clear hk
    obtain ⟨rr, hrr⟩ : ∃ rr, rr = (someB takeK 64 (someB takeR 64 (((f0R bs).num 3).1.num 2147483647).1).1).1 := ⟨_, rfl⟩
    rw [← hrr] at HT HR12
    clear hrr
    refine (done_any (w.heap.size + 1) _ _ HR12.out).mono ?_
    rintro e w13 ⟨rfl, hr13, ho13⟩
    have HR13 := Lib.hid hr13
    have HKR13 : Hid (w13.heap[w.heap.size]? = some (.cells #[.int .i64 0, .int .i64 0, .int .i64 0, .int .i64 0, .int .i64 0, .slice none 0 0, .slice none 0 0, .int .i64 0, .slice none 0 0, .slice none 0 0] 93 (0, 0))) := Lib.hid ((ho13.blk (b := w.heap.size) (by omega) (by omega)).trans HKR12.out)
    have HKF13 : Hid (w13.heap[w.heap.size + 2]? = some (.cells #[.int .i64 K, .int .i64 (f0E bs : Nat), .int .i64 ((((f0R bs).num 3).2 : Nat) : Int), .int .i64 (((((f0R bs).num 3).1.num 2147483647).2 : Nat) : Int), .int .i64 0, .slice AHA nHA cHA, .slice AHG nHG cHG, .int .i64 0, .slice none 0 0, .slice none 0 0] 93 (0, 0))) := Lib.hid ((ho13.blk (b := w.heap.size + 2) (by omega) (by omega)).trans HKF12.out)
    have HO13 := Lib.hid (HO12.out.trans ho13)
    have hz13 : w.heap.size + 2 < w13.heap.size := Nat.lt_of_lt_of_le hz12 ho13.size
    have HA_13 := Lib.hid (ResL.keep HA_12.out (Only.keepGe (lo := w.heap.size + 3) ho13 (by omega)))
    have HG_13 := Lib.hid (KeyL.keep HG_12.out (Only.keepGe (lo := w.heap.size + 3) ho13 (by omega)))
    clear hr13 ho13
    obtain ⟨D, hD⟩ : ∃ D, D = rr.done := ⟨_, rfl⟩
    rw [← hD]
    have HD := Lib.hid hD
    clear hD
    by_cases hd : D = 0
    · have hd1 : (D != 0) = false := by simpa using hd
      have HG0 : Hid (getF bs = if saneF ⟨K, (f0E bs : Nat), ((((f0R bs).num 3).2 : Nat) : Int), (((((f0R bs).num 3).1.num 2147483647).2 : Nat) : Int), 0, (someB takeR 64 (((f0R bs).num 3).1.num 2147483647).1).2, (someB takeK 64 (someB takeR 64 (((f0R bs).num 3).1.num 2147483647).1).1).2, 0, [], []⟩ ≠ 0 then (fr0, saneF ⟨K, (f0E bs : Nat), ((((f0R bs).num 3).2 : Nat) : Int), (((((f0R bs).num 3).1.num 2147483647).2 : Nat) : Int), 0, (someB takeR 64 (((f0R bs).num 3).1.num 2147483647).1).2, (someB takeK 64 (someB takeR 64 (((f0R bs).num 3).1.num 2147483647).1).1).2, 0, [], []⟩) else (⟨K, (f0E bs : Nat), ((((f0R bs).num 3).2 : Nat) : Int), (((((f0R bs).num 3).1.num 2147483647).2 : Nat) : Int), 0, (someB takeR 64 (((f0R bs).num 3).1.num 2147483647).1).2, (someB takeK 64 (someB takeR 64 (((f0R bs).num 3).1.num 2147483647).1).1).2, 0, [], []⟩, 0)) := Lib.hid (by rw [HOF.out _ _ HT.out, if_neg (by rw [← HD.out]; simpa using hd)])
      clear hd
      obtain ⟨qF0, qF1⟩ := blk_rules HKF13.out
      go_wp2_with fail
      clear qF0 qF1
      refine (frSane_any (fun b => w.heap.size + 3 ≤ b) ⟨K, (f0E bs : Nat), ((((f0R bs).num 3).2 : Nat) : Int), (((((f0R bs).num 3).1.num 2147483647).2 : Nat) : Int), 0, (someB takeR 64 (((f0R bs).num 3).1.num 2147483647).1).2, (someB takeK 64 (someB takeR 64 (((f0R bs).num 3).1.num 2147483647).1).1).2, 0, [], []⟩ ⟨⟨AHA, nHA, cHA⟩, ⟨AHG, nHG, cHG⟩, ⟨none, 0, 0⟩, ⟨none, 0, 0⟩⟩ _ ⟨HSHA.out, HSHG.out, SlW.nil_, SlW.nil_, HA_13.out, HG_13.out, ArrQ.nil_, ArrQ.nil_⟩).mono ?_
      rintro e w14 ⟨rfl, hb14⟩
      have HR14 := Lib.hid (HR13.out.up hb14)
      have HKR14 : Hid (w14.heap[w.heap.size]? = some (.cells #[.int .i64 0, .int .i64 0, .int .i64 0, .int .i64 0, .int .i64 0, .slice none 0 0, .slice none 0 0, .int .i64 0, .slice none 0 0, .slice none 0 0] 93 (0, 0))) := Lib.hid ((hb14.block (b := w.heap.size) (by omega)).trans HKR13.out)
      have HKF14 : Hid (w14.heap[w.heap.size + 2]? = some (.cells #[.int .i64 K, .int .i64 (f0E bs : Nat), .int .i64 ((((f0R bs).num 3).2 : Nat) : Int), .int .i64 (((((f0R bs).num 3).1.num 2147483647).2 : Nat) : Int), .int .i64 0, .slice AHA nHA cHA, .slice AHG nHG cHG, .int .i64 0, .slice none 0 0, .slice none 0 0] 93 (0, 0))) := Lib.hid ((hb14.block (b := w.heap.size + 2) (by omega)).trans HKF13.out)
      have HO14 := Lib.hid (HO13.out.trans (Only.of_ext hb14))
      have hz14 : w.heap.size + 2 < w14.heap.size := Nat.lt_of_lt_of_le hz13 hb14.size
      have HA_14 := Lib.hid (ResL.keep HA_13.out (hb14.keep))
      have HG_14 := Lib.hid (KeyL.keep HG_13.out (hb14.keep))
      clear hb14
      obtain ⟨E, hE⟩ : ∃ E, E = saneF ⟨K, (f0E bs : Nat), ((((f0R bs).num 3).2 : Nat) : Int), (((((f0R bs).num 3).1.num 2147483647).2 : Nat) : Int), 0, (someB takeR 64 (((f0R bs).num 3).1.num 2147483647).1).2, (someB takeK 64 (someB takeR 64 (((f0R bs).num 3).1.num 2147483647).1).1).2, 0, [], []⟩ := ⟨_, rfl⟩
      rw [← hE] at HG0 ⊢
      clear hE HT
      by_cases he : E = 0
      · have he1 : (E != 0) = false := by simpa using he
        have HG1 : Hid (getF bs = (⟨K, (f0E bs : Nat), ((((f0R bs).num 3).2 : Nat) : Int), (((((f0R bs).num 3).1.num 2147483647).2 : Nat) : Int), 0, (someB takeR 64 (((f0R bs).num 3).1.num 2147483647).1).2, (someB takeK 64 (someB takeR 64 (((f0R bs).num 3).1.num 2147483647).1).1).2, 0, [], []⟩, 0)) := Lib.hid (by rw [HG0.out, if_neg (by simpa using he)])
        clear he
        obtain ⟨qF0, qF1⟩ := blk_rules HKF14.out
        obtain ⟨qR0, qR1⟩ := blk_rules HKR14.out
        go_wp2_with fail
        clear qF0 qF1 qR0 qR1
        generalize hVV : (((((((((w14.setCell ⟨w.heap.size, 0, none⟩ (.int .i64 K)).setCell ⟨w.heap.size, 1, none⟩ (.int .i64 (f0E bs : Nat))).setCell ⟨w.heap.size, 2, none⟩ (.int .i64 ((((f0R bs).num 3).2 : Nat) : Int))).setCell ⟨w.heap.size, 3, none⟩ (.int .i64 (((((f0R bs).num 3).1.num 2147483647).2 : Nat) : Int))).setCell ⟨w.heap.size, 4, none⟩ (.int .i64 0)).setCell ⟨w.heap.size, 5, none⟩ (.slice AHA nHA cHA)).setCell ⟨w.heap.size, 6, none⟩ (.slice AHG nHG cHG)).setCell ⟨w.heap.size, 7, none⟩ (.int .i64 0)).setCell ⟨w.heap.size, 8, none⟩ (.slice none 0 0)).setCell ⟨w.heap.size, 9, none⟩ (.slice none 0 0) = V
        obtain ⟨bV, oV, kV⟩ := set10 HKR14.out (.int .i64 K) (.int .i64 (f0E bs : Nat)) (.int .i64 ((((f0R bs).num 3).2 : Nat) : Int)) (.int .i64 (((((f0R bs).num 3).1.num 2147483647).2 : Nat) : Int)) (.int .i64 0) (.slice AHA nHA cHA) (.slice AHG nHG cHG) (.int .i64 0) (.slice none 0 0) (.slice none 0 0) hVV
        have OV := Only.ext (Ext.refl w) (oV HO14.out (Nat.le_refl _)) (Nat.le_succ _)
        clear hVV oV
        obtain ⟨z0, -⟩ := blk_rules bV
        refine bodyPost_ret (v := .tuple #[.agg #[.int .i64 K, .int .i64 (f0E bs : Nat), .int .i64 ((((f0R bs).num 3).2 : Nat) : Int), .int .i64 (((((f0R bs).num 3).1.num 2147483647).2 : Nat) : Int), .int .i64 0, .slice AHA nHA cHA, .slice AHG nHG cHG, .int .i64 0, .slice none 0 0, .slice none 0 0], .int .i64 0]) (by simp [results, Tryz.results71, go_sem, z0]) rfl ?_
        exact fget_out (x := (⟨K, (f0E bs : Nat), ((((f0R bs).num 3).2 : Nat) : Int), (((((f0R bs).num 3).1.num 2147483647).2 : Nat) : Int), 0, (someB takeR 64 (((f0R bs).num 3).1.num 2147483647).1).2, (someB takeK 64 (someB takeR 64 (((f0R bs).num 3).1.num 2147483647).1).1).2, 0, [], []⟩, 0)) (s := ⟨⟨AHA, nHA, cHA⟩, ⟨AHG, nHG, cHG⟩, ⟨none, 0, 0⟩, ⟨none, 0, 0⟩⟩) HG1.out (FrV.all (FrV.keep (S := fun b => w.heap.size + 3 ≤ b) ⟨HSHA.out, HSHG.out, SlW.nil_, SlW.nil_, HA_14.out, HG_14.out, ArrQ.nil_, ArrQ.nil_⟩ (kV _ (fun b hb => by omega)))) OV
      · have he1 : (E != 0) = true := by simpa using he
        have HG1 : Hid (getF bs = (fr0, E)) := Lib.hid (by rw [HG0.out, if_pos (by simpa using he)])
        clear he
        obtain ⟨qR0, qR1⟩ := blk_rules HKR14.out
        go_wp2_with fail
        clear qR0 qR1
        generalize hVV : (((((((((w14.setCell ⟨w.heap.size, 0, none⟩ (.int .i64 0)).setCell ⟨w.heap.size, 1, none⟩ (.int .i64 0)).setCell ⟨w.heap.size, 2, none⟩ (.int .i64 0)).setCell ⟨w.heap.size, 3, none⟩ (.int .i64 0)).setCell ⟨w.heap.size, 4, none⟩ (.int .i64 0)).setCell ⟨w.heap.size, 5, none⟩ (.slice none 0 0)).setCell ⟨w.heap.size, 6, none⟩ (.slice none 0 0)).setCell ⟨w.heap.size, 7, none⟩ (.int .i64 0)).setCell ⟨w.heap.size, 8, none⟩ (.slice none 0 0)).setCell ⟨w.heap.size, 9, none⟩ (.slice none 0 0) = V
        obtain ⟨bV, oV, kV⟩ := set10 HKR14.out (.int .i64 0) (.int .i64 0) (.int .i64 0) (.int .i64 0) (.int .i64 0) (.slice none 0 0) (.slice none 0 0) (.int .i64 0) (.slice none 0 0) (.slice none 0 0) hVV
        have OV := Only.ext (Ext.refl w) (oV HO14.out (Nat.le_refl _)) (Nat.le_succ _)
        clear hVV oV
        obtain ⟨z0, -⟩ := blk_rules bV
        refine bodyPost_ret (v := .tuple #[.agg #[.int .i64 0, .int .i64 0, .int .i64 0, .int .i64 0, .int .i64 0, .slice none 0 0, .slice none 0 0, .int .i64 0, .slice none 0 0, .slice none 0 0], .int .i64 E]) (by simp [results, Tryz.results71, go_sem, z0]) rfl ?_
        exact fget_out (x := (fr0, E)) (s := nilS) (HG1.out) (FrV.nil_ _ _ _ _ _ _ _ _) OV
    · have hd1 : (D != 0) = true := by simpa using hd
      have HG0 : Hid (getF bs = (fr0, D)) := Lib.hid (by rw [HOF.out _ _ HT.out, if_pos (by rw [← HD.out]; simpa using hd), ← HD.out])
      clear hd HT
      obtain ⟨qR0, qR1⟩ := blk_rules HKR13.out
      go_wp2_with fail
      clear qR0 qR1
      generalize hVV : (((((((((w13.setCell ⟨w.heap.size, 0, none⟩ (.int .i64 0)).setCell ⟨w.heap.size, 1, none⟩ (.int .i64 0)).setCell ⟨w.heap.size, 2, none⟩ (.int .i64 0)).setCell ⟨w.heap.size, 3, none⟩ (.int .i64 0)).setCell ⟨w.heap.size, 4, none⟩ (.int .i64 0)).setCell ⟨w.heap.size, 5, none⟩ (.slice none 0 0)).setCell ⟨w.heap.size, 6, none⟩ (.slice none 0 0)).setCell ⟨w.heap.size, 7, none⟩ (.int .i64 0)).setCell ⟨w.heap.size, 8, none⟩ (.slice none 0 0)).setCell ⟨w.heap.size, 9, none⟩ (.slice none 0 0) = V
      obtain ⟨bV, oV, kV⟩ := set10 HKR13.out (.int .i64 0) (.int .i64 0) (.int .i64 0) (.int .i64 0) (.int .i64 0) (.slice none 0 0) (.slice none 0 0) (.int .i64 0) (.slice none 0 0) (.slice none 0 0) hVV
      have OV := Only.ext (Ext.refl w) (oV HO13.out (Nat.le_refl _)) (Nat.le_succ _)
      clear hVV oV
      obtain ⟨z0, -⟩ := blk_rules bV
      refine bodyPost_ret (v := .tuple #[.agg #[.int .i64 0, .int .i64 0, .int .i64 0, .int .i64 0, .int .i64 0, .slice none 0 0, .slice none 0 0, .int .i64 0, .slice none 0 0, .slice none 0 0], .int .i64 D]) (by simp [results, Tryz.results71, go_sem, z0]) rfl ?_
      exact fget_out (x := (fr0, D)) (s := nilS) (HG0.out) (FrV.nil_ _ _ _ _ _ _ _ _) OV
  · have b0 : (K == 0) = false := by rw [HKK.out, hk]; rfl
    have b1 : (K == 1) = false := by rw [HKK.out, hk]; rfl
    have b2 : (K == 2) = true := by rw [HKK.out, hk]; rfl
    have b3 : (K == 3) = false := by rw [HKK.out, hk]; rfl
    have hK2 : K = 2 := by rw [HKK.out, hk]; rfl
    have HKe : Hid (K = 2) := Lib.hid hK2
    clear hK2
    obtain ⟨qF0, qF1⟩ := blk_rules HKF3.out
    go_wp2_with fail
    clear qF0 qF1
    have HKR4 : Hid ((w3.setCell ⟨w.heap.size + 2, 1, none⟩ (.int .i64 (f0E bs : Nat))).heap[w.heap.size]? = some (.cells #[.int .i64 0, .int .i64 0, .int .i64 0, .int .i64 0, .int .i64 0, .slice none 0 0, .slice none 0 0, .int .i64 0, .slice none 0 0, .slice none 0 0] 93 (0, 0))) := Lib.hid ((blk_far (g := w.heap.size) (g' := w.heap.size + 2) (i := 1) (by omega) (.int .i64 (f0E bs : Nat))).trans HKR3.out)
    have HKF4 : Hid ((w3.setCell ⟨w.heap.size + 2, 1, none⟩ (.int .i64 (f0E bs : Nat))).heap[w.heap.size + 2]? = some (.cells #[.int .i64 K, .int .i64 (f0E bs : Nat), .int .i64 0, .int .i64 0, .int .i64 0, .slice none 0 0, .slice none 0 0, .int .i64 0, .slice none 0 0, .slice none 0 0] 93 (0, 0))) := Lib.hid (blk_set (i := 1) HKF3.out (.int .i64 (f0E bs : Nat)))
    have HR4 := Lib.hid (HR3.out.setFar (p := w.heap.size + 2) (i := 1) (by omega) (.int .i64 (f0E bs : Nat)))
    have HO4 := Lib.hid (HO3.out.setNew (p := w.heap.size + 2) (i := 1) (by omega) (.int .i64 (f0E bs : Nat)))
    have hz4 : w.heap.size + 2 < (w3.setCell ⟨w.heap.size + 2, 1, none⟩ (.int .i64 (f0E bs : Nat))).heap.size := by rw [size_set]; exact hz3
    generalize w3.setCell ⟨w.heap.size + 2, 1, none⟩ (.int .i64 (f0E bs : Nat)) = w4 at HKR4 HKF4 HR4 HO4 hz4 ⊢
    refine (num_any (w.heap.size + 1) _ 3 _ HR4.out).mono ?_
    rintro e w5 ⟨rfl, hr5, ho5⟩
    have HR5 := Lib.hid hr5
    have HKR5 : Hid (w5.heap[w.heap.size]? = some (.cells #[.int .i64 0, .int .i64 0, .int .i64 0, .int .i64 0, .int .i64 0, .slice none 0 0, .slice none 0 0, .int .i64 0, .slice none 0 0, .slice none 0 0] 93 (0, 0))) := Lib.hid ((ho5.blk (b := w.heap.size) (by omega) (by omega)).trans HKR4.out)
    have HKF5 : Hid (w5.heap[w.heap.size + 2]? = some (.cells #[.int .i64 K, .int .i64 (f0E bs : Nat), .int .i64 0, .int .i64 0, .int .i64 0, .slice none 0 0, .slice none 0 0, .int .i64 0, .slice none 0 0, .slice none 0 0] 93 (0, 0))) := Lib.hid ((ho5.blk (b := w.heap.size + 2) (by omega) (by omega)).trans HKF4.out)
    have HO5 := Lib.hid (HO4.out.trans ho5)
    have hz5 : w.heap.size + 2 < w5.heap.size := Nat.lt_of_lt_of_le hz4 ho5.size
    clear hr5 ho5
    obtain ⟨qF0, qF1⟩ := blk_rules HKF5.out
    go_wp2_with fail
    clear qF0 qF1
    have HKR6 : Hid ((w5.setCell ⟨w.heap.size + 2, 2, none⟩ (.int .i64 ((((f0R bs).num 3).2 : Nat) : Int))).heap[w.heap.size]? = some (.cells #[.int .i64 0, .int .i64 0, .int .i64 0, .int .i64 0, .int .i64 0, .slice none 0 0, .slice none 0 0, .int .i64 0, .slice none 0 0, .slice none 0 0] 93 (0, 0))) := Lib.hid ((blk_far (g := w.heap.size) (g' := w.heap.size + 2) (i := 2) (by omega) (.int .i64 ((((f0R bs).num 3).2 : Nat) : Int))).trans HKR5.out)
    have HKF6 : Hid ((w5.setCell ⟨w.heap.size + 2, 2, none⟩ (.int .i64 ((((f0R bs).num 3).2 : Nat) : Int))).heap[w.heap.size + 2]? = some (.cells #[.int .i64 K, .int .i64 (f0E bs : Nat), .int .i64 ((((f0R bs).num 3).2 : Nat) : Int), .int .i64 0, .int .i64 0, .slice none 0 0, .slice none 0 0, .int .i64 0, .slice none 0 0, .slice none 0 0] 93 (0, 0))) := Lib.hid (blk_set (i := 2) HKF5.out (.int .i64 ((((f0R bs).num 3).2 : Nat) : Int)))
    have HR6 := Lib.hid (HR5.out.setFar (p := w.heap.size + 2) (i := 2) (by omega) (.int .i64 ((((f0R bs).num 3).2 : Nat) : Int)))
    have HO6 := Lib.hid (HO5.out.setNew (p := w.heap.size + 2) (i := 2) (by omega) (.int .i64 ((((f0R bs).num 3).2 : Nat) : Int)))
    have hz6 : w.heap.size + 2 < (w5.setCell ⟨w.heap.size + 2, 2, none⟩ (.int .i64 ((((f0R bs).num 3).2 : Nat) : Int))).heap.size := by rw [size_set]; exact hz5
    generalize w5.setCell ⟨w.heap.size + 2, 2, none⟩ (.int .i64 ((((f0R bs).num 3).2 : Nat) : Int)) = w6 at HKR6 HKF6 HR6 HO6 hz6 ⊢
    refine (num_any (w.heap.size + 1) _ 2147483647 _ HR6.out).mono ?_
    rintro e w7 ⟨rfl, hr7, ho7⟩
    have HR7 := Lib.hid hr7
    have HKR7 : Hid (w7.heap[w.heap.size]? = some (.cells #[.int .i64 0, .int .i64 0, .int .i64 0, .int .i64 0, .int .i64 0, .slice none 0 0, .slice none 0 0, .int .i64 0, .slice none 0 0, .slice none 0 0] 93 (0, 0))) := Lib.hid ((ho7.blk (b := w.heap.size) (by omega) (by omega)).trans HKR6.out)
    have HKF7 : Hid (w7.heap[w.heap.size + 2]? = some (.cells #[.int .i64 K, .int .i64 (f0E bs : Nat), .int .i64 ((((f0R bs).num 3).2 : Nat) : Int), .int .i64 0, .int .i64 0, .slice none 0 0, .slice none 0 0, .int .i64 0, .slice none 0 0, .slice none 0 0] 93 (0, 0))) := Lib.hid ((ho7.blk (b := w.heap.size + 2) (by omega) (by omega)).trans HKF6.out)
    have HO7 := Lib.hid (HO6.out.trans ho7)
    have hz7 : w.heap.size + 2 < w7.heap.size := Nat.lt_of_lt_of_le hz6 ho7.size
    clear hr7 ho7
    obtain ⟨qF0, qF1⟩ := blk_rules HKF7.out
    go_wp2_with fail
    clear qF0 qF1
    have HKR8 : Hid ((w7.setCell ⟨w.heap.size + 2, 3, none⟩ (.int .i64 (((((f0R bs).num 3).1.num 2147483647).2 : Nat) : Int))).heap[w.heap.size]? = some (.cells #[.int .i64 0, .int .i64 0, .int .i64 0, .int .i64 0, .int .i64 0, .slice none 0 0, .slice none 0 0, .int .i64 0, .slice none 0 0, .slice none 0 0] 93 (0, 0))) := Lib.hid ((blk_far (g := w.heap.size) (g' := w.heap.size + 2) (i := 3) (by omega) (.int .i64 (((((f0R bs).num 3).1.num 2147483647).2 : Nat) : Int))).trans HKR7.out)
    have HKF8 : Hid ((w7.setCell ⟨w.heap.size + 2, 3, none⟩ (.int .i64 (((((f0R bs).num 3).1.num 2147483647).2 : Nat) : Int))).heap[w.heap.size + 2]? = some (.cells #[.int .i64 K, .int .i64 (f0E bs : Nat), .int .i64 ((((f0R bs).num 3).2 : Nat) : Int), .int .i64 (((((f0R bs).num 3).1.num 2147483647).2 : Nat) : Int), .int .i64 0, .slice none 0 0, .slice none 0 0, .int .i64 0, .slice none 0 0, .slice none 0 0] 93 (0, 0))) := Lib.hid (blk_set (i := 3) HKF7.out (.int .i64 (((((f0R bs).num 3).1.num 2147483647).2 : Nat) : Int)))
    have HR8 := Lib.hid (HR7.out.setFar (p := w.heap.size + 2) (i := 3) (by omega) (.int .i64 (((((f0R bs).num 3).1.num 2147483647).2 : Nat) : Int)))
    have HO8 := Lib.hid (HO7.out.setNew (p := w.heap.size + 2) (i := 3) (by omega) (.int .i64 (((((f0R bs).num 3).1.num 2147483647).2 : Nat) : Int)))
    have hz8 : w.heap.size + 2 < (w7.setCell ⟨w.heap.size + 2, 3, none⟩ (.int .i64 (((((f0R bs).num 3).1.num 2147483647).2 : Nat) : Int))).heap.size := by rw [size_set]; exact hz7
    generalize w7.setCell ⟨w.heap.size + 2, 3, none⟩ (.int .i64 (((((f0R bs).num 3).1.num 2147483647).2 : Nat) : Int)) = w8 at HKR8 HKF8 HR8 HO8 hz8 ⊢
    refine (num_any (w.heap.size + 1) _ 15 _ HR8.out).mono ?_
    rintro e w9 ⟨rfl, hr9, ho9⟩
    have HR9 := Lib.hid hr9
    have HKR9 : Hid (w9.heap[w.heap.size]? = some (.cells #[.int .i64 0, .int .i64 0, .int .i64 0, .int .i64 0, .int .i64 0, .slice none 0 0, .slice none 0 0, .int .i64 0, .slice none 0 0, .slice none 0 0] 93 (0, 0))) := Lib.hid ((ho9.blk (b := w.heap.size) (by omega) (by omega)).trans HKR8.out)
    have HKF9 : Hid (w9.heap[w.heap.size + 2]? = some (.cells #[.int .i64 K, .int .i64 (f0E bs : Nat), .int .i64 ((((f0R bs).num 3).2 : Nat) : Int), .int .i64 (((((f0R bs).num 3).1.num 2147483647).2 : Nat) : Int), .int .i64 0, .slice none 0 0, .slice none 0 0, .int .i64 0, .slice none 0 0, .slice none 0 0] 93 (0, 0))) := Lib.hid ((ho9.blk (b := w.heap.size + 2) (by omega) (by omega)).trans HKF8.out)
    have HO9 := Lib.hid (HO8.out.trans ho9)
    have hz9 : w.heap.size + 2 < w9.heap.size := Nat.lt_of_lt_of_le hz8 ho9.size
    clear hr9 ho9
    obtain ⟨qF0, qF1⟩ := blk_rules HKF9.out
    go_wp2_with fail
    clear qF0 qF1
    have HKR10 : Hid ((w9.setCell ⟨w.heap.size + 2, 7, none⟩ (.int .i64 ((((((f0R bs).num 3).1.num 2147483647).1.num 15).2 : Nat) : Int))).heap[w.heap.size]? = some (.cells #[.int .i64 0, .int .i64 0, .int .i64 0, .int .i64 0, .int .i64 0, .slice none 0 0, .slice none 0 0, .int .i64 0, .slice none 0 0, .slice none 0 0] 93 (0, 0))) := Lib.hid ((blk_far (g := w.heap.size) (g' := w.heap.size + 2) (i := 7) (by omega) (.int .i64 ((((((f0R bs).num 3).1.num 2147483647).1.num 15).2 : Nat) : Int))).trans HKR9.out)
    have HKF10 : Hid ((w9.setCell ⟨w.heap.size + 2, 7, none⟩ (.int .i64 ((((((f0R bs).num 3).1.num 2147483647).1.num 15).2 : Nat) : Int))).heap[w.heap.size + 2]? = some (.cells #[.int .i64 K, .int .i64 (f0E bs : Nat), .int .i64 ((((f0R bs).num 3).2 : Nat) : Int), .int .i64 (((((f0R bs).num 3).1.num 2147483647).2 : Nat) : Int), .int .i64 0, .slice none 0 0, .slice none 0 0, .int .i64 ((((((f0R bs).num 3).1.num 2147483647).1.num 15).2 : Nat) : Int), .slice none 0 0, .slice none 0 0] 93 (0, 0))) := Lib.hid (blk_set (i := 7) HKF9.out (.int .i64 ((((((f0R bs).num 3).1.num 2147483647).1.num 15).2 : Nat) : Int)))
    have HR10 := Lib.hid (HR9.out.setFar (p := w.heap.size + 2) (i := 7) (by omega) (.int .i64 ((((((f0R bs).num 3).1.num 2147483647).1.num 15).2 : Nat) : Int)))
    have HO10 := Lib.hid (HO9.out.setNew (p := w.heap.size + 2) (i := 7) (by omega) (.int .i64 ((((((f0R bs).num 3).1.num 2147483647).1.num 15).2 : Nat) : Int)))
    have hz10 : w.heap.size + 2 < (w9.setCell ⟨w.heap.size + 2, 7, none⟩ (.int .i64 ((((((f0R bs).num 3).1.num 2147483647).1.num 15).2 : Nat) : Int))).heap.size := by rw [size_set]; exact hz9
    generalize w9.setCell ⟨w.heap.size + 2, 7, none⟩ (.int .i64 ((((((f0R bs).num 3).1.num 2147483647).1.num 15).2 : Nat) : Int)) = w10 at HKR10 HKF10 HR10 HO10 hz10 ⊢
    refine (num_any (w.heap.size + 1) _ 2147483647 _ HR10.out).mono ?_
    rintro e w11 ⟨rfl, hr11, ho11⟩
    have HR11 := Lib.hid hr11
    have HKR11 : Hid (w11.heap[w.heap.size]? = some (.cells #[.int .i64 0, .int .i64 0, .int .i64 0, .int .i64 0, .int .i64 0, .slice none 0 0, .slice none 0 0, .int .i64 0, .slice none 0 0, .slice none 0 0] 93 (0, 0))) := Lib.hid ((ho11.blk (b := w.heap.size) (by omega) (by omega)).trans HKR10.out)
    have HKF11 : Hid (w11.heap[w.heap.size + 2]? = some (.cells #[.int .i64 K, .int .i64 (f0E bs : Nat), .int .i64 ((((f0R bs).num 3).2 : Nat) : Int), .int .i64 (((((f0R bs).num 3).1.num 2147483647).2 : Nat) : Int), .int .i64 0, .slice none 0 0, .slice none 0 0, .int .i64 ((((((f0R bs).num 3).1.num 2147483647).1.num 15).2 : Nat) : Int), .slice none 0 0, .slice none 0 0] 93 (0, 0))) := Lib.hid ((ho11.blk (b := w.heap.size + 2) (by omega) (by omega)).trans HKF10.out)
    have HO11 := Lib.hid (HO10.out.trans ho11)
    have hz11 : w.heap.size + 2 < w11.heap.size := Nat.lt_of_lt_of_le hz10 ho11.size
    clear hr11 ho11
    obtain ⟨qF0, qF1⟩ := blk_rules HKF11.out
    go_wp2_with fail
    clear qF0 qF1
    have HKR12 : Hid ((w11.setCell ⟨w.heap.size + 2, 4, none⟩ (.int .i64 (((((((f0R bs).num 3).1.num 2147483647).1.num 15).1.num 2147483647).2 : Nat) : Int))).heap[w.heap.size]? = some (.cells #[.int .i64 0, .int .i64 0, .int .i64 0, .int .i64 0, .int .i64 0, .slice none 0 0, .slice none 0 0, .int .i64 0, .slice none 0 0, .slice none 0 0] 93 (0, 0))) := Lib.hid ((blk_far (g := w.heap.size) (g' := w.heap.size + 2) (i := 4) (by omega) (.int .i64 (((((((f0R bs).num 3).1.num 2147483647).1.num 15).1.num 2147483647).2 : Nat) : Int))).trans HKR11.out)
    have HKF12 : Hid ((w11.setCell ⟨w.heap.size + 2, 4, none⟩ (.int .i64 (((((((f0R bs).num 3).1.num 2147483647).1.num 15).1.num 2147483647).2 : Nat) : Int))).heap[w.heap.size + 2]? = some (.cells #[.int .i64 K, .int .i64 (f0E bs : Nat), .int .i64 ((((f0R bs).num 3).2 : Nat) : Int), .int .i64 (((((f0R bs).num 3).1.num 2147483647).2 : Nat) : Int), .int .i64 (((((((f0R bs).num 3).1.num 2147483647).1.num 15).1.num 2147483647).2 : Nat) : Int), .slice none 0 0, .slice none 0 0, .int .i64 ((((((f0R bs).num 3).1.num 2147483647).1.num 15).2 : Nat) : Int), .slice none 0 0, .slice none 0 0] 93 (0, 0))) := Lib.hid (blk_set (i := 4) HKF11.out (.int .i64 (((((((f0R bs).num 3).1.num 2147483647).1.num 15).1.num 2147483647).2 : Nat) : Int)))
    have HR12 := Lib.hid (HR11.out.setFar (p := w.heap.size + 2) (i := 4) (by omega) (.int .i64 (((((((f0R bs).num 3).1.num 2147483647).1.num 15).1.num 2147483647).2 : Nat) : Int)))
    have HO12 := Lib.hid (HO11.out.setNew (p := w.heap.size + 2) (i := 4) (by omega) (.int .i64 (((((((f0R bs).num 3).1.num 2147483647).1.num 15).1.num 2147483647).2 : Nat) : Int)))
    have hz12 : w.heap.size + 2 < (w11.setCell ⟨w.heap.size + 2, 4, none⟩ (.int .i64 (((((((f0R bs).num 3).1.num 2147483647).1.num 15).1.num 2147483647).2 : Nat) : Int))).heap.size := by rw [size_set]; exact hz11
    generalize w11.setCell ⟨w.heap.size + 2, 4, none⟩ (.int .i64 (((((((f0R bs).num 3).1.num 2147483647).1.num 15).1.num 2147483647).2 : Nat) : Int)) = w12 at HKR12 HKF12 HR12 HO12 hz12 ⊢
    refine (takeKeys_any (w.heap.size + 1) _ _ HR12.out).mono ?_
    rintro e w13 ⟨AHG, nHG, cHG, rfl, hsl, harr, hr13, ho13⟩
    have HR13 := Lib.hid hr13
    have HKR13 : Hid (w13.heap[w.heap.size]? = some (.cells #[.int .i64 0, .int .i64 0, .int .i64 0, .int .i64 0, .int .i64 0, .slice none 0 0, .slice none 0 0, .int .i64 0, .slice none 0 0, .slice none 0 0] 93 (0, 0))) := Lib.hid ((ho13.blk (b := w.heap.size) (by omega) (by omega)).trans HKR12.out)
    have HKF13 : Hid (w13.heap[w.heap.size + 2]? = some (.cells #[.int .i64 K, .int .i64 (f0E bs : Nat), .int .i64 ((((f0R bs).num 3).2 : Nat) : Int), .int .i64 (((((f0R bs).num 3).1.num 2147483647).2 : Nat) : Int), .int .i64 (((((((f0R bs).num 3).1.num 2147483647).1.num 15).1.num 2147483647).2 : Nat) : Int), .slice none 0 0, .slice none 0 0, .int .i64 ((((((f0R bs).num 3).1.num 2147483647).1.num 15).2 : Nat) : Int), .slice none 0 0, .slice none 0 0] 93 (0, 0))) := Lib.hid ((ho13.blk (b := w.heap.size + 2) (by omega) (by omega)).trans HKF12.out)
    have HO13 := Lib.hid (HO12.out.trans ho13)
    have hz13 : w.heap.size + 2 < w13.heap.size := Nat.lt_of_lt_of_le hz12 ho13.size
    have HG_13 : Hid (KeyL (fun b => w.heap.size + 3 ≤ b) w13 AHG nHG _) := Lib.hid (ArrQ.weak harr (fun _ _ h => h) (fun b _ hb => by omega))
    have HSHG := Lib.hid hsl
    clear harr hsl
    clear hr13 ho13
    obtain ⟨qF0, qF1⟩ := blk_rules HKF13.out
    go_wp2_with fail
    clear qF0 qF1
    have HKR14 : Hid ((w13.setCell ⟨w.heap.size + 2, 9, none⟩ (.slice AHG nHG cHG)).heap[w.heap.size]? = some (.cells #[.int .i64 0, .int .i64 0, .int .i64 0, .int .i64 0, .int .i64 0, .slice none 0 0, .slice none 0 0, .int .i64 0, .slice none 0 0, .slice none 0 0] 93 (0, 0))) := Lib.hid ((blk_far (g := w.heap.size) (g' := w.heap.size + 2) (i := 9) (by omega) (.slice AHG nHG cHG)).trans HKR13.out)
    have HKF14 : Hid ((w13.setCell ⟨w.heap.size + 2, 9, none⟩ (.slice AHG nHG cHG)).heap[w.heap.size + 2]? = some (.cells #[.int .i64 K, .int .i64 (f0E bs : Nat), .int .i64 ((((f0R bs).num 3).2 : Nat) : Int), .int .i64 (((((f0R bs).num 3).1.num 2147483647).2 : Nat) : Int), .int .i64 (((((((f0R bs).num 3).1.num 2147483647).1.num 15).1.num 2147483647).2 : Nat) : Int), .slice none 0 0, .slice none 0 0, .int .i64 ((((((f0R bs).num 3).1.num 2147483647).1.num 15).2 : Nat) : Int), .slice none 0 0, .slice AHG nHG cHG] 93 (0, 0))) := Lib.hid (blk_set (i := 9) HKF13.out (.slice AHG nHG cHG))
    have HR14 := Lib.hid (HR13.out.setFar (p := w.heap.size + 2) (i := 9) (by omega) (.slice AHG nHG cHG))
    have HO14 := Lib.hid (HO13.out.setNew (p := w.heap.size + 2) (i := 9) (by omega) (.slice AHG nHG cHG))
    have hz14 : w.heap.size + 2 < (w13.setCell ⟨w.heap.size + 2, 9, none⟩ (.slice AHG nHG cHG)).heap.size := by rw [size_set]; exact hz13
    have HG_14 := Lib.hid (KeyL.keep HG_13.out (Keep.setFar (p := w.heap.size + 2) (i := 9) (fun b hb => by omega) (.slice AHG nHG cHG)))
    generalize w13.setCell ⟨w.heap.size + 2, 9, none⟩ (.slice AHG nHG cHG) = w14 at HKR14 HKF14 HR14 HO14 hz14 HG_14 ⊢
    have HT : Hid (takeF0 ⟨bs, 0⟩ = ((someB takeK 64 (((((f0R bs).num 3).1.num 2147483647).1.num 15).1.num 2147483647).1).1, ⟨K, (f0E bs : Nat), ((((f0R bs).num 3).2 : Nat) : Int), (((((f0R bs).num 3).1.num 2147483647).2 : Nat) : Int), (((((((f0R bs).num 3).1.num 2147483647).1.num 15).1.num 2147483647).2 : Nat) : Int), [], [], ((((((f0R bs).num 3).1.num 2147483647).1.num 15).2 : Nat) : Int), [], (someB takeK 64 (((((f0R bs).num 3).1.num 2147483647).1.num 15).1.num 2147483647).1).2⟩)) := Lib.hid (by rw [HKe.out]; exact HF2.out hk)
    clear hk
    obtain ⟨rr, hrr⟩ : ∃ rr, rr = (someB takeK 64 (((((f0R bs).num 3).1.num 2147483647).1.num 15).1.num 2147483647).1).1 := ⟨_, rfl⟩
    rw [← hrr] at HT HR14
    clear hrr
    refine (done_any (w.heap.size + 1) _ _ HR14.out).mono ?_
    rintro e w15 ⟨rfl, hr15, ho15⟩
    have HR15 := Lib.hid hr15
    have HKR15 : Hid (w15.heap[w.heap.size]? = some (.cells #[.int .i64 0, .int .i64 0, .int .i64 0, .int .i64 0, .int .i64 0, .slice none 0 0, .slice none 0 0, .int .i64 0, .slice none 0 0, .slice none 0 0] 93 (0, 0))) := Lib.hid ((ho15.blk (b := w.heap.size) (by omega) (by omega)).trans HKR14.out)
    have HKF15 : Hid (w15.heap[w.heap.size + 2]? = some (.cells #[.int .i64 K, .int .i64 (f0E bs : Nat), .int .i64 ((((f0R bs).num 3).2 : Nat) : Int), .int .i64 (((((f0R bs).num 3).1.num 2147483647).2 : Nat) : Int), .int .i64 (((((((f0R bs).num 3).1.num 2147483647).1.num 15).1.num 2147483647).2 : Nat) : Int), .slice none 0 0, .slice none 0 0, .int .i64 ((((((f0R bs).num 3).1.num 2147483647).1.num 15).2 : Nat) : Int), .slice none 0 0, .slice AHG nHG cHG] 93 (0, 0))) := Lib.hid ((ho15.blk (b := w.heap.size + 2) (by omega) (by omega)).trans HKF14.out)
    have HO15 := Lib.hid (HO14.out.trans ho15)
    have hz15 : w.heap.size + 2 < w15.heap.size := Nat.lt_of_lt_of_le hz14 ho15.size
    have HG_15 := Lib.hid (KeyL.keep HG_14.out (Only.keepGe (lo := w.heap.size + 3) ho15 (by omega)))
    clear hr15 ho15
    obtain ⟨D, hD⟩ : ∃ D, D = rr.done := ⟨_, rfl⟩
    rw [← hD]
    have HD := Lib.hid hD
    clear hD
    by_cases hd : D = 0
    · have hd1 : (D != 0) = false := by simpa using hd
      have HG0 : Hid (getF bs = if saneF ⟨K, (f0E bs : Nat), ((((f0R bs).num 3).2 : Nat) : Int), (((((f0R bs).num 3).1.num 2147483647).2 : Nat) : Int), (((((((f0R bs).num 3).1.num 2147483647).1.num 15).1.num 2147483647).2 : Nat) : Int), [], [], ((((((f0R bs).num 3).1.num 2147483647).1.num 15).2 : Nat) : Int), [], (someB takeK 64 (((((f0R bs).num 3).1.num 2147483647).1.num 15).1.num 2147483647).1).2⟩ ≠ 0 then (fr0, saneF ⟨K, (f0E bs : Nat), ((((f0R bs).num 3).2 : Nat) : Int), (((((f0R bs).num 3).1.num 2147483647).2 : Nat) : Int), (((((((f0R bs).num 3).1.num 2147483647).1.num 15).1.num 2147483647).2 : Nat) : Int), [], [], ((((((f0R bs).num 3).1.num 2147483647).1.num 15).2 : Nat) : Int), [], (someB takeK 64 (((((f0R bs).num 3).1.num 2147483647).1.num 15).1.num 2147483647).1).2⟩) else (⟨K, (f0E bs : Nat), ((((f0R bs).num 3).2 : Nat) : Int), (((((f0R bs).num 3).1.num 2147483647).2 : Nat) : Int), (((((((f0R bs).num 3).1.num 2147483647).1.num 15).1.num 2147483647).2 : Nat) : Int), [], [], ((((((f0R bs).num 3).1.num 2147483647).1.num 15).2 : Nat) : Int), [], (someB takeK 64 (((((f0R bs).num 3).1.num 2147483647).1.num 15).1.num 2147483647).1).2⟩, 0)) := Lib.hid (by rw [HOF.out _ _ HT.out, if_neg (by rw [← HD.out]; simpa using hd)])
      clear hd
      obtain ⟨qF0, qF1⟩ := blk_rules HKF15.out
      go_wp2_with fail
      clear qF0 qF1
      refine (frSane_any (fun b => w.heap.size + 3 ≤ b) ⟨K, (f0E bs : Nat), ((((f0R bs).num 3).2 : Nat) : Int), (((((f0R bs).num 3).1.num 2147483647).2 : Nat) : Int), (((((((f0R bs).num 3).1.num 2147483647).1.num 15).1.num 2147483647).2 : Nat) : Int), [], [], ((((((f0R bs).num 3).1.num 2147483647).1.num 15).2 : Nat) : Int), [], (someB takeK 64 (((((f0R bs).num 3).1.num 2147483647).1.num 15).1.num 2147483647).1).2⟩ ⟨⟨none, 0, 0⟩, ⟨none, 0, 0⟩, ⟨none, 0, 0⟩, ⟨AHG, nHG, cHG⟩⟩ _ ⟨SlW.nil_, SlW.nil_, SlW.nil_, HSHG.out, ArrQ.nil_, ArrQ.nil_, ArrQ.nil_, HG_15.out⟩).mono ?_
      rintro e w16 ⟨rfl, hb16⟩
      have HR16 := Lib.hid (HR15.out.up hb16)
      have HKR16 : Hid (w16.heap[w.heap.size]? = some (.cells #[.int .i64 0, .int .i64 0, .int .i64 0, .int .i64 0, .int .i64 0, .slice none 0 0, .slice none 0 0, .int .i64 0, .slice none 0 0, .slice none 0 0] 93 (0, 0))) := Lib.hid ((hb16.block (b := w.heap.size) (by omega)).trans HKR15.out)
      have HKF16 : Hid (w16.heap[w.heap.size + 2]? = some (.cells #[.int .i64 K, .int .i64 (f0E bs : Nat), .int .i64 ((((f0R bs).num 3).2 : Nat) : Int), .int .i64 (((((f0R bs).num 3).1.num 2147483647).2 : Nat) : Int), .int .i64 (((((((f0R bs).num 3).1.num 2147483647).1.num 15).1.num 2147483647).2 : Nat) : Int), .slice none 0 0, .slice none 0 0, .int .i64 ((((((f0R bs).num 3).1.num 2147483647).1.num 15).2 : Nat) : Int), .slice none 0 0, .slice AHG nHG cHG] 93 (0, 0))) := Lib.hid ((hb16.block (b := w.heap.size + 2) (by omega)).trans HKF15.out)
      have HO16 := Lib.hid (HO15.out.trans (Only.of_ext hb16))
      have hz16 : w.heap.size + 2 < w16.heap.size := Nat.lt_of_lt_of_le hz15 hb16.size
      have HG_16 := Lib.hid (KeyL.keep HG_15.out (hb16.keep))
      clear hb16
      obtain ⟨E, hE⟩ : ∃ E, E = saneF ⟨K, (f0E bs : Nat), ((((f0R bs).num 3).2 : Nat) : Int), (((((f0R bs).num 3).1.num 2147483647).2 : Nat) : Int), (((((((f0R bs).num 3).1.num 2147483647).1.num 15).1.num 2147483647).2 : Nat) : Int), [], [], ((((((f0R bs).num 3).1.num 2147483647).1.num 15).2 : Nat) : Int), [], (someB takeK 64 (((((f0R bs).num 3).1.num 2147483647).1.num 15).1.num 2147483647).1).2⟩ := ⟨_, rfl⟩
      rw [← hE] at HG0 ⊢
      clear hE HT
      by_cases he : E = 0
      · have he1 : (E != 0) = false := by simpa using he
        have HG1 : Hid (getF bs = (⟨K, (f0E bs : Nat), ((((f0R bs).num 3).2 : Nat) : Int), (((((f0R bs).num 3).1.num 2147483647).2 : Nat) : Int), (((((((f0R bs).num 3).1.num 2147483647).1.num 15).1.num 2147483647).2 : Nat) : Int), [], [], ((((((f0R bs).num 3).1.num 2147483647).1.num 15).2 : Nat) : Int), [], (someB takeK 64 (((((f0R bs).num 3).1.num 2147483647).1.num 15).1.num 2147483647).1).2⟩, 0)) := Lib.hid (by rw [HG0.out, if_neg (by simpa using he)])
        clear he
        obtain ⟨qF0, qF1⟩ := blk_rules HKF16.out
        obtain ⟨qR0, qR1⟩ := blk_rules HKR16.out
        go_wp2_with fail
        clear qF0 qF1 qR0 qR1
        generalize hVV : (((((((((w16.setCell ⟨w.heap.size, 0, none⟩ (.int .i64 K)).setCell ⟨w.heap.size, 1, none⟩ (.int .i64 (f0E bs : Nat))).setCell ⟨w.heap.size, 2, none⟩ (.int .i64 ((((f0R bs).num 3).2 : Nat) : Int))).setCell ⟨w.heap.size, 3, none⟩ (.int .i64 (((((f0R bs).num 3).1.num 2147483647).2 : Nat) : Int))).setCell ⟨w.heap.size, 4, none⟩ (.int .i64 (((((((f0R bs).num 3).1.num 2147483647).1.num 15).1.num 2147483647).2 : Nat) : Int))).setCell ⟨w.heap.size, 5, none⟩ (.slice none 0 0)).setCell ⟨w.heap.size, 6, none⟩ (.slice none 0 0)).setCell ⟨w.heap.size, 7, none⟩ (.int .i64 ((((((f0R bs).num 3).1.num 2147483647).1.num 15).2 : Nat) : Int))).setCell ⟨w.heap.size, 8, none⟩ (.slice none 0 0)).setCell ⟨w.heap.size, 9, none⟩ (.slice AHG nHG cHG) = V
        obtain ⟨bV, oV, kV⟩ := set10 HKR16.out (.int .i64 K) (.int .i64 (f0E bs : Nat)) (.int .i64 ((((f0R bs).num 3).2 : Nat) : Int)) (.int .i64 (((((f0R bs).num 3).1.num 2147483647).2 : Nat) : Int)) (.int .i64 (((((((f0R bs).num 3).1.num 2147483647).1.num 15).1.num 2147483647).2 : Nat) : Int)) (.slice none 0 0) (.slice none 0 0) (.int .i64 ((((((f0R bs).num 3).1.num 2147483647).1.num 15).2 : Nat) : Int)) (.slice none 0 0) (.slice AHG nHG cHG) hVV
        have OV := Only.ext (Ext.refl w) (oV HO16.out (Nat.le_refl _)) (Nat.le_succ _)
        clear hVV oV
        obtain ⟨z0, -⟩ := blk_rules bV
        refine bodyPost_ret (v := .tuple #[.agg #[.int .i64 K, .int .i64 (f0E bs : Nat), .int .i64 ((((f0R bs).num 3).2 : Nat) : Int), .int .i64 (((((f0R bs).num 3).1.num 2147483647).2 : Nat) : Int), .int .i64 (((((((f0R bs).num 3).1.num 2147483647).1.num 15).1.num 2147483647).2 : Nat) : Int), .slice none 0 0, .slice none 0 0, .int .i64 ((((((f0R bs).num 3).1.num 2147483647).1.num 15).2 : Nat) : Int), .slice none 0 0, .slice AHG nHG cHG], .int .i64 0]) (by simp [results, Tryz.results71, go_sem, z0]) rfl ?_
        exact fget_out (x := (⟨K, (f0E bs : Nat), ((((f0R bs).num 3).2 : Nat) : Int), (((((f0R bs).num 3).1.num 2147483647).2 : Nat) : Int), (((((((f0R bs).num 3).1.num 2147483647).1.num 15).1.num 2147483647).2 : Nat) : Int), [], [], ((((((f0R bs).num 3).1.num 2147483647).1.num 15).2 : Nat) : Int), [], (someB takeK 64 (((((f0R bs).num 3).1.num 2147483647).1.num 15).1.num 2147483647).1).2⟩, 0)) (s := ⟨⟨none, 0, 0⟩, ⟨none, 0, 0⟩, ⟨none, 0, 0⟩, ⟨AHG, nHG, cHG⟩⟩) HG1.out (FrV.all (FrV.keep (S := fun b => w.heap.size + 3 ≤ b) ⟨SlW.nil_, SlW.nil_, SlW.nil_, HSHG.out, ArrQ.nil_, ArrQ.nil_, ArrQ.nil_, HG_16.out⟩ (kV _ (fun b hb => by omega)))) OV
      · have he1 : (E != 0) = true := by simpa using he
        have HG1 : Hid (getF bs = (fr0, E)) := Lib.hid (by rw [HG0.out, if_pos (by simpa using he)])
        clear he
        obtain ⟨qR0, qR1⟩ := blk_rules HKR16.out
        go_wp2_with fail
        clear qR0 qR1
        generalize hVV : (((((((((w16.setCell ⟨w.heap.size, 0, none⟩ (.int .i64 0)).setCell ⟨w.heap.size, 1, none⟩ (.int .i64 0)).setCell ⟨w.heap.size, 2, none⟩ (.int .i64 0)).setCell ⟨w.heap.size, 3, none⟩ (.int .i64 0)).setCell ⟨w.heap.size, 4, none⟩ (.int .i64 0)).setCell ⟨w.heap.size, 5, none⟩ (.slice none 0 0)).setCell ⟨w.heap.size, 6, none⟩ (.slice none 0 0)).setCell ⟨w.heap.size, 7, none⟩ (.int .i64 0)).setCell ⟨w.heap.size, 8, none⟩ (.slice none 0 0)).setCell ⟨w.heap.size, 9, none⟩ (.slice none 0 0) = V
        obtain ⟨bV, oV, kV⟩ := set10 HKR16.out (.int .i64 0) (.int .i64 0) (.int .i64 0) (.int .i64 0) (.int .i64 0) (.slice none 0 0) (.slice none 0 0) (.int .i64 0) (.slice none 0 0) (.slice none 0 0) hVV
        have OV := Only.ext (Ext.refl w) (oV HO16.out (Nat.le_refl _)) (Nat.le_succ _)
        clear hVV oV
        obtain ⟨z0, -⟩ := blk_rules bV
        refine bodyPost_ret (v := .tuple #[.agg #[.int .i64 0, .int .i64 0, .int .i64 0, .int .i64 0, .int .i64 0, .slice none 0 0, .slice none 0 0, .int .i64 0, .slice none 0 0, .slice none 0 0], .int .i64 E]) (by simp [results, Tryz.results71, go_sem, z0]) rfl ?_
        exact fget_out (x := (fr0, E)) (s := nilS) (HG1.out) (FrV.nil_ _ _ _ _ _ _ _ _) OV
    · have hd1 : (D != 0) = true := by simpa using hd
      have HG0 : Hid (getF bs = (fr0, D)) := Lib.hid (by rw [HOF.out _ _ HT.out, if_pos (by rw [← HD.out]; simpa using hd), ← HD.out])
      clear hd HT
      obtain ⟨qR0, qR1⟩ := blk_rules HKR15.out
      go_wp2_with fail
      clear qR0 qR1
      generalize hVV : (((((((((w15.setCell ⟨w.heap.size, 0, none⟩ (.int .i64 0)).setCell ⟨w.heap.size, 1, none⟩ (.int .i64 0)).setCell ⟨w.heap.size, 2, none⟩ (.int .i64 0)).setCell ⟨w.heap.size, 3, none⟩ (.int .i64 0)).setCell ⟨w.heap.size, 4, none⟩ (.int .i64 0)).setCell ⟨w.heap.size, 5, none⟩ (.slice none 0 0)).setCell ⟨w.heap.size, 6, none⟩ (.slice none 0 0)).setCell ⟨w.heap.size, 7, none⟩ (.int .i64 0)).setCell ⟨w.heap.size, 8, none⟩ (.slice none 0 0)).setCell ⟨w.heap.size, 9, none⟩ (.slice none 0 0) = V
      obtain ⟨bV, oV, kV⟩ := set10 HKR15.out (.int .i64 0) (.int .i64 0) (.int .i64 0) (.int .i64 0) (.int .i64 0) (.slice none 0 0) (.slice none 0 0) (.int .i64 0) (.slice none 0 0) (.slice none 0 0) hVV
      have OV := Only.ext (Ext.refl w) (oV HO15.out (Nat.le_refl _)) (Nat.le_succ _)
      clear hVV oV
      obtain ⟨z0, -⟩ := blk_rules bV
      refine bodyPost_ret (v := .tuple #[.agg #[.int .i64 0, .int .i64 0, .int .i64 0, .int .i64 0, .int .i64 0, .slice none 0 0, .slice none 0 0, .int .i64 0, .slice none 0 0, .slice none 0 0], .int .i64 D]) (by simp [results, Tryz.results71, go_sem, z0]) rfl ?_
      exact fget_out (x := (fr0, D)) (s := nilS) (HG0.out) (FrV.nil_ _ _ _ _ _ _ _ _) OV
  · have b0 : (K == 0) = false := by rw [HKK.out, hk]; rfl
    have b1 : (K == 1) = false := by rw [HKK.out, hk]; rfl
    have b2 : (K == 2) = false := by rw [HKK.out, hk]; rfl
    have b3 : (K == 3) = true := by rw [HKK.out, hk]; rfl
    have hK3 : K = 3 := by rw [HKK.out, hk]; rfl
    have HKe : Hid (K = 3) := Lib.hid hK3
    clear hK3
    obtain ⟨qF0, qF1⟩ := blk_rules HKF3.out
    go_wp2_with fail
    clear qF0 qF1
    have HKR4 : Hid ((w3.setCell ⟨w.heap.size + 2, 1, none⟩ (.int .i64 (f0E bs : Nat))).heap[w.heap.size]? = some (.cells #[.int .i64 0, .int .i64 0, .int .i64 0, .int .i64 0, .int .i64 0, .slice none 0 0, .slice none 0 0, .int .i64 0, .slice none 0 0, .slice none 0 0] 93 (0, 0))) := Lib.hid ((blk_far (g := w.heap.size) (g' := w.heap.size + 2) (i := 1) (by omega) (.int .i64 (f0E bs : Nat))).trans HKR3.out)
    have HKF4 : Hid ((w3.setCell ⟨w.heap.size + 2, 1, none⟩ (.int .i64 (f0E bs : Nat))).heap[w.heap.size + 2]? = some (.cells #[.int .i64 K, .int .i64 (f0E bs : Nat), .int .i64 0, .int .i64 0, .int .i64 0, .slice none 0 0, .slice none 0 0, .int .i64 0, .slice none 0 0, .slice none 0 0] 93 (0, 0))) := Lib.hid (blk_set (i := 1) HKF3.out (.int .i64 (f0E bs : Nat)))
    have HR4 := Lib.hid (HR3.out.setFar (p := w.heap.size + 2) (i := 1) (by omega) (.int .i64 (f0E bs : Nat)))
    have HO4 := Lib.hid (HO3.out.setNew (p := w.heap.size + 2) (i := 1) (by omega) (.int .i64 (f0E bs : Nat)))
    have hz4 : w.heap.size + 2 < (w3.setCell ⟨w.heap.size + 2, 1, none⟩ (.int .i64 (f0E bs : Nat))).heap.size := by rw [size_set]; exact hz3
    generalize w3.setCell ⟨w.heap.size + 2, 1, none⟩ (.int .i64 (f0E bs : Nat)) = w4 at HKR4 HKF4 HR4 HO4 hz4 ⊢
    refine (num_any (w.heap.size + 1) _ 2147483647 _ HR4.out).mono ?_
    rintro e w5 ⟨rfl, hr5, ho5⟩
    have HR5 := Lib.hid hr5
    have HKR5 : Hid (w5.heap[w.heap.size]? = some (.cells #[.int .i64 0, .int .i64 0, .int .i64 0, .int .i64 0, .int .i64 0, .slice none 0 0, .slice none 0 0, .int .i64 0, .slice none 0 0, .slice none 0 0] 93 (0, 0))) := Lib.hid ((ho5.blk (b := w.heap.size) (by omega) (by omega)).trans HKR4.out)
    have HKF5 : Hid (w5.heap[w.heap.size + 2]? = some (.cells #[.int .i64 K, .int .i64 (f0E bs : Nat), .int .i64 0, .int .i64 0, .int .i64 0, .slice none 0 0, .slice none 0 0, .int .i64 0, .slice none 0 0, .slice none 0 0] 93 (0, 0))) := Lib.hid ((ho5.blk (b := w.heap.size + 2) (by omega) (by omega)).trans HKF4.out)
    have HO5 := Lib.hid (HO4.out.trans ho5)
    have hz5 : w.heap.size + 2 < w5.heap.size := Nat.lt_of_lt_of_le hz4 ho5.size
    clear hr5 ho5
    obtain ⟨qF0, qF1⟩ := blk_rules HKF5.out
    go_wp2_with fail
    clear qF0 qF1
    have HKR6 : Hid ((w5.setCell ⟨w.heap.size + 2, 4, none⟩ (.int .i64 ((((f0R bs).num 2147483647).2 : Nat) : Int))).heap[w.heap.size]? = some (.cells #[.int .i64 0, .int .i64 0, .int .i64 0, .int .i64 0, .int .i64 0, .slice none 0 0, .slice none 0 0, .int .i64 0, .slice none 0 0, .slice none 0 0] 93 (0, 0))) := Lib.hid ((blk_far (g := w.heap.size) (g' := w.heap.size + 2) (i := 4) (by omega) (.int .i64 ((((f0R bs).num 2147483647).2 : Nat) : Int))).trans HKR5.out)
    have HKF6 : Hid ((w5.setCell ⟨w.heap.size + 2, 4, none⟩ (.int .i64 ((((f0R bs).num 2147483647).2 : Nat) : Int))).heap[w.heap.size + 2]? = some (.cells #[.int .i64 K, .int .i64 (f0E bs : Nat), .int .i64 0, .int .i64 0, .int .i64 ((((f0R bs).num 2147483647).2 : Nat) : Int), .slice none 0 0, .slice none 0 0, .int .i64 0, .slice none 0 0, .slice none 0 0] 93 (0, 0))) := Lib.hid (blk_set (i := 4) HKF5.out (.int .i64 ((((f0R bs).num 2147483647).2 : Nat) : Int)))
    have HR6 := Lib.hid (HR5.out.setFar (p := w.heap.size + 2) (i := 4) (by omega) (.int .i64 ((((f0R bs).num 2147483647).2 : Nat) : Int)))
    have HO6 := Lib.hid (HO5.out.setNew (p := w.heap.size + 2) (i := 4) (by omega) (.int .i64 ((((f0R bs).num 2147483647).2 : Nat) : Int)))
    have hz6 : w.heap.size + 2 < (w5.setCell ⟨w.heap.size + 2, 4, none⟩ (.int .i64 ((((f0R bs).num 2147483647).2 : Nat) : Int))).heap.size := by rw [size_set]; exact hz5
    generalize w5.setCell ⟨w.heap.size + 2, 4, none⟩ (.int .i64 ((((f0R bs).num 2147483647).2 : Nat) : Int)) = w6 at HKR6 HKF6 HR6 HO6 hz6 ⊢
    refine (takeKeys_any (w.heap.size + 1) _ _ HR6.out).mono ?_
    rintro e w7 ⟨AHG, nHG, cHG, rfl, hsl, harr, hr7, ho7⟩
    have HR7 := Lib.hid hr7
    have HKR7 : Hid (w7.heap[w.heap.size]? = some (.cells #[.int .i64 0, .int .i64 0, .int .i64 0, .int .i64 0, .int .i64 0, .slice none 0 0, .slice none 0 0, .int .i64 0, .slice none 0 0, .slice none 0 0] 93 (0, 0))) := Lib.hid ((ho7.blk (b := w.heap.size) (by omega) (by omega)).trans HKR6.out)
    have HKF7 : Hid (w7.heap[w.heap.size + 2]? = some (.cells #[.int .i64 K, .int .i64 (f0E bs : Nat), .int .i64 0, .int .i64 0, .int .i64 ((((f0R bs).num 2147483647).2 : Nat) : Int), .slice none 0 0, .slice none 0 0, .int .i64 0, .slice none 0 0, .slice none 0 0] 93 (0, 0))) := Lib.hid ((ho7.blk (b := w.heap.size + 2) (by omega) (by omega)).trans HKF6.out)
    have HO7 := Lib.hid (HO6.out.trans ho7)
    have hz7 : w.heap.size + 2 < w7.heap.size := Nat.lt_of_lt_of_le hz6 ho7.size
    have HG_7 : Hid (KeyL (fun b => w.heap.size + 3 ≤ b) w7 AHG nHG _) := Lib.hid (ArrQ.weak harr (fun _ _ h => h) (fun b _ hb => by omega))
    have HSHG := Lib.hid hsl
    clear harr hsl
    clear hr7 ho7
    obtain ⟨qF0, qF1⟩ := blk_rules HKF7.out
    go_wp2_with fail
    clear qF0 qF1
    have HKR8 : Hid ((w7.setCell ⟨w.heap.size + 2, 9, none⟩ (.slice AHG nHG cHG)).heap[w.heap.size]? = some (.cells #[.int .i64 0, .int .i64 0, .int .i64 0, .int .i64 0, .int .i64 0, .slice none 0 0, .slice none 0 0, .int .i64 0, .slice none 0 0, .slice none 0 0] 93 (0, 0))) := Lib.hid ((blk_far (g := w.heap.size) (g' := w.heap.size + 2) (i := 9) (by omega) (.slice AHG nHG cHG)).trans HKR7.out)
    have HKF8 : Hid ((w7.setCell ⟨w.heap.size + 2, 9, none⟩ (.slice AHG nHG cHG)).heap[w.heap.size + 2]? = some (.cells #[.int .i64 K, .int .i64 (f0E bs : Nat), .int .i64 0, .int .i64 0, .int .i64 ((((f0R bs).num 2147483647).2 : Nat) : Int), .slice none 0 0, .slice none 0 0, .int .i64 0, .slice none 0 0, .slice AHG nHG cHG] 93 (0, 0))) := Lib.hid (blk_set (i := 9) HKF7.out (.slice AHG nHG cHG))
    have HR8 := Lib.hid (HR7.out.setFar (p := w.heap.size + 2) (i := 9) (by omega) (.slice AHG nHG cHG))
    have HO8 := Lib.hid (HO7.out.setNew (p := w.heap.size + 2) (i := 9) (by omega) (.slice AHG nHG cHG))
    have hz8 : w.heap.size + 2 < (w7.setCell ⟨w.heap.size + 2, 9, none⟩ (.slice AHG nHG cHG)).heap.size := by rw [size_set]; exact hz7
    have HG_8 := Lib.hid (KeyL.keep HG_7.out (Keep.setFar (p := w.heap.size + 2) (i := 9) (fun b hb => by omega) (.slice AHG nHG cHG)))
    generalize w7.setCell ⟨w.heap.size + 2, 9, none⟩ (.slice AHG nHG cHG) = w8 at HKR8 HKF8 HR8 HO8 hz8 HG_8 ⊢
    have HT : Hid (takeF0 ⟨bs, 0⟩ = ((someB takeK 64 ((f0R bs).num 2147483647).1).1, ⟨K, (f0E bs : Nat), 0, 0, ((((f0R bs).num 2147483647).2 : Nat) : Int), [], [], 0, [], (someB takeK 64 ((f0R bs).num 2147483647).1).2⟩)) := Lib.hid (by rw [HKe.out]; exact HF3.out hk)
    clear hk
    obtain ⟨rr, hrr⟩ : ∃ rr, rr = (someB takeK 64 ((f0R bs).num 2147483647).1).1 := ⟨_, rfl⟩
    rw [← hrr] at HT HR8
    clear hrr
    refine (done_any (w.heap.size + 1) _ _ HR8.out).mono ?_
    rintro e w9 ⟨rfl, hr9, ho9⟩
    have HR9 := Lib.hid hr9
    have HKR9 : Hid (w9.heap[w.heap.size]? = some (.cells #[.int .i64 0, .int .i64 0, .int .i64 0, .int .i64 0, .int .i64 0, .slice none 0 0, .slice none 0 0, .int .i64 0, .slice none 0 0, .slice none 0 0] 93 (0, 0))) := Lib.hid ((ho9.blk (b := w.heap.size) (by omega) (by omega)).trans HKR8.out)
    have HKF9 : Hid (w9.heap[w.heap.size + 2]? = some (.cells #[.int .i64 K, .int .i64 (f0E bs : Nat), .int .i64 0, .int .i64 0, .int .i64 ((((f0R bs).num 2147483647).2 : Nat) : Int), .slice none 0 0, .slice none 0 0, .int .i64 0, .slice none 0 0, .slice AHG nHG cHG] 93 (0, 0))) := Lib.hid ((ho9.blk (b := w.heap.size + 2) (by omega) (by omega)).trans HKF8.out)
    have HO9 := Lib.hid (HO8.out.trans ho9)
    have hz9 : w.heap.size + 2 < w9.heap.size := Nat.lt_of_lt_of_le hz8 ho9.size
    have HG_9 := Lib.hid (KeyL.keep HG_8.out (Only.keepGe (lo := w.heap.size + 3) ho9 (by omega)))
    clear hr9 ho9
    obtain ⟨D, hD⟩ : ∃ D, D = rr.done := ⟨_, rfl⟩
    rw [← hD]
    have HD := Lib.hid hD
    clear hD
    by_cases hd : D = 0
    · have hd1 : (D != 0) = false := by simpa using hd
      have HG0 : Hid (getF bs = if saneF ⟨K, (f0E bs : Nat), 0, 0, ((((f0R bs).num 2147483647).2 : Nat) : Int), [], [], 0, [], (someB takeK 64 ((f0R bs).num 2147483647).1).2⟩ ≠ 0 then (fr0, saneF ⟨K, (f0E bs : Nat), 0, 0, ((((f0R bs).num 2147483647).2 : Nat) : Int), [], [], 0, [], (someB takeK 64 ((f0R bs).num 2147483647).1).2⟩) else (⟨K, (f0E bs : Nat), 0, 0, ((((f0R bs).num 2147483647).2 : Nat) : Int), [], [], 0, [], (someB takeK 64 ((f0R bs).num 2147483647).1).2⟩, 0)) := Lib.hid (by rw [HOF.out _ _ HT.out, if_neg (by rw [← HD.out]; simpa using hd)])
      clear hd
      obtain ⟨qF0, qF1⟩ := blk_rules HKF9.out
      go_wp2_with fail
      clear qF0 qF1
      refine (frSane_any (fun b => w.heap.size + 3 ≤ b) ⟨K, (f0E bs : Nat), 0, 0, ((((f0R bs).num 2147483647).2 : Nat) : Int), [], [], 0, [], (someB takeK 64 ((f0R bs).num 2147483647).1).2⟩ ⟨⟨none, 0, 0⟩, ⟨none, 0, 0⟩, ⟨none, 0, 0⟩, ⟨AHG, nHG, cHG⟩⟩ _ ⟨SlW.nil_, SlW.nil_, SlW.nil_, HSHG.out, ArrQ.nil_, ArrQ.nil_, ArrQ.nil_, HG_9.out⟩).mono ?_
      rintro e w10 ⟨rfl, hb10⟩
      have HR10 := Lib.hid (HR9.out.up hb10)
      have HKR10 : Hid (w10.heap[w.heap.size]? = some (.cells #[.int .i64 0, .int .i64 0, .int .i64 0, .int .i64 0, .int .i64 0, .slice none 0 0, .slice none 0 0, .int .i64 0, .slice none 0 0, .slice none 0 0] 93 (0, 0))) := Lib.hid ((hb10.block (b := w.heap.size) (by omega)).trans HKR9.out)
      have HKF10 : Hid (w10.heap[w.heap.size + 2]? = some (.cells #[.int .i64 K, .int .i64 (f0E bs : Nat), .int .i64 0, .int .i64 0, .int .i64 ((((f0R bs).num 2147483647).2 : Nat) : Int), .slice none 0 0, .slice none 0 0, .int .i64 0, .slice none 0 0, .slice AHG nHG cHG] 93 (0, 0))) := Lib.hid ((hb10.block (b := w.heap.size + 2) (by omega)).trans HKF9.out)
      have HO10 := Lib.hid (HO9.out.trans (Only.of_ext hb10))
      have hz10 : w.heap.size + 2 < w10.heap.size := Nat.lt_of_lt_of_le hz9 hb10.size
      have HG_10 := Lib.hid (KeyL.keep HG_9.out (hb10.keep))
      clear hb10
      obtain ⟨E, hE⟩ : ∃ E, E = saneF ⟨K, (f0E bs : Nat), 0, 0, ((((f0R bs).num 2147483647).2 : Nat) : Int), [], [], 0, [], (someB takeK 64 ((f0R bs).num 2147483647).1).2⟩ := ⟨_, rfl⟩
      rw [← hE] at HG0 ⊢
      clear hE HT
      by_cases he : E = 0
      · have he1 : (E != 0) = false := by simpa using he
        have HG1 : Hid (getF bs = (⟨K, (f0E bs : Nat), 0, 0, ((((f0R bs).num 2147483647).2 : Nat) : Int), [], [], 0, [], (someB takeK 64 ((f0R bs).num 2147483647).1).2⟩, 0)) := Lib.hid (by rw [HG0.out, if_neg (by simpa using he)])
        clear he
        obtain ⟨qF0, qF1⟩ := blk_rules HKF10.out
        obtain ⟨qR0, qR1⟩ := blk_rules HKR10.out
        go_wp2_with fail
        clear qF0 qF1 qR0 qR1
        generalize hVV : (((((((((w10.setCell ⟨w.heap.size, 0, none⟩ (.int .i64 K)).setCell ⟨w.heap.size, 1, none⟩ (.int .i64 (f0E bs : Nat))).setCell ⟨w.heap.size, 2, none⟩ (.int .i64 0)).setCell ⟨w.heap.size, 3, none⟩ (.int .i64 0)).setCell ⟨w.heap.size, 4, none⟩ (.int .i64 ((((f0R bs).num 2147483647).2 : Nat) : Int))).setCell ⟨w.heap.size, 5, none⟩ (.slice none 0 0)).setCell ⟨w.heap.size, 6, none⟩ (.slice none 0 0)).setCell ⟨w.heap.size, 7, none⟩ (.int .i64 0)).setCell ⟨w.heap.size, 8, none⟩ (.slice none 0 0)).setCell ⟨w.heap.size, 9, none⟩ (.slice AHG nHG cHG) = V
        obtain ⟨bV, oV, kV⟩ := set10 HKR10.out (.int .i64 K) (.int .i64 (f0E bs : Nat)) (.int .i64 0) (.int .i64 0) (.int .i64 ((((f0R bs).num 2147483647).2 : Nat) : Int)) (.slice none 0 0) (.slice none 0 0) (.int .i64 0) (.slice none 0 0) (.slice AHG nHG cHG) hVV
        have OV := Only.ext (Ext.refl w) (oV HO10.out (Nat.le_refl _)) (Nat.le_succ _)
        clear hVV oV
        obtain ⟨z0, -⟩ := blk_rules bV
        refine bodyPost_ret (v := .tuple #[.agg #[.int .i64 K, .int .i64 (f0E bs : Nat), .int .i64 0, .int .i64 0, .int .i64 ((((f0R bs).num 2147483647).2 : Nat) : Int), .slice none 0 0, .slice none 0 0, .int .i64 0, .slice none 0 0, .slice AHG nHG cHG], .int .i64 0]) (by simp [results, Tryz.results71, go_sem, z0]) rfl ?_
        exact fget_out (x := (⟨K, (f0E bs : Nat), 0, 0, ((((f0R bs).num 2147483647).2 : Nat) : Int), [], [], 0, [], (someB takeK 64 ((f0R bs).num 2147483647).1).2⟩, 0)) (s := ⟨⟨none, 0, 0⟩, ⟨none, 0, 0⟩, ⟨none, 0, 0⟩, ⟨AHG, nHG, cHG⟩⟩) HG1.out (FrV.all (FrV.keep (S := fun b => w.heap.size + 3 ≤ b) ⟨SlW.nil_, SlW.nil_, SlW.nil_, HSHG.out, ArrQ.nil_, ArrQ.nil_, ArrQ.nil_, HG_10.out⟩ (kV _ (fun b hb => by omega)))) OV
      · have he1 : (E != 0) = true := by simpa using he
        have HG1 : Hid (getF bs = (fr0, E)) := Lib.hid (by rw [HG0.out, if_pos (by simpa using he)])
        clear he
        obtain ⟨qR0, qR1⟩ := blk_rules HKR10.out
        go_wp2_with fail
        clear qR0 qR1
        generalize hVV : (((((((((w10.setCell ⟨w.heap.size, 0, none⟩ (.int .i64 0)).setCell ⟨w.heap.size, 1, none⟩ (.int .i64 0)).setCell ⟨w.heap.size, 2, none⟩ (.int .i64 0)).setCell ⟨w.heap.size, 3, none⟩ (.int .i64 0)).setCell ⟨w.heap.size, 4, none⟩ (.int .i64 0)).setCell ⟨w.heap.size, 5, none⟩ (.slice none 0 0)).setCell ⟨w.heap.size, 6, none⟩ (.slice none 0 0)).setCell ⟨w.heap.size, 7, none⟩ (.int .i64 0)).setCell ⟨w.heap.size, 8, none⟩ (.slice none 0 0)).setCell ⟨w.heap.size, 9, none⟩ (.slice none 0 0) = V
        obtain ⟨bV, oV, kV⟩ := set10 HKR10.out (.int .i64 0) (.int .i64 0) (.int .i64 0) (.int .i64 0) (.int .i64 0) (.slice none 0 0) (.slice none 0 0) (.int .i64 0) (.slice none 0 0) (.slice none 0 0) hVV
        have OV := Only.ext (Ext.refl w) (oV HO10.out (Nat.le_refl _)) (Nat.le_succ _)
        clear hVV oV
        obtain ⟨z0, -⟩ := blk_rules bV
        refine bodyPost_ret (v := .tuple #[.agg #[.int .i64 0, .int .i64 0, .int .i64 0, .int .i64 0, .int .i64 0, .slice none 0 0, .slice none 0 0, .int .i64 0, .slice none 0 0, .slice none 0 0], .int .i64 E]) (by simp [results, Tryz.results71, go_sem, z0]) rfl ?_
        exact fget_out (x := (fr0, E)) (s := nilS) (HG1.out) (FrV.nil_ _ _ _ _ _ _ _ _) OV
    · have hd1 : (D != 0) = true := by simpa using hd
      have HG0 : Hid (getF bs = (fr0, D)) := Lib.hid (by rw [HOF.out _ _ HT.out, if_pos (by rw [← HD.out]; simpa using hd), ← HD.out])
      clear hd HT
      obtain ⟨qR0, qR1⟩ := blk_rules HKR9.out
      go_wp2_with fail
      clear qR0 qR1
      generalize hVV : (((((((((w9.setCell ⟨w.heap.size, 0, none⟩ (.int .i64 0)).setCell ⟨w.heap.size, 1, none⟩ (.int .i64 0)).setCell ⟨w.heap.size, 2, none⟩ (.int .i64 0)).setCell ⟨w.heap.size, 3, none⟩ (.int .i64 0)).setCell ⟨w.heap.size, 4, none⟩ (.int .i64 0)).setCell ⟨w.heap.size, 5, none⟩ (.slice none 0 0)).setCell ⟨w.heap.size, 6, none⟩ (.slice none 0 0)).setCell ⟨w.heap.size, 7, none⟩ (.int .i64 0)).setCell ⟨w.heap.size, 8, none⟩ (.slice none 0 0)).setCell ⟨w.heap.size, 9, none⟩ (.slice none 0 0) = V
      obtain ⟨bV, oV, kV⟩ := set10 HKR9.out (.int .i64 0) (.int .i64 0) (.int .i64 0) (.int .i64 0) (.int .i64 0) (.slice none 0 0) (.slice none 0 0) (.int .i64 0) (.slice none 0 0) (.slice none 0 0) hVV
      have OV := Only.ext (Ext.refl w) (oV HO9.out (Nat.le_refl _)) (Nat.le_succ _)
      clear hVV oV
      obtain ⟨z0, -⟩ := blk_rules bV
      refine bodyPost_ret (v := .tuple #[.agg #[.int .i64 0, .int .i64 0, .int .i64 0, .int .i64 0, .int .i64 0, .slice none 0 0, .slice none 0 0, .int .i64 0, .slice none 0 0, .slice none 0 0], .int .i64 D]) (by simp [results, Tryz.results71, go_sem, z0]) rfl ?_
      exact fget_out (x := (fr0, D)) (s := nilS) (HG0.out) (FrV.nil_ _ _ _ _ _ _ _ _) OV
end Go.Proofs.YtepifkmileilfaaGreatDoor
