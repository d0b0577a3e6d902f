/- What script's rest computes. -/
import Derived.Test.YtfdjbnofcniodaaGreatDoorSc3
namespace Go.Proofs.YtfdjbnofcniodaaGreatDoor
set_option linter.unusedVariables false
open Go.RowKit

theorem setS11 {w V : World} {p : Nat} {T : TypeId} {x0 x1 x2 x3 x4 x5 x6 x7 x8 x9 x10 : Value} (h : w.heap[p]? = some (.cells #[x0, x1, x2, x3, x4, x5, x6, x7, x8, x9, x10] T (0, 0))) (a0 a1 a2 a3 a4 a5 a6 a7 a8 a9 a10 : Value)
    (hV : ((((((((((w.setCell ⟨p, 0, none⟩ a0).setCell ⟨p, 1, none⟩ a1).setCell ⟨p, 2, none⟩ a2).setCell ⟨p, 3, none⟩ a3).setCell ⟨p, 4, none⟩ a4).setCell ⟨p, 5, none⟩ a5).setCell ⟨p, 6, none⟩ a6).setCell ⟨p, 7, none⟩ a7).setCell ⟨p, 8, none⟩ a8).setCell ⟨p, 9, none⟩ a9).setCell ⟨p, 10, none⟩ a10 = V) : V.heap[p]? = some (.cells #[a0, a1, a2, a3, a4, a5, a6, a7, a8, a9, a10] T (0, 0)) ∧ (∀ (g : Nat) (r : Rd), RdAt w g r → g < p → RdAt V g r) ∧ (∀ (g : Nat) (a : World), Only g a w → a.heap.size ≤ p → Only g a V) ∧ (∀ S : Nat → Prop, (∀ b, S b → b ≠ p) → Keep S w V) := by
  subst hV
  have e0 := h
  have e1 : (w.setCell ⟨p, 0, none⟩ a0).heap[p]? = some (.cells #[a0, x1, x2, x3, x4, x5, x6, x7, x8, x9, x10] T (0, 0)) := blk_set (i := 0) e0 a0
  have e2 : ((w.setCell ⟨p, 0, none⟩ a0).setCell ⟨p, 1, none⟩ a1).heap[p]? = some (.cells #[a0, a1, x2, x3, x4, x5, x6, x7, x8, x9, x10] T (0, 0)) := blk_set (i := 1) e1 a1
  have e3 : (((w.setCell ⟨p, 0, none⟩ a0).setCell ⟨p, 1, none⟩ a1).setCell ⟨p, 2, none⟩ a2).heap[p]? = some (.cells #[a0, a1, a2, x3, x4, x5, x6, x7, x8, x9, x10] T (0, 0)) := blk_set (i := 2) e2 a2
  have e4 : ((((w.setCell ⟨p, 0, none⟩ a0).setCell ⟨p, 1, none⟩ a1).setCell ⟨p, 2, none⟩ a2).setCell ⟨p, 3, none⟩ a3).heap[p]? = some (.cells #[a0, a1, a2, a3, x4, x5, x6, x7, x8, x9, x10] T (0, 0)) := blk_set (i := 3) e3 a3
  have e5 : (((((w.setCell ⟨p, 0, none⟩ a0).setCell ⟨p, 1, none⟩ a1).setCell ⟨p, 2, none⟩ a2).setCell ⟨p, 3, none⟩ a3).setCell ⟨p, 4, none⟩ a4).heap[p]? = some (.cells #[a0, a1, a2, a3, a4, x5, x6, x7, x8, x9, x10] T (0, 0)) := blk_set (i := 4) e4 a4
  have e6 : ((((((w.setCell ⟨p, 0, none⟩ a0).setCell ⟨p, 1, none⟩ a1).setCell ⟨p, 2, none⟩ a2).setCell ⟨p, 3, none⟩ a3).setCell ⟨p, 4, none⟩ a4).setCell ⟨p, 5, none⟩ a5).heap[p]? = some (.cells #[a0, a1, a2, a3, a4, a5, x6, x7, x8, x9, x10] T (0, 0)) := blk_set (i := 5) e5 a5
  have e7 : (((((((w.setCell ⟨p, 0, none⟩ a0).setCell ⟨p, 1, none⟩ a1).setCell ⟨p, 2, none⟩ a2).setCell ⟨p, 3, none⟩ a3).setCell ⟨p, 4, none⟩ a4).setCell ⟨p, 5, none⟩ a5).setCell ⟨p, 6, none⟩ a6).heap[p]? = some (.cells #[a0, a1, a2, a3, a4, a5, a6, x7, x8, x9, x10] T (0, 0)) := blk_set (i := 6) e6 a6
  have e8 : ((((((((w.setCell ⟨p, 0, none⟩ a0).setCell ⟨p, 1, none⟩ a1).setCell ⟨p, 2, none⟩ a2).setCell ⟨p, 3, none⟩ a3).setCell ⟨p, 4, none⟩ a4).setCell ⟨p, 5, none⟩ a5).setCell ⟨p, 6, none⟩ a6).setCell ⟨p, 7, none⟩ a7).heap[p]? = some (.cells #[a0, a1, a2, a3, a4, a5, a6, a7, x8, x9, x10] T (0, 0)) := blk_set (i := 7) e7 a7
  have e9 : (((((((((w.setCell ⟨p, 0, none⟩ a0).setCell ⟨p, 1, none⟩ a1).setCell ⟨p, 2, none⟩ a2).setCell ⟨p, 3, none⟩ a3).setCell ⟨p, 4, none⟩ a4).setCell ⟨p, 5, none⟩ a5).setCell ⟨p, 6, none⟩ a6).setCell ⟨p, 7, none⟩ a7).setCell ⟨p, 8, none⟩ a8).heap[p]? = some (.cells #[a0, a1, a2, a3, a4, a5, a6, a7, a8, x9, x10] T (0, 0)) := blk_set (i := 8) e8 a8
  have e10 : ((((((((((w.setCell ⟨p, 0, none⟩ a0).setCell ⟨p, 1, none⟩ a1).setCell ⟨p, 2, none⟩ a2).setCell ⟨p, 3, none⟩ a3).setCell ⟨p, 4, none⟩ a4).setCell ⟨p, 5, none⟩ a5).setCell ⟨p, 6, none⟩ a6).setCell ⟨p, 7, none⟩ a7).setCell ⟨p, 8, none⟩ a8).setCell ⟨p, 9, none⟩ a9).heap[p]? = some (.cells #[a0, a1, a2, a3, a4, a5, a6, a7, a8, a9, x10] T (0, 0)) := blk_set (i := 9) e9 a9
  have e11 : (((((((((((w.setCell ⟨p, 0, none⟩ a0).setCell ⟨p, 1, none⟩ a1).setCell ⟨p, 2, none⟩ a2).setCell ⟨p, 3, none⟩ a3).setCell ⟨p, 4, none⟩ a4).setCell ⟨p, 5, none⟩ a5).setCell ⟨p, 6, none⟩ a6).setCell ⟨p, 7, none⟩ a7).setCell ⟨p, 8, none⟩ a8).setCell ⟨p, 9, none⟩ a9).setCell ⟨p, 10, none⟩ a10).heap[p]? = some (.cells #[a0, a1, a2, a3, a4, a5, a6, a7, a8, a9, a10] T (0, 0)) := blk_set (i := 10) e10 a10
  exact ⟨e11, fun g r hr hg => (((((((((((hr.setFar (i := 0) hg a0).setFar (i := 1) hg a1).setFar (i := 2) hg a2).setFar (i := 3) hg a3).setFar (i := 4) hg a4).setFar (i := 5) hg a5).setFar (i := 6) hg a6).setFar (i := 7) hg a7).setFar (i := 8) hg a8).setFar (i := 9) hg a9).setFar (i := 10) hg a10), fun g a ho hw => (((((((((((ho.setNew (i := 0) hw a0).setNew (i := 1) hw a1).setNew (i := 2) hw a2).setNew (i := 3) hw a3).setNew (i := 4) hw a4).setNew (i := 5) hw a5).setNew (i := 6) hw a6).setNew (i := 7) hw a7).setNew (i := 8) hw a8).setNew (i := 9) hw a9).setNew (i := 10) hw a10), fun S hS => (((((((((((Keep.refl S w).trans (Keep.setFar (i := 0) hS a0)).trans (Keep.setFar (i := 1) hS a1)).trans (Keep.setFar (i := 2) hS a2)).trans (Keep.setFar (i := 3) hS a3)).trans (Keep.setFar (i := 4) hS a4)).trans (Keep.setFar (i := 5) hS a5)).trans (Keep.setFar (i := 6) hS a6)).trans (Keep.setFar (i := 7) hS a7)).trans (Keep.setFar (i := 8) hS a8)).trans (Keep.setFar (i := 9) hS a9)).trans (Keep.setFar (i := 10) hS a10)⟩

/-- a step has been taken behind its head -/
def RestD (g : Nat) (w : World) (res : Rd × Sp) (e : Ending) (w' : World) : Prop := ∃ (A : Option Addr) (n c : Nat) (B : Option Addr) (m d : Nat), e = .returned (spVal res.2 A n c B m d) ∧ SpV (fun b => w.heap.size ≤ b) w' res.2 A n c B m d ∧ RdAt w' g res.1 ∧ Only g w w'
set_option maxRecDepth 100000 in
set_option maxHeartbeats 8000000 in
theorem scRest_any (g : Nat) (rd : Rd) (k sd wy : Nat) (w : World) (h : RdAt w g rd) : Calls Tryz.prog 127 #[.agg #[.int .i64 ((k : Nat) : Int), .int .i64 ((sd : Nat) : Int), .int .i64 ((wy : Nat) : Int), .int .i64 0, .slice none 0 0, .slice none 0 0, .int .i64 0, .string ⟨#[]⟩, .string ⟨#[]⟩, .int .i64 0, .int .i64 0], .pointer (some ⟨g, 0, none⟩)] w (RestD g w (takeSB k sd wy rd)) := by
  have hg0 := h.lt
  have hg : g < w.heap.size + 2 := by omega
  have HR := Lib.hid h
  clear h
  go_enter Tryz.func127, Tryz.ntmps127
  go_wp2_with fail
  refine (num_any g rd 2147483647 _ (HR.out.up ((Ext.new w _).alloc _))).mono ?_
  rintro e w1 ⟨rfl, hr1, ho1⟩
  have HR1 := Lib.hid hr1
  have HKS1 : Hid (w1.heap[w.heap.size]? = some (.cells #[.int .i64 ((k : Nat) : Int), .int .i64 ((sd : Nat) : Int), .int .i64 ((wy : Nat) : Int), .int .i64 0, .slice none 0 0, .slice none 0 0, .int .i64 0, .string ⟨#[]⟩, .string ⟨#[]⟩, .int .i64 0, .int .i64 0] 82 (0, 0))) := Lib.hid ((ho1.blk (b := w.heap.size) (by simp <;> omega) (by omega)).trans (two_blocks w _ _).1)
  have HKR1 : Hid (w1.heap[w.heap.size + 1]? = some (.cells #[.int .i64 0, .int .i64 0, .int .i64 0, .int .i64 0, .slice none 0 0, .slice none 0 0, .int .i64 0, .string ⟨#[]⟩, .string ⟨#[]⟩, .int .i64 0, .int .i64 0] 82 (0, 0))) := Lib.hid ((ho1.blk (b := w.heap.size + 1) (by simp <;> omega) (by omega)).trans (two_blocks w _ _).2)
  have HO1 := Lib.hid ((Only.of_ext ((Ext.new w _).alloc _)).trans ho1)
  have hz1 : w.heap.size + 1 < w1.heap.size := by have := ho1.size; simp at this; omega
  clear hr1 ho1
  by_cases h0 : k = 0
  · have b0 : (((k : Nat) : Int) == 0) = true := by rw [h0]; rfl
    have HT : Hid (takeSB k sd wy rd = ((someB takeK 64 (someB takeR 64 (rd.num 2147483647).1).1).1, ⟨k, sd, wy, (rd.num 2147483647).2, (someB takeR 64 (rd.num 2147483647).1).2, (someB takeK 64 (someB takeR 64 (rd.num 2147483647).1).1).2, ak0⟩)) := Lib.hid (by unfold takeSB; simp only [bindP]; rw [if_pos h0]; rfl)
    clear h0
    obtain ⟨qS0, qS1⟩ := blk_rules HKS1.out
    go_wp2_with fail
    clear qS0 qS1
    have HKS2 : Hid ((w1.setCell ⟨w.heap.size, 3, none⟩ (.int .i64 (((rd.num 2147483647).2 : Nat) : Int))).heap[w.heap.size]? = some (.cells #[.int .i64 ((k : Nat) : Int), .int .i64 ((sd : Nat) : Int), .int .i64 ((wy : Nat) : Int), .int .i64 (((rd.num 2147483647).2 : Nat) : Int), .slice none 0 0, .slice none 0 0, .int .i64 0, .string ⟨#[]⟩, .string ⟨#[]⟩, .int .i64 0, .int .i64 0] 82 (0, 0))) := Lib.hid (blk_set (i := 3) HKS1.out (.int .i64 (((rd.num 2147483647).2 : Nat) : Int)))
    have HKR2 : Hid ((w1.setCell ⟨w.heap.size, 3, none⟩ (.int .i64 (((rd.num 2147483647).2 : Nat) : Int))).heap[w.heap.size + 1]? = some (.cells #[.int .i64 0, .int .i64 0, .int .i64 0, .int .i64 0, .slice none 0 0, .slice none 0 0, .int .i64 0, .string ⟨#[]⟩, .string ⟨#[]⟩, .int .i64 0, .int .i64 0] 82 (0, 0))) := Lib.hid ((blk_far (g := w.heap.size + 1) (g' := w.heap.size) (i := 3) (by omega) (.int .i64 (((rd.num 2147483647).2 : Nat) : Int))).trans HKR1.out)
    have HR2 := Lib.hid (HR1.out.setFar (p := w.heap.size) (i := 3) (by omega) (.int .i64 (((rd.num 2147483647).2 : Nat) : Int)))
    have HO2 := Lib.hid (HO1.out.setNew (p := w.heap.size) (i := 3) (by omega) (.int .i64 (((rd.num 2147483647).2 : Nat) : Int)))
    have hz2 : w.heap.size + 1 < (w1.setCell ⟨w.heap.size, 3, none⟩ (.int .i64 (((rd.num 2147483647).2 : Nat) : Int))).heap.size := by rw [size_set]; exact hz1
    generalize w1.setCell ⟨w.heap.size, 3, none⟩ (.int .i64 (((rd.num 2147483647).2 : Nat) : Int)) = w2 at HKS2 HKR2 HR2 HO2 hz2 ⊢
    refine (takeAll_any g _ _ HR2.out).mono ?_
    rintro e w3 ⟨A, n, c, rfl, hsl, hv, hr3, ho3⟩
    have HR3 := Lib.hid hr3
    have HKS3 : Hid (w3.heap[w.heap.size]? = some (.cells #[.int .i64 ((k : Nat) : Int), .int .i64 ((sd : Nat) : Int), .int .i64 ((wy : Nat) : Int), .int .i64 (((rd.num 2147483647).2 : Nat) : Int), .slice none 0 0, .slice none 0 0, .int .i64 0, .string ⟨#[]⟩, .string ⟨#[]⟩, .int .i64 0, .int .i64 0] 82 (0, 0))) := Lib.hid ((ho3.blk (b := w.heap.size) (by omega) (by omega)).trans HKS2.out)
    have HKR3 : Hid (w3.heap[w.heap.size + 1]? = some (.cells #[.int .i64 0, .int .i64 0, .int .i64 0, .int .i64 0, .slice none 0 0, .slice none 0 0, .int .i64 0, .string ⟨#[]⟩, .string ⟨#[]⟩, .int .i64 0, .int .i64 0] 82 (0, 0))) := Lib.hid ((ho3.blk (b := w.heap.size + 1) (by omega) (by omega)).trans HKR2.out)
    have HO3 := Lib.hid (HO2.out.trans ho3)
    have hz3 : w.heap.size + 1 < w3.heap.size := Nat.lt_of_lt_of_le hz2 ho3.size
    clear hr3 ho3
    have HSA := Lib.hid hsl
    have HVA_3 : Hid (ResL (fun b => w.heap.size + 2 ≤ b) w3 A n (someB takeR 64 (rd.num 2147483647).1).2) := Lib.hid (ResL.weak hv (fun b _ hb => by omega))
    clear hsl hv
    obtain ⟨qS0, qS1⟩ := blk_rules HKS3.out
    go_wp2_with fail
    clear qS0 qS1
    have HKS4 : Hid ((w3.setCell ⟨w.heap.size, 4, none⟩ (.slice A n c)).heap[w.heap.size]? = some (.cells #[.int .i64 ((k : Nat) : Int), .int .i64 ((sd : Nat) : Int), .int .i64 ((wy : Nat) : Int), .int .i64 (((rd.num 2147483647).2 : Nat) : Int), .slice A n c, .slice none 0 0, .int .i64 0, .string ⟨#[]⟩, .string ⟨#[]⟩, .int .i64 0, .int .i64 0] 82 (0, 0))) := Lib.hid (blk_set (i := 4) HKS3.out (.slice A n c))
    have HKR4 : Hid ((w3.setCell ⟨w.heap.size, 4, none⟩ (.slice A n c)).heap[w.heap.size + 1]? = some (.cells #[.int .i64 0, .int .i64 0, .int .i64 0, .int .i64 0, .slice none 0 0, .slice none 0 0, .int .i64 0, .string ⟨#[]⟩, .string ⟨#[]⟩, .int .i64 0, .int .i64 0] 82 (0, 0))) := Lib.hid ((blk_far (g := w.heap.size + 1) (g' := w.heap.size) (i := 4) (by omega) (.slice A n c)).trans HKR3.out)
    have HR4 := Lib.hid (HR3.out.setFar (p := w.heap.size) (i := 4) (by omega) (.slice A n c))
    have HO4 := Lib.hid (HO3.out.setNew (p := w.heap.size) (i := 4) (by omega) (.slice A n c))
    have hz4 : w.heap.size + 1 < (w3.setCell ⟨w.heap.size, 4, none⟩ (.slice A n c)).heap.size := by rw [size_set]; exact hz3
    have HVA_4 := Lib.hid (ResL.keep HVA_3.out (Keep.setFar (p := w.heap.size) (i := 4) (fun b hb => by omega) (.slice A n c)))
    generalize w3.setCell ⟨w.heap.size, 4, none⟩ (.slice A n c) = w4 at HKS4 HKR4 HR4 HO4 hz4 HVA_4 ⊢
    refine (takeKeys_any g _ _ HR4.out).mono ?_
    rintro e w5 ⟨B, m, d, rfl, hsl, hv, hr5, ho5⟩
    have HR5 := Lib.hid hr5
    have HKS5 : Hid (w5.heap[w.heap.size]? = some (.cells #[.int .i64 ((k : Nat) : Int), .int .i64 ((sd : Nat) : Int), .int .i64 ((wy : Nat) : Int), .int .i64 (((rd.num 2147483647).2 : Nat) : Int), .slice A n c, .slice none 0 0, .int .i64 0, .string ⟨#[]⟩, .string ⟨#[]⟩, .int .i64 0, .int .i64 0] 82 (0, 0))) := Lib.hid ((ho5.blk (b := w.heap.size) (by omega) (by omega)).trans HKS4.out)
    have HKR5 : Hid (w5.heap[w.heap.size + 1]? = some (.cells #[.int .i64 0, .int .i64 0, .int .i64 0, .int .i64 0, .slice none 0 0, .slice none 0 0, .int .i64 0, .string ⟨#[]⟩, .string ⟨#[]⟩, .int .i64 0, .int .i64 0] 82 (0, 0))) := Lib.hid ((ho5.blk (b := w.heap.size + 1) (by omega) (by omega)).trans HKR4.out)
    have HO5 := Lib.hid (HO4.out.trans ho5)
    have hz5 : w.heap.size + 1 < w5.heap.size := Nat.lt_of_lt_of_le hz4 ho5.size
    have HVA_5 := Lib.hid (ResL.keep HVA_4.out (ho5.keepGe hg))
    clear hr5 ho5
    have HSB := Lib.hid hsl
    have HVB_5 : Hid (KeyL (fun b => w.heap.size + 2 ≤ b) w5 B m (someB takeK 64 (someB takeR 64 (rd.num 2147483647).1).1).2) := Lib.hid (ArrQ.weak hv (fun _ _ h => h) (fun b _ hb => by omega))
    clear hsl hv
    obtain ⟨qS0, qS1⟩ := blk_rules HKS5.out
    obtain ⟨qR0, qR1⟩ := blk_rules HKR5.out
    go_wp2_with fail
    clear qS0 qS1 qR0 qR1
    have HKS6 : Hid ((w5.setCell ⟨w.heap.size, 5, none⟩ (.slice B m d)).heap[w.heap.size]? = some (.cells #[.int .i64 ((k : Nat) : Int), .int .i64 ((sd : Nat) : Int), .int .i64 ((wy : Nat) : Int), .int .i64 (((rd.num 2147483647).2 : Nat) : Int), .slice A n c, .slice B m d, .int .i64 0, .string ⟨#[]⟩, .string ⟨#[]⟩, .int .i64 0, .int .i64 0] 82 (0, 0))) := Lib.hid (blk_set (i := 5) HKS5.out (.slice B m d))
    have HKR6 : Hid ((w5.setCell ⟨w.heap.size, 5, none⟩ (.slice B m d)).heap[w.heap.size + 1]? = some (.cells #[.int .i64 0, .int .i64 0, .int .i64 0, .int .i64 0, .slice none 0 0, .slice none 0 0, .int .i64 0, .string ⟨#[]⟩, .string ⟨#[]⟩, .int .i64 0, .int .i64 0] 82 (0, 0))) := Lib.hid ((blk_far (g := w.heap.size + 1) (g' := w.heap.size) (i := 5) (by omega) (.slice B m d)).trans HKR5.out)
    have HR6 := Lib.hid (HR5.out.setFar (p := w.heap.size) (i := 5) (by omega) (.slice B m d))
    have HO6 := Lib.hid (HO5.out.setNew (p := w.heap.size) (i := 5) (by omega) (.slice B m d))
    have hz6 : w.heap.size + 1 < (w5.setCell ⟨w.heap.size, 5, none⟩ (.slice B m d)).heap.size := by rw [size_set]; exact hz5
    have HVA_6 := Lib.hid (ResL.keep HVA_5.out (Keep.setFar (p := w.heap.size) (i := 5) (fun b hb => by omega) (.slice B m d)))
    have HVB_6 := Lib.hid (KeyL.keep HVB_5.out (Keep.setFar (p := w.heap.size) (i := 5) (fun b hb => by omega) (.slice B m d)))
    generalize w5.setCell ⟨w.heap.size, 5, none⟩ (.slice B m d) = w6 at HKS6 HKR6 HR6 HO6 hz6 HVA_6 HVB_6 ⊢
    generalize hV : ((((((((((w6.setCell { block := w.heap.size + 1, off := 0 } (Value.int IntKind.i64 ((k : Nat) : Int))).setCell { block := w.heap.size + 1, off := 1 } (Value.int IntKind.i64 ((sd : Nat) : Int))).setCell { block := w.heap.size + 1, off := 2 } (Value.int IntKind.i64 ((wy : Nat) : Int))).setCell { block := w.heap.size + 1, off := 3 } (Value.int IntKind.i64 (((rd.num 2147483647).2 : Nat) : Int))).setCell { block := w.heap.size + 1, off := 4 } (Value.slice A n c)).setCell { block := w.heap.size + 1, off := 5 } (Value.slice B m d)).setCell { block := w.heap.size + 1, off := 6 } (Value.int IntKind.i64 0)).setCell { block := w.heap.size + 1, off := 7 } (Value.string ⟨#[]⟩)).setCell { block := w.heap.size + 1, off := 8 } (Value.string ⟨#[]⟩)).setCell { block := w.heap.size + 1, off := 9 } (Value.int IntKind.i64 0)).setCell { block := w.heap.size + 1, off := 10 } (Value.int IntKind.i64 0) = V
    obtain ⟨bV, rV, oV, kV⟩ := setS11 HKR6.out _ _ _ _ _ _ _ _ _ _ _ hV
    clear hV
    obtain ⟨z0, -⟩ := blk_rules bV
    exact bodyPost_ret (v := .agg #[.int .i64 ((k : Nat) : Int), .int .i64 ((sd : Nat) : Int), .int .i64 ((wy : Nat) : Int), .int .i64 (((rd.num 2147483647).2 : Nat) : Int), .slice A n c, .slice B m d, .int .i64 0, .string ⟨#[]⟩, .string ⟨#[]⟩, .int .i64 0, .int .i64 0]) (by simp [results, Tryz.results127, go_sem, z0]) rfl
      (show RestD g w (takeSB k sd wy rd) _ V from by rw [HT.out]; exact ⟨A, n, c, B, m, d, rfl, ⟨HSA.out, HSB.out, ResL.weak (ResL.keep HVA_6.out (kV _ (fun b hb => by omega))) (fun b _ hb => by omega), ArrQ.weak (KeyL.keep HVB_6.out (kV _ (fun b hb => by omega))) (fun _ _ h => h) (fun b _ hb => by omega), (by decide : (⟨#[]⟩ : ByteArray).size ≤ maxLen), (by decide : (⟨#[]⟩ : ByteArray).size ≤ maxLen)⟩, rV _ _ HR6.out (by omega), oV _ _ HO6.out (by omega)⟩)
  by_cases h7 : k = 7
  · have b0 : (((k : Nat) : Int) == 0) = false := by rw [h7]; rfl
    have b7 : (((k : Nat) : Int) == 7) = true := by rw [h7]; rfl
    have HT : Hid (takeSB k sd wy rd = (((((((rd.num 2147483647).1.num 65535).1.txt 40).1.txt 40).1.num 2147483647).1.num 2147483647).1, ⟨k, sd, wy, (rd.num 2147483647).2, [], [], ⟨((rd.num 2147483647).1.num 65535).2, mkS (((rd.num 2147483647).1.num 65535).1.txt 40).2, mkS ((((rd.num 2147483647).1.num 65535).1.txt 40).1.txt 40).2, (((((rd.num 2147483647).1.num 65535).1.txt 40).1.txt 40).1.num 2147483647).2, ((((((rd.num 2147483647).1.num 65535).1.txt 40).1.txt 40).1.num 2147483647).1.num 2147483647).2⟩⟩)) := Lib.hid (by unfold takeSB; simp only [bindP]; rw [if_neg h0, if_pos h7]; rfl)
    clear h0 h7
    obtain ⟨qS0, qS1⟩ := blk_rules HKS1.out
    go_wp2_with fail
    clear qS0 qS1
    have HKS2 : Hid ((w1.setCell ⟨w.heap.size, 3, none⟩ (.int .i64 (((rd.num 2147483647).2 : Nat) : Int))).heap[w.heap.size]? = some (.cells #[.int .i64 ((k : Nat) : Int), .int .i64 ((sd : Nat) : Int), .int .i64 ((wy : Nat) : Int), .int .i64 (((rd.num 2147483647).2 : Nat) : Int), .slice none 0 0, .slice none 0 0, .int .i64 0, .string ⟨#[]⟩, .string ⟨#[]⟩, .int .i64 0, .int .i64 0] 82 (0, 0))) := Lib.hid (blk_set (i := 3) HKS1.out (.int .i64 (((rd.num 2147483647).2 : Nat) : Int)))
    have HKR2 : Hid ((w1.setCell ⟨w.heap.size, 3, none⟩ (.int .i64 (((rd.num 2147483647).2 : Nat) : Int))).heap[w.heap.size + 1]? = some (.cells #[.int .i64 0, .int .i64 0, .int .i64 0, .int .i64 0, .slice none 0 0, .slice none 0 0, .int .i64 0, .string ⟨#[]⟩, .string ⟨#[]⟩, .int .i64 0, .int .i64 0] 82 (0, 0))) := Lib.hid ((blk_far (g := w.heap.size + 1) (g' := w.heap.size) (i := 3) (by omega) (.int .i64 (((rd.num 2147483647).2 : Nat) : Int))).trans HKR1.out)
    have HR2 := Lib.hid (HR1.out.setFar (p := w.heap.size) (i := 3) (by omega) (.int .i64 (((rd.num 2147483647).2 : Nat) : Int)))
    have HO2 := Lib.hid (HO1.out.setNew (p := w.heap.size) (i := 3) (by omega) (.int .i64 (((rd.num 2147483647).2 : Nat) : Int)))
    have hz2 : w.heap.size + 1 < (w1.setCell ⟨w.heap.size, 3, none⟩ (.int .i64 (((rd.num 2147483647).2 : Nat) : Int))).heap.size := by rw [size_set]; exact hz1
    generalize w1.setCell ⟨w.heap.size, 3, none⟩ (.int .i64 (((rd.num 2147483647).2 : Nat) : Int)) = w2 at HKS2 HKR2 HR2 HO2 hz2 ⊢
    refine (num_any g _ 65535 _ HR2.out).mono ?_
    rintro e w3 ⟨rfl, hr3, ho3⟩
    have HR3 := Lib.hid hr3
    have HKS3 : Hid (w3.heap[w.heap.size]? = some (.cells #[.int .i64 ((k : Nat) : Int), .int .i64 ((sd : Nat) : Int), .int .i64 ((wy : Nat) : Int), .int .i64 (((rd.num 2147483647).2 : Nat) : Int), .slice none 0 0, .slice none 0 0, .int .i64 0, .string ⟨#[]⟩, .string ⟨#[]⟩, .int .i64 0, .int .i64 0] 82 (0, 0))) := Lib.hid ((ho3.blk (b := w.heap.size) (by omega) (by omega)).trans HKS2.out)
    have HKR3 : Hid (w3.heap[w.heap.size + 1]? = some (.cells #[.int .i64 0, .int .i64 0, .int .i64 0, .int .i64 0, .slice none 0 0, .slice none 0 0, .int .i64 0, .string ⟨#[]⟩, .string ⟨#[]⟩, .int .i64 0, .int .i64 0] 82 (0, 0))) := Lib.hid ((ho3.blk (b := w.heap.size + 1) (by omega) (by omega)).trans HKR2.out)
    have HO3 := Lib.hid (HO2.out.trans ho3)
    have hz3 : w.heap.size + 1 < w3.heap.size := Nat.lt_of_lt_of_le hz2 ho3.size
    clear hr3 ho3
    obtain ⟨qS0, qS1⟩ := blk_rules HKS3.out
    go_wp2_with fail
    clear qS0 qS1
    have HKS4 : Hid ((w3.setCell ⟨w.heap.size, 6, none⟩ (.int .i64 ((((rd.num 2147483647).1.num 65535).2 : Nat) : Int))).heap[w.heap.size]? = some (.cells #[.int .i64 ((k : Nat) : Int), .int .i64 ((sd : Nat) : Int), .int .i64 ((wy : Nat) : Int), .int .i64 (((rd.num 2147483647).2 : Nat) : Int), .slice none 0 0, .slice none 0 0, .int .i64 ((((rd.num 2147483647).1.num 65535).2 : Nat) : Int), .string ⟨#[]⟩, .string ⟨#[]⟩, .int .i64 0, .int .i64 0] 82 (0, 0))) := Lib.hid (blk_set (i := 6) HKS3.out (.int .i64 ((((rd.num 2147483647).1.num 65535).2 : Nat) : Int)))
    have HKR4 : Hid ((w3.setCell ⟨w.heap.size, 6, none⟩ (.int .i64 ((((rd.num 2147483647).1.num 65535).2 : Nat) : Int))).heap[w.heap.size + 1]? = some (.cells #[.int .i64 0, .int .i64 0, .int .i64 0, .int .i64 0, .slice none 0 0, .slice none 0 0, .int .i64 0, .string ⟨#[]⟩, .string ⟨#[]⟩, .int .i64 0, .int .i64 0] 82 (0, 0))) := Lib.hid ((blk_far (g := w.heap.size + 1) (g' := w.heap.size) (i := 6) (by omega) (.int .i64 ((((rd.num 2147483647).1.num 65535).2 : Nat) : Int))).trans HKR3.out)
    have HR4 := Lib.hid (HR3.out.setFar (p := w.heap.size) (i := 6) (by omega) (.int .i64 ((((rd.num 2147483647).1.num 65535).2 : Nat) : Int)))
    have HO4 := Lib.hid (HO3.out.setNew (p := w.heap.size) (i := 6) (by omega) (.int .i64 ((((rd.num 2147483647).1.num 65535).2 : Nat) : Int)))
    have hz4 : w.heap.size + 1 < (w3.setCell ⟨w.heap.size, 6, none⟩ (.int .i64 ((((rd.num 2147483647).1.num 65535).2 : Nat) : Int))).heap.size := by rw [size_set]; exact hz3
    generalize w3.setCell ⟨w.heap.size, 6, none⟩ (.int .i64 ((((rd.num 2147483647).1.num 65535).2 : Nat) : Int)) = w4 at HKS4 HKR4 HR4 HO4 hz4 ⊢
    refine (txt_any g _ 40 _ HR4.out).mono ?_
    rintro e w5 ⟨rfl, hr5, ho5⟩
    have HR5 := Lib.hid hr5
    have HKS5 : Hid (w5.heap[w.heap.size]? = some (.cells #[.int .i64 ((k : Nat) : Int), .int .i64 ((sd : Nat) : Int), .int .i64 ((wy : Nat) : Int), .int .i64 (((rd.num 2147483647).2 : Nat) : Int), .slice none 0 0, .slice none 0 0, .int .i64 ((((rd.num 2147483647).1.num 65535).2 : Nat) : Int), .string ⟨#[]⟩, .string ⟨#[]⟩, .int .i64 0, .int .i64 0] 82 (0, 0))) := Lib.hid ((ho5.blk (b := w.heap.size) (by omega) (by omega)).trans HKS4.out)
    have HKR5 : Hid (w5.heap[w.heap.size + 1]? = some (.cells #[.int .i64 0, .int .i64 0, .int .i64 0, .int .i64 0, .slice none 0 0, .slice none 0 0, .int .i64 0, .string ⟨#[]⟩, .string ⟨#[]⟩, .int .i64 0, .int .i64 0] 82 (0, 0))) := Lib.hid ((ho5.blk (b := w.heap.size + 1) (by omega) (by omega)).trans HKR4.out)
    have HO5 := Lib.hid (HO4.out.trans ho5)
    have hz5 : w.heap.size + 1 < w5.heap.size := Nat.lt_of_lt_of_le hz4 ho5.size
    clear hr5 ho5
    obtain ⟨qS0, qS1⟩ := blk_rules HKS5.out
    go_wp2_with fail
    clear qS0 qS1
    have HKS6 : Hid ((w5.setCell ⟨w.heap.size, 7, none⟩ (.string (bstr (((rd.num 2147483647).1.num 65535).1.txt 40).2))).heap[w.heap.size]? = some (.cells #[.int .i64 ((k : Nat) : Int), .int .i64 ((sd : Nat) : Int), .int .i64 ((wy : Nat) : Int), .int .i64 (((rd.num 2147483647).2 : Nat) : Int), .slice none 0 0, .slice none 0 0, .int .i64 ((((rd.num 2147483647).1.num 65535).2 : Nat) : Int), .string (bstr (((rd.num 2147483647).1.num 65535).1.txt 40).2), .string ⟨#[]⟩, .int .i64 0, .int .i64 0] 82 (0, 0))) := Lib.hid (blk_set (i := 7) HKS5.out (.string (bstr (((rd.num 2147483647).1.num 65535).1.txt 40).2)))
    have HKR6 : Hid ((w5.setCell ⟨w.heap.size, 7, none⟩ (.string (bstr (((rd.num 2147483647).1.num 65535).1.txt 40).2))).heap[w.heap.size + 1]? = some (.cells #[.int .i64 0, .int .i64 0, .int .i64 0, .int .i64 0, .slice none 0 0, .slice none 0 0, .int .i64 0, .string ⟨#[]⟩, .string ⟨#[]⟩, .int .i64 0, .int .i64 0] 82 (0, 0))) := Lib.hid ((blk_far (g := w.heap.size + 1) (g' := w.heap.size) (i := 7) (by omega) (.string (bstr (((rd.num 2147483647).1.num 65535).1.txt 40).2))).trans HKR5.out)
    have HR6 := Lib.hid (HR5.out.setFar (p := w.heap.size) (i := 7) (by omega) (.string (bstr (((rd.num 2147483647).1.num 65535).1.txt 40).2)))
    have HO6 := Lib.hid (HO5.out.setNew (p := w.heap.size) (i := 7) (by omega) (.string (bstr (((rd.num 2147483647).1.num 65535).1.txt 40).2)))
    have hz6 : w.heap.size + 1 < (w5.setCell ⟨w.heap.size, 7, none⟩ (.string (bstr (((rd.num 2147483647).1.num 65535).1.txt 40).2))).heap.size := by rw [size_set]; exact hz5
    generalize w5.setCell ⟨w.heap.size, 7, none⟩ (.string (bstr (((rd.num 2147483647).1.num 65535).1.txt 40).2)) = w6 at HKS6 HKR6 HR6 HO6 hz6 ⊢
    refine (txt_any g _ 40 _ HR6.out).mono ?_
    rintro e w7 ⟨rfl, hr7, ho7⟩
    have HR7 := Lib.hid hr7
    have HKS7 : Hid (w7.heap[w.heap.size]? = some (.cells #[.int .i64 ((k : Nat) : Int), .int .i64 ((sd : Nat) : Int), .int .i64 ((wy : Nat) : Int), .int .i64 (((rd.num 2147483647).2 : Nat) : Int), .slice none 0 0, .slice none 0 0, .int .i64 ((((rd.num 2147483647).1.num 65535).2 : Nat) : Int), .string (bstr (((rd.num 2147483647).1.num 65535).1.txt 40).2), .string ⟨#[]⟩, .int .i64 0, .int .i64 0] 82 (0, 0))) := Lib.hid ((ho7.blk (b := w.heap.size) (by omega) (by omega)).trans HKS6.out)
    have HKR7 : Hid (w7.heap[w.heap.size + 1]? = some (.cells #[.int .i64 0, .int .i64 0, .int .i64 0, .int .i64 0, .slice none 0 0, .slice none 0 0, .int .i64 0, .string ⟨#[]⟩, .string ⟨#[]⟩, .int .i64 0, .int .i64 0] 82 (0, 0))) := Lib.hid ((ho7.blk (b := w.heap.size + 1) (by omega) (by omega)).trans HKR6.out)
    have HO7 := Lib.hid (HO6.out.trans ho7)
    have hz7 : w.heap.size + 1 < w7.heap.size := Nat.lt_of_lt_of_le hz6 ho7.size
    clear hr7 ho7
    obtain ⟨qS0, qS1⟩ := blk_rules HKS7.out
    go_wp2_with fail
    clear qS0 qS1
    have HKS8 : Hid ((w7.setCell ⟨w.heap.size, 8, none⟩ (.string (bstr ((((rd.num 2147483647).1.num 65535).1.txt 40).1.txt 40).2))).heap[w.heap.size]? = some (.cells #[.int .i64 ((k : Nat) : Int), .int .i64 ((sd : Nat) : Int), .int .i64 ((wy : Nat) : Int), .int .i64 (((rd.num 2147483647).2 : Nat) : Int), .slice none 0 0, .slice none 0 0, .int .i64 ((((rd.num 2147483647).1.num 65535).2 : Nat) : Int), .string (bstr (((rd.num 2147483647).1.num 65535).1.txt 40).2), .string (bstr ((((rd.num 2147483647).1.num 65535).1.txt 40).1.txt 40).2), .int .i64 0, .int .i64 0] 82 (0, 0))) := Lib.hid (blk_set (i := 8) HKS7.out (.string (bstr ((((rd.num 2147483647).1.num 65535).1.txt 40).1.txt 40).2)))
    have HKR8 : Hid ((w7.setCell ⟨w.heap.size, 8, none⟩ (.string (bstr ((((rd.num 2147483647).1.num 65535).1.txt 40).1.txt 40).2))).heap[w.heap.size + 1]? = some (.cells #[.int .i64 0, .int .i64 0, .int .i64 0, .int .i64 0, .slice none 0 0, .slice none 0 0, .int .i64 0, .string ⟨#[]⟩, .string ⟨#[]⟩, .int .i64 0, .int .i64 0] 82 (0, 0))) := Lib.hid ((blk_far (g := w.heap.size + 1) (g' := w.heap.size) (i := 8) (by omega) (.string (bstr ((((rd.num 2147483647).1.num 65535).1.txt 40).1.txt 40).2))).trans HKR7.out)
    have HR8 := Lib.hid (HR7.out.setFar (p := w.heap.size) (i := 8) (by omega) (.string (bstr ((((rd.num 2147483647).1.num 65535).1.txt 40).1.txt 40).2)))
    have HO8 := Lib.hid (HO7.out.setNew (p := w.heap.size) (i := 8) (by omega) (.string (bstr ((((rd.num 2147483647).1.num 65535).1.txt 40).1.txt 40).2)))
    have hz8 : w.heap.size + 1 < (w7.setCell ⟨w.heap.size, 8, none⟩ (.string (bstr ((((rd.num 2147483647).1.num 65535).1.txt 40).1.txt 40).2))).heap.size := by rw [size_set]; exact hz7
    generalize w7.setCell ⟨w.heap.size, 8, none⟩ (.string (bstr ((((rd.num 2147483647).1.num 65535).1.txt 40).1.txt 40).2)) = w8 at HKS8 HKR8 HR8 HO8 hz8 ⊢
    refine (num_any g _ 2147483647 _ HR8.out).mono ?_
    rintro e w9 ⟨rfl, hr9, ho9⟩
    have HR9 := Lib.hid hr9
    have HKS9 : Hid (w9.heap[w.heap.size]? = some (.cells #[.int .i64 ((k : Nat) : Int), .int .i64 ((sd : Nat) : Int), .int .i64 ((wy : Nat) : Int), .int .i64 (((rd.num 2147483647).2 : Nat) : Int), .slice none 0 0, .slice none 0 0, .int .i64 ((((rd.num 2147483647).1.num 65535).2 : Nat) : Int), .string (bstr (((rd.num 2147483647).1.num 65535).1.txt 40).2), .string (bstr ((((rd.num 2147483647).1.num 65535).1.txt 40).1.txt 40).2), .int .i64 0, .int .i64 0] 82 (0, 0))) := Lib.hid ((ho9.blk (b := w.heap.size) (by omega) (by omega)).trans HKS8.out)
    have HKR9 : Hid (w9.heap[w.heap.size + 1]? = some (.cells #[.int .i64 0, .int .i64 0, .int .i64 0, .int .i64 0, .slice none 0 0, .slice none 0 0, .int .i64 0, .string ⟨#[]⟩, .string ⟨#[]⟩, .int .i64 0, .int .i64 0] 82 (0, 0))) := Lib.hid ((ho9.blk (b := w.heap.size + 1) (by omega) (by omega)).trans HKR8.out)
    have HO9 := Lib.hid (HO8.out.trans ho9)
    have hz9 : w.heap.size + 1 < w9.heap.size := Nat.lt_of_lt_of_le hz8 ho9.size
    clear hr9 ho9
    obtain ⟨qS0, qS1⟩ := blk_rules HKS9.out
    go_wp2_with fail
    clear qS0 qS1
    have HKS10 : Hid ((w9.setCell ⟨w.heap.size, 9, none⟩ (.int .i64 (((((((rd.num 2147483647).1.num 65535).1.txt 40).1.txt 40).1.num 2147483647).2 : Nat) : Int))).heap[w.heap.size]? = some (.cells #[.int .i64 ((k : Nat) : Int), .int .i64 ((sd : Nat) : Int), .int .i64 ((wy : Nat) : Int), .int .i64 (((rd.num 2147483647).2 : Nat) : Int), .slice none 0 0, .slice none 0 0, .int .i64 ((((rd.num 2147483647).1.num 65535).2 : Nat) : Int), .string (bstr (((rd.num 2147483647).1.num 65535).1.txt 40).2), .string (bstr ((((rd.num 2147483647).1.num 65535).1.txt 40).1.txt 40).2), .int .i64 (((((((rd.num 2147483647).1.num 65535).1.txt 40).1.txt 40).1.num 2147483647).2 : Nat) : Int), .int .i64 0] 82 (0, 0))) := Lib.hid (blk_set (i := 9) HKS9.out (.int .i64 (((((((rd.num 2147483647).1.num 65535).1.txt 40).1.txt 40).1.num 2147483647).2 : Nat) : Int)))
    have HKR10 : Hid ((w9.setCell ⟨w.heap.size, 9, none⟩ (.int .i64 (((((((rd.num 2147483647).1.num 65535).1.txt 40).1.txt 40).1.num 2147483647).2 : Nat) : Int))).heap[w.heap.size + 1]? = some (.cells #[.int .i64 0, .int .i64 0, .int .i64 0, .int .i64 0, .slice none 0 0, .slice none 0 0, .int .i64 0, .string ⟨#[]⟩, .string ⟨#[]⟩, .int .i64 0, .int .i64 0] 82 (0, 0))) := Lib.hid ((blk_far (g := w.heap.size + 1) (g' := w.heap.size) (i := 9) (by omega) (.int .i64 (((((((rd.num 2147483647).1.num 65535).1.txt 40).1.txt 40).1.num 2147483647).2 : Nat) : Int))).trans HKR9.out)
    have HR10 := Lib.hid (HR9.out.setFar (p := w.heap.size) (i := 9) (by omega) (.int .i64 (((((((rd.num 2147483647).1.num 65535).1.txt 40).1.txt 40).1.num 2147483647).2 : Nat) : Int)))
    have HO10 := Lib.hid (HO9.out.setNew (p := w.heap.size) (i := 9) (by omega) (.int .i64 (((((((rd.num 2147483647).1.num 65535).1.txt 40).1.txt 40).1.num 2147483647).2 : Nat) : Int)))
    have hz10 : w.heap.size + 1 < (w9.setCell ⟨w.heap.size, 9, none⟩ (.int .i64 (((((((rd.num 2147483647).1.num 65535).1.txt 40).1.txt 40).1.num 2147483647).2 : Nat) : Int))).heap.size := by rw [size_set]; exact hz9
    generalize w9.setCell ⟨w.heap.size, 9, none⟩ (.int .i64 (((((((rd.num 2147483647).1.num 65535).1.txt 40).1.txt 40).1.num 2147483647).2 : Nat) : Int)) = w10 at HKS10 HKR10 HR10 HO10 hz10 ⊢
    refine (num_any g _ 2147483647 _ HR10.out).mono ?_
    rintro e w11 ⟨rfl, hr11, ho11⟩
    have HR11 := Lib.hid hr11
    have HKS11 : Hid (w11.heap[w.heap.size]? = some (.cells #[.int .i64 ((k : Nat) : Int), .int .i64 ((sd : Nat) : Int), .int .i64 ((wy : Nat) : Int), .int .i64 (((rd.num 2147483647).2 : Nat) : Int), .slice none 0 0, .slice none 0 0, .int .i64 ((((rd.num 2147483647).1.num 65535).2 : Nat) : Int), .string (bstr (((rd.num 2147483647).1.num 65535).1.txt 40).2), .string (bstr ((((rd.num 2147483647).1.num 65535).1.txt 40).1.txt 40).2), .int .i64 (((((((rd.num 2147483647).1.num 65535).1.txt 40).1.txt 40).1.num 2147483647).2 : Nat) : Int), .int .i64 0] 82 (0, 0))) := Lib.hid ((ho11.blk (b := w.heap.size) (by omega) (by omega)).trans HKS10.out)
    have HKR11 : Hid (w11.heap[w.heap.size + 1]? = some (.cells #[.int .i64 0, .int .i64 0, .int .i64 0, .int .i64 0, .slice none 0 0, .slice none 0 0, .int .i64 0, .string ⟨#[]⟩, .string ⟨#[]⟩, .int .i64 0, .int .i64 0] 82 (0, 0))) := Lib.hid ((ho11.blk (b := w.heap.size + 1) (by omega) (by omega)).trans HKR10.out)
    have HO11 := Lib.hid (HO10.out.trans ho11)
    have hz11 : w.heap.size + 1 < w11.heap.size := Nat.lt_of_lt_of_le hz10 ho11.size
    clear hr11 ho11
    obtain ⟨qS0, qS1⟩ := blk_rules HKS11.out
    obtain ⟨qR0, qR1⟩ := blk_rules HKR11.out
    go_wp2_with fail
    clear qS0 qS1 qR0 qR1
    have HKS12 : Hid ((w11.setCell ⟨w.heap.size, 10, none⟩ (.int .i64 ((((((((rd.num 2147483647).1.num 65535).1.txt 40).1.txt 40).1.num 2147483647).1.num 2147483647).2 : Nat) : Int))).heap[w.heap.size]? = some (.cells #[.int .i64 ((k : Nat) : Int), .int .i64 ((sd : Nat) : Int), .int .i64 ((wy : Nat) : Int), .int .i64 (((rd.num 2147483647).2 : Nat) : Int), .slice none 0 0, .slice none 0 0, .int .i64 ((((rd.num 2147483647).1.num 65535).2 : Nat) : Int), .string (bstr (((rd.num 2147483647).1.num 65535).1.txt 40).2), .string (bstr ((((rd.num 2147483647).1.num 65535).1.txt 40).1.txt 40).2), .int .i64 (((((((rd.num 2147483647).1.num 65535).1.txt 40).1.txt 40).1.num 2147483647).2 : Nat) : Int), .int .i64 ((((((((rd.num 2147483647).1.num 65535).1.txt 40).1.txt 40).1.num 2147483647).1.num 2147483647).2 : Nat) : Int)] 82 (0, 0))) := Lib.hid (blk_set (i := 10) HKS11.out (.int .i64 ((((((((rd.num 2147483647).1.num 65535).1.txt 40).1.txt 40).1.num 2147483647).1.num 2147483647).2 : Nat) : Int)))
    have HKR12 : Hid ((w11.setCell ⟨w.heap.size, 10, none⟩ (.int .i64 ((((((((rd.num 2147483647).1.num 65535).1.txt 40).1.txt 40).1.num 2147483647).1.num 2147483647).2 : Nat) : Int))).heap[w.heap.size + 1]? = some (.cells #[.int .i64 0, .int .i64 0, .int .i64 0, .int .i64 0, .slice none 0 0, .slice none 0 0, .int .i64 0, .string ⟨#[]⟩, .string ⟨#[]⟩, .int .i64 0, .int .i64 0] 82 (0, 0))) := Lib.hid ((blk_far (g := w.heap.size + 1) (g' := w.heap.size) (i := 10) (by omega) (.int .i64 ((((((((rd.num 2147483647).1.num 65535).1.txt 40).1.txt 40).1.num 2147483647).1.num 2147483647).2 : Nat) : Int))).trans HKR11.out)
    have HR12 := Lib.hid (HR11.out.setFar (p := w.heap.size) (i := 10) (by omega) (.int .i64 ((((((((rd.num 2147483647).1.num 65535).1.txt 40).1.txt 40).1.num 2147483647).1.num 2147483647).2 : Nat) : Int)))
    have HO12 := Lib.hid (HO11.out.setNew (p := w.heap.size) (i := 10) (by omega) (.int .i64 ((((((((rd.num 2147483647).1.num 65535).1.txt 40).1.txt 40).1.num 2147483647).1.num 2147483647).2 : Nat) : Int)))
    have hz12 : w.heap.size + 1 < (w11.setCell ⟨w.heap.size, 10, none⟩ (.int .i64 ((((((((rd.num 2147483647).1.num 65535).1.txt 40).1.txt 40).1.num 2147483647).1.num 2147483647).2 : Nat) : Int))).heap.size := by rw [size_set]; exact hz11
    generalize w11.setCell ⟨w.heap.size, 10, none⟩ (.int .i64 ((((((((rd.num 2147483647).1.num 65535).1.txt 40).1.txt 40).1.num 2147483647).1.num 2147483647).2 : Nat) : Int)) = w12 at HKS12 HKR12 HR12 HO12 hz12 ⊢
    generalize hV : ((((((((((w12.setCell { block := w.heap.size + 1, off := 0 } (Value.int IntKind.i64 ((k : Nat) : Int))).setCell { block := w.heap.size + 1, off := 1 } (Value.int IntKind.i64 ((sd : Nat) : Int))).setCell { block := w.heap.size + 1, off := 2 } (Value.int IntKind.i64 ((wy : Nat) : Int))).setCell { block := w.heap.size + 1, off := 3 } (Value.int IntKind.i64 (((rd.num 2147483647).2 : Nat) : Int))).setCell { block := w.heap.size + 1, off := 4 } (Value.slice none 0 0)).setCell { block := w.heap.size + 1, off := 5 } (Value.slice none 0 0)).setCell { block := w.heap.size + 1, off := 6 } (Value.int IntKind.i64 ((((rd.num 2147483647).1.num 65535).2 : Nat) : Int))).setCell { block := w.heap.size + 1, off := 7 } (Value.string (bstr (((rd.num 2147483647).1.num 65535).1.txt 40).2))).setCell { block := w.heap.size + 1, off := 8 } (Value.string (bstr ((((rd.num 2147483647).1.num 65535).1.txt 40).1.txt 40).2))).setCell { block := w.heap.size + 1, off := 9 } (Value.int IntKind.i64 (((((((rd.num 2147483647).1.num 65535).1.txt 40).1.txt 40).1.num 2147483647).2 : Nat) : Int))).setCell { block := w.heap.size + 1, off := 10 } (Value.int IntKind.i64 ((((((((rd.num 2147483647).1.num 65535).1.txt 40).1.txt 40).1.num 2147483647).1.num 2147483647).2 : Nat) : Int)) = V
    obtain ⟨bV, rV, oV, kV⟩ := setS11 HKR12.out _ _ _ _ _ _ _ _ _ _ _ hV
    clear hV
    obtain ⟨z0, -⟩ := blk_rules bV
    exact bodyPost_ret (v := .agg #[.int .i64 ((k : Nat) : Int), .int .i64 ((sd : Nat) : Int), .int .i64 ((wy : Nat) : Int), .int .i64 (((rd.num 2147483647).2 : Nat) : Int), .slice none 0 0, .slice none 0 0, .int .i64 ((((rd.num 2147483647).1.num 65535).2 : Nat) : Int), .string (bstr (((rd.num 2147483647).1.num 65535).1.txt 40).2), .string (bstr ((((rd.num 2147483647).1.num 65535).1.txt 40).1.txt 40).2), .int .i64 (((((((rd.num 2147483647).1.num 65535).1.txt 40).1.txt 40).1.num 2147483647).2 : Nat) : Int), .int .i64 ((((((((rd.num 2147483647).1.num 65535).1.txt 40).1.txt 40).1.num 2147483647).1.num 2147483647).2 : Nat) : Int)]) (by simp [results, Tryz.results127, go_sem, z0]) rfl
      (show RestD g w (takeSB k sd wy rd) _ V from by rw [HT.out]; exact ⟨none, 0, 0, none, 0, 0, rfl, ⟨SlW.nil_, SlW.nil_, ArrQ.nil_, ArrQ.nil_, Rd.txt_max _ _, Rd.txt_max _ _⟩, rV _ _ HR12.out (by omega), oV _ _ HO12.out (by omega)⟩)
  · have b0 : (((k : Nat) : Int) == 0) = false := by rw [beq_eq_false_iff_ne]; omega
    have b7 : (((k : Nat) : Int) == 7) = false := by rw [beq_eq_false_iff_ne]; omega
    have HT : Hid (takeSB k sd wy rd = ((rd.num 2147483647).1, ⟨k, sd, wy, (rd.num 2147483647).2, [], [], ak0⟩)) := Lib.hid (by unfold takeSB; simp only [bindP]; rw [if_neg h0, if_neg h7]; rfl)
    clear h0 h7
    obtain ⟨qS0, qS1⟩ := blk_rules HKS1.out
    obtain ⟨qR0, qR1⟩ := blk_rules HKR1.out
    go_wp2_with fail
    clear qS0 qS1 qR0 qR1
    have HKS2 : Hid ((w1.setCell ⟨w.heap.size, 3, none⟩ (.int .i64 (((rd.num 2147483647).2 : Nat) : Int))).heap[w.heap.size]? = some (.cells #[.int .i64 ((k : Nat) : Int), .int .i64 ((sd : Nat) : Int), .int .i64 ((wy : Nat) : Int), .int .i64 (((rd.num 2147483647).2 : Nat) : Int), .slice none 0 0, .slice none 0 0, .int .i64 0, .string ⟨#[]⟩, .string ⟨#[]⟩, .int .i64 0, .int .i64 0] 82 (0, 0))) := Lib.hid (blk_set (i := 3) HKS1.out (.int .i64 (((rd.num 2147483647).2 : Nat) : Int)))
    have HKR2 : Hid ((w1.setCell ⟨w.heap.size, 3, none⟩ (.int .i64 (((rd.num 2147483647).2 : Nat) : Int))).heap[w.heap.size + 1]? = some (.cells #[.int .i64 0, .int .i64 0, .int .i64 0, .int .i64 0, .slice none 0 0, .slice none 0 0, .int .i64 0, .string ⟨#[]⟩, .string ⟨#[]⟩, .int .i64 0, .int .i64 0] 82 (0, 0))) := Lib.hid ((blk_far (g := w.heap.size + 1) (g' := w.heap.size) (i := 3) (by omega) (.int .i64 (((rd.num 2147483647).2 : Nat) : Int))).trans HKR1.out)
    have HR2 := Lib.hid (HR1.out.setFar (p := w.heap.size) (i := 3) (by omega) (.int .i64 (((rd.num 2147483647).2 : Nat) : Int)))
    have HO2 := Lib.hid (HO1.out.setNew (p := w.heap.size) (i := 3) (by omega) (.int .i64 (((rd.num 2147483647).2 : Nat) : Int)))
    have hz2 : w.heap.size + 1 < (w1.setCell ⟨w.heap.size, 3, none⟩ (.int .i64 (((rd.num 2147483647).2 : Nat) : Int))).heap.size := by rw [size_set]; exact hz1
    generalize w1.setCell ⟨w.heap.size, 3, none⟩ (.int .i64 (((rd.num 2147483647).2 : Nat) : Int)) = w2 at HKS2 HKR2 HR2 HO2 hz2 ⊢
    generalize hV : ((((((((((w2.setCell { block := w.heap.size + 1, off := 0 } (Value.int IntKind.i64 ((k : Nat) : Int))).setCell { block := w.heap.size + 1, off := 1 } (Value.int IntKind.i64 ((sd : Nat) : Int))).setCell { block := w.heap.size + 1, off := 2 } (Value.int IntKind.i64 ((wy : Nat) : Int))).setCell { block := w.heap.size + 1, off := 3 } (Value.int IntKind.i64 (((rd.num 2147483647).2 : Nat) : Int))).setCell { block := w.heap.size + 1, off := 4 } (Value.slice none 0 0)).setCell { block := w.heap.size + 1, off := 5 } (Value.slice none 0 0)).setCell { block := w.heap.size + 1, off := 6 } (Value.int IntKind.i64 0)).setCell { block := w.heap.size + 1, off := 7 } (Value.string ⟨#[]⟩)).setCell { block := w.heap.size + 1, off := 8 } (Value.string ⟨#[]⟩)).setCell { block := w.heap.size + 1, off := 9 } (Value.int IntKind.i64 0)).setCell { block := w.heap.size + 1, off := 10 } (Value.int IntKind.i64 0) = V
    obtain ⟨bV, rV, oV, kV⟩ := setS11 HKR2.out _ _ _ _ _ _ _ _ _ _ _ hV
    clear hV
    obtain ⟨z0, -⟩ := blk_rules bV
    exact bodyPost_ret (v := .agg #[.int .i64 ((k : Nat) : Int), .int .i64 ((sd : Nat) : Int), .int .i64 ((wy : Nat) : Int), .int .i64 (((rd.num 2147483647).2 : Nat) : Int), .slice none 0 0, .slice none 0 0, .int .i64 0, .string ⟨#[]⟩, .string ⟨#[]⟩, .int .i64 0, .int .i64 0]) (by simp [results, Tryz.results127, go_sem, z0]) rfl
      (show RestD g w (takeSB k sd wy rd) _ V from by rw [HT.out]; exact ⟨none, 0, 0, none, 0, 0, rfl, ⟨SlW.nil_, SlW.nil_, ArrQ.nil_, ArrQ.nil_, (by decide : (⟨#[]⟩ : ByteArray).size ≤ maxLen), (by decide : (⟨#[]⟩ : ByteArray).size ≤ maxLen)⟩, rV _ _ HR2.out (by omega), oV _ _ HO2.out (by omega)⟩)
end Go.Proofs.YtfdjbnofcniodaaGreatDoor
