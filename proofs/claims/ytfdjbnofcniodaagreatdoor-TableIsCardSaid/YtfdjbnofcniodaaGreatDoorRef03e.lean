/- What the document's Sane of layer 3 computes: saneR. -/
import Derived.Test.YtfdjbnofcniodaaGreatDoorRef03d
namespace Go.Proofs.YtfdjbnofcniodaaGreatDoor
set_option linter.unusedVariables false
open Go.RowKit

theorem emp_of {s : ByteArray} (h : s.size = 0) : s.toList.isEmpty = true ∧ s.toList = [] := by
  have e : s.toList = [] := by rw [tx_toList]; exact List.eq_nil_of_length_eq_zero (by rw [tx_len]; exact h)
  exact ⟨by rw [e]; rfl, e⟩
theorem emp_not {s : ByteArray} (h : ¬ s.size = 0) : s.toList.isEmpty = false ∧ ¬ s.toList = [] := by
  have e : ¬ s.toList = [] := by rw [tx_toList]; intro e; rw [← tx_len, e] at h; exact h rfl
  exact ⟨by rw [List.isEmpty_eq_false_iff]; exact e, e⟩
set_option maxRecDepth 100000 in
set_option maxHeartbeats 8000000 in
theorem refSane_any (S : Nat → Prop) (r : Rs) (A A' : Option Addr) (n c n' c' : Nat) (w : World) (hV : RsV S w r A n c A' n' c') :
    Calls Tryz.prog 84 #[rsVal r A n c A' n' c'] w fun e w' => e = .returned (.int .i64 (saneR r)) ∧ Ext w w' := by
  obtain ⟨kd, nm, vr, pt, to_, rl, hs⟩ := r
  have hm : n ≤ 9223372036854775807 := by have h1 := hV.sl.1; have h2 := hV.sl.2.1; unfold maxLen at h2; omega
  have hm' : n' ≤ 9223372036854775807 := by have h1 := hV.sl'.1; have h2 := hV.sl'.2.1; unfold maxLen at h2; omega
  have hL : rl.length = n := hV.arr.len
  have hL' : hs.length = n' := hV.arr'.len
  have HV := Lib.hid hV
  clear hV
  unfold rsVal
  try simp only []
  by_cases g : kd < 0
  · have H : Hid (saneR ⟨kd, nm, vr, pt, to_, rl, hs⟩ = 4) := Lib.hid (by
      have hi : inB (⟨kd, nm, vr, pt, to_, rl, hs⟩ : Rs).kind 3 = false := by unfold inB; simp; omega
      unfold saneR; rw [hi]; rfl)
    have EW := Lib.hid (Ext.new w (.cells #[.int .i64 kd, .string nm, .int .i64 vr, .int .i64 pt, .string to_, .slice A n c, .slice A' n' c'] 34))
    go_enter Tryz.func84, Tryz.ntmps84
    go_wp2_with fail
    go_ret
    exact ⟨by rw [H.out]; first | rfl | (simp; done), EW.out⟩
  by_cases g : 3 < kd
  · have H : Hid (saneR ⟨kd, nm, vr, pt, to_, rl, hs⟩ = 4) := Lib.hid (by
      have hi : inB (⟨kd, nm, vr, pt, to_, rl, hs⟩ : Rs).kind 3 = false := by unfold inB; simp; omega
      unfold saneR; rw [hi]; rfl)
    have EW := Lib.hid (Ext.new w (.cells #[.int .i64 kd, .string nm, .int .i64 vr, .int .i64 pt, .string to_, .slice A n c, .slice A' n' c'] 34))
    go_enter Tryz.func84, Tryz.ntmps84
    go_wp2_with fail
    go_ret
    exact ⟨by rw [H.out]; first | rfl | (simp; done), EW.out⟩
  rcases (show kd = 0 ∨ kd = 1 ∨ kd = 2 ∨ kd = 3 by omega) with rfl | rfl | rfl | rfl
  · have HI : Hid (inB (⟨0, nm, vr, pt, to_, rl, hs⟩ : Rs).kind 3 = true) := Lib.hid (by simp [inB])
    go_enter Tryz.func84, Tryz.ntmps84
    go_wp2_with fail
    have kA := heap_alloc_new w (.cells #[.int .i64 0, .string nm, .int .i64 vr, .int .i64 pt, .string to_, .slice A n c, .slice A' n' c'] 34)
    have EW := Lib.hid (Ext.new w (.cells #[.int .i64 0, .string nm, .int .i64 vr, .int .i64 pt, .string to_, .slice A n c, .slice A' n' c'] 34))
    have hzW : w.heap.size < (w.alloc (.cells #[.int .i64 0, .string nm, .int .i64 vr, .int .i64 pt, .string to_, .slice A n c, .slice A' n' c'] 34)).heap.size := by simp
    generalize w.alloc (.cells #[.int .i64 0, .string nm, .int .i64 vr, .int .i64 pt, .string to_, .slice A n c, .slice A' n' c'] 34) = W at kA EW hzW ⊢
    have Q := Lib.hid (blk_rules kA).1
    clear kA
    have r0 : W.cell? ⟨w.heap.size, 0, none⟩ = some (.int .i64 0) := Q.out 0
    have r1 : W.cell? ⟨w.heap.size, 1, none⟩ = some (.string nm) := Q.out 1
    have r2 : W.cell? ⟨w.heap.size, 2, none⟩ = some (.int .i64 vr) := Q.out 2
    have r3 : W.cell? ⟨w.heap.size, 3, none⟩ = some (.int .i64 pt) := Q.out 3
    have r4 : W.cell? ⟨w.heap.size, 4, none⟩ = some (.string to_) := Q.out 4
    have r5 : W.cell? ⟨w.heap.size, 5, none⟩ = some (.slice A n c) := Q.out 5
    have r6 : W.cell? ⟨w.heap.size, 6, none⟩ = some (.slice A' n' c') := Q.out 6
    refine (refSaneN_any nm _ HV.out.nm).mono ?_
    rintro e w' ⟨rfl, rfl⟩
    cases h1 : saneN (tx nm) with
    | false =>
      have H : Hid (saneR ⟨0, nm, vr, pt, to_, rl, hs⟩ = 5) := Lib.hid (by unfold saneR; simp [HI.out, h1])
      go_wp2_with fail
      go_ret
      exact ⟨by rw [H.out]; first | rfl | (simp; done), EW.out⟩
    | true =>
    have H1 := Lib.hid h1
    clear h1
    go_wp2_with fail
    refine (refBig_any S ⟨0, nm, vr, pt, to_, rl, hs⟩ A A' n c n' c' _ (HV.out.up EW.out)).mono ?_
    rintro e w2 ⟨rfl, hb⟩
    have G2 := Lib.hid hb
    clear hb
    clear r0 r1 r2 r3 r4 r5 r6
    have r0 : w2.cell? ⟨w.heap.size, 0, none⟩ = some (.int .i64 0) := (G2.out.cell hzW).trans (Q.out 0)
    have r1 : w2.cell? ⟨w.heap.size, 1, none⟩ = some (.string nm) := (G2.out.cell hzW).trans (Q.out 1)
    have r2 : w2.cell? ⟨w.heap.size, 2, none⟩ = some (.int .i64 vr) := (G2.out.cell hzW).trans (Q.out 2)
    have r3 : w2.cell? ⟨w.heap.size, 3, none⟩ = some (.int .i64 pt) := (G2.out.cell hzW).trans (Q.out 3)
    have r4 : w2.cell? ⟨w.heap.size, 4, none⟩ = some (.string to_) := (G2.out.cell hzW).trans (Q.out 4)
    have r5 : w2.cell? ⟨w.heap.size, 5, none⟩ = some (.slice A n c) := (G2.out.cell hzW).trans (Q.out 5)
    have r6 : w2.cell? ⟨w.heap.size, 6, none⟩ = some (.slice A' n' c') := (G2.out.cell hzW).trans (Q.out 6)
    cases h2 : smallR ⟨0, nm, vr, pt, to_, rl, hs⟩ with
    | false =>
      have H : Hid (saneR ⟨0, nm, vr, pt, to_, rl, hs⟩ = 3) := Lib.hid (by unfold saneR; simp [HI.out, H1.out, h2])
      go_wp2_with fail
      go_ret
      exact ⟨by rw [H.out]; first | rfl | (simp; done), EW.out.trans G2.out⟩
    | true =>
    have H2 := Lib.hid h2
    clear h2
    simp only [Bool.not_true]
    by_cases g : n = 0
    rotate_left
    · have hl0 : ¬ rl = [] := by intro e; rw [e] at hL; exact g hL.symm
      have HSH : Hid (shapedR ⟨0, nm, vr, pt, to_, rl, hs⟩ = false) := Lib.hid (by simp [shapedR, noPort, noTo, noRules, noHosts, hl0])
      have hn0 : (0 : Int) < (n : Int) := by omega
      clear g
      have H : Hid (saneR ⟨0, nm, vr, pt, to_, rl, hs⟩ = 2) := Lib.hid (by unfold saneR; simp [HI.out, H1.out, H2.out, HSH.out])
      go_wp2_with fail
      go_ret
      exact ⟨by rw [H.out]; first | rfl | (simp; done), EW.out.trans G2.out⟩
    obtain rfl : n = 0 := g
    by_cases g : n' = 0
    rotate_left
    · have hl0' : ¬ hs = [] := by intro e; rw [e] at hL'; exact g hL'.symm
      have HSH : Hid (shapedR ⟨0, nm, vr, pt, to_, rl, hs⟩ = false) := Lib.hid (by simp [shapedR, noPort, noTo, noRules, noHosts, hl0'])
      have hn0' : (0 : Int) < (n' : Int) := by omega
      clear g
      have H : Hid (saneR ⟨0, nm, vr, pt, to_, rl, hs⟩ = 2) := Lib.hid (by unfold saneR; simp [HI.out, H1.out, H2.out, HSH.out])
      go_wp2_with fail
      go_ret
      exact ⟨by rw [H.out]; first | rfl | (simp; done), EW.out.trans G2.out⟩
    obtain rfl : n' = 0 := g
    have HSH : Hid (shapedR ⟨0, nm, vr, pt, to_, rl, hs⟩ = true) := Lib.hid (by
      have hl0 : rl = [] := List.eq_nil_of_length_eq_zero (hL)
      have hl1 : hs = [] := List.eq_nil_of_length_eq_zero (hL')
      simp [shapedR, noPort, noTo, noRules, noHosts, hl0, hl1])
    go_wp2_with fail
    refine (refNames_any S ⟨0, nm, vr, pt, to_, rl, hs⟩ A A' 0 c 0 c' _ (HV.out.up (EW.out.trans G2.out)) (by constructor <;> simp)).mono ?_
    rintro e w3 ⟨rfl, hb⟩
    have G3 := Lib.hid (G2.out.trans hb)
    clear hb
    clear r0 r1 r2 r3 r4 r5 r6
    have r0 : w3.cell? ⟨w.heap.size, 0, none⟩ = some (.int .i64 0) := (G3.out.cell hzW).trans (Q.out 0)
    have r1 : w3.cell? ⟨w.heap.size, 1, none⟩ = some (.string nm) := (G3.out.cell hzW).trans (Q.out 1)
    have r2 : w3.cell? ⟨w.heap.size, 2, none⟩ = some (.int .i64 vr) := (G3.out.cell hzW).trans (Q.out 2)
    have r3 : w3.cell? ⟨w.heap.size, 3, none⟩ = some (.int .i64 pt) := (G3.out.cell hzW).trans (Q.out 3)
    have r4 : w3.cell? ⟨w.heap.size, 4, none⟩ = some (.string to_) := (G3.out.cell hzW).trans (Q.out 4)
    have r5 : w3.cell? ⟨w.heap.size, 5, none⟩ = some (.slice A 0 c) := (G3.out.cell hzW).trans (Q.out 5)
    have r6 : w3.cell? ⟨w.heap.size, 6, none⟩ = some (.slice A' 0 c') := (G3.out.cell hzW).trans (Q.out 6)
    cases h4 : namedR ⟨0, nm, vr, pt, to_, rl, hs⟩ with
    | false =>
      have H : Hid (saneR ⟨0, nm, vr, pt, to_, rl, hs⟩ = 5) := Lib.hid (by unfold saneR; simp [HI.out, H1.out, H2.out, HSH.out, h4])
      go_wp2_with fail
      go_ret
      exact ⟨by rw [H.out]; first | rfl | (simp; done), EW.out.trans G3.out⟩
    | true =>
    have H4 := Lib.hid h4
    clear h4
    go_wp2_with fail
    refine (refTwice_any S ⟨0, nm, vr, pt, to_, rl, hs⟩ A A' 0 c 0 c' _ (HV.out.up (EW.out.trans G3.out)) ((small_iff _).1 H2.out)).mono ?_
    rintro e w4 ⟨rfl, hb⟩
    have G4 := Lib.hid (G3.out.trans hb)
    clear hb
    clear r0 r1 r2 r3 r4 r5 r6
    cases h5 : singleR ⟨0, nm, vr, pt, to_, rl, hs⟩ with
    | false =>
      have H : Hid (saneR ⟨0, nm, vr, pt, to_, rl, hs⟩ = 2) := Lib.hid (by unfold saneR; simp [HI.out, H1.out, H2.out, HSH.out, H4.out, h5])
      go_wp2_with fail
      go_ret
      exact ⟨by rw [H.out]; first | rfl | (simp; done), EW.out.trans G4.out⟩
    | true =>
    simp only [Bool.not_true]
    have H : Hid (saneR ⟨0, nm, vr, pt, to_, rl, hs⟩ = 0) := Lib.hid (by unfold saneR; simp [HI.out, H1.out, H2.out, HSH.out, H4.out, h5])
    go_wp2_with fail
    go_ret
    exact ⟨by rw [H.out]; first | rfl | (simp; done), EW.out.trans G4.out⟩
  · have HI : Hid (inB (⟨1, nm, vr, pt, to_, rl, hs⟩ : Rs).kind 3 = true) := Lib.hid (by simp [inB])
    go_enter Tryz.func84, Tryz.ntmps84
    go_wp2_with fail
    have kA := heap_alloc_new w (.cells #[.int .i64 1, .string nm, .int .i64 vr, .int .i64 pt, .string to_, .slice A n c, .slice A' n' c'] 34)
    have EW := Lib.hid (Ext.new w (.cells #[.int .i64 1, .string nm, .int .i64 vr, .int .i64 pt, .string to_, .slice A n c, .slice A' n' c'] 34))
    have hzW : w.heap.size < (w.alloc (.cells #[.int .i64 1, .string nm, .int .i64 vr, .int .i64 pt, .string to_, .slice A n c, .slice A' n' c'] 34)).heap.size := by simp
    generalize w.alloc (.cells #[.int .i64 1, .string nm, .int .i64 vr, .int .i64 pt, .string to_, .slice A n c, .slice A' n' c'] 34) = W at kA EW hzW ⊢
    have Q := Lib.hid (blk_rules kA).1
    clear kA
    have r0 : W.cell? ⟨w.heap.size, 0, none⟩ = some (.int .i64 1) := Q.out 0
    have r1 : W.cell? ⟨w.heap.size, 1, none⟩ = some (.string nm) := Q.out 1
    have r2 : W.cell? ⟨w.heap.size, 2, none⟩ = some (.int .i64 vr) := Q.out 2
    have r3 : W.cell? ⟨w.heap.size, 3, none⟩ = some (.int .i64 pt) := Q.out 3
    have r4 : W.cell? ⟨w.heap.size, 4, none⟩ = some (.string to_) := Q.out 4
    have r5 : W.cell? ⟨w.heap.size, 5, none⟩ = some (.slice A n c) := Q.out 5
    have r6 : W.cell? ⟨w.heap.size, 6, none⟩ = some (.slice A' n' c') := Q.out 6
    refine (refSaneN_any nm _ HV.out.nm).mono ?_
    rintro e w' ⟨rfl, rfl⟩
    cases h1 : saneN (tx nm) with
    | false =>
      have H : Hid (saneR ⟨1, nm, vr, pt, to_, rl, hs⟩ = 5) := Lib.hid (by unfold saneR; simp [HI.out, h1])
      go_wp2_with fail
      go_ret
      exact ⟨by rw [H.out]; first | rfl | (simp; done), EW.out⟩
    | true =>
    have H1 := Lib.hid h1
    clear h1
    go_wp2_with fail
    refine (refBig_any S ⟨1, nm, vr, pt, to_, rl, hs⟩ A A' n c n' c' _ (HV.out.up EW.out)).mono ?_
    rintro e w2 ⟨rfl, hb⟩
    have G2 := Lib.hid hb
    clear hb
    clear r0 r1 r2 r3 r4 r5 r6
    have r0 : w2.cell? ⟨w.heap.size, 0, none⟩ = some (.int .i64 1) := (G2.out.cell hzW).trans (Q.out 0)
    have r1 : w2.cell? ⟨w.heap.size, 1, none⟩ = some (.string nm) := (G2.out.cell hzW).trans (Q.out 1)
    have r2 : w2.cell? ⟨w.heap.size, 2, none⟩ = some (.int .i64 vr) := (G2.out.cell hzW).trans (Q.out 2)
    have r3 : w2.cell? ⟨w.heap.size, 3, none⟩ = some (.int .i64 pt) := (G2.out.cell hzW).trans (Q.out 3)
    have r4 : w2.cell? ⟨w.heap.size, 4, none⟩ = some (.string to_) := (G2.out.cell hzW).trans (Q.out 4)
    have r5 : w2.cell? ⟨w.heap.size, 5, none⟩ = some (.slice A n c) := (G2.out.cell hzW).trans (Q.out 5)
    have r6 : w2.cell? ⟨w.heap.size, 6, none⟩ = some (.slice A' n' c') := (G2.out.cell hzW).trans (Q.out 6)
    cases h2 : smallR ⟨1, nm, vr, pt, to_, rl, hs⟩ with
    | false =>
      have H : Hid (saneR ⟨1, nm, vr, pt, to_, rl, hs⟩ = 3) := Lib.hid (by unfold saneR; simp [HI.out, H1.out, h2])
      go_wp2_with fail
      go_ret
      exact ⟨by rw [H.out]; first | rfl | (simp; done), EW.out.trans G2.out⟩
    | true =>
    have H2 := Lib.hid h2
    clear h2
    simp only [Bool.not_true]
    by_cases g : pt = 0
    rotate_left
    · have HSH : Hid (shapedR ⟨1, nm, vr, pt, to_, rl, hs⟩ = false) := Lib.hid (by simp [shapedR, noPort, noTo, noRules, noHosts, g])
      have hp1 : (pt != 0) = true := by rw [bne_iff_ne]; exact g
      clear g
      have H : Hid (saneR ⟨1, nm, vr, pt, to_, rl, hs⟩ = 2) := Lib.hid (by unfold saneR; simp [HI.out, H1.out, H2.out, HSH.out])
      go_wp2_with fail
      go_ret
      exact ⟨by rw [H.out]; first | rfl | (simp; done), EW.out.trans G2.out⟩
    have g0 := Lib.hid g
    have hp1 : (pt != 0) = false := by rw [g]; rfl
    clear g
    by_cases g : to_.size = 0
    rotate_left
    · have HSH : Hid (shapedR ⟨1, nm, vr, pt, to_, rl, hs⟩ = false) := Lib.hid (by simp [shapedR, noPort, noTo, noRules, noHosts, g])
      obtain ⟨ht1, ht2⟩ := emp_not g
      clear g
      have H : Hid (saneR ⟨1, nm, vr, pt, to_, rl, hs⟩ = 2) := Lib.hid (by unfold saneR; simp [HI.out, H1.out, H2.out, HSH.out])
      go_wp2_with fail
      go_ret
      exact ⟨by rw [H.out]; first | rfl | (simp; done), EW.out.trans G2.out⟩
    have g1 := Lib.hid g
    obtain ⟨ht1, ht2⟩ := emp_of g
    clear g
    by_cases g : n' = 0
    rotate_left
    · have hl0' : ¬ hs = [] := by intro e; rw [e] at hL'; exact g hL'.symm
      have HSH : Hid (shapedR ⟨1, nm, vr, pt, to_, rl, hs⟩ = false) := Lib.hid (by simp [shapedR, noPort, noTo, noRules, noHosts, hl0'])
      have hn0' : (0 : Int) < (n' : Int) := by omega
      clear g
      have H : Hid (saneR ⟨1, nm, vr, pt, to_, rl, hs⟩ = 2) := Lib.hid (by unfold saneR; simp [HI.out, H1.out, H2.out, HSH.out])
      go_wp2_with fail
      go_ret
      exact ⟨by rw [H.out]; first | rfl | (simp; done), EW.out.trans G2.out⟩
    obtain rfl : n' = 0 := g
    have HSH : Hid (shapedR ⟨1, nm, vr, pt, to_, rl, hs⟩ = true) := Lib.hid (by
      have hl2 : hs = [] := List.eq_nil_of_length_eq_zero (hL')
      simp [shapedR, noPort, noTo, noRules, noHosts, g0.out, g1.out, hl2])
    go_wp2_with fail
    refine (refNames_any S ⟨1, nm, vr, pt, to_, rl, hs⟩ A A' n c 0 c' _ (HV.out.up (EW.out.trans G2.out)) (by constructor <;> simp)).mono ?_
    rintro e w3 ⟨rfl, hb⟩
    have G3 := Lib.hid (G2.out.trans hb)
    clear hb
    clear r0 r1 r2 r3 r4 r5 r6
    have r0 : w3.cell? ⟨w.heap.size, 0, none⟩ = some (.int .i64 1) := (G3.out.cell hzW).trans (Q.out 0)
    have r1 : w3.cell? ⟨w.heap.size, 1, none⟩ = some (.string nm) := (G3.out.cell hzW).trans (Q.out 1)
    have r2 : w3.cell? ⟨w.heap.size, 2, none⟩ = some (.int .i64 vr) := (G3.out.cell hzW).trans (Q.out 2)
    have r3 : w3.cell? ⟨w.heap.size, 3, none⟩ = some (.int .i64 pt) := (G3.out.cell hzW).trans (Q.out 3)
    have r4 : w3.cell? ⟨w.heap.size, 4, none⟩ = some (.string to_) := (G3.out.cell hzW).trans (Q.out 4)
    have r5 : w3.cell? ⟨w.heap.size, 5, none⟩ = some (.slice A n c) := (G3.out.cell hzW).trans (Q.out 5)
    have r6 : w3.cell? ⟨w.heap.size, 6, none⟩ = some (.slice A' 0 c') := (G3.out.cell hzW).trans (Q.out 6)
    cases h4 : namedR ⟨1, nm, vr, pt, to_, rl, hs⟩ with
    | false =>
      have H : Hid (saneR ⟨1, nm, vr, pt, to_, rl, hs⟩ = 5) := Lib.hid (by unfold saneR; simp [HI.out, H1.out, H2.out, HSH.out, h4])
      go_wp2_with fail
      go_ret
      exact ⟨by rw [H.out]; first | rfl | (simp; done), EW.out.trans G3.out⟩
    | true =>
    have H4 := Lib.hid h4
    clear h4
    go_wp2_with fail
    refine (refTwice_any S ⟨1, nm, vr, pt, to_, rl, hs⟩ A A' n c 0 c' _ (HV.out.up (EW.out.trans G3.out)) ((small_iff _).1 H2.out)).mono ?_
    rintro e w4 ⟨rfl, hb⟩
    have G4 := Lib.hid (G3.out.trans hb)
    clear hb
    clear r0 r1 r2 r3 r4 r5 r6
    cases h5 : singleR ⟨1, nm, vr, pt, to_, rl, hs⟩ with
    | false =>
      have H : Hid (saneR ⟨1, nm, vr, pt, to_, rl, hs⟩ = 2) := Lib.hid (by unfold saneR; simp [HI.out, H1.out, H2.out, HSH.out, H4.out, h5])
      go_wp2_with fail
      go_ret
      exact ⟨by rw [H.out]; first | rfl | (simp; done), EW.out.trans G4.out⟩
    | true =>
    simp only [Bool.not_true]
    have H : Hid (saneR ⟨1, nm, vr, pt, to_, rl, hs⟩ = 0) := Lib.hid (by unfold saneR; simp [HI.out, H1.out, H2.out, HSH.out, H4.out, h5])
    go_wp2_with fail
    go_ret
    exact ⟨by rw [H.out]; first | rfl | (simp; done), EW.out.trans G4.out⟩
  · have HI : Hid (inB (⟨2, nm, vr, pt, to_, rl, hs⟩ : Rs).kind 3 = true) := Lib.hid (by simp [inB])
    go_enter Tryz.func84, Tryz.ntmps84
    go_wp2_with fail
    have kA := heap_alloc_new w (.cells #[.int .i64 2, .string nm, .int .i64 vr, .int .i64 pt, .string to_, .slice A n c, .slice A' n' c'] 34)
    have EW := Lib.hid (Ext.new w (.cells #[.int .i64 2, .string nm, .int .i64 vr, .int .i64 pt, .string to_, .slice A n c, .slice A' n' c'] 34))
    have hzW : w.heap.size < (w.alloc (.cells #[.int .i64 2, .string nm, .int .i64 vr, .int .i64 pt, .string to_, .slice A n c, .slice A' n' c'] 34)).heap.size := by simp
    generalize w.alloc (.cells #[.int .i64 2, .string nm, .int .i64 vr, .int .i64 pt, .string to_, .slice A n c, .slice A' n' c'] 34) = W at kA EW hzW ⊢
    have Q := Lib.hid (blk_rules kA).1
    clear kA
    have r0 : W.cell? ⟨w.heap.size, 0, none⟩ = some (.int .i64 2) := Q.out 0
    have r1 : W.cell? ⟨w.heap.size, 1, none⟩ = some (.string nm) := Q.out 1
    have r2 : W.cell? ⟨w.heap.size, 2, none⟩ = some (.int .i64 vr) := Q.out 2
    have r3 : W.cell? ⟨w.heap.size, 3, none⟩ = some (.int .i64 pt) := Q.out 3
    have r4 : W.cell? ⟨w.heap.size, 4, none⟩ = some (.string to_) := Q.out 4
    have r5 : W.cell? ⟨w.heap.size, 5, none⟩ = some (.slice A n c) := Q.out 5
    have r6 : W.cell? ⟨w.heap.size, 6, none⟩ = some (.slice A' n' c') := Q.out 6
    refine (refSaneN_any nm _ HV.out.nm).mono ?_
    rintro e w' ⟨rfl, rfl⟩
    cases h1 : saneN (tx nm) with
    | false =>
      have H : Hid (saneR ⟨2, nm, vr, pt, to_, rl, hs⟩ = 5) := Lib.hid (by unfold saneR; simp [HI.out, h1])
      go_wp2_with fail
      go_ret
      exact ⟨by rw [H.out]; first | rfl | (simp; done), EW.out⟩
    | true =>
    have H1 := Lib.hid h1
    clear h1
    go_wp2_with fail
    refine (refBig_any S ⟨2, nm, vr, pt, to_, rl, hs⟩ A A' n c n' c' _ (HV.out.up EW.out)).mono ?_
    rintro e w2 ⟨rfl, hb⟩
    have G2 := Lib.hid hb
    clear hb
    clear r0 r1 r2 r3 r4 r5 r6
    have r0 : w2.cell? ⟨w.heap.size, 0, none⟩ = some (.int .i64 2) := (G2.out.cell hzW).trans (Q.out 0)
    have r1 : w2.cell? ⟨w.heap.size, 1, none⟩ = some (.string nm) := (G2.out.cell hzW).trans (Q.out 1)
    have r2 : w2.cell? ⟨w.heap.size, 2, none⟩ = some (.int .i64 vr) := (G2.out.cell hzW).trans (Q.out 2)
    have r3 : w2.cell? ⟨w.heap.size, 3, none⟩ = some (.int .i64 pt) := (G2.out.cell hzW).trans (Q.out 3)
    have r4 : w2.cell? ⟨w.heap.size, 4, none⟩ = some (.string to_) := (G2.out.cell hzW).trans (Q.out 4)
    have r5 : w2.cell? ⟨w.heap.size, 5, none⟩ = some (.slice A n c) := (G2.out.cell hzW).trans (Q.out 5)
    have r6 : w2.cell? ⟨w.heap.size, 6, none⟩ = some (.slice A' n' c') := (G2.out.cell hzW).trans (Q.out 6)
    cases h2 : smallR ⟨2, nm, vr, pt, to_, rl, hs⟩ with
    | false =>
      have H : Hid (saneR ⟨2, nm, vr, pt, to_, rl, hs⟩ = 3) := Lib.hid (by unfold saneR; simp [HI.out, H1.out, h2])
      go_wp2_with fail
      go_ret
      exact ⟨by rw [H.out]; first | rfl | (simp; done), EW.out.trans G2.out⟩
    | true =>
    have H2 := Lib.hid h2
    clear h2
    simp only [Bool.not_true]
    by_cases g : pt = 0
    rotate_left
    · have HSH : Hid (shapedR ⟨2, nm, vr, pt, to_, rl, hs⟩ = false) := Lib.hid (by simp [shapedR, noPort, noTo, noRules, noHosts, g])
      have hp1 : (pt != 0) = true := by rw [bne_iff_ne]; exact g
      clear g
      have H : Hid (saneR ⟨2, nm, vr, pt, to_, rl, hs⟩ = 2) := Lib.hid (by unfold saneR; simp [HI.out, H1.out, H2.out, HSH.out])
      go_wp2_with fail
      go_ret
      exact ⟨by rw [H.out]; first | rfl | (simp; done), EW.out.trans G2.out⟩
    have g0 := Lib.hid g
    have hp1 : (pt != 0) = false := by rw [g]; rfl
    clear g
    by_cases g : n = 0
    rotate_left
    · have hl0 : ¬ rl = [] := by intro e; rw [e] at hL; exact g hL.symm
      have HSH : Hid (shapedR ⟨2, nm, vr, pt, to_, rl, hs⟩ = false) := Lib.hid (by simp [shapedR, noPort, noTo, noRules, noHosts, hl0])
      have hn0 : (0 : Int) < (n : Int) := by omega
      clear g
      have H : Hid (saneR ⟨2, nm, vr, pt, to_, rl, hs⟩ = 2) := Lib.hid (by unfold saneR; simp [HI.out, H1.out, H2.out, HSH.out])
      go_wp2_with fail
      go_ret
      exact ⟨by rw [H.out]; first | rfl | (simp; done), EW.out.trans G2.out⟩
    obtain rfl : n = 0 := g
    by_cases g : n' = 0
    rotate_left
    · have hl0' : ¬ hs = [] := by intro e; rw [e] at hL'; exact g hL'.symm
      have HSH : Hid (shapedR ⟨2, nm, vr, pt, to_, rl, hs⟩ = false) := Lib.hid (by simp [shapedR, noPort, noTo, noRules, noHosts, hl0'])
      have hn0' : (0 : Int) < (n' : Int) := by omega
      clear g
      have H : Hid (saneR ⟨2, nm, vr, pt, to_, rl, hs⟩ = 2) := Lib.hid (by unfold saneR; simp [HI.out, H1.out, H2.out, HSH.out])
      go_wp2_with fail
      go_ret
      exact ⟨by rw [H.out]; first | rfl | (simp; done), EW.out.trans G2.out⟩
    obtain rfl : n' = 0 := g
    have HSH : Hid (shapedR ⟨2, nm, vr, pt, to_, rl, hs⟩ = true) := Lib.hid (by
      have hl1 : rl = [] := List.eq_nil_of_length_eq_zero (hL)
      have hl2 : hs = [] := List.eq_nil_of_length_eq_zero (hL')
      simp [shapedR, noPort, noTo, noRules, noHosts, g0.out, hl1, hl2])
    go_wp2_with fail
    refine (refNames_any S ⟨2, nm, vr, pt, to_, rl, hs⟩ A A' 0 c 0 c' _ (HV.out.up (EW.out.trans G2.out)) (by constructor <;> simp)).mono ?_
    rintro e w3 ⟨rfl, hb⟩
    have G3 := Lib.hid (G2.out.trans hb)
    clear hb
    clear r0 r1 r2 r3 r4 r5 r6
    have r0 : w3.cell? ⟨w.heap.size, 0, none⟩ = some (.int .i64 2) := (G3.out.cell hzW).trans (Q.out 0)
    have r1 : w3.cell? ⟨w.heap.size, 1, none⟩ = some (.string nm) := (G3.out.cell hzW).trans (Q.out 1)
    have r2 : w3.cell? ⟨w.heap.size, 2, none⟩ = some (.int .i64 vr) := (G3.out.cell hzW).trans (Q.out 2)
    have r3 : w3.cell? ⟨w.heap.size, 3, none⟩ = some (.int .i64 pt) := (G3.out.cell hzW).trans (Q.out 3)
    have r4 : w3.cell? ⟨w.heap.size, 4, none⟩ = some (.string to_) := (G3.out.cell hzW).trans (Q.out 4)
    have r5 : w3.cell? ⟨w.heap.size, 5, none⟩ = some (.slice A 0 c) := (G3.out.cell hzW).trans (Q.out 5)
    have r6 : w3.cell? ⟨w.heap.size, 6, none⟩ = some (.slice A' 0 c') := (G3.out.cell hzW).trans (Q.out 6)
    cases h4 : namedR ⟨2, nm, vr, pt, to_, rl, hs⟩ with
    | false =>
      have H : Hid (saneR ⟨2, nm, vr, pt, to_, rl, hs⟩ = 5) := Lib.hid (by unfold saneR; simp [HI.out, H1.out, H2.out, HSH.out, h4])
      go_wp2_with fail
      go_ret
      exact ⟨by rw [H.out]; first | rfl | (simp; done), EW.out.trans G3.out⟩
    | true =>
    have H4 := Lib.hid h4
    clear h4
    go_wp2_with fail
    refine (refTwice_any S ⟨2, nm, vr, pt, to_, rl, hs⟩ A A' 0 c 0 c' _ (HV.out.up (EW.out.trans G3.out)) ((small_iff _).1 H2.out)).mono ?_
    rintro e w4 ⟨rfl, hb⟩
    have G4 := Lib.hid (G3.out.trans hb)
    clear hb
    clear r0 r1 r2 r3 r4 r5 r6
    cases h5 : singleR ⟨2, nm, vr, pt, to_, rl, hs⟩ with
    | false =>
      have H : Hid (saneR ⟨2, nm, vr, pt, to_, rl, hs⟩ = 2) := Lib.hid (by unfold saneR; simp [HI.out, H1.out, H2.out, HSH.out, H4.out, h5])
      go_wp2_with fail
      go_ret
      exact ⟨by rw [H.out]; first | rfl | (simp; done), EW.out.trans G4.out⟩
    | true =>
    simp only [Bool.not_true]
    have H : Hid (saneR ⟨2, nm, vr, pt, to_, rl, hs⟩ = 0) := Lib.hid (by unfold saneR; simp [HI.out, H1.out, H2.out, HSH.out, H4.out, h5])
    go_wp2_with fail
    go_ret
    exact ⟨by rw [H.out]; first | rfl | (simp; done), EW.out.trans G4.out⟩
  · have HI : Hid (inB (⟨3, nm, vr, pt, to_, rl, hs⟩ : Rs).kind 3 = true) := Lib.hid (by simp [inB])
    go_enter Tryz.func84, Tryz.ntmps84
    go_wp2_with fail
    have kA := heap_alloc_new w (.cells #[.int .i64 3, .string nm, .int .i64 vr, .int .i64 pt, .string to_, .slice A n c, .slice A' n' c'] 34)
    have EW := Lib.hid (Ext.new w (.cells #[.int .i64 3, .string nm, .int .i64 vr, .int .i64 pt, .string to_, .slice A n c, .slice A' n' c'] 34))
    have hzW : w.heap.size < (w.alloc (.cells #[.int .i64 3, .string nm, .int .i64 vr, .int .i64 pt, .string to_, .slice A n c, .slice A' n' c'] 34)).heap.size := by simp
    generalize w.alloc (.cells #[.int .i64 3, .string nm, .int .i64 vr, .int .i64 pt, .string to_, .slice A n c, .slice A' n' c'] 34) = W at kA EW hzW ⊢
    have Q := Lib.hid (blk_rules kA).1
    clear kA
    have r0 : W.cell? ⟨w.heap.size, 0, none⟩ = some (.int .i64 3) := Q.out 0
    have r1 : W.cell? ⟨w.heap.size, 1, none⟩ = some (.string nm) := Q.out 1
    have r2 : W.cell? ⟨w.heap.size, 2, none⟩ = some (.int .i64 vr) := Q.out 2
    have r3 : W.cell? ⟨w.heap.size, 3, none⟩ = some (.int .i64 pt) := Q.out 3
    have r4 : W.cell? ⟨w.heap.size, 4, none⟩ = some (.string to_) := Q.out 4
    have r5 : W.cell? ⟨w.heap.size, 5, none⟩ = some (.slice A n c) := Q.out 5
    have r6 : W.cell? ⟨w.heap.size, 6, none⟩ = some (.slice A' n' c') := Q.out 6
    refine (refSaneN_any nm _ HV.out.nm).mono ?_
    rintro e w' ⟨rfl, rfl⟩
    cases h1 : saneN (tx nm) with
    | false =>
      have H : Hid (saneR ⟨3, nm, vr, pt, to_, rl, hs⟩ = 5) := Lib.hid (by unfold saneR; simp [HI.out, h1])
      go_wp2_with fail
      go_ret
      exact ⟨by rw [H.out]; first | rfl | (simp; done), EW.out⟩
    | true =>
    have H1 := Lib.hid h1
    clear h1
    go_wp2_with fail
    refine (refBig_any S ⟨3, nm, vr, pt, to_, rl, hs⟩ A A' n c n' c' _ (HV.out.up EW.out)).mono ?_
    rintro e w2 ⟨rfl, hb⟩
    have G2 := Lib.hid hb
    clear hb
    clear r0 r1 r2 r3 r4 r5 r6
    have r0 : w2.cell? ⟨w.heap.size, 0, none⟩ = some (.int .i64 3) := (G2.out.cell hzW).trans (Q.out 0)
    have r1 : w2.cell? ⟨w.heap.size, 1, none⟩ = some (.string nm) := (G2.out.cell hzW).trans (Q.out 1)
    have r2 : w2.cell? ⟨w.heap.size, 2, none⟩ = some (.int .i64 vr) := (G2.out.cell hzW).trans (Q.out 2)
    have r3 : w2.cell? ⟨w.heap.size, 3, none⟩ = some (.int .i64 pt) := (G2.out.cell hzW).trans (Q.out 3)
    have r4 : w2.cell? ⟨w.heap.size, 4, none⟩ = some (.string to_) := (G2.out.cell hzW).trans (Q.out 4)
    have r5 : w2.cell? ⟨w.heap.size, 5, none⟩ = some (.slice A n c) := (G2.out.cell hzW).trans (Q.out 5)
    have r6 : w2.cell? ⟨w.heap.size, 6, none⟩ = some (.slice A' n' c') := (G2.out.cell hzW).trans (Q.out 6)
    cases h2 : smallR ⟨3, nm, vr, pt, to_, rl, hs⟩ with
    | false =>
      have H : Hid (saneR ⟨3, nm, vr, pt, to_, rl, hs⟩ = 3) := Lib.hid (by unfold saneR; simp [HI.out, H1.out, h2])
      go_wp2_with fail
      go_ret
      exact ⟨by rw [H.out]; first | rfl | (simp; done), EW.out.trans G2.out⟩
    | true =>
    have H2 := Lib.hid h2
    clear h2
    simp only [Bool.not_true]
    by_cases g : pt = 0
    rotate_left
    · have HSH : Hid (shapedR ⟨3, nm, vr, pt, to_, rl, hs⟩ = false) := Lib.hid (by simp [shapedR, noPort, noTo, noRules, noHosts, g])
      have hp1 : (pt != 0) = true := by rw [bne_iff_ne]; exact g
      clear g
      have H : Hid (saneR ⟨3, nm, vr, pt, to_, rl, hs⟩ = 2) := Lib.hid (by unfold saneR; simp [HI.out, H1.out, H2.out, HSH.out])
      go_wp2_with fail
      go_ret
      exact ⟨by rw [H.out]; first | rfl | (simp; done), EW.out.trans G2.out⟩
    have g0 := Lib.hid g
    have hp1 : (pt != 0) = false := by rw [g]; rfl
    clear g
    by_cases g : to_.size = 0
    rotate_left
    · have HSH : Hid (shapedR ⟨3, nm, vr, pt, to_, rl, hs⟩ = false) := Lib.hid (by simp [shapedR, noPort, noTo, noRules, noHosts, g])
      obtain ⟨ht1, ht2⟩ := emp_not g
      clear g
      have H : Hid (saneR ⟨3, nm, vr, pt, to_, rl, hs⟩ = 2) := Lib.hid (by unfold saneR; simp [HI.out, H1.out, H2.out, HSH.out])
      go_wp2_with fail
      go_ret
      exact ⟨by rw [H.out]; first | rfl | (simp; done), EW.out.trans G2.out⟩
    have g1 := Lib.hid g
    obtain ⟨ht1, ht2⟩ := emp_of g
    clear g
    by_cases g : n = 0
    rotate_left
    · have hl0 : ¬ rl = [] := by intro e; rw [e] at hL; exact g hL.symm
      have HSH : Hid (shapedR ⟨3, nm, vr, pt, to_, rl, hs⟩ = false) := Lib.hid (by simp [shapedR, noPort, noTo, noRules, noHosts, hl0])
      have hn0 : (0 : Int) < (n : Int) := by omega
      clear g
      have H : Hid (saneR ⟨3, nm, vr, pt, to_, rl, hs⟩ = 2) := Lib.hid (by unfold saneR; simp [HI.out, H1.out, H2.out, HSH.out])
      go_wp2_with fail
      go_ret
      exact ⟨by rw [H.out]; first | rfl | (simp; done), EW.out.trans G2.out⟩
    obtain rfl : n = 0 := g
    have HSH : Hid (shapedR ⟨3, nm, vr, pt, to_, rl, hs⟩ = true) := Lib.hid (by
      have hl2 : rl = [] := List.eq_nil_of_length_eq_zero (hL)
      simp [shapedR, noPort, noTo, noRules, noHosts, g0.out, g1.out, hl2])
    go_wp2_with fail
    refine (refNames_any S ⟨3, nm, vr, pt, to_, rl, hs⟩ A A' 0 c n' c' _ (HV.out.up (EW.out.trans G2.out)) (by constructor <;> simp)).mono ?_
    rintro e w3 ⟨rfl, hb⟩
    have G3 := Lib.hid (G2.out.trans hb)
    clear hb
    clear r0 r1 r2 r3 r4 r5 r6
    have r0 : w3.cell? ⟨w.heap.size, 0, none⟩ = some (.int .i64 3) := (G3.out.cell hzW).trans (Q.out 0)
    have r1 : w3.cell? ⟨w.heap.size, 1, none⟩ = some (.string nm) := (G3.out.cell hzW).trans (Q.out 1)
    have r2 : w3.cell? ⟨w.heap.size, 2, none⟩ = some (.int .i64 vr) := (G3.out.cell hzW).trans (Q.out 2)
    have r3 : w3.cell? ⟨w.heap.size, 3, none⟩ = some (.int .i64 pt) := (G3.out.cell hzW).trans (Q.out 3)
    have r4 : w3.cell? ⟨w.heap.size, 4, none⟩ = some (.string to_) := (G3.out.cell hzW).trans (Q.out 4)
    have r5 : w3.cell? ⟨w.heap.size, 5, none⟩ = some (.slice A 0 c) := (G3.out.cell hzW).trans (Q.out 5)
    have r6 : w3.cell? ⟨w.heap.size, 6, none⟩ = some (.slice A' n' c') := (G3.out.cell hzW).trans (Q.out 6)
    cases h4 : namedR ⟨3, nm, vr, pt, to_, rl, hs⟩ with
    | false =>
      have H : Hid (saneR ⟨3, nm, vr, pt, to_, rl, hs⟩ = 5) := Lib.hid (by unfold saneR; simp [HI.out, H1.out, H2.out, HSH.out, h4])
      go_wp2_with fail
      go_ret
      exact ⟨by rw [H.out]; first | rfl | (simp; done), EW.out.trans G3.out⟩
    | true =>
    have H4 := Lib.hid h4
    clear h4
    go_wp2_with fail
    refine (refTwice_any S ⟨3, nm, vr, pt, to_, rl, hs⟩ A A' 0 c n' c' _ (HV.out.up (EW.out.trans G3.out)) ((small_iff _).1 H2.out)).mono ?_
    rintro e w4 ⟨rfl, hb⟩
    have G4 := Lib.hid (G3.out.trans hb)
    clear hb
    clear r0 r1 r2 r3 r4 r5 r6
    cases h5 : singleR ⟨3, nm, vr, pt, to_, rl, hs⟩ with
    | false =>
      have H : Hid (saneR ⟨3, nm, vr, pt, to_, rl, hs⟩ = 2) := Lib.hid (by unfold saneR; simp [HI.out, H1.out, H2.out, HSH.out, H4.out, h5])
      go_wp2_with fail
      go_ret
      exact ⟨by rw [H.out]; first | rfl | (simp; done), EW.out.trans G4.out⟩
    | true =>
    simp only [Bool.not_true]
    have H : Hid (saneR ⟨3, nm, vr, pt, to_, rl, hs⟩ = 0) := Lib.hid (by unfold saneR; simp [HI.out, H1.out, H2.out, HSH.out, H4.out, h5])
    go_wp2_with fail
    go_ret
    exact ⟨by rw [H.out]; first | rfl | (simp; done), EW.out.trans G4.out⟩
end Go.Proofs.YtfdjbnofcniodaaGreatDoor
