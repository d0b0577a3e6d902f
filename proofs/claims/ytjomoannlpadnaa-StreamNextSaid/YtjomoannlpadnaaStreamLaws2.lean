/- The law StreamNext: its walk. -/
import Derived.Test.YtjomoannlpadnaaStreamLaw
import Derived.Outline
namespace Go.Proofs.Ytjomoannlpadnaa
set_option linter.unusedVariables false
open Go.RowKit
attribute [local go_sem ↓] run_max2 run_min2

set_option maxRecDepth 100000 in
set_option maxHeartbeats 400000 in
theorem streamNext_long (A Ab : Option Addr) (n c nb cb : Nat) (w : World) (h : 1000 < n ∨ 300 < nb) : Calls Try.prog 21 #[.slice A n c, .slice Ab nb cb] w fun e w' => e = .returned (.bool true) ∧ Ext w w' := by
  by_cases h1 : 1000 < n
  · go_enter Try.func21, Try.ntmps21
    go_wp2_with fail
    refine (awake11 _).mono ?_
    rintro e w1 ⟨rfl, hb1⟩
    go_wp2_with fail
    go_ret
    exact ⟨rfl, hb1⟩
  · have h2 : 300 < nb := by omega
    clear h
    go_enter Try.func21, Try.ntmps21
    go_wp2_with fail
    refine (awake11 _).mono ?_
    rintro e w1 ⟨rfl, hb1⟩
    go_wp2_with fail
    go_ret
    exact ⟨rfl, hb1⟩

set_option maxRecDepth 100000 in
set_option maxHeartbeats 2000000 in
theorem streamNext_any (A Ab : Option Addr) (n c nb cb : Nat) (bs ms : List UInt8) (w : World) (hA : Byts w A n bs) (hc : A = none → c = 0) (hnc : n ≤ c) (hcm : c ≤ 9223372036854775807) (hB : Byts w Ab nb ms) (hcb : Ab = none → cb = 0) (hn : n ≤ 1000) (hnb : nb ≤ 300) :
    Calls Try.prog 21 #[.slice A n c, .slice Ab nb cb] w fun e w' => e = .returned (.bool true) ∧ Ext w w' := by
  have HA := Lib.hid hA
  have HB := Lib.hid hB
  clear hA hB
  have hn' : ¬ 1000 < n := by omega
  have hnb' : ¬ 300 < nb := by omega
  go_enter Try.func21, Try.ntmps21
  go_wp2_with fail
  refine (awake11 _).mono ?_
  rintro e w1 ⟨rfl, hb1⟩
  have E1 := Lib.hid hb1
  clear hb1
  go_wp2_with fail
  refine (next_any A n c bs _ (ArrR.up HA.out E1.out) hc hnc hcm).mono ?_
  rintro e w2 ⟨A2, n2, c2, rfl, h8, hb2⟩
  have H8 := Lib.hid h8
  have E2 := Lib.hid (E1.out.trans hb2)
  have hE := own_empty_lit w2 w2.heap.size 5 1 (Nat.le_refl _)
  have HZ : Hid (w2.heap.size ≤ (w2.alloc (.cells #[] 5)).heap.size) := Lib.hid (by simp)
  clear h8 hb2
  go_wp2_with (first
    | (at_builtin
       obtain ⟨v4, w4, hrun4, hown4, hg4, _⟩ := run_append_flat elem_byte 42 hown3 cb (ArrR.flat (f := byteV) (ArrR.up HB.out (E2.out.trans E3.out))) (byteV_one ms) (by omega) (by omega) E3.out.size hcb
       have E4 := Lib.hid (E3.out.grown hg4 hown3 (Nat.le_refl _))
       rw [← List.map_append] at hown4
       obtain ⟨A4, c4, rfl, h84⟩ := Own8.of_own hown4
       refine Lib.wpList_append_run _ rfl _ _ _ _ rfl _ _ rfl rfl _ w4 hrun4 ?_
       clear hrun4 hown4 hg4)
    | (at_builtin
       obtain ⟨v3, w3, hrun, hown3, hg3, _⟩ := run_append_flat elem_byte 42 hE c (ArrR.flat (f := byteV) (ArrR.up HA.out (E2.out.trans (Ext.new _ _)))) (byteV_one bs) (by omega) (by omega) HZ.out hc
       rw [List.nil_append, Nat.zero_add] at hown3
       have E3 := Lib.hid ((Ext.new w2 _).grown hg3 hE (Nat.le_refl _))
       refine Lib.wpList_append_run _ rfl _ _ _ _ rfl _ _ rfl rfl v3 w3 hrun ?_
       clear hrun hg3))
  have H84 := Lib.hid h84
  clear h84
  refine (next_any A4 (n + nb) c4 (bs ++ ms) _ H84.out.2.2.2.1 H84.out.1 H84.out.2.1 H84.out.2.2.1).mono ?_
  rintro e w5 ⟨A5, n5, c5, rfl, h85, hb5⟩
  have E5 := Lib.hid (E4.out.trans hb5)
  have hl2 := H8.out.2.2.2.1.len
  have hl5 := h85.2.2.2.1.len
  have H85 := Lib.hid h85
  clear h85 hb5 hE
  have hnm := next_more (bs := bs) ms
  rcases next_cases bs with ⟨er, he, _, hN⟩ | ⟨m, k, _, _, _, _, _, _, ⟨_, hN⟩ | ⟨hl, hN⟩⟩
  · by_cases h1 : er = 1
    · subst h1
      rw [hN] at hl2 ⊢
      obtain rfl : n2 = 0 := by simpa using hl2.symm
      clear hnm hN he hl2 hl5
      go_wp2_with fail
      go_ret
      exact ⟨rfl, E2.out.trans E5.out⟩
    · have hnm' := hnm (by rw [hN]; exact h1)
      rw [hnm', hN] at hl5
      rw [hnm', hN]
      obtain rfl : n5 = 0 := by simpa using hl5.symm
      have hb1 : (er == 1) = false := by simpa using h1
      have hb0 : (er != 0) = true := by rcases he with rfl | rfl | rfl <;> decide
      clear hnm hnm' hN he h1 hl2 hl5
      go_wp2_with fail
      go_ret
      exact ⟨rfl, E2.out.trans E5.out⟩
  · rw [hN] at hl2 ⊢
    obtain rfl : n2 = 0 := by simpa using hl2.symm
    clear hnm hN hl2 hl5
    go_wp2_with fail
    go_ret
    exact ⟨rfl, E2.out.trans E5.out⟩
  · have hnm' := hnm (by rw [hN]; simp)
    have hw := next_wrapped hN
    obtain ⟨p, hp⟩ : ∃ p, p = (bs.drop k).take m := ⟨_, rfl⟩
    obtain ⟨N, hNN⟩ : ∃ N, N = k + m := ⟨_, rfl⟩
    rw [← hp, ← hNN] at hN hw
    rw [HA.out.len] at hw
    have hB2 := H8.out
    have hB5 := H85.out
    rw [hN] at hB2
    rw [hnm', hN] at hB5
    rw [hnm', hN]
    simp only [] at hB2 hB5 ⊢
    have HB2 := Lib.hid hB2
    have HB5 := Lib.hid hB5
    have HW := Lib.hid hw.2.1
    have HWr : Hid (wrap8 p = (bs.take N, 0)) := Lib.hid (by unfold wrap8; rw [if_neg (by omega), hw.2.1])
    have hNn : N ≤ n := hw.2.2
    clear hnm hnm' hN hw hp hNN hl hl2 hl5 hB2 hB5
    go_wp2_with fail
    refine (wrap_any A2 n2 c2 p _ (ArrR.up HB2.out.2.2.2.1 E5.out) HB2.out.1).mono ?_
    rintro e w6 ⟨A6, n6, c6, rfl, h86, hb6⟩
    rw [HWr.out] at h86 ⊢
    simp only [] at h86 ⊢
    have i0 : (0 : Int) ≤ (N : Int) := by omega
    have i1 : (N : Int) ≤ (n : Int) := by omega
    have i2 : (N : Int) ≤ (c : Int) := by omega
    have i3 : (n : Int) ≤ (c : Int) := by omega
    have g1 : ∀ nq, (convert 42 9 (.slice A6 n6 c6)).run Try.prog (w6.drewN nq) = .ok (.string (bstr (bs.take N))) (w6.drewN nq) := fun nq => conv11 (ArrR.up h86.2.2.2.1 ((Ext.refl _).drewN nq)) c6
    have g2 : ∀ nq, (convert 42 9 (.slice A N c)).run Try.prog (w6.drewN nq) = .ok (.string (bstr (bs.take N))) (w6.drewN nq) := fun nq => conv11 (byts_take (ArrR.up HA.out (((E2.out.trans E5.out).trans hb6).drewN nq)) hNn) c
    have g3 : ∀ nq, (convert 42 9 (.slice A2 n2 c2)).run Try.prog (w6.drewN nq) = .ok (.string (bstr p)) (w6.drewN nq) := fun nq => conv11 (ArrR.up HB2.out.2.2.2.1 ((E5.out.trans hb6).drewN nq)) c2
    have g4 : ∀ nq, (convert 42 9 (.slice A5 n5 c5)).run Try.prog (w6.drewN nq) = .ok (.string (bstr p)) (w6.drewN nq) := fun nq => conv11 (ArrR.up HB5.out.2.2.2.1 (hb6.drewN nq)) c5
    have HX := Lib.hid ((E2.out.trans E5.out).trans hb6)
    clear h86 hb6
    go_wp2_with fail
    go_quiet (fail)
    go_wp2_with fail
    go_ret
    exact ⟨rfl, HX.out.drewN _⟩
end Go.Proofs.Ytjomoannlpadnaa
