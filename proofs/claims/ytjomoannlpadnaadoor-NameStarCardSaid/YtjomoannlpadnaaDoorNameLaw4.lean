/- The laws of layer 1: NameStar, NamePaths. -/
import Derived.Test.YtjomoannlpadnaaDoorNameLaw3
namespace Go.Proofs.YtjomoannlpadnaaDoor
set_option linter.unusedVariables false
open Go.RowKit Go.Lib

theorem dec_int (n : Nat) : decide (n ≤ 40) = decide ((n : Int) ≤ 40) := by rw [Bool.eq_iff_iff]; simp only [decide_eq_true_eq]; omega
theorem tx_app (a b : ByteArray) : tx (a ++ b) = tx a ++ tx b := by unfold tx; rw [ByteArray.data_append, Array.toList_append]
theorem size_app (a b : ByteArray) : (a ++ b).size = a.size + b.size := by rw [← tx_len, tx_app, List.length_append, tx_len, tx_len]
theorem last_byte {s : ByteArray} (h : s.size - 1 < s.size) : (tx s).getLast? = some (s[s.size - 1]'h) := by
  rw [List.getLast?_eq_getElem?, tx_len]; exact byte_at h
theorem last_eq {s : ByteArray} (h : s.size - 1 < s.size) {b : Bool} (hb : decide ((tx s).getLast? = some 47) = b) : (((s[s.size - 1]'h).toNat : Int) == 47) = b := by
  rw [last_byte h] at hb
  subst hb
  rw [Bool.eq_iff_iff, beq_iff_eq]
  simp only [Option.some.injEq, decide_eq_true_eq]
  constructor
  · rintro h1; exact UInt8.toNat_inj.1 (by have : (s[s.size - 1]'h).toNat = 47 := by omega
                                           rw [this]; rfl)
  · rintro h1; rw [h1]; rfl
theorem head_eq {s : ByteArray} (h : 0 < s.size) {b : Bool} (hb : decide ((tx s).head? = some 42) = b) : (((s[0]'h).toNat : Int) == 42) = b := by
  have h1 := head_ne h hb
  rw [bne] at h1
  cases b <;> simpa using h1
set_option maxHeartbeats 3200000 in
theorem namePaths_any (p s : ByteArray) (w : World) (hp : p.size ≤ maxLen) (hs : s.size ≤ maxLen) : Calls Tryd.prog 6 #[.string p, .string s] w fun e w' => e = .returned (.bool true) ∧ Ext w w' := by
  have hp' := hp
  have hs' := hs
  unfold maxLen at hp' hs'
  by_cases hl : 100 < p.size ∨ 100 < s.size
  · rcases (show 100 < p.size ∨ (¬ 100 < p.size ∧ 100 < s.size) by omega) with h | ⟨h, h2⟩ <;>
    · clear hl
      go_enter Tryd.func6, Tryd.ntmps6
      go_wp2_with fail
      refine (awake01 _).mono ?_
      rintro e w1 ⟨rfl, x1⟩
      go_wp2_with fail
      go_ret
      exact ⟨rfl, x1⟩
  have q1 : ¬ 100 < p.size := fun h => hl (.inl h)
  have q2 : ¬ 100 < s.size := fun h => hl (.inr h)
  clear hl
  cases g1 : pathB (tx p) with
  | false =>
    go_enter Tryd.func6, Tryd.ntmps6
    go_wp2_with fail
    refine (awake01 _).mono ?_
    rintro e w1 ⟨rfl, x1⟩
    go_wp2_with fail
    refine (path_any p _ hp).mono ?_
    rintro e w2 ⟨rfl, x2⟩
    rw [g1]
    go_wp2_with fail
    go_ret
    exact ⟨rfl, (x1.trans x2)⟩
  | true =>
    cases g2 : saneN (tx s) with
    | false =>
      go_enter Tryd.func6, Tryd.ntmps6
      go_wp2_with fail
      refine (awake01 _).mono ?_
      rintro e w1 ⟨rfl, x1⟩
      go_wp2_with fail
      refine (path_any p _ hp).mono ?_
      rintro e w2 ⟨rfl, x2⟩
      rw [g1]
      go_wp2_with fail
      refine (sane_any s _ hs).mono ?_
      rintro e w3 ⟨rfl, x3⟩
      rw [g2]
      go_wp2_with fail
      go_ret
      exact ⟨rfl, ((x1.trans x2).trans x3)⟩
    | true =>
      have pz : p.size - 1 < p.size := by
        obtain ⟨r, e⟩ := path_cons g1
        have := congrArg List.length e
        rw [tx_len] at this; simp at this; omega
      have U1 := Lib.hid (under_more g1 g2)
      have U2 := Lib.hid (under_bare g1 g2)
      have ZA : Hid ((p ++ ⟨#[47]⟩ ++ s).size = p.size + 1 + s.size) := Lib.hid (by rw [size_app, size_app]; rfl)
      have ZB : Hid ((p ++ s).size = p.size + s.size) := Lib.hid (size_app _ _)
      have TA : Hid (tx (p ++ ⟨#[47]⟩ ++ s) = tx p ++ 47 :: tx s) := Lib.hid (by rw [tx_app, tx_app, List.append_assoc]; rfl)
      have TB : Hid (tx (p ++ s) = tx p ++ tx s) := Lib.hid (tx_app _ _)
      go_enter Tryd.func6, Tryd.ntmps6
      go_wp2_with fail
      refine (awake01 _).mono ?_
      rintro e w1 ⟨rfl, x1⟩
      go_wp2_with fail
      refine (path_any p _ hp).mono ?_
      rintro e w2 ⟨rfl, x2⟩
      rw [g1]
      go_wp2_with fail
      refine (sane_any s _ hs).mono ?_
      rintro e w3 ⟨rfl, x3⟩
      rw [g2]
      go_wp2_with fail
      obtain ⟨A, hA⟩ : ∃ A, p ++ ⟨#[47]⟩ ++ s = A := ⟨_, rfl⟩
      obtain ⟨B, hB⟩ : ∃ B, p ++ s = B := ⟨_, rfl⟩
      rw [hA] at ZA TA ⊢
      rw [hB] at ZB TB
      have za := ZA.out
      have zb := ZB.out
      have u1 : underB (tx p) (tx A) = decide ((A.size : Int) ≤ 40) := by rw [TA.out, U1.out, ← TA.out, tx_len]; exact dec_int _
      have u2 : underB (tx p) (tx B) = (decide ((B.size : Int) ≤ 40) && decide ((tx p).getLast? = some 47)) := by rw [TB.out, U2.out, ← TB.out, tx_len, dec_int]
      have HA := Lib.hid hA
      have HB := Lib.hid hB
      have UU2 := Lib.hid u2
      have UU1 := Lib.hid u1
      have hAm : A.size ≤ maxLen := by unfold maxLen; omega
      have hBm : B.size ≤ maxLen := by unfold maxLen; omega
      have hAm' := hAm
      unfold maxLen at hAm'
      clear za zb u1 u2 hA hB
      refine (under_any p A _ hp hAm).mono ?_
      rintro e w4 ⟨rfl, x4⟩
      cases ca : decide ((A.size : Int) ≤ 40) <;>
      · rw [UU1.out, ca]
        go_wp2_with fail
        rw [HB.out]
        refine (under_any p B _ hp hBm).mono ?_
        rintro e w5 ⟨rfl, x5⟩
        cases cl : decide ((tx p).getLast? = some 47) <;> cases cb : decide ((B.size : Int) ≤ 40) <;>
        · have v2 := UU2.out
          have lb := last_eq pz cl
          rw [cl, cb] at v2
          simp only [Bool.true_and, Bool.false_and] at v2
          have HCL := Lib.hid cl
          clear cl
          rw [v2]
          clear v2
          go_wp2_with fail
          go_ret
          exact ⟨rfl, (((x1.trans x2).trans x3).trans x4).trans x5⟩
set_option maxHeartbeats 3200000 in
theorem nameStar_any (h s : ByteArray) (w : World) (hh : h.size ≤ maxLen) (hs : s.size ≤ maxLen) : Calls Tryd.prog 5 #[.string h, .string s] w fun e w' => e = .returned (.bool true) ∧ Ext w w' := by
  have hh' := hh
  have hs' := hs
  unfold maxLen at hh' hs'
  by_cases hl : 100 < h.size ∨ 100 < s.size
  · rcases (show 100 < h.size ∨ (¬ 100 < h.size ∧ 100 < s.size) by omega) with h | ⟨h, h2⟩ <;>
    · clear hl
      go_enter Tryd.func5, Tryd.ntmps5
      go_wp2_with fail
      refine (awake01 _).mono ?_
      rintro e w1 ⟨rfl, x1⟩
      go_wp2_with fail
      go_ret
      exact ⟨rfl, x1⟩
  have q1 : ¬ 100 < h.size := fun h => hl (.inl h)
  have q2 : ¬ 100 < s.size := fun h => hl (.inr h)
  clear hl
  cases g1 : hostB (tx h) with
  | false =>
    go_enter Tryd.func5, Tryd.ntmps5
    go_wp2_with fail
    refine (awake01 _).mono ?_
    rintro e w1 ⟨rfl, x1⟩
    go_wp2_with fail
    refine (host_any h _ hh).mono ?_
    rintro e w2 ⟨rfl, x2⟩
    rw [g1]
    go_wp2_with fail
    go_ret
    exact ⟨rfl, (x1.trans x2)⟩
  | true =>
    have hz := host_pos g1
    cases g0 : decide ((tx h).head? = some 42) with
    | true =>
      have hb := head_eq hz g0
      have HG := Lib.hid g0
      clear g0
      go_enter Tryd.func5, Tryd.ntmps5
      go_wp2_with fail
      refine (awake01 _).mono ?_
      rintro e w1 ⟨rfl, x1⟩
      go_wp2_with fail
      refine (host_any h _ hh).mono ?_
      rintro e w2 ⟨rfl, x2⟩
      rw [g1]
      go_wp2_with fail
      go_ret
      exact ⟨rfl, (x1.trans x2)⟩
    | false =>
      have hb := head_eq hz g0
      have HG := Lib.hid (of_decide_eq_false g0)
      clear g0
      cases g2 : saneN (tx s) with
      | false =>
        go_enter Tryd.func5, Tryd.ntmps5
        go_wp2_with fail
        refine (awake01 _).mono ?_
        rintro e w1 ⟨rfl, x1⟩
        go_wp2_with fail
        refine (host_any h _ hh).mono ?_
        rintro e w2 ⟨rfl, x2⟩
        rw [g1]
        go_wp2_with fail
        refine (sane_any s _ hs).mono ?_
        rintro e w3 ⟨rfl, x3⟩
        rw [g2]
        go_wp2_with fail
        go_ret
        exact ⟨rfl, ((x1.trans x2).trans x3)⟩
      | true =>
        have hn := (host_plain g1 HG.out).2.1
        have U1 := Lib.hid (star_no HG.out)
        have U2 := Lib.hid (star_yes g2 hn)
        have U3 := Lib.hid (long_host g2 hn)
        have ZA : Hid ((s ++ ⟨#[46]⟩ ++ h).size = s.size + 1 + h.size) := Lib.hid (by rw [size_app, size_app]; rfl)
        have ZB : Hid ((⟨#[42, 46]⟩ ++ h : ByteArray).size = 2 + h.size) := Lib.hid (size_app _ _)
        have TA : Hid (tx (s ++ ⟨#[46]⟩ ++ h) = tx s ++ 46 :: tx h) := Lib.hid (by rw [tx_app, tx_app, List.append_assoc]; rfl)
        have TB : Hid (tx (⟨#[42, 46]⟩ ++ h) = 42 :: 46 :: tx h) := Lib.hid (tx_app _ _)
        clear hn
        go_enter Tryd.func5, Tryd.ntmps5
        go_wp2_with fail
        refine (awake01 _).mono ?_
        rintro e w1 ⟨rfl, x1⟩
        go_wp2_with fail
        refine (host_any h _ hh).mono ?_
        rintro e w2 ⟨rfl, x2⟩
        rw [g1]
        go_wp2_with fail
        refine (sane_any s _ hs).mono ?_
        rintro e w3 ⟨rfl, x3⟩
        rw [g2]
        go_wp2_with fail
        obtain ⟨A, hA⟩ : ∃ A, s ++ ⟨#[46]⟩ ++ h = A := ⟨_, rfl⟩
        obtain ⟨B, hB⟩ : ∃ B : ByteArray, ⟨#[42, 46]⟩ ++ h = B := ⟨_, rfl⟩
        rw [hA] at ZA TA
        rw [hB] at ZB TB ⊢
        have za := ZA.out
        have zb := ZB.out
        have UU1 : Hid (matchB (tx B) (tx h) = false) := Lib.hid (by rw [TB.out, U1.out])
        have UU2 : Hid (matchB (tx B) (tx A) = (decide ((A.size : Int) ≤ 40) && decide ((B.size : Int) ≤ 40))) := Lib.hid (by rw [TA.out, TB.out, U2.out, ← TA.out, ← TB.out, tx_len, tx_len, dec_int, dec_int])
        have UU3 : Hid (hostB (tx A) = decide ((A.size : Int) ≤ 40)) := Lib.hid (by rw [TA.out, U3.out, ← TA.out, tx_len, dec_int])
        have HA := Lib.hid hA
        have hAm : A.size ≤ maxLen := by unfold maxLen; omega
        have hBm : B.size ≤ maxLen := by unfold maxLen; omega
        clear za zb hA hB
        refine (matches_any B h _ hBm hh).mono ?_
        rintro e w4 ⟨rfl, x4⟩
        rw [UU1.out]
        go_wp2_with fail
        rw [HA.out]
        refine (matches_any B A _ hBm hAm).mono ?_
        rintro e w5 ⟨rfl, x5⟩
        cases ca : decide ((A.size : Int) ≤ 40) <;> cases cb : decide ((B.size : Int) ≤ 40) <;>
        · rw [UU2.out, ca, cb]
          simp only [Bool.true_and, Bool.false_and]
          go_wp2_with fail
          refine (host_any A _ hAm).mono ?_
          rintro e w6 ⟨rfl, x6⟩
          rw [UU3.out, ca]
          go_wp2_with fail
          go_ret
          exact ⟨rfl, ((((x1.trans x2).trans x3).trans x4).trans x5).trans x6⟩
end Go.Proofs.YtjomoannlpadnaaDoor
