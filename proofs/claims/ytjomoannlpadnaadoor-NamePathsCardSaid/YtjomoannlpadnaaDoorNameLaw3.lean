/- The laws of layer 1: NameMatches. -/
import Derived.Test.YtjomoannlpadnaaDoorNameLaw
namespace Go.Proofs.YtjomoannlpadnaaDoor
set_option linter.unusedVariables false
open Go.RowKit Go.Lib

theorem head_byte {s : ByteArray} (h : 0 < s.size) : (tx s).head? = some (s[0]'h) := by rw [List.head?_eq_getElem?]; exact byte_at h
theorem head_ne {s : ByteArray} (h : 0 < s.size) {b : Bool} (hb : decide ((tx s).head? = some 42) = b) : (((s[0]'h).toNat : Int) != 42) = !b := by
  rw [head_byte h] at hb
  subst hb
  rw [Bool.eq_iff_iff, bne_iff_ne]
  simp only [Option.some.injEq, Bool.not_eq_true', decide_eq_false_iff_not, ne_eq]
  constructor
  · rintro h1 h2; rw [h2] at h1; exact h1 rfl
  · rintro h1 h2; exact h1 (UInt8.toNat_inj.1 (by have : (s[0]'h).toNat = 42 := by omega
                                                  rw [this]; rfl))
theorem host_pos {s : ByteArray} (h : hostB (tx s) = true) : 0 < s.size := by
  obtain ⟨c, r, e⟩ := host_ne h
  rw [← tx_len, e]; simp
set_option maxHeartbeats 3200000 in
theorem nameMatches_any (p h : ByteArray) (w : World) (hp : p.size ≤ maxLen) (hh : h.size ≤ maxLen) : Calls Tryd.prog 3 #[.string p, .string h] w fun e w' => e = .returned (.bool true) ∧ Ext w w' := by
  have hp' := hp
  have hh' := hh
  unfold maxLen at hp' hh'
  by_cases hl : 200 < p.size ∨ 200 < h.size
  · rcases (show 200 < p.size ∨ (¬ 200 < p.size ∧ 200 < h.size) by omega) with h | ⟨h, h2⟩ <;>
    · clear hl
      go_enter Tryd.func3, Tryd.ntmps3
      go_wp2_with fail
      refine (awake01 _).mono ?_
      rintro e w1 ⟨rfl, x1⟩
      go_wp2_with fail
      go_ret
      exact ⟨rfl, x1⟩
  have q1 : ¬ 200 < p.size := fun h => hl (.inl h)
  have q2 : ¬ 200 < h.size := fun h => hl (.inr h)
  clear hl
  have LS := lit_len (l := [42]) (by decide)
  cases g1 : hostB (tx h) with
  | false =>
    have m1 : matchB (tx p) (tx h) = false := by unfold matchB; rw [g1]; simp
    go_enter Tryd.func3, Tryd.ntmps3
    go_wp2_with fail
    refine (awake01 _).mono ?_
    rintro e w1 ⟨rfl, x1⟩
    go_wp2_with fail
    refine (matches_any p h _ hp hh).mono ?_
    rintro e w2 ⟨rfl, x2⟩
    rw [m1]
    go_wp2_with fail
    refine (host_any h _ hh).mono ?_
    rintro e w3 ⟨rfl, x3⟩
    rw [g1]
    go_wp2_with fail
    go_ret
    exact ⟨rfl, ((x1.trans x2).trans x3)⟩
  | true =>
    cases g2 : hostB (tx p) with
    | false =>
      have m1 : matchB (tx p) (tx h) = false := by unfold matchB; rw [g2]; simp
      go_enter Tryd.func3, Tryd.ntmps3
      go_wp2_with fail
      refine (awake01 _).mono ?_
      rintro e w1 ⟨rfl, x1⟩
      go_wp2_with fail
      refine (matches_any p h _ hp hh).mono ?_
      rintro e w2 ⟨rfl, x2⟩
      rw [m1]
      go_wp2_with fail
      refine (host_any h _ hh).mono ?_
      rintro e w3 ⟨rfl, x3⟩
      rw [g1]
      go_wp2_with fail
      refine (host_any p _ hp).mono ?_
      rintro e w4 ⟨rfl, x4⟩
      rw [g2]
      go_wp2_with fail
      go_ret
      exact ⟨rfl, (((x1.trans x2).trans x3).trans x4)⟩
    | true =>
      have hz := host_pos g1
      have pz := host_pos g2
      cases hs : decide ((tx h).head? = some 42) with
      | true =>
        have m1 : matchB (tx p) (tx h) = false := by
          unfold matchB; rw [decide_eq_false (p := (tx h).head? ≠ some 42) (fun h => h (of_decide_eq_true hs))]; simp
        have hb := head_ne hz hs
        have HS := Lib.hid hs
        clear hs
        go_enter Tryd.func3, Tryd.ntmps3
        go_wp2_with fail
        refine (awake01 _).mono ?_
        rintro e w1 ⟨rfl, x1⟩
        go_wp2_with fail
        refine (matches_any p h _ hp hh).mono ?_
        rintro e w2 ⟨rfl, x2⟩
        rw [m1]
        go_wp2_with fail
        refine (host_any h _ hh).mono ?_
        rintro e w3 ⟨rfl, x3⟩
        rw [g1]
        go_wp2_with fail
        refine (host_any p _ hp).mono ?_
        rintro e w4 ⟨rfl, x4⟩
        rw [g2]
        go_wp2_with fail
        go_ret
        exact ⟨rfl, (((x1.trans x2).trans x3).trans x4)⟩
      | false =>
        have hsn : (tx h).head? ≠ some 42 := of_decide_eq_false hs
        have hb := head_ne hz hs
        have HS := Lib.hid hs
        have m2 : matchB (tx ⟨#[42]⟩) (tx h) = true := match_star g1 hsn
        have m3 : matchB (tx h) (tx h) = true := match_self g1 hsn
        have HM := Lib.hid hsn
        clear hs hsn
        cases ps : decide ((tx p).head? = some 42) with
        | false =>
          have pb := head_ne pz ps
          by_cases hq : tx p = tx h
          · have m1 : matchB (tx p) (tx h) = true := by rw [match_plain g2 g1 HM.out (of_decide_eq_false ps)]; exact decide_eq_true hq
            have hqq := beq_of hq
            clear hq ps
            go_enter Tryd.func3, Tryd.ntmps3
            go_wp2_with fail
            refine (awake01 _).mono ?_
            rintro e w1 ⟨rfl, x1⟩
            go_wp2_with fail
            refine (matches_any p h _ hp hh).mono ?_
            rintro e w2 ⟨rfl, x2⟩
            rw [m1]
            go_wp2_with fail
            refine (host_any h _ hh).mono ?_
            rintro e w3 ⟨rfl, x3⟩
            rw [g1]
            go_wp2_with fail
            refine (host_any p _ hp).mono ?_
            rintro e w4 ⟨rfl, x4⟩
            rw [g2]
            go_wp2_with fail
            refine (matches_any _ h _ LS hh).mono ?_
            rintro e w5 ⟨rfl, x5⟩
            rw [m2]
            go_wp2_with fail
            refine (matches_any h h _ hh hh).mono ?_
            rintro e w6 ⟨rfl, x6⟩
            rw [m3]
            go_wp2_with fail
            go_ret
            exact ⟨rfl, (((((x1.trans x2).trans x3).trans x4).trans x5).trans x6)⟩
          · have m1 : matchB (tx p) (tx h) = false := by rw [match_plain g2 g1 HM.out (of_decide_eq_false ps)]; exact decide_eq_false hq
            have hqq := beq_not hq
            clear hq ps
            go_enter Tryd.func3, Tryd.ntmps3
            go_wp2_with fail
            refine (awake01 _).mono ?_
            rintro e w1 ⟨rfl, x1⟩
            go_wp2_with fail
            refine (matches_any p h _ hp hh).mono ?_
            rintro e w2 ⟨rfl, x2⟩
            rw [m1]
            go_wp2_with fail
            refine (host_any h _ hh).mono ?_
            rintro e w3 ⟨rfl, x3⟩
            rw [g1]
            go_wp2_with fail
            refine (host_any p _ hp).mono ?_
            rintro e w4 ⟨rfl, x4⟩
            rw [g2]
            go_wp2_with fail
            refine (matches_any _ h _ LS hh).mono ?_
            rintro e w5 ⟨rfl, x5⟩
            rw [m2]
            go_wp2_with fail
            refine (matches_any h h _ hh hh).mono ?_
            rintro e w6 ⟨rfl, x6⟩
            rw [m3]
            go_wp2_with fail
            go_ret
            exact ⟨rfl, (((((x1.trans x2).trans x3).trans x4).trans x5).trans x6)⟩
        | true =>
          have pb := head_ne pz ps
          by_cases hq : tx p = [42]
          · have m1 : matchB (tx p) (tx h) = true := by rw [hq]; exact m2
            have hqq := beq_lit hq
            clear hq ps
            go_enter Tryd.func3, Tryd.ntmps3
            go_wp2_with fail
            refine (awake01 _).mono ?_
            rintro e w1 ⟨rfl, x1⟩
            go_wp2_with fail
            refine (matches_any p h _ hp hh).mono ?_
            rintro e w2 ⟨rfl, x2⟩
            rw [m1]
            go_wp2_with fail
            refine (host_any h _ hh).mono ?_
            rintro e w3 ⟨rfl, x3⟩
            rw [g1]
            go_wp2_with fail
            refine (host_any p _ hp).mono ?_
            rintro e w4 ⟨rfl, x4⟩
            rw [g2]
            go_wp2_with fail
            refine (matches_any _ h _ LS hh).mono ?_
            rintro e w5 ⟨rfl, x5⟩
            rw [m2]
            go_wp2_with fail
            refine (matches_any h h _ hh hh).mono ?_
            rintro e w6 ⟨rfl, x6⟩
            rw [m3]
            go_wp2_with fail
            go_ret
            exact ⟨rfl, (((((x1.trans x2).trans x3).trans x4).trans x5).trans x6)⟩
          · have hqq := bne_lit hq
            have HT := Lib.hid (match_tail g2 g1 HM.out (of_decide_eq_true ps) hq)
            have e1 : tx (p.extract 1 p.size) = (tx p).tail := by
              rw [tx_extract, List.take_of_length_le (by rw [tx_len]; exact Nat.le_refl _), List.drop_one]
            have z1 : (p.extract 1 p.size).size = p.size - 1 := by rw [← tx_len, e1, List.length_tail, tx_len]
            have HT2 : Hid (matchB (tx p) (tx h) = (decide (p.size - 1 < h.size) && sufB h (p.extract 1 p.size))) := Lib.hid (by rw [HT.out, ← e1, tx_len, tx_len, z1]; rfl)
            have E1 := Lib.hid e1
            have Z1 := Lib.hid z1
            clear hq ps z1 e1 HT
            by_cases hlt : p.size - 1 < h.size
            · have hsf : ((h.extract (h.size - (p.size - 1)) h.size).toList == (p.extract 1 p.size).toList) = sufB h (p.extract 1 p.size) := by
                unfold sufB; rw [tx_beq, tx_extract, List.take_of_length_le (by rw [tx_len]; exact Nat.le_refl _), ← Z1.out, ← tx_len (p.extract 1 p.size), ← tx_len h, Bool.eq_iff_iff]
                simp only [decide_eq_true_eq]
                rw [List.suffix_iff_eq_drop]; exact ⟨fun h => h.symm, fun h => h.symm⟩
              cases hsb : sufB h (p.extract 1 p.size) <;>
              · have m1 := HT2.out
                rw [decide_eq_true hlt, hsb] at m1
                rw [hsb] at hsf
                simp only [Bool.true_and] at m1
                go_enter Tryd.func3, Tryd.ntmps3
                go_wp2_with fail
                refine (awake01 _).mono ?_
                rintro e w1 ⟨rfl, x1⟩
                go_wp2_with fail
                refine (matches_any p h _ hp hh).mono ?_
                rintro e w2 ⟨rfl, x2⟩
                rw [m1]
                go_wp2_with fail
                refine (host_any h _ hh).mono ?_
                rintro e w3 ⟨rfl, x3⟩
                rw [g1]
                go_wp2_with fail
                refine (host_any p _ hp).mono ?_
                rintro e w4 ⟨rfl, x4⟩
                rw [g2]
                go_wp2_with fail
                refine (matches_any _ h _ LS hh).mono ?_
                rintro e w5 ⟨rfl, x5⟩
                rw [m2]
                go_wp2_with fail
                refine (matches_any h h _ hh hh).mono ?_
                rintro e w6 ⟨rfl, x6⟩
                rw [m3]
                go_wp2_with fail
                go_ret
                exact ⟨rfl, ((((x1.trans x2).trans x3).trans x4).trans x5).trans x6⟩
            · have m1 := HT2.out
              rw [decide_eq_false hlt] at m1
              simp only [Bool.false_and] at m1
              go_enter Tryd.func3, Tryd.ntmps3
              go_wp2_with fail
              refine (awake01 _).mono ?_
              rintro e w1 ⟨rfl, x1⟩
              go_wp2_with fail
              refine (matches_any p h _ hp hh).mono ?_
              rintro e w2 ⟨rfl, x2⟩
              rw [m1]
              go_wp2_with fail
              refine (host_any h _ hh).mono ?_
              rintro e w3 ⟨rfl, x3⟩
              rw [g1]
              go_wp2_with fail
              refine (host_any p _ hp).mono ?_
              rintro e w4 ⟨rfl, x4⟩
              rw [g2]
              go_wp2_with fail
              refine (matches_any _ h _ LS hh).mono ?_
              rintro e w5 ⟨rfl, x5⟩
              rw [m2]
              go_wp2_with fail
              refine (matches_any h h _ hh hh).mono ?_
              rintro e w6 ⟨rfl, x6⟩
              rw [m3]
              go_wp2_with fail
              go_ret
              exact ⟨rfl, ((((x1.trans x2).trans x3).trans x4).trans x5).trans x6⟩
end Go.Proofs.YtjomoannlpadnaaDoor
