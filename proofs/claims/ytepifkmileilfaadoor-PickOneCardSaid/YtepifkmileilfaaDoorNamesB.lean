/- More on Str: what not every seat has. -/
import Derived.Test.YtepifkmileilfaaDoorNames
namespace Go.Proofs.YtepifkmileilfaaDoor
set_option linter.unusedVariables false
open Go.RowKit

set_option maxHeartbeats 400000 in
theorem hasSuffix_any (s p : ByteArray) (w : World) (hs : s.size ≤ maxLen) (hp : p.size ≤ maxLen) :
    Calls Tryd.prog 61 #[.string s, .string p] w fun e w' => e = .returned (.bool (sufB s p)) ∧ w = w' := by
  unfold maxLen at hs hp
  have K : Calls Tryd.prog 115 #[.string s, .string p] w fun e w' => e = .returned (.bool (sufB s p)) ∧ w = w' := by
    by_cases h : p.size ≤ s.size
    · have H : Hid (((s.extract (s.size - p.size) s.size).toList == p.toList) = sufB s p) := Lib.hid (by
        unfold sufB; rw [tx_beq, tx_extract, List.take_of_length_le (by rw [tx_len]; omega), ← tx_len p, ← tx_len s, Bool.eq_iff_iff]
        simp only [decide_eq_true_eq]
        rw [List.suffix_iff_eq_drop]; exact ⟨fun h => h.symm, fun h => h.symm⟩)
      go_enter Tryd.func115, Tryd.ntmps115
      go_wp2_with fail
      go_ret
      exact ⟨ret_bool H.out, rfl⟩
    · have H : Hid (false = sufB s p) := Lib.hid (by
        symm; rw [sufB, decide_eq_false_iff_not]; intro h'; have := h'.length_le; rw [tx_len, tx_len] at this; omega)
      go_enter Tryd.func115, Tryd.ntmps115
      go_wp2_with fail
      go_ret
      exact ⟨ret_bool H.out, rfl⟩
  go_enter Tryd.func61, Tryd.ntmps61
  go_wp2_with fail
  refine K.mono ?_
  rintro e w' ⟨rfl, rfl⟩
  go_wp2_with fail
  go_ret
  exact ⟨rfl, rfl⟩
set_option maxHeartbeats 400000 in
/-- CutPrefix: what is left, and whether the prefix was there -/
theorem cutPrefix_any (s p : ByteArray) (w : World) (hs : s.size ≤ maxLen) (hp : p.size ≤ maxLen) :
    Calls Tryd.prog 60 #[.string s, .string p] w fun e w' => e = .returned (.tuple #[.string (cutS s p), .bool (preB s p)]) ∧ w = w' := by
  have K : Calls Tryd.prog 114 #[.string s, .string p] w fun e w' => e = .returned (.tuple #[.string (cutS s p), .bool (preB s p)]) ∧ w = w' := by
    by_cases h : tx p <+: tx s
    · have hl : p.size ≤ s.size := by have := h.length_le; rw [tx_len, tx_len] at this; exact this
      have H : Hid ((cutS s p) = s.extract p.size s.size) := Lib.hid (by unfold cutS; exact if_pos h)
      have hd : Hid (preB s p = true) := Lib.hid (by unfold preB; exact decide_eq_true h)
      clear h
      go_enter Tryd.func114, Tryd.ntmps114
      go_wp2_with fail
      refine (slHasPrefix_any s p _ hs hp).mono ?_
      rintro e w' ⟨rfl, rfl⟩
      rw [hd.out]
      unfold maxLen at hs hp
      go_wp2_with fail
      go_ret2
      exact ⟨by rw [H.out, hd.out]; rfl, rfl⟩
    · have H : Hid ((cutS s p) = s) := Lib.hid (by unfold cutS; exact if_neg h)
      have hd : Hid (preB s p = false) := Lib.hid (by unfold preB; exact decide_eq_false h)
      clear h
      go_enter Tryd.func114, Tryd.ntmps114
      go_wp2_with fail
      refine (slHasPrefix_any s p _ hs hp).mono ?_
      rintro e w' ⟨rfl, rfl⟩
      rw [hd.out]
      go_wp2_with fail
      go_ret2
      exact ⟨by rw [H.out, hd.out]; rfl, rfl⟩
  go_enter Tryd.func60, Tryd.ntmps60
  go_wp2_with fail
  refine K.mono ?_
  rintro e w' ⟨rfl, rfl⟩
  go_wp2_with fail
  go_ret2
  exact ⟨rfl, rfl⟩
end Go.Proofs.YtepifkmileilfaaDoor
/- More on Name2: what not every seat has. -/
namespace Go.Proofs.YtepifkmileilfaaDoor
set_option linter.unusedVariables false
open Go.RowKit

set_option maxHeartbeats 400000 in
theorem width_any (s : ByteArray) (w : World) (hm : s.size ≤ maxLen) : Calls Tryd.prog 116 #[.string s] w fun e w' => e = .returned (.int .i64 (widthN (tx s))) ∧ w = w' := by
  by_cases h1 : tx s = [42]
  · have hq : (s.toList == [42]) = true := by rw [tx_toList, h1]; rfl
    have H : Hid (widthN (tx s) = 0) := Lib.hid (by rw [h1]; rfl)
    clear h1
    go_enter Tryd.func116, Tryd.ntmps116
    go_wp2_with fail
    go_ret
    exact ⟨by rw [H.out]; rfl, rfl⟩
  · have hq : (s.toList == [42]) = false := by rw [tx_toList]; simpa using h1
    by_cases h2 : (tx s).take 2 = [42, 46]
    · have H : Hid (widthN (tx s) = s.size) := Lib.hid (by rw [(width_star h2).1, tx_len])
      have hp : preB s ⟨#[42, 46]⟩ = true := by rw [pre_two]; exact decide_eq_true h2
      clear h1 h2
      go_enter Tryd.func116, Tryd.ntmps116
      go_wp2_with fail
      refine (hasPrefix_any s ⟨#[42, 46]⟩ _ hm (by simp [maxLen, ByteArray.size])).mono ?_
      rintro e w' ⟨rfl, rfl⟩
      rw [hp]
      go_wp2_with fail
      go_ret
      exact ⟨by rw [H.out]; rfl, rfl⟩
    · have H : Hid (widthN (tx s) = 9223372036854775807) := Lib.hid (width_plain h2 h1)
      have hp : preB s ⟨#[42, 46]⟩ = false := by rw [pre_two]; exact decide_eq_false h2
      clear h1 h2
      go_enter Tryd.func116, Tryd.ntmps116
      go_wp2_with fail
      refine (hasPrefix_any s ⟨#[42, 46]⟩ _ hm (by simp [maxLen, ByteArray.size])).mono ?_
      rintro e w' ⟨rfl, rfl⟩
      rw [hp]
      go_wp2_with fail
      go_ret
      exact ⟨by rw [H.out]; rfl, rfl⟩
set_option maxHeartbeats 400000 in
theorem narrow_any (s t : ByteArray) (w : World) (hs : s.size ≤ maxLen) (ht : t.size ≤ maxLen) : Calls Tryd.prog 62 #[.string s, .string t] w fun e w' => e = .returned (.int .i64 (narrowN (tx s) (tx t))) ∧ w = w' := by
  go_enter Tryd.func62, Tryd.ntmps62
  go_wp2_with fail
  refine (width_any s _ hs).mono ?_
  rintro e w' ⟨rfl, rfl⟩
  go_wp2_with fail
  refine (width_any t _ ht).mono ?_
  rintro e w' ⟨rfl, rfl⟩
  go_wp2_with fail
  refine (cmpInt_any _ _ _).mono ?_
  rintro e w' ⟨rfl, rfl⟩
  go_wp2_with fail
  go_ret
  exact ⟨rfl, rfl⟩
end Go.Proofs.YtepifkmileilfaaDoor
/- More on Name4: what not every seat has. -/
namespace Go.Proofs.YtepifkmileilfaaDoor
set_option linter.unusedVariables false
open Go.RowKit

set_option maxHeartbeats 1600000 in
theorem matches_any (s t : ByteArray) (w : World) (hs : s.size ≤ maxLen) (ht : t.size ≤ maxLen) : Calls Tryd.prog 18 #[.string s, .string t] w fun e w' => e = .returned (.bool (matchB (tx s) (tx t))) ∧ Ext w w' := by
  have hs' := hs
  have ht' := ht
  unfold maxLen at hs' ht'
  cases ha : hostB (tx s) with
  | false =>
    have H : Hid (matchB (tx s) (tx t) = false) := Lib.hid (by unfold matchB; rw [ha]; rfl)
    go_enter Tryd.func18, Tryd.ntmps18
    go_wp2_with fail
    refine (host_any s _ hs).mono ?_
    rintro e w1 ⟨rfl, hx1⟩
    rw [ha]
    go_wp2_with fail
    go_ret
    exact ⟨by rw [H.out]; rfl, hx1⟩
  | true =>
    cases hb : hostB (tx t) with
    | false =>
      have H : Hid (matchB (tx s) (tx t) = false) := Lib.hid (by unfold matchB; rw [hb]; simp)
      go_enter Tryd.func18, Tryd.ntmps18
      go_wp2_with fail
      refine (host_any s _ hs).mono ?_
      rintro e w1 ⟨rfl, hx1⟩
      rw [ha]
      go_wp2_with fail
      refine (host_any t _ ht).mono ?_
      rintro e w2 ⟨rfl, hx2⟩
      rw [hb]
      go_wp2_with fail
      go_ret
      exact ⟨by rw [H.out]; rfl, hx1.trans hx2⟩
    | true =>
      cases hc : preB t ⟨#[42]⟩ with
      | true =>
        have H : Hid (matchB (tx s) (tx t) = false) := Lib.hid (by
          rw [pre_one] at hc
          unfold matchB; rw [decide_eq_false (p := (tx t).head? ≠ some 42) (by simpa using hc)]; simp)
        go_enter Tryd.func18, Tryd.ntmps18
        go_wp2_with fail
        refine (host_any s _ hs).mono ?_
        rintro e w1 ⟨rfl, hx1⟩
        rw [ha]
        go_wp2_with fail
        refine (host_any t _ ht).mono ?_
        rintro e w2 ⟨rfl, hx2⟩
        rw [hb]
        go_wp2_with fail
        refine (hasPrefix_any t ⟨#[42]⟩ _ ht (by simp [maxLen, ByteArray.size])).mono ?_
        rintro e w3 ⟨rfl, rfl⟩
        rw [hc]
        go_wp2_with fail
        go_ret
        exact ⟨by rw [H.out]; rfl, hx1.trans hx2⟩
      | false =>
        have hh : (tx t).head? ≠ some 42 := by rw [pre_one] at hc; simpa using hc
        have HM := Lib.hid (match_of ha hb hh)
        by_cases h1 : tx s = [42] ∨ tx s = tx t
        · have H : Hid (matchB (tx s) (tx t) = true) := Lib.hid (by rw [HM.out]; rcases h1 with h | h <;> simp [h])
          have hq : (s.toList == [42]) = true ∨ ((s.toList == [42]) = false ∧ (s.toList == t.toList) = true) := by
            by_cases h2 : tx s = [42]
            · exact .inl (beq_lit h2)
            · exact .inr ⟨bne_lit h2, beq_of (h1.resolve_left h2)⟩
          clear h1 hh
          rcases hq with hq | ⟨hq, hq2⟩ <;>
          · go_enter Tryd.func18, Tryd.ntmps18
            go_wp2_with fail
            refine (host_any s _ hs).mono ?_
            rintro e w1 ⟨rfl, hx1⟩
            rw [ha]
            go_wp2_with fail
            refine (host_any t _ ht).mono ?_
            rintro e w2 ⟨rfl, hx2⟩
            rw [hb]
            go_wp2_with fail
            refine (hasPrefix_any t ⟨#[42]⟩ _ ht (by simp [maxLen, ByteArray.size])).mono ?_
            rintro e w3 ⟨rfl, rfl⟩
            rw [hc]
            go_wp2_with fail
            go_ret
            exact ⟨by rw [H.out]; rfl, hx1.trans hx2⟩
        · have hq : (s.toList == [42]) = false := bne_lit fun h => h1 (.inl h)
          have hq2 : (s.toList == t.toList) = false := beq_not fun h => h1 (.inr h)
          have HM2 : Hid (matchB (tx s) (tx t) = (decide ((tx s).head? = some 42) && decide ((tx s).tail.length < (tx t).length) && sfx (tx s).tail (tx t))) := Lib.hid (by
            rw [HM.out, decide_eq_false fun h => h1 (.inl h), decide_eq_false fun h => h1 (.inr h)]; rfl)
          clear h1 hh HM
          cases hp : preB s ⟨#[42]⟩ with
          | false =>
            have H : Hid (matchB (tx s) (tx t) = false) := Lib.hid (by rw [HM2.out, ← pre_one, hp]; rfl)
            go_enter Tryd.func18, Tryd.ntmps18
            go_wp2_with fail
            refine (host_any s _ hs).mono ?_
            rintro e w1 ⟨rfl, hx1⟩
            rw [ha]
            go_wp2_with fail
            refine (host_any t _ ht).mono ?_
            rintro e w2 ⟨rfl, hx2⟩
            rw [hb]
            go_wp2_with fail
            refine (hasPrefix_any t ⟨#[42]⟩ _ ht (by simp [maxLen, ByteArray.size])).mono ?_
            rintro e w3 ⟨rfl, rfl⟩
            rw [hc]
            go_wp2_with fail
            refine (cutPrefix_any s ⟨#[42]⟩ _ hs (by simp [maxLen, ByteArray.size])).mono ?_
            rintro e w3 ⟨rfl, rfl⟩
            rw [hp]
            go_wp2_with fail
            go_ret
            exact ⟨by rw [H.out]; rfl, hx1.trans hx2⟩
          | true =>
            have htl := tail_of_pre hp
            have hcz := cut_size s ⟨#[42]⟩
            obtain ⟨r, hr⟩ : ∃ r, r = cutS s ⟨#[42]⟩ := ⟨_, rfl⟩
            have HR := Lib.hid hr
            rw [← hr] at htl hcz
            have HM3 : Hid (matchB (tx s) (tx t) = (decide (r.size < t.size) && sufB t r)) := Lib.hid (by
              rw [HM2.out, ← pre_one, hp, ← htl, tx_len, tx_len]; rfl)
            clear htl hr
            by_cases hlt : r.size < t.size
            · have H : Hid (matchB (tx s) (tx t) = sufB t r) := Lib.hid (by rw [HM3.out, decide_eq_true hlt]; rfl)
              go_enter Tryd.func18, Tryd.ntmps18
              go_wp2_with fail
              refine (host_any s _ hs).mono ?_
              rintro e w1 ⟨rfl, hx1⟩
              rw [ha]
              go_wp2_with fail
              refine (host_any t _ ht).mono ?_
              rintro e w2 ⟨rfl, hx2⟩
              rw [hb]
              go_wp2_with fail
              refine (hasPrefix_any t ⟨#[42]⟩ _ ht (by simp [maxLen, ByteArray.size])).mono ?_
              rintro e w3 ⟨rfl, rfl⟩
              rw [hc]
              go_wp2_with fail
              refine (cutPrefix_any s ⟨#[42]⟩ _ hs (by simp [maxLen, ByteArray.size])).mono ?_
              rintro e w3 ⟨rfl, rfl⟩
              rw [hp, ← HR.out]
              go_wp2_with fail
              refine (hasSuffix_any t r _ ht (Nat.le_trans hcz hs)).mono ?_
              rintro e w3 ⟨rfl, rfl⟩
              go_wp2_with fail
              go_ret
              exact ⟨by rw [H.out]; rfl, hx1.trans hx2⟩
            · have H : Hid (matchB (tx s) (tx t) = false) := Lib.hid (by rw [HM3.out, decide_eq_false hlt]; rfl)
              go_enter Tryd.func18, Tryd.ntmps18
              go_wp2_with fail
              refine (host_any s _ hs).mono ?_
              rintro e w1 ⟨rfl, hx1⟩
              rw [ha]
              go_wp2_with fail
              refine (host_any t _ ht).mono ?_
              rintro e w2 ⟨rfl, hx2⟩
              rw [hb]
              go_wp2_with fail
              refine (hasPrefix_any t ⟨#[42]⟩ _ ht (by simp [maxLen, ByteArray.size])).mono ?_
              rintro e w3 ⟨rfl, rfl⟩
              rw [hc]
              go_wp2_with fail
              refine (cutPrefix_any s ⟨#[42]⟩ _ hs (by simp [maxLen, ByteArray.size])).mono ?_
              rintro e w3 ⟨rfl, rfl⟩
              rw [hp, ← HR.out]
              go_wp2_with fail
              go_ret
              exact ⟨by rw [H.out]; rfl, hx1.trans hx2⟩

set_option maxHeartbeats 1600000 in
theorem under_any (s t : ByteArray) (w : World) (hs : s.size ≤ maxLen) (ht : t.size ≤ maxLen) : Calls Tryd.prog 19 #[.string s, .string t] w fun e w' => e = .returned (.bool (underB (tx s) (tx t))) ∧ Ext w w' := by
  cases hp : preB t s with
  | false =>
    have H : Hid (underB (tx s) (tx t) = false) := Lib.hid (by unfold preB at hp; unfold underB; rw [hp]; rfl)
    go_enter Tryd.func19, Tryd.ntmps19
    go_wp2_with fail
    refine (cutPrefix_any t s _ ht hs).mono ?_
    rintro e w1 ⟨rfl, rfl⟩
    rw [hp]
    go_wp2_with fail
    go_ret
    exact ⟨by rw [H.out]; rfl, Ext.refl _⟩
  | true =>
    have hcz := cut_size t s
    have hrest := rest_of_pre hp
    obtain ⟨r, hr⟩ : ∃ r, r = cutS t s := ⟨_, rfl⟩
    have HR := Lib.hid hr
    rw [← hr] at hcz hrest
    have HU : Hid (underB (tx s) (tx t) = (pathB (tx s) && pathB (tx t) && (decide (tx r = []) || sufB s ⟨#[47]⟩ || preB r ⟨#[47]⟩))) := Lib.hid (by
      have hp2 := hp
      unfold preB at hp2; unfold underB; rw [hp2, suf_one, pre_one, hrest]; rfl)
    clear hr hrest
    cases ha : pathB (tx s) with
    | false =>
      have H : Hid (underB (tx s) (tx t) = false) := Lib.hid (by rw [HU.out, ha]; rfl)
      go_enter Tryd.func19, Tryd.ntmps19
      go_wp2_with fail
      refine (cutPrefix_any t s _ ht hs).mono ?_
      rintro e w1 ⟨rfl, rfl⟩
      rw [hp, ← HR.out]
      go_wp2_with fail
      refine (path_any s _ hs).mono ?_
      rintro e w1 ⟨rfl, hx1⟩
      rw [ha]
      go_wp2_with fail
      go_ret
      exact ⟨by rw [H.out]; rfl, hx1⟩
    | true =>
      cases hb : pathB (tx t) with
      | false =>
        have H : Hid (underB (tx s) (tx t) = false) := Lib.hid (by rw [HU.out, hb]; simp)
        go_enter Tryd.func19, Tryd.ntmps19
        go_wp2_with fail
        refine (cutPrefix_any t s _ ht hs).mono ?_
        rintro e w1 ⟨rfl, rfl⟩
        rw [hp, ← HR.out]
        go_wp2_with fail
        refine (path_any s _ hs).mono ?_
        rintro e w1 ⟨rfl, hx1⟩
        rw [ha]
        go_wp2_with fail
        refine (path_any t _ ht).mono ?_
        rintro e w2 ⟨rfl, hx2⟩
        rw [hb]
        go_wp2_with fail
        go_ret
        exact ⟨by rw [H.out]; rfl, hx1.trans hx2⟩
      | true =>
        by_cases he : tx r = []
        · have H : Hid (underB (tx s) (tx t) = true) := Lib.hid (by rw [HU.out, ha, hb, decide_eq_true he]; rfl)
          have hq : r.toList.isEmpty = true := by rw [tx_toList, he]; rfl
          clear he
          go_enter Tryd.func19, Tryd.ntmps19
          go_wp2_with fail
          refine (cutPrefix_any t s _ ht hs).mono ?_
          rintro e w1 ⟨rfl, rfl⟩
          rw [hp, ← HR.out]
          go_wp2_with fail
          refine (path_any s _ hs).mono ?_
          rintro e w1 ⟨rfl, hx1⟩
          rw [ha]
          go_wp2_with fail
          refine (path_any t _ ht).mono ?_
          rintro e w2 ⟨rfl, hx2⟩
          rw [hb]
          go_wp2_with fail
          go_ret
          exact ⟨by rw [H.out]; rfl, hx1.trans hx2⟩
        · have hq : r.toList.isEmpty = false := by rw [tx_toList, List.isEmpty_eq_false_iff]; exact he
          have HU2 : Hid (underB (tx s) (tx t) = (sufB s ⟨#[47]⟩ || preB r ⟨#[47]⟩)) := Lib.hid (by rw [HU.out, ha, hb, decide_eq_false he]; simp)
          clear he
          cases hf : sufB s ⟨#[47]⟩ with
          | true =>
            have H : Hid (underB (tx s) (tx t) = true) := Lib.hid (by rw [HU2.out, hf]; rfl)
            go_enter Tryd.func19, Tryd.ntmps19
            go_wp2_with fail
            refine (cutPrefix_any t s _ ht hs).mono ?_
            rintro e w1 ⟨rfl, rfl⟩
            rw [hp, ← HR.out]
            go_wp2_with fail
            refine (path_any s _ hs).mono ?_
            rintro e w1 ⟨rfl, hx1⟩
            rw [ha]
            go_wp2_with fail
            refine (path_any t _ ht).mono ?_
            rintro e w2 ⟨rfl, hx2⟩
            rw [hb]
            go_wp2_with fail
            refine (hasSuffix_any s ⟨#[47]⟩ _ hs (by simp [maxLen, ByteArray.size])).mono ?_
            rintro e w3 ⟨rfl, rfl⟩
            rw [hf]
            go_wp2_with fail
            go_ret
            exact ⟨by rw [H.out]; rfl, hx1.trans hx2⟩
          | false =>
            have H : Hid (underB (tx s) (tx t) = preB r ⟨#[47]⟩) := Lib.hid (by rw [HU2.out, hf]; rfl)
            go_enter Tryd.func19, Tryd.ntmps19
            go_wp2_with fail
            refine (cutPrefix_any t s _ ht hs).mono ?_
            rintro e w1 ⟨rfl, rfl⟩
            rw [hp, ← HR.out]
            go_wp2_with fail
            refine (path_any s _ hs).mono ?_
            rintro e w1 ⟨rfl, hx1⟩
            rw [ha]
            go_wp2_with fail
            refine (path_any t _ ht).mono ?_
            rintro e w2 ⟨rfl, hx2⟩
            rw [hb]
            go_wp2_with fail
            refine (hasSuffix_any s ⟨#[47]⟩ _ hs (by simp [maxLen, ByteArray.size])).mono ?_
            rintro e w3 ⟨rfl, rfl⟩
            rw [hf]
            go_wp2_with fail
            refine (hasPrefix_any r ⟨#[47]⟩ _ (Nat.le_trans hcz ht) (by simp [maxLen, ByteArray.size])).mono ?_
            rintro e w3 ⟨rfl, rfl⟩
            go_wp2_with fail
            go_ret
            exact ⟨by rw [H.out]; rfl, hx1.trans hx2⟩

end Go.Proofs.YtepifkmileilfaaDoor
