/- What Host, Matches, Under, Cmp compute. -/
import Derived.Test.YtepifkmileilfaaDoorName3
namespace Go.Proofs.YtepifkmileilfaaDoor
set_option linter.unusedVariables false
open Go.RowKit

theorem tx_trim (s : ByteArray) : tx (cutS s ⟨#[42, 46]⟩) = trimStar (tx s) := by
  have h := pre_two s 42 46
  unfold preB at h
  unfold cutS trimStar
  by_cases hp : tx ⟨#[42, 46]⟩ <+: tx s
  · rw [decide_eq_true hp] at h
    rw [if_pos hp, if_pos (by simpa using h.symm), tx_extract, List.take_of_length_le (by rw [tx_len]; exact Nat.le_refl _)]
    rfl
  · rw [decide_eq_false hp] at h
    rw [if_neg hp, if_neg (by simpa using h.symm)]
theorem cut_size (s p : ByteArray) : (cutS s p).size ≤ s.size := by
  unfold cutS
  split
  · rw [← tx_len, tx_extract, List.length_drop, List.length_take, tx_len]; omega
  · exact Nat.le_refl _
theorem beq_of {s t : ByteArray} (h : tx s = tx t) : (s.toList == t.toList) = true := by rw [tx_beq]; exact decide_eq_true h
theorem beq_not {s t : ByteArray} (h : tx s ≠ tx t) : (s.toList == t.toList) = false := by rw [tx_beq]; exact decide_eq_false h
theorem beq_lit {s : ByteArray} {l : List UInt8} (h : tx s = l) : (s.toList == l) = true := by rw [tx_toList, h]; simp
theorem bne_lit {s : ByteArray} {l : List UInt8} (h : tx s ≠ l) : (s.toList == l) = false := by rw [tx_toList]; simpa using h

set_option maxHeartbeats 800000 in
theorem host_any (s : ByteArray) (w : World) (hm : s.size ≤ maxLen) : Calls Tryd.prog 22 #[.string s] w fun e w' => e = .returned (.bool (hostB (tx s))) ∧ Ext w w' := by
  have hm' := hm
  unfold maxLen at hm'
  by_cases hl : s.size ≤ 40
  · by_cases hq : tx s = [42]
    · have H : Hid (hostB (tx s) = true) := Lib.hid (by rw [hq]; rfl)
      have hb := beq_lit hq
      clear hq
      go_enter Tryd.func22, Tryd.ntmps22
      go_wp2_with fail
      go_ret
      exact ⟨by rw [H.out]; rfl, Ext.refl _⟩
    · have H : Hid (hostB (tx s) = namesB (tx (cutS s ⟨#[42, 46]⟩))) := Lib.hid (by unfold hostB; rw [tx_len, decide_eq_true hl, decide_eq_false hq, tx_trim]; simp)
      have hb := bne_lit hq
      clear hq
      go_enter Tryd.func22, Tryd.ntmps22
      go_wp2_with fail
      refine (trimPrefix_any s ⟨#[42, 46]⟩ _ hm (by simp [maxLen, ByteArray.size])).mono ?_
      rintro e w' ⟨rfl, rfl⟩
      go_wp2_with fail
      refine (names_any _ _ (Nat.le_trans (cut_size _ _) hm)).mono ?_
      rintro e w' ⟨rfl, hx⟩
      go_wp2_with fail
      go_ret
      exact ⟨by rw [H.out]; rfl, hx⟩
  · have H : Hid (hostB (tx s) = false) := Lib.hid (by unfold hostB; rw [tx_len, decide_eq_false hl]; rfl)
    go_enter Tryd.func22, Tryd.ntmps22
    go_wp2_with fail
    go_ret
    exact ⟨by rw [H.out]; rfl, Ext.refl _⟩

theorem tail_of_pre {s : ByteArray} (h : preB s ⟨#[42]⟩ = true) : tx (cutS s ⟨#[42]⟩) = (tx s).tail := by
  unfold preB at h
  unfold cutS
  rw [if_pos (by simpa using h), tx_extract, List.take_of_length_le (by rw [tx_len]; exact Nat.le_refl _)]
  show (tx s).drop 1 = _
  rw [List.drop_one]

set_option maxHeartbeats 1600000 in
theorem matches_any (s t : ByteArray) (w : World) (hs : s.size ≤ maxLen) (ht : t.size ≤ maxLen) : Calls Tryd.prog 18 #[.string s, .string t] w fun e w' => e = .returned (.bool (matchB (tx s) (tx t))) ∧ Ext w w' := by
  have hs' := hs
  have ht' := ht
  unfold maxLen at hs' ht'
  cases ha : hostB (tx s) with
  | false =>
    have H : Hid (matchB (tx s) (tx t) = false) := Lib.hid (by unfold matchB; rw [ha]; rfl)
    go_enter Tryd.func18, Tryd.ntmps18
    go_wp2_with fail
    refine (host_any s _ hs).mono ?_
    rintro e w1 ⟨rfl, hx1⟩
    rw [ha]
    go_wp2_with fail
    go_ret
    exact ⟨by rw [H.out]; rfl, hx1⟩
  | true =>
    cases hb : hostB (tx t) with
    | false =>
      have H : Hid (matchB (tx s) (tx t) = false) := Lib.hid (by unfold matchB; rw [hb]; simp)
      go_enter Tryd.func18, Tryd.ntmps18
      go_wp2_with fail
      refine (host_any s _ hs).mono ?_
      rintro e w1 ⟨rfl, hx1⟩
      rw [ha]
      go_wp2_with fail
      refine (host_any t _ ht).mono ?_
      rintro e w2 ⟨rfl, hx2⟩
      rw [hb]
      go_wp2_with fail
      go_ret
      exact ⟨by rw [H.out]; rfl, hx1.trans hx2⟩
    | true =>
      cases hc : preB t ⟨#[42]⟩ with
      | true =>
        have H : Hid (matchB (tx s) (tx t) = false) := Lib.hid (by
          rw [pre_one] at hc
          unfold matchB; rw [decide_eq_false (p := (tx t).head? ≠ some 42) (by simpa using hc)]; simp)
        go_enter Tryd.func18, Tryd.ntmps18
        go_wp2_with fail
        refine (host_any s _ hs).mono ?_
        rintro e w1 ⟨rfl, hx1⟩
        rw [ha]
        go_wp2_with fail
        refine (host_any t _ ht).mono ?_
        rintro e w2 ⟨rfl, hx2⟩
        rw [hb]
        go_wp2_with fail
        refine (hasPrefix_any t ⟨#[42]⟩ _ ht (by simp [maxLen, ByteArray.size])).mono ?_
        rintro e w3 ⟨rfl, rfl⟩
        rw [hc]
        go_wp2_with fail
        go_ret
        exact ⟨by rw [H.out]; rfl, hx1.trans hx2⟩
      | false =>
        have hh : (tx t).head? ≠ some 42 := by rw [pre_one] at hc; simpa using hc
        have HM := Lib.hid (match_of ha hb hh)
        by_cases h1 : tx s = [42] ∨ tx s = tx t
        · have H : Hid (matchB (tx s) (tx t) = true) := Lib.hid (by rw [HM.out]; rcases h1 with h | h <;> simp [h])
          have hq : (s.toList == [42]) = true ∨ ((s.toList == [42]) = false ∧ (s.toList == t.toList) = true) := by
            by_cases h2 : tx s = [42]
            · exact .inl (beq_lit h2)
            · exact .inr ⟨bne_lit h2, beq_of (h1.resolve_left h2)⟩
          clear h1 hh
          rcases hq with hq | ⟨hq, hq2⟩ <;>
          · go_enter Tryd.func18, Tryd.ntmps18
            go_wp2_with fail
            refine (host_any s _ hs).mono ?_
            rintro e w1 ⟨rfl, hx1⟩
            rw [ha]
            go_wp2_with fail
            refine (host_any t _ ht).mono ?_
            rintro e w2 ⟨rfl, hx2⟩
            rw [hb]
            go_wp2_with fail
            refine (hasPrefix_any t ⟨#[42]⟩ _ ht (by simp [maxLen, ByteArray.size])).mono ?_
            rintro e w3 ⟨rfl, rfl⟩
            rw [hc]
            go_wp2_with fail
            go_ret
            exact ⟨by rw [H.out]; rfl, hx1.trans hx2⟩
        · have hq : (s.toList == [42]) = false := bne_lit fun h => h1 (.inl h)
          have hq2 : (s.toList == t.toList) = false := beq_not fun h => h1 (.inr h)
          have HM2 : Hid (matchB (tx s) (tx t) = (decide ((tx s).head? = some 42) && decide ((tx s).tail.length < (tx t).length) && sfx (tx s).tail (tx t))) := Lib.hid (by
            rw [HM.out, decide_eq_false fun h => h1 (.inl h), decide_eq_false fun h => h1 (.inr h)]; rfl)
          clear h1 hh HM
          cases hp : preB s ⟨#[42]⟩ with
          | false =>
            have H : Hid (matchB (tx s) (tx t) = false) := Lib.hid (by rw [HM2.out, ← pre_one, hp]; rfl)
            go_enter Tryd.func18, Tryd.ntmps18
            go_wp2_with fail
            refine (host_any s _ hs).mono ?_
            rintro e w1 ⟨rfl, hx1⟩
            rw [ha]
            go_wp2_with fail
            refine (host_any t _ ht).mono ?_
            rintro e w2 ⟨rfl, hx2⟩
            rw [hb]
            go_wp2_with fail
            refine (hasPrefix_any t ⟨#[42]⟩ _ ht (by simp [maxLen, ByteArray.size])).mono ?_
            rintro e w3 ⟨rfl, rfl⟩
            rw [hc]
            go_wp2_with fail
            refine (cutPrefix_any s ⟨#[42]⟩ _ hs (by simp [maxLen, ByteArray.size])).mono ?_
            rintro e w3 ⟨rfl, rfl⟩
            rw [hp]
            go_wp2_with fail
            go_ret
            exact ⟨by rw [H.out]; rfl, hx1.trans hx2⟩
          | true =>
            have htl := tail_of_pre hp
            have hcz := cut_size s ⟨#[42]⟩
            obtain ⟨r, hr⟩ : ∃ r, r = cutS s ⟨#[42]⟩ := ⟨_, rfl⟩
            have HR := Lib.hid hr
            rw [← hr] at htl hcz
            have HM3 : Hid (matchB (tx s) (tx t) = (decide (r.size < t.size) && sufB t r)) := Lib.hid (by
              rw [HM2.out, ← pre_one, hp, ← htl, tx_len, tx_len]; rfl)
            clear htl hr
            by_cases hlt : r.size < t.size
            · have H : Hid (matchB (tx s) (tx t) = sufB t r) := Lib.hid (by rw [HM3.out, decide_eq_true hlt]; rfl)
              go_enter Tryd.func18, Tryd.ntmps18
              go_wp2_with fail
              refine (host_any s _ hs).mono ?_
              rintro e w1 ⟨rfl, hx1⟩
              rw [ha]
              go_wp2_with fail
              refine (host_any t _ ht).mono ?_
              rintro e w2 ⟨rfl, hx2⟩
              rw [hb]
              go_wp2_with fail
              refine (hasPrefix_any t ⟨#[42]⟩ _ ht (by simp [maxLen, ByteArray.size])).mono ?_
              rintro e w3 ⟨rfl, rfl⟩
              rw [hc]
              go_wp2_with fail
              refine (cutPrefix_any s ⟨#[42]⟩ _ hs (by simp [maxLen, ByteArray.size])).mono ?_
              rintro e w3 ⟨rfl, rfl⟩
              rw [hp, ← HR.out]
              go_wp2_with fail
              refine (hasSuffix_any t r _ ht (Nat.le_trans hcz hs)).mono ?_
              rintro e w3 ⟨rfl, rfl⟩
              go_wp2_with fail
              go_ret
              exact ⟨by rw [H.out]; rfl, hx1.trans hx2⟩
            · have H : Hid (matchB (tx s) (tx t) = false) := Lib.hid (by rw [HM3.out, decide_eq_false hlt]; rfl)
              go_enter Tryd.func18, Tryd.ntmps18
              go_wp2_with fail
              refine (host_any s _ hs).mono ?_
              rintro e w1 ⟨rfl, hx1⟩
              rw [ha]
              go_wp2_with fail
              refine (host_any t _ ht).mono ?_
              rintro e w2 ⟨rfl, hx2⟩
              rw [hb]
              go_wp2_with fail
              refine (hasPrefix_any t ⟨#[42]⟩ _ ht (by simp [maxLen, ByteArray.size])).mono ?_
              rintro e w3 ⟨rfl, rfl⟩
              rw [hc]
              go_wp2_with fail
              refine (cutPrefix_any s ⟨#[42]⟩ _ hs (by simp [maxLen, ByteArray.size])).mono ?_
              rintro e w3 ⟨rfl, rfl⟩
              rw [hp, ← HR.out]
              go_wp2_with fail
              go_ret
              exact ⟨by rw [H.out]; rfl, hx1.trans hx2⟩

theorem rest_of_pre {s p : ByteArray} (h : preB s p = true) : tx (cutS s p) = (tx s).drop (tx p).length := by
  unfold preB at h
  unfold cutS
  rw [if_pos (by simpa using h), tx_extract, List.take_of_length_le (by rw [tx_len]; exact Nat.le_refl _), tx_len]
theorem suf_one (s : ByteArray) (c : UInt8) : sufB s ⟨#[c]⟩ = decide ((tx s).getLast? = some c) := by
  unfold sufB
  rw [show tx ⟨#[c]⟩ = [c] from rfl, Bool.eq_iff_iff]
  simp only [decide_eq_true_eq]
  rw [List.getLast?_eq_some_iff]
  exact ⟨fun ⟨x, h⟩ => ⟨x, h.symm⟩, fun ⟨x, h⟩ => ⟨x, h.symm⟩⟩
set_option maxHeartbeats 1600000 in
theorem under_any (s t : ByteArray) (w : World) (hs : s.size ≤ maxLen) (ht : t.size ≤ maxLen) : Calls Tryd.prog 19 #[.string s, .string t] w fun e w' => e = .returned (.bool (underB (tx s) (tx t))) ∧ Ext w w' := by
  cases hp : preB t s with
  | false =>
    have H : Hid (underB (tx s) (tx t) = false) := Lib.hid (by unfold preB at hp; unfold underB; rw [hp]; rfl)
    go_enter Tryd.func19, Tryd.ntmps19
    go_wp2_with fail
    refine (cutPrefix_any t s _ ht hs).mono ?_
    rintro e w1 ⟨rfl, rfl⟩
    rw [hp]
    go_wp2_with fail
    go_ret
    exact ⟨by rw [H.out]; rfl, Ext.refl _⟩
  | true =>
    have hcz := cut_size t s
    have hrest := rest_of_pre hp
    obtain ⟨r, hr⟩ : ∃ r, r = cutS t s := ⟨_, rfl⟩
    have HR := Lib.hid hr
    rw [← hr] at hcz hrest
    have HU : Hid (underB (tx s) (tx t) = (pathB (tx s) && pathB (tx t) && (decide (tx r = []) || sufB s ⟨#[47]⟩ || preB r ⟨#[47]⟩))) := Lib.hid (by
      have hp2 := hp
      unfold preB at hp2; unfold underB; rw [hp2, suf_one, pre_one, hrest]; rfl)
    clear hr hrest
    cases ha : pathB (tx s) with
    | false =>
      have H : Hid (underB (tx s) (tx t) = false) := Lib.hid (by rw [HU.out, ha]; rfl)
      go_enter Tryd.func19, Tryd.ntmps19
      go_wp2_with fail
      refine (cutPrefix_any t s _ ht hs).mono ?_
      rintro e w1 ⟨rfl, rfl⟩
      rw [hp, ← HR.out]
      go_wp2_with fail
      refine (path_any s _ hs).mono ?_
      rintro e w1 ⟨rfl, hx1⟩
      rw [ha]
      go_wp2_with fail
      go_ret
      exact ⟨by rw [H.out]; rfl, hx1⟩
    | true =>
      cases hb : pathB (tx t) with
      | false =>
        have H : Hid (underB (tx s) (tx t) = false) := Lib.hid (by rw [HU.out, hb]; simp)
        go_enter Tryd.func19, Tryd.ntmps19
        go_wp2_with fail
        refine (cutPrefix_any t s _ ht hs).mono ?_
        rintro e w1 ⟨rfl, rfl⟩
        rw [hp, ← HR.out]
        go_wp2_with fail
        refine (path_any s _ hs).mono ?_
        rintro e w1 ⟨rfl, hx1⟩
        rw [ha]
        go_wp2_with fail
        refine (path_any t _ ht).mono ?_
        rintro e w2 ⟨rfl, hx2⟩
        rw [hb]
        go_wp2_with fail
        go_ret
        exact ⟨by rw [H.out]; rfl, hx1.trans hx2⟩
      | true =>
        by_cases he : tx r = []
        · have H : Hid (underB (tx s) (tx t) = true) := Lib.hid (by rw [HU.out, ha, hb, decide_eq_true he]; rfl)
          have hq : r.toList.isEmpty = true := by rw [tx_toList, he]; rfl
          clear he
          go_enter Tryd.func19, Tryd.ntmps19
          go_wp2_with fail
          refine (cutPrefix_any t s _ ht hs).mono ?_
          rintro e w1 ⟨rfl, rfl⟩
          rw [hp, ← HR.out]
          go_wp2_with fail
          refine (path_any s _ hs).mono ?_
          rintro e w1 ⟨rfl, hx1⟩
          rw [ha]
          go_wp2_with fail
          refine (path_any t _ ht).mono ?_
          rintro e w2 ⟨rfl, hx2⟩
          rw [hb]
          go_wp2_with fail
          go_ret
          exact ⟨by rw [H.out]; rfl, hx1.trans hx2⟩
        · have hq : r.toList.isEmpty = false := by rw [tx_toList, List.isEmpty_eq_false_iff]; exact he
          have HU2 : Hid (underB (tx s) (tx t) = (sufB s ⟨#[47]⟩ || preB r ⟨#[47]⟩)) := Lib.hid (by rw [HU.out, ha, hb, decide_eq_false he]; simp)
          clear he
          cases hf : sufB s ⟨#[47]⟩ with
          | true =>
            have H : Hid (underB (tx s) (tx t) = true) := Lib.hid (by rw [HU2.out, hf]; rfl)
            go_enter Tryd.func19, Tryd.ntmps19
            go_wp2_with fail
            refine (cutPrefix_any t s _ ht hs).mono ?_
            rintro e w1 ⟨rfl, rfl⟩
            rw [hp, ← HR.out]
            go_wp2_with fail
            refine (path_any s _ hs).mono ?_
            rintro e w1 ⟨rfl, hx1⟩
            rw [ha]
            go_wp2_with fail
            refine (path_any t _ ht).mono ?_
            rintro e w2 ⟨rfl, hx2⟩
            rw [hb]
            go_wp2_with fail
            refine (hasSuffix_any s ⟨#[47]⟩ _ hs (by simp [maxLen, ByteArray.size])).mono ?_
            rintro e w3 ⟨rfl, rfl⟩
            rw [hf]
            go_wp2_with fail
            go_ret
            exact ⟨by rw [H.out]; rfl, hx1.trans hx2⟩
          | false =>
            have H : Hid (underB (tx s) (tx t) = preB r ⟨#[47]⟩) := Lib.hid (by rw [HU2.out, hf]; rfl)
            go_enter Tryd.func19, Tryd.ntmps19
            go_wp2_with fail
            refine (cutPrefix_any t s _ ht hs).mono ?_
            rintro e w1 ⟨rfl, rfl⟩
            rw [hp, ← HR.out]
            go_wp2_with fail
            refine (path_any s _ hs).mono ?_
            rintro e w1 ⟨rfl, hx1⟩
            rw [ha]
            go_wp2_with fail
            refine (path_any t _ ht).mono ?_
            rintro e w2 ⟨rfl, hx2⟩
            rw [hb]
            go_wp2_with fail
            refine (hasSuffix_any s ⟨#[47]⟩ _ hs (by simp [maxLen, ByteArray.size])).mono ?_
            rintro e w3 ⟨rfl, rfl⟩
            rw [hf]
            go_wp2_with fail
            refine (hasPrefix_any r ⟨#[47]⟩ _ (Nat.le_trans hcz ht) (by simp [maxLen, ByteArray.size])).mono ?_
            rintro e w3 ⟨rfl, rfl⟩
            go_wp2_with fail
            go_ret
            exact ⟨by rw [H.out]; rfl, hx1.trans hx2⟩

set_option maxRecDepth 100000 in
set_option maxHeartbeats 1000000 in
theorem nameCmp_any (s t : ByteArray) (w : World) : Calls Tryd.prog 92 #[.string s, .string t] w fun e w' => e = .returned (.int .i64 (Lib.compareBytes (tx s) (tx t))) ∧ w = w' := by
  have K : Calls Tryd.prog 155 #[.string s, .string t] w fun e w' => e = .returned (.int .i64 (Lib.compareBytes (tx s) (tx t))) ∧ w = w' := by
    go_enter Tryd.func155, Tryd.ntmps155
    go_wp2
    rw [run_callFunc_extern Tryd.func160 (by kernel_rfl) (by kernel_rfl) (by kernel_rfl) (e := Extern.BytealgCompare.compare) (by kernel_rfl), Lib.run_compareString]
    simp only [Result.andThen]
    rw [Oper.upon_value]
    go_wp2
    go_ret
    exact ⟨rfl, rfl⟩
  have K2 : Calls Tryd.prog 142 #[.string s, .string t] w fun e w' => e = .returned (.int .i64 (Lib.compareBytes (tx s) (tx t))) ∧ w = w' := by
    go_enter Tryd.func142, Tryd.ntmps142
    go_wp2_with fail
    refine K.mono ?_
    rintro e w' ⟨rfl, rfl⟩
    go_wp2_with fail
    go_ret
    exact ⟨rfl, rfl⟩
  go_enter Tryd.func92, Tryd.ntmps92
  go_wp2_with fail
  refine K2.mono ?_
  rintro e w' ⟨rfl, rfl⟩
  go_wp2_with fail
  go_ret
  exact ⟨rfl, rfl⟩
end Go.Proofs.YtepifkmileilfaaDoor
