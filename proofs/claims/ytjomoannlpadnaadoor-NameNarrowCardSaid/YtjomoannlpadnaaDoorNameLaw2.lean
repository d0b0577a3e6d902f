/- The laws of layer 1: NameOrder, NameNarrow. -/
import Derived.Test.YtjomoannlpadnaaDoorNameLaw
namespace Go.Proofs.YtjomoannlpadnaaDoor
set_option linter.unusedVariables false
open Go.RowKit Go.Lib

theorem u8_lt {a b : UInt8} : a < b ↔ a.toNat < b.toNat := UInt8.lt_iff_toNat_lt
theorem cb_range (a b : List UInt8) : compareBytes a b = -1 ∨ compareBytes a b = 0 ∨ compareBytes a b = 1 := by
  induction a generalizing b with
  | nil => cases b <;> simp [compareBytes]
  | cons x a ih =>
    cases b with
    | nil => simp [compareBytes]
    | cons y b => unfold compareBytes; split
                  · exact .inl rfl
                  · split
                    · exact .inr (.inr rfl)
                    · exact ih b
theorem cb_anti (a b : List UInt8) : compareBytes a b = - compareBytes b a := by
  induction a generalizing b with
  | nil => cases b <;> simp [compareBytes]
  | cons x a ih =>
    cases b with
    | nil => simp [compareBytes]
    | cons y b =>
      unfold compareBytes
      by_cases h1 : x < y
      · have h2 : ¬ y < x := by rw [u8_lt] at h1 ⊢; omega
        simp [h1, h2]
      · by_cases h2 : y < x
        · simp [h1, h2]
        · simp only [h1, h2, if_false]; exact ih b
theorem cb_zero {a b : List UInt8} : compareBytes a b = 0 ↔ a = b := by
  induction a generalizing b with
  | nil => cases b <;> simp [compareBytes]
  | cons x a ih =>
    cases b with
    | nil => simp [compareBytes]
    | cons y b =>
      unfold compareBytes
      by_cases h1 : x < y
      · have : x ≠ y := by rintro rfl; rw [u8_lt] at h1; omega
        simp [h1, this]
      · by_cases h2 : y < x
        · have : x ≠ y := by rintro rfl; rw [u8_lt] at h2; omega
          simp [h1, h2, this]
        · have : x = y := by rw [u8_lt] at h1 h2; exact UInt8.toNat_inj.1 (by omega)
          rw [if_neg h1, if_neg h2, List.cons.injEq]; simp only [this, true_and]; exact ih
theorem cb_trans {a b c : List UInt8} (h1 : compareBytes a b ≤ 0) (h2 : compareBytes b c ≤ 0) : compareBytes a c ≤ 0 := by
  induction a generalizing b c with
  | nil => cases c <;> simp [compareBytes]
  | cons x a ih =>
    cases b with
    | nil => simp [compareBytes] at h1
    | cons y b =>
      cases c with
      | nil => simp [compareBytes] at h2
      | cons z c =>
        unfold compareBytes at h1 h2 ⊢
        simp only [u8_lt] at h1 h2 ⊢
        by_cases p1 : x.toNat < y.toNat
        · by_cases p2 : y.toNat < z.toNat
          · rw [if_pos (by omega)]; decide
          · rw [if_neg p2] at h2
            by_cases p3 : z.toNat < y.toNat
            · rw [if_pos p3] at h2; omega
            · rw [if_pos (by omega)]; decide
        · rw [if_neg p1] at h1
          by_cases p1' : y.toNat < x.toNat
          · rw [if_pos p1'] at h1; omega
          · rw [if_neg p1'] at h1
            by_cases p2 : y.toNat < z.toNat
            · rw [if_pos (by omega)]; decide
            · rw [if_neg p2] at h2
              by_cases p3 : z.toNat < y.toNat
              · rw [if_pos p3] at h2; omega
              · rw [if_neg p3] at h2
                rw [if_neg (by omega), if_neg (by omega)]
                exact ih h1 h2

set_option maxHeartbeats 1600000 in
theorem nameOrder_any (a b c : ByteArray) (w : World) : Calls Tryd.prog 7 #[.string a, .string b, .string c] w fun e w' => e = .returned (.bool true) ∧ Ext w w' := by
  have HA := Lib.hid (cb_anti (tx b) (tx a))
  have HZ := Lib.hid (cb_zero (a := tx a) (b := tx b))
  have HT : Hid (compareBytes (tx a) (tx b) ≤ 0 → compareBytes (tx b) (tx c) ≤ 0 → compareBytes (tx a) (tx c) ≤ 0) := Lib.hid cb_trans
  obtain ⟨z, hz⟩ : ∃ z, z = compareBytes (tx b) (tx c) := ⟨_, rfl⟩
  obtain ⟨u, hu⟩ : ∃ u, u = compareBytes (tx a) (tx c) := ⟨_, rfl⟩
  have HB := Lib.hid hz
  have HU := Lib.hid hu
  clear hz hu
  rcases cb_range (tx a) (tx b) with h | h | h
  · have hne : tx a ≠ tx b := fun e => by rw [cb_zero.2 e] at h; cases h
    have hq := beq_not hne
    have HX := Lib.hid h
    have HY : Hid (compareBytes (tx b) (tx a) = 1) := Lib.hid (by have h9 := HA.out; rw [h] at h9; exact h9)
    have hzu : z ≤ 0 → u ≤ 0 := fun hz => by have := HT.out (by rw [h]; decide) (by rw [← HB.out]; exact hz); rw [HU.out]; exact this
    have HZU := Lib.hid hzu
    clear h hne hzu HZ
    by_cases hzp : 0 < z
    · go_enter Tryd.func7, Tryd.ntmps7
      go_wp2_with fail
      refine (awake01 _).mono ?_
      rintro e w1 ⟨rfl, x1⟩
      go_wp2_with fail
      refine (nameCmp_any _ _ _).mono ?_
      rintro e w2 ⟨rfl, rfl⟩
      rw [HX.out]
      go_wp2_with fail
      refine (nameCmp_any _ _ _).mono ?_
      rintro e w2 ⟨rfl, rfl⟩
      rw [HY.out]
      go_wp2_with fail
      refine (nameCmp_any _ _ _).mono ?_
      rintro e w2 ⟨rfl, rfl⟩
      rw [← HB.out]
      go_wp2_with fail
      go_ret
      exact ⟨rfl, x1⟩
    · have hup : u ≤ 0 := HZU.out (by omega)
      go_enter Tryd.func7, Tryd.ntmps7
      go_wp2_with fail
      refine (awake01 _).mono ?_
      rintro e w1 ⟨rfl, x1⟩
      go_wp2_with fail
      refine (nameCmp_any _ _ _).mono ?_
      rintro e w2 ⟨rfl, rfl⟩
      rw [HX.out]
      go_wp2_with fail
      refine (nameCmp_any _ _ _).mono ?_
      rintro e w2 ⟨rfl, rfl⟩
      rw [HY.out]
      go_wp2_with fail
      refine (nameCmp_any _ _ _).mono ?_
      rintro e w2 ⟨rfl, rfl⟩
      rw [← HB.out]
      go_wp2_with fail
      refine (nameCmp_any _ _ _).mono ?_
      rintro e w2 ⟨rfl, rfl⟩
      rw [← HU.out]
      go_wp2_with fail
      go_ret
      exact ⟨rfl, x1⟩
  · have hq := beq_of (cb_zero.1 h)
    have HX := Lib.hid h
    have HY : Hid (compareBytes (tx b) (tx a) = 0) := Lib.hid (by have h9 := HA.out; rw [h] at h9; exact h9)
    have hzu : z ≤ 0 → u ≤ 0 := fun hz => by have := HT.out (by rw [h]; decide) (by rw [← HB.out]; exact hz); rw [HU.out]; exact this
    have HZU := Lib.hid hzu
    clear h hzu HZ
    by_cases hzp : 0 < z
    · go_enter Tryd.func7, Tryd.ntmps7
      go_wp2_with fail
      refine (awake01 _).mono ?_
      rintro e w1 ⟨rfl, x1⟩
      go_wp2_with fail
      refine (nameCmp_any _ _ _).mono ?_
      rintro e w2 ⟨rfl, rfl⟩
      rw [HX.out]
      go_wp2_with fail
      refine (nameCmp_any _ _ _).mono ?_
      rintro e w2 ⟨rfl, rfl⟩
      rw [HY.out]
      go_wp2_with fail
      refine (nameCmp_any _ _ _).mono ?_
      rintro e w2 ⟨rfl, rfl⟩
      rw [← HB.out]
      go_wp2_with fail
      go_ret
      exact ⟨rfl, x1⟩
    · have hup : u ≤ 0 := HZU.out (by omega)
      go_enter Tryd.func7, Tryd.ntmps7
      go_wp2_with fail
      refine (awake01 _).mono ?_
      rintro e w1 ⟨rfl, x1⟩
      go_wp2_with fail
      refine (nameCmp_any _ _ _).mono ?_
      rintro e w2 ⟨rfl, rfl⟩
      rw [HX.out]
      go_wp2_with fail
      refine (nameCmp_any _ _ _).mono ?_
      rintro e w2 ⟨rfl, rfl⟩
      rw [HY.out]
      go_wp2_with fail
      refine (nameCmp_any _ _ _).mono ?_
      rintro e w2 ⟨rfl, rfl⟩
      rw [← HB.out]
      go_wp2_with fail
      refine (nameCmp_any _ _ _).mono ?_
      rintro e w2 ⟨rfl, rfl⟩
      rw [← HU.out]
      go_wp2_with fail
      go_ret
      exact ⟨rfl, x1⟩
  · have hne : tx a ≠ tx b := fun e => by rw [cb_zero.2 e] at h; cases h
    have hq := beq_not hne
    have HX := Lib.hid h
    have HY : Hid (compareBytes (tx b) (tx a) = -1) := Lib.hid (by rw [HA.out, h])
    clear h hne HZ
    go_enter Tryd.func7, Tryd.ntmps7
    go_wp2_with fail
    refine (awake01 _).mono ?_
    rintro e w1 ⟨rfl, x1⟩
    go_wp2_with fail
    refine (nameCmp_any _ _ _).mono ?_
    rintro e w2 ⟨rfl, rfl⟩
    rw [HX.out]
    go_wp2_with fail
    refine (nameCmp_any _ _ _).mono ?_
    rintro e w2 ⟨rfl, rfl⟩
    rw [HY.out]
    go_wp2_with fail
    go_ret
    exact ⟨rfl, x1⟩
theorem narrow_range (a b : List UInt8) : narrowN a b = -1 ∨ narrowN a b = 0 ∨ narrowN a b = 1 := by
  unfold narrowN cmpI; split
  · exact .inl rfl
  · split
    · exact .inr (.inr rfl)
    · exact .inr (.inl rfl)

set_option maxHeartbeats 3200000 in
theorem nameNarrow_any (a b h0 o : ByteArray) (w : World) (ha : a.size ≤ maxLen) (hb : b.size ≤ maxLen) (hh : h0.size ≤ maxLen) (ho : o.size ≤ maxLen) : Calls Tryd.prog 8 #[.string a, .string b, .string h0, .string o] w fun e w' => e = .returned (.bool true) ∧ Ext w w' := by
  have ha' := ha
  have hb' := hb
  have hh' := hh
  have ho' := ho
  unfold maxLen at ha' hb' hh' ho'
  by_cases hl : 200 < a.size ∨ 200 < b.size ∨ 200 < h0.size ∨ 200 < o.size
  · rcases (show 200 < a.size ∨ (¬ 200 < a.size ∧ 200 < b.size) ∨ (¬ 200 < a.size ∧ ¬ 200 < b.size ∧ 200 < h0.size) ∨ (¬ 200 < a.size ∧ ¬ 200 < b.size ∧ ¬ 200 < h0.size ∧ 200 < o.size) by omega) with h | ⟨h, h2⟩ | ⟨h, h2, h3⟩ | ⟨h, h2, h3, h4⟩ <;>
    · clear hl
      go_enter Tryd.func8, Tryd.ntmps8
      go_wp2_with fail
      refine (awake01 _).mono ?_
      rintro e w1 ⟨rfl, x1⟩
      go_wp2_with fail
      go_ret
      exact ⟨rfl, x1⟩
  · have q1 : ¬ 200 < a.size := fun h => hl (.inl h)
    have q2 : ¬ 200 < b.size := fun h => hl (.inr (.inl h))
    have q3 : ¬ 200 < h0.size := fun h => hl (.inr (.inr (.inl h)))
    have q4 : ¬ 200 < o.size := fun h => hl (.inr (.inr (.inr h)))
    clear hl
    have HA := Lib.hid (narrow_anti (tx b) (tx a))
    rcases narrow_range (tx a) (tx b) with h | h | h
    · as_aux_lemma =>
        have HX := Lib.hid h
        have HY : Hid (narrowN (tx b) (tx a) = 1) := Lib.hid (by have h9 := HA.out; rw [h] at h9; exact h9)
        have SM : Hid (matchB (tx a) (tx h0) = true → matchB (tx b) (tx h0) = true → narrowN (tx a) (tx b) = 0 → tx a = tx b) := Lib.hid narrow_same
        clear h
        cases m1 : matchB (tx a) (tx h0) with
        | false =>
          go_enter Tryd.func8, Tryd.ntmps8
          go_wp2_with fail
          refine (awake01 _).mono ?_
          rintro e w1 ⟨rfl, x1⟩
          go_wp2_with fail
          refine (narrow_any _ _ _ ha hb).mono ?_
          rintro e w2 ⟨rfl, rfl⟩
          rw [HX.out]
          go_wp2_with fail
          refine (narrow_any _ _ _ hb ha).mono ?_
          rintro e w2 ⟨rfl, rfl⟩
          rw [HY.out]
          go_wp2_with fail
          refine (matches_any a h0 _ ha hh).mono ?_
          rintro e w2 ⟨rfl, x2⟩
          rw [m1]
          go_wp2_with fail
          go_ret
          exact ⟨rfl, (x1.trans x2)⟩
        | true =>
          cases m2 : matchB (tx b) (tx h0) with
          | false =>
            go_enter Tryd.func8, Tryd.ntmps8
            go_wp2_with fail
            refine (awake01 _).mono ?_
            rintro e w1 ⟨rfl, x1⟩
            go_wp2_with fail
            refine (narrow_any _ _ _ ha hb).mono ?_
            rintro e w2 ⟨rfl, rfl⟩
            rw [HX.out]
            go_wp2_with fail
            refine (narrow_any _ _ _ hb ha).mono ?_
            rintro e w2 ⟨rfl, rfl⟩
            rw [HY.out]
            go_wp2_with fail
            refine (matches_any a h0 _ ha hh).mono ?_
            rintro e w2 ⟨rfl, x2⟩
            rw [m1]
            go_wp2_with fail
            refine (matches_any b h0 _ hb hh).mono ?_
            rintro e w3 ⟨rfl, x3⟩
            rw [m2]
            go_wp2_with fail
            go_ret
            exact ⟨rfl, ((x1.trans x2).trans x3)⟩
          | true =>
            have LS : Hid (matchB (tx b) (tx o) = true → matchB (tx a) (tx o) = true) := Lib.hid (fun h => narrow_less m2 m1 (by rw [HY.out]; decide) h)
            cases m3 : matchB (tx b) (tx o) with
            | false =>
              go_enter Tryd.func8, Tryd.ntmps8
              go_wp2_with fail
              refine (awake01 _).mono ?_
              rintro e w1 ⟨rfl, x1⟩
              go_wp2_with fail
              refine (narrow_any _ _ _ ha hb).mono ?_
              rintro e w2 ⟨rfl, rfl⟩
              rw [HX.out]
              go_wp2_with fail
              refine (narrow_any _ _ _ hb ha).mono ?_
              rintro e w2 ⟨rfl, rfl⟩
              rw [HY.out]
              go_wp2_with fail
              refine (matches_any a h0 _ ha hh).mono ?_
              rintro e w2 ⟨rfl, x2⟩
              rw [m1]
              go_wp2_with fail
              refine (matches_any b h0 _ hb hh).mono ?_
              rintro e w3 ⟨rfl, x3⟩
              rw [m2]
              go_wp2_with fail
              refine (matches_any b o _ hb ho).mono ?_
              rintro e w4 ⟨rfl, x4⟩
              rw [m3]
              go_wp2_with fail
              go_ret
              exact ⟨rfl, (((x1.trans x2).trans x3).trans x4)⟩
            | true =>
              have m4 := LS.out m3
              go_enter Tryd.func8, Tryd.ntmps8
              go_wp2_with fail
              refine (awake01 _).mono ?_
              rintro e w1 ⟨rfl, x1⟩
              go_wp2_with fail
              refine (narrow_any _ _ _ ha hb).mono ?_
              rintro e w2 ⟨rfl, rfl⟩
              rw [HX.out]
              go_wp2_with fail
              refine (narrow_any _ _ _ hb ha).mono ?_
              rintro e w2 ⟨rfl, rfl⟩
              rw [HY.out]
              go_wp2_with fail
              refine (matches_any a h0 _ ha hh).mono ?_
              rintro e w2 ⟨rfl, x2⟩
              rw [m1]
              go_wp2_with fail
              refine (matches_any b h0 _ hb hh).mono ?_
              rintro e w3 ⟨rfl, x3⟩
              rw [m2]
              go_wp2_with fail
              refine (matches_any b o _ hb ho).mono ?_
              rintro e w4 ⟨rfl, x4⟩
              rw [m3]
              go_wp2_with fail
              refine (matches_any a o _ ha ho).mono ?_
              rintro e w5 ⟨rfl, x5⟩
              rw [m4]
              go_wp2_with fail
              go_ret
              exact ⟨rfl, ((((x1.trans x2).trans x3).trans x4).trans x5)⟩
    · as_aux_lemma =>
        have HX := Lib.hid h
        have HY : Hid (narrowN (tx b) (tx a) = 0) := Lib.hid (by have h9 := HA.out; rw [h] at h9; exact h9)
        have SM : Hid (matchB (tx a) (tx h0) = true → matchB (tx b) (tx h0) = true → narrowN (tx a) (tx b) = 0 → tx a = tx b) := Lib.hid narrow_same
        clear h
        cases m1 : matchB (tx a) (tx h0) with
        | false =>
          go_enter Tryd.func8, Tryd.ntmps8
          go_wp2_with fail
          refine (awake01 _).mono ?_
          rintro e w1 ⟨rfl, x1⟩
          go_wp2_with fail
          refine (narrow_any _ _ _ ha hb).mono ?_
          rintro e w2 ⟨rfl, rfl⟩
          rw [HX.out]
          go_wp2_with fail
          refine (narrow_any _ _ _ hb ha).mono ?_
          rintro e w2 ⟨rfl, rfl⟩
          rw [HY.out]
          go_wp2_with fail
          refine (matches_any a h0 _ ha hh).mono ?_
          rintro e w2 ⟨rfl, x2⟩
          rw [m1]
          go_wp2_with fail
          go_ret
          exact ⟨rfl, (x1.trans x2)⟩
        | true =>
          cases m2 : matchB (tx b) (tx h0) with
          | false =>
            go_enter Tryd.func8, Tryd.ntmps8
            go_wp2_with fail
            refine (awake01 _).mono ?_
            rintro e w1 ⟨rfl, x1⟩
            go_wp2_with fail
            refine (narrow_any _ _ _ ha hb).mono ?_
            rintro e w2 ⟨rfl, rfl⟩
            rw [HX.out]
            go_wp2_with fail
            refine (narrow_any _ _ _ hb ha).mono ?_
            rintro e w2 ⟨rfl, rfl⟩
            rw [HY.out]
            go_wp2_with fail
            refine (matches_any a h0 _ ha hh).mono ?_
            rintro e w2 ⟨rfl, x2⟩
            rw [m1]
            go_wp2_with fail
            refine (matches_any b h0 _ hb hh).mono ?_
            rintro e w3 ⟨rfl, x3⟩
            rw [m2]
            go_wp2_with fail
            go_ret
            exact ⟨rfl, ((x1.trans x2).trans x3)⟩
          | true =>
            have hq := beq_of (SM.out m1 m2 HX.out)
            go_enter Tryd.func8, Tryd.ntmps8
            go_wp2_with fail
            refine (awake01 _).mono ?_
            rintro e w1 ⟨rfl, x1⟩
            go_wp2_with fail
            refine (narrow_any _ _ _ ha hb).mono ?_
            rintro e w2 ⟨rfl, rfl⟩
            rw [HX.out]
            go_wp2_with fail
            refine (narrow_any _ _ _ hb ha).mono ?_
            rintro e w2 ⟨rfl, rfl⟩
            rw [HY.out]
            go_wp2_with fail
            refine (matches_any a h0 _ ha hh).mono ?_
            rintro e w2 ⟨rfl, x2⟩
            rw [m1]
            go_wp2_with fail
            refine (matches_any b h0 _ hb hh).mono ?_
            rintro e w3 ⟨rfl, x3⟩
            rw [m2]
            go_wp2_with fail
            go_ret
            exact ⟨rfl, ((x1.trans x2).trans x3)⟩
    · as_aux_lemma =>
        have HX := Lib.hid h
        have HY : Hid (narrowN (tx b) (tx a) = -1) := Lib.hid (by have h9 := HA.out; rw [h] at h9; exact h9)
        have SM : Hid (matchB (tx a) (tx h0) = true → matchB (tx b) (tx h0) = true → narrowN (tx a) (tx b) = 0 → tx a = tx b) := Lib.hid narrow_same
        clear h
        cases m1 : matchB (tx a) (tx h0) with
        | false =>
          go_enter Tryd.func8, Tryd.ntmps8
          go_wp2_with fail
          refine (awake01 _).mono ?_
          rintro e w1 ⟨rfl, x1⟩
          go_wp2_with fail
          refine (narrow_any _ _ _ ha hb).mono ?_
          rintro e w2 ⟨rfl, rfl⟩
          rw [HX.out]
          go_wp2_with fail
          refine (narrow_any _ _ _ hb ha).mono ?_
          rintro e w2 ⟨rfl, rfl⟩
          rw [HY.out]
          go_wp2_with fail
          refine (matches_any a h0 _ ha hh).mono ?_
          rintro e w2 ⟨rfl, x2⟩
          rw [m1]
          go_wp2_with fail
          go_ret
          exact ⟨rfl, (x1.trans x2)⟩
        | true =>
          cases m2 : matchB (tx b) (tx h0) with
          | false =>
            go_enter Tryd.func8, Tryd.ntmps8
            go_wp2_with fail
            refine (awake01 _).mono ?_
            rintro e w1 ⟨rfl, x1⟩
            go_wp2_with fail
            refine (narrow_any _ _ _ ha hb).mono ?_
            rintro e w2 ⟨rfl, rfl⟩
            rw [HX.out]
            go_wp2_with fail
            refine (narrow_any _ _ _ hb ha).mono ?_
            rintro e w2 ⟨rfl, rfl⟩
            rw [HY.out]
            go_wp2_with fail
            refine (matches_any a h0 _ ha hh).mono ?_
            rintro e w2 ⟨rfl, x2⟩
            rw [m1]
            go_wp2_with fail
            refine (matches_any b h0 _ hb hh).mono ?_
            rintro e w3 ⟨rfl, x3⟩
            rw [m2]
            go_wp2_with fail
            go_ret
            exact ⟨rfl, ((x1.trans x2).trans x3)⟩
          | true =>
            have LS : Hid (matchB (tx a) (tx o) = true → matchB (tx b) (tx o) = true) := Lib.hid (fun h => narrow_less m1 m2 (by rw [HX.out]; decide) h)
            cases m3 : matchB (tx a) (tx o) with
            | false =>
              go_enter Tryd.func8, Tryd.ntmps8
              go_wp2_with fail
              refine (awake01 _).mono ?_
              rintro e w1 ⟨rfl, x1⟩
              go_wp2_with fail
              refine (narrow_any _ _ _ ha hb).mono ?_
              rintro e w2 ⟨rfl, rfl⟩
              rw [HX.out]
              go_wp2_with fail
              refine (narrow_any _ _ _ hb ha).mono ?_
              rintro e w2 ⟨rfl, rfl⟩
              rw [HY.out]
              go_wp2_with fail
              refine (matches_any a h0 _ ha hh).mono ?_
              rintro e w2 ⟨rfl, x2⟩
              rw [m1]
              go_wp2_with fail
              refine (matches_any b h0 _ hb hh).mono ?_
              rintro e w3 ⟨rfl, x3⟩
              rw [m2]
              go_wp2_with fail
              refine (matches_any a o _ ha ho).mono ?_
              rintro e w4 ⟨rfl, x4⟩
              rw [m3]
              go_wp2_with fail
              go_ret
              exact ⟨rfl, (((x1.trans x2).trans x3).trans x4)⟩
            | true =>
              have m4 := LS.out m3
              go_enter Tryd.func8, Tryd.ntmps8
              go_wp2_with fail
              refine (awake01 _).mono ?_
              rintro e w1 ⟨rfl, x1⟩
              go_wp2_with fail
              refine (narrow_any _ _ _ ha hb).mono ?_
              rintro e w2 ⟨rfl, rfl⟩
              rw [HX.out]
              go_wp2_with fail
              refine (narrow_any _ _ _ hb ha).mono ?_
              rintro e w2 ⟨rfl, rfl⟩
              rw [HY.out]
              go_wp2_with fail
              refine (matches_any a h0 _ ha hh).mono ?_
              rintro e w2 ⟨rfl, x2⟩
              rw [m1]
              go_wp2_with fail
              refine (matches_any b h0 _ hb hh).mono ?_
              rintro e w3 ⟨rfl, x3⟩
              rw [m2]
              go_wp2_with fail
              refine (matches_any a o _ ha ho).mono ?_
              rintro e w4 ⟨rfl, x4⟩
              rw [m3]
              go_wp2_with fail
              refine (matches_any b o _ hb ho).mono ?_
              rintro e w5 ⟨rfl, x5⟩
              rw [m4]
              go_wp2_with fail
              go_ret
              exact ⟨rfl, ((((x1.trans x2).trans x3).trans x4).trans x5)⟩
end Go.Proofs.YtjomoannlpadnaaDoor
