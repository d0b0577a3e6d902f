/- The laws of layer 1: awake, NameUnder, NameOrder. -/
import Derived.Test.YtjomoannlpadnaaDoorName4
namespace Go.Proofs.YtjomoannlpadnaaDoor
set_option linter.unusedVariables false
open Go.RowKit

theorem lit_len {l : List UInt8} (h : l.length ≤ 100) : (ByteArray.mk l.toArray).size ≤ maxLen := by
  show l.toArray.size ≤ maxLen
  simp only [List.size_toArray]; unfold maxLen; omega
set_option maxHeartbeats 800000 in
theorem awake01 (w : World) : Calls Tryd.prog 11 #[] w fun e w' => e = .returned (.bool true) ∧ Ext w w' := by
  go_enter Tryd.func11, Tryd.ntmps11
  go_wp2_with fail
  refine (matches_any _ _ _ (lit_len (l := [42, 46, 98, 46, 99]) (by decide)) (lit_len (l := [97, 46, 98, 46, 99]) (by decide))).mono ?_
  rintro e w1 ⟨rfl, h1⟩
  rw [show matchB (tx ⟨#[42, 46, 98, 46, 99]⟩) (tx ⟨#[97, 46, 98, 46, 99]⟩) = true by decide]
  go_wp2_with fail
  refine (matches_any _ _ _ (lit_len (l := [42, 46, 98, 46, 99]) (by decide)) (lit_len (l := [98, 46, 99]) (by decide))).mono ?_
  rintro e w2 ⟨rfl, h2⟩
  rw [show matchB (tx ⟨#[42, 46, 98, 46, 99]⟩) (tx ⟨#[98, 46, 99]⟩) = false by decide]
  go_wp2_with fail
  refine (sane_any _ _ (lit_len (l := [97, 45, 49]) (by decide))).mono ?_
  rintro e w3 ⟨rfl, h3⟩
  rw [show saneN (tx ⟨#[97, 45, 49]⟩) = true by decide]
  go_wp2_with fail
  refine (under_any _ _ _ (lit_len (l := [47, 97]) (by decide)) (lit_len (l := [47, 97, 47, 98]) (by decide))).mono ?_
  rintro e w4 ⟨rfl, h4⟩
  rw [show underB (tx ⟨#[47, 97]⟩) (tx ⟨#[47, 97, 47, 98]⟩) = true by decide]
  go_wp2_with fail
  refine (under_any _ _ _ (lit_len (l := [47, 97]) (by decide)) (lit_len (l := [47, 97, 98]) (by decide))).mono ?_
  rintro e w5 ⟨rfl, h5⟩
  rw [show underB (tx ⟨#[47, 97]⟩) (tx ⟨#[47, 97, 98]⟩) = false by decide]
  go_wp2_with fail
  go_ret
  exact ⟨rfl, (((h1.trans h2).trans h3).trans h4).trans h5⟩

set_option maxHeartbeats 1600000 in
theorem nameUnder_any (a b c : ByteArray) (w : World) (ha : a.size ≤ maxLen) (hb : b.size ≤ maxLen) (hc : c.size ≤ maxLen) : Calls Tryd.prog 4 #[.string a, .string b, .string c] w fun e w' => e = .returned (.bool true) ∧ Ext w w' := by
  have ha' := ha
  have hb' := hb
  have hc' := hc
  unfold maxLen at ha' hb' hc'
  by_cases hl : 200 < a.size ∨ 200 < b.size ∨ 200 < c.size
  · rcases (show 200 < a.size ∨ (¬ 200 < a.size ∧ 200 < b.size) ∨ (¬ 200 < a.size ∧ ¬ 200 < b.size ∧ 200 < c.size) by omega) with h | ⟨h, h2⟩ | ⟨h, h2, h3⟩ <;>
    · clear hl
      go_enter Tryd.func4, Tryd.ntmps4
      go_wp2_with fail
      refine (awake01 _).mono ?_
      rintro e w1 ⟨rfl, h1⟩
      go_wp2_with fail
      go_ret
      exact ⟨rfl, h1⟩
  · have h1 : ¬ 200 < a.size := fun h => hl (.inl h)
    have h2 : ¬ 200 < b.size := fun h => hl (.inr (.inl h))
    have h3 : ¬ 200 < c.size := fun h => hl (.inr (.inr h))
    clear hl
    have U1 := Lib.hid (under_root (tx c))
    have U2 := Lib.hid (under_self (tx c))
    have L := lit_len (l := [47]) (by decide)
    obtain ⟨p, hp⟩ : ∃ p, p = pathB (tx c) := ⟨_, rfl⟩
    have HP := Lib.hid hp
    clear hp
    have TR : Hid (underB (tx a) (tx b) = true → underB (tx b) (tx c) = true → underB (tx a) (tx c) = true) := Lib.hid under_trans
    cases hac : underB (tx a) (tx c) with
    | true =>
      obtain ⟨q1, q2, q3⟩ := under_pre hac
      have hle := q1.length_le
      rw [tx_len, tx_len] at hle
      have e1 : ((c.extract 0 a.size).toList == a.toList) = true := beq_of (by rw [tx_extract, List.drop_zero, ← tx_len a]; exact (List.prefix_iff_eq_take.1 q1).symm)
      have hpt : p = true := HP.out.trans q2
      rw [q2] at U1 U2
      clear q1 q2
      subst hpt
      go_enter Tryd.func4, Tryd.ntmps4
      go_wp2_with fail
      refine (awake01 _).mono ?_
      rintro e w1 ⟨rfl, x1⟩
      go_wp2_with fail
      refine (path_any c _ hc).mono ?_
      rintro e w2 ⟨rfl, x2⟩
      rw [← HP.out]
      go_wp2_with fail
      refine (under_any _ c _ L hc).mono ?_
      rintro e w3 ⟨rfl, x3⟩
      rw [show tx ⟨#[47]⟩ = [47] from rfl, U1.out]
      go_wp2_with fail
      refine (under_any c c _ hc hc).mono ?_
      rintro e w4 ⟨rfl, x4⟩
      rw [U2.out]
      go_wp2_with fail
      refine (under_any a b _ ha hb).mono ?_
      rintro e w5 ⟨rfl, x5⟩
      have X5 := Lib.hid ((((x1.trans x2).trans x3).trans x4).trans x5)
      clear x1 x2 x3 x4 x5
      cases hab : underB (tx a) (tx b) with
      | true =>
        go_wp2_with fail
        refine (under_any b c _ hb hc).mono ?_
        rintro e w6 ⟨rfl, x6⟩
        cases hbc : underB (tx b) (tx c) with
        | true =>
          go_wp2_with fail
          refine (under_any a c _ ha hc).mono ?_
          rintro e w7 ⟨rfl, x7⟩
          rw [hac]
          go_wp2_with fail
          refine (under_any a c _ ha hc).mono ?_
          rintro e w8 ⟨rfl, x8⟩
          rw [hac]
          go_wp2_with fail
          refine (path_any a _ ha).mono ?_
          rintro e w9 ⟨rfl, x9⟩
          rw [q3]
          go_wp2_with fail
          go_ret
          exact ⟨rfl, (((X5.out.trans x6).trans x7).trans x8).trans x9⟩
        | false =>
          go_wp2_with fail
          refine (under_any a c _ ha hc).mono ?_
          rintro e w8 ⟨rfl, x8⟩
          rw [hac]
          go_wp2_with fail
          refine (path_any a _ ha).mono ?_
          rintro e w9 ⟨rfl, x9⟩
          rw [q3]
          go_wp2_with fail
          go_ret
          exact ⟨rfl, ((X5.out.trans x6).trans x8).trans x9⟩
      | false =>
        go_wp2_with fail
        refine (under_any a c _ ha hc).mono ?_
        rintro e w8 ⟨rfl, x8⟩
        rw [hac]
        go_wp2_with fail
        refine (path_any a _ ha).mono ?_
        rintro e w9 ⟨rfl, x9⟩
        rw [q3]
        go_wp2_with fail
        go_ret
        exact ⟨rfl, (X5.out.trans x8).trans x9⟩
    | false =>
      rw [← HP.out] at U1 U2
      have hpp : (p != p) = false := by simp
      go_enter Tryd.func4, Tryd.ntmps4
      go_wp2_with fail
      refine (awake01 _).mono ?_
      rintro e w1 ⟨rfl, x1⟩
      go_wp2_with fail
      refine (path_any c _ hc).mono ?_
      rintro e w2 ⟨rfl, x2⟩
      rw [← HP.out]
      go_wp2_with fail
      refine (under_any _ c _ L hc).mono ?_
      rintro e w3 ⟨rfl, x3⟩
      rw [show tx ⟨#[47]⟩ = [47] from rfl, U1.out]
      go_wp2_with fail
      refine (under_any c c _ hc hc).mono ?_
      rintro e w4 ⟨rfl, x4⟩
      rw [U2.out]
      go_wp2_with fail
      refine (under_any a b _ ha hb).mono ?_
      rintro e w5 ⟨rfl, x5⟩
      have X5 := Lib.hid ((((x1.trans x2).trans x3).trans x4).trans x5)
      clear x1 x2 x3 x4 x5
      cases hab : underB (tx a) (tx b) with
      | true =>
        have hbc : underB (tx b) (tx c) = false := by
          cases h : underB (tx b) (tx c) with
          | false => rfl
          | true => rw [TR.out hab h] at hac; cases hac
        go_wp2_with fail
        refine (under_any b c _ hb hc).mono ?_
        rintro e w6 ⟨rfl, x6⟩
        rw [hbc]
        go_wp2_with fail
        refine (under_any a c _ ha hc).mono ?_
        rintro e w8 ⟨rfl, x8⟩
        rw [hac]
        go_wp2_with fail
        go_ret
        exact ⟨rfl, (X5.out.trans x6).trans x8⟩
      | false =>
        go_wp2_with fail
        refine (under_any a c _ ha hc).mono ?_
        rintro e w8 ⟨rfl, x8⟩
        rw [hac]
        go_wp2_with fail
        go_ret
        exact ⟨rfl, X5.out.trans x8⟩
end Go.Proofs.YtjomoannlpadnaaDoor
