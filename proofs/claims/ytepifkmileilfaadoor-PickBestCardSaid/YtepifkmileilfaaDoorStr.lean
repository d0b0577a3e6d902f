/- What the library's small functions on strings compute. -/
import Derived.Test.YtepifkmileilfaaDoorRows
import Derived.Test.YtepifkmileilfaaDoorBase
import Derived.Test.YtepifkmileilfaaDoorNamePlain
import Derived.Lib.Strings
import Derived.Lib.IndexBytes
namespace Go.Proofs.YtepifkmileilfaaDoor
set_option linter.unusedVariables false
open Go.RowKit

/-- a string's bytes -/
def tx (s : ByteArray) : List UInt8 := s.data.toList
theorem tx_toList (s : ByteArray) : s.toList = tx s := Lib.toList_data s
theorem tx_len (s : ByteArray) : (tx s).length = s.size := by unfold tx; rw [Array.length_toList]; rfl
theorem tx_extract (s : ByteArray) (a b : Nat) : tx (s.extract a b) = ((tx s).take b).drop a := by
  unfold tx; rw [ByteArray.data_extract, Array.toList_extract, List.extract_eq_drop_take']
theorem tx_inj {s t : ByteArray} (h : tx s = tx t) : s = t := ByteArray.ext (Array.toList_inj.1 h)
theorem tx_beq (s t : ByteArray) : (s.toList == t.toList) = decide (tx s = tx t) := by
  rw [tx_toList, tx_toList, Bool.eq_iff_iff]; simp
def mkS (l : List UInt8) : ByteArray := ⟨l.toArray⟩
def preB (s p : ByteArray) : Bool := decide (tx p <+: tx s)
def sufB (s p : ByteArray) : Bool := decide (tx p <:+ tx s)
def cutS (s p : ByteArray) : ByteArray := if tx p <+: tx s then s.extract p.size s.size else s
theorem tx_mk (l : List UInt8) : tx (mkS l) = l := rfl

set_option maxHeartbeats 400000 in
theorem slHasPrefix_any (s p : ByteArray) (w : World) (hs : s.size ≤ maxLen) (hp : p.size ≤ maxLen) :
    Calls Tryd.prog 113 #[.string s, .string p] w fun e w' => e = .returned (.bool (preB s p)) ∧ w = w' := by
  unfold maxLen at hs hp
  by_cases h : p.size ≤ s.size
  · have H : Hid (((s.extract 0 p.size).toList == p.toList) = preB s p) := Lib.hid (by
      unfold preB; rw [tx_beq, tx_extract, List.drop_zero, ← tx_len p, Bool.eq_iff_iff]
      simp only [decide_eq_true_eq]
      rw [List.prefix_iff_eq_take]; exact ⟨fun h => h.symm, fun h => h.symm⟩)
    go_enter Tryd.func113, Tryd.ntmps113
    go_wp2_with fail
    go_ret
    exact ⟨ret_bool H.out, rfl⟩
  · have H : Hid (false = preB s p) := Lib.hid (by
      symm; rw [preB, decide_eq_false_iff_not]; intro h'; have := h'.length_le; rw [tx_len, tx_len] at this; omega)
    go_enter Tryd.func113, Tryd.ntmps113
    go_wp2_with fail
    go_ret
    exact ⟨ret_bool H.out, rfl⟩
set_option maxHeartbeats 400000 in
theorem hasPrefix_any (s p : ByteArray) (w : World) (hs : s.size ≤ maxLen) (hp : p.size ≤ maxLen) :
    Calls Tryd.prog 59 #[.string s, .string p] w fun e w' => e = .returned (.bool (preB s p)) ∧ w = w' := by
  go_enter Tryd.func59, Tryd.ntmps59
  go_wp2_with fail
  refine (slHasPrefix_any s p _ hs hp).mono ?_
  rintro e w' ⟨rfl, rfl⟩
  go_wp2_with fail
  go_ret
  exact ⟨rfl, rfl⟩
set_option maxHeartbeats 400000 in
theorem hasSuffix_any (s p : ByteArray) (w : World) (hs : s.size ≤ maxLen) (hp : p.size ≤ maxLen) :
    Calls Tryd.prog 61 #[.string s, .string p] w fun e w' => e = .returned (.bool (sufB s p)) ∧ w = w' := by
  unfold maxLen at hs hp
  have K : Calls Tryd.prog 115 #[.string s, .string p] w fun e w' => e = .returned (.bool (sufB s p)) ∧ w = w' := by
    by_cases h : p.size ≤ s.size
    · have H : Hid (((s.extract (s.size - p.size) s.size).toList == p.toList) = sufB s p) := Lib.hid (by
        unfold sufB; rw [tx_beq, tx_extract, List.take_of_length_le (by rw [tx_len]; omega), ← tx_len p, ← tx_len s, Bool.eq_iff_iff]
        simp only [decide_eq_true_eq]
        rw [List.suffix_iff_eq_drop]; exact ⟨fun h => h.symm, fun h => h.symm⟩)
      go_enter Tryd.func115, Tryd.ntmps115
      go_wp2_with fail
      go_ret
      exact ⟨ret_bool H.out, rfl⟩
    · have H : Hid (false = sufB s p) := Lib.hid (by
        symm; rw [sufB, decide_eq_false_iff_not]; intro h'; have := h'.length_le; rw [tx_len, tx_len] at this; omega)
      go_enter Tryd.func115, Tryd.ntmps115
      go_wp2_with fail
      go_ret
      exact ⟨ret_bool H.out, rfl⟩
  go_enter Tryd.func61, Tryd.ntmps61
  go_wp2_with fail
  refine K.mono ?_
  rintro e w' ⟨rfl, rfl⟩
  go_wp2_with fail
  go_ret
  exact ⟨rfl, rfl⟩
set_option maxHeartbeats 400000 in
/-- CutPrefix: what is left, and whether the prefix was there -/
theorem cutPrefix_any (s p : ByteArray) (w : World) (hs : s.size ≤ maxLen) (hp : p.size ≤ maxLen) :
    Calls Tryd.prog 60 #[.string s, .string p] w fun e w' => e = .returned (.tuple #[.string (cutS s p), .bool (preB s p)]) ∧ w = w' := by
  have K : Calls Tryd.prog 114 #[.string s, .string p] w fun e w' => e = .returned (.tuple #[.string (cutS s p), .bool (preB s p)]) ∧ w = w' := by
    by_cases h : tx p <+: tx s
    · have hl : p.size ≤ s.size := by have := h.length_le; rw [tx_len, tx_len] at this; exact this
      have H : Hid ((cutS s p) = s.extract p.size s.size) := Lib.hid (by unfold cutS; exact if_pos h)
      have hd : Hid (preB s p = true) := Lib.hid (by unfold preB; exact decide_eq_true h)
      clear h
      go_enter Tryd.func114, Tryd.ntmps114
      go_wp2_with fail
      refine (slHasPrefix_any s p _ hs hp).mono ?_
      rintro e w' ⟨rfl, rfl⟩
      rw [hd.out]
      unfold maxLen at hs hp
      go_wp2_with fail
      go_ret2
      exact ⟨by rw [H.out, hd.out]; rfl, rfl⟩
    · have H : Hid ((cutS s p) = s) := Lib.hid (by unfold cutS; exact if_neg h)
      have hd : Hid (preB s p = false) := Lib.hid (by unfold preB; exact decide_eq_false h)
      clear h
      go_enter Tryd.func114, Tryd.ntmps114
      go_wp2_with fail
      refine (slHasPrefix_any s p _ hs hp).mono ?_
      rintro e w' ⟨rfl, rfl⟩
      rw [hd.out]
      go_wp2_with fail
      go_ret2
      exact ⟨by rw [H.out, hd.out]; rfl, rfl⟩
  go_enter Tryd.func60, Tryd.ntmps60
  go_wp2_with fail
  refine K.mono ?_
  rintro e w' ⟨rfl, rfl⟩
  go_wp2_with fail
  go_ret2
  exact ⟨rfl, rfl⟩
set_option maxHeartbeats 400000 in
theorem trimPrefix_any (s p : ByteArray) (w : World) (hs : s.size ≤ maxLen) (hp : p.size ≤ maxLen) :
    Calls Tryd.prog 64 #[.string s, .string p] w fun e w' => e = .returned (.string (cutS s p)) ∧ w = w' := by
  have K : Calls Tryd.prog 118 #[.string s, .string p] w fun e w' => e = .returned (.string (cutS s p)) ∧ w = w' := by
    by_cases h : tx p <+: tx s
    · have hl : p.size ≤ s.size := by have := h.length_le; rw [tx_len, tx_len] at this; exact this
      have H : Hid ((cutS s p) = s.extract p.size s.size) := Lib.hid (by unfold cutS; exact if_pos h)
      have hd : Hid (preB s p = true) := Lib.hid (by unfold preB; exact decide_eq_true h)
      clear h
      go_enter Tryd.func118, Tryd.ntmps118
      go_wp2_with fail
      refine (slHasPrefix_any s p _ hs hp).mono ?_
      rintro e w' ⟨rfl, rfl⟩
      rw [hd.out]
      unfold maxLen at hs hp
      go_wp2_with fail
      go_ret
      exact ⟨by rw [H.out]; rfl, rfl⟩
    · have H : Hid ((cutS s p) = s) := Lib.hid (by unfold cutS; exact if_neg h)
      have hd : Hid (preB s p = false) := Lib.hid (by unfold preB; exact decide_eq_false h)
      clear h
      go_enter Tryd.func118, Tryd.ntmps118
      go_wp2_with fail
      refine (slHasPrefix_any s p _ hs hp).mono ?_
      rintro e w' ⟨rfl, rfl⟩
      rw [hd.out]
      go_wp2_with fail
      go_ret
      exact ⟨by rw [H.out]; rfl, rfl⟩
  go_enter Tryd.func64, Tryd.ntmps64
  go_wp2_with fail
  refine K.mono ?_
  rintro e w' ⟨rfl, rfl⟩
  go_wp2_with fail
  go_ret
  exact ⟨rfl, rfl⟩
set_option maxHeartbeats 400000 in
theorem cmpInt_any (a b : Int) (w : World) :
    Calls Tryd.prog 91 #[.int .i64 a, .int .i64 b] w fun e w' => e = .returned (.int .i64 (cmpI a b)) ∧ w = w' := by
  have N : ∀ (a : Int) (w : World), Calls Tryd.prog 141 #[.int .i64 a] w fun e w' => e = .returned (.bool false) ∧ w = w' := by
    intro a w
    have ha : (a != a) = false := by simp
    go_enter Tryd.func141, Tryd.ntmps141
    go_wp2_with fail
    go_ret
    exact ⟨rfl, rfl⟩
  by_cases h : a < b
  · have H : Hid (cmpI a b = -1) := Lib.hid (by unfold cmpI; rw [if_pos h])
    go_enter Tryd.func91, Tryd.ntmps91
    go_wp2_with fail
    refine (N _ _).mono ?_
    rintro e w' ⟨rfl, rfl⟩
    go_wp2_with fail
    refine (N _ _).mono ?_
    rintro e w' ⟨rfl, rfl⟩
    go_wp2_with fail
    go_ret
    exact ⟨by rw [H.out]; rfl, rfl⟩
  · by_cases h2 : b < a
    · have H : Hid (cmpI a b = 1) := Lib.hid (by unfold cmpI; rw [if_neg h, if_pos h2])
      go_enter Tryd.func91, Tryd.ntmps91
      go_wp2_with fail
      refine (N _ _).mono ?_
      rintro e w' ⟨rfl, rfl⟩
      go_wp2_with fail
      refine (N _ _).mono ?_
      rintro e w' ⟨rfl, rfl⟩
      go_wp2_with fail
      go_ret
      exact ⟨by rw [H.out]; rfl, rfl⟩
    · have H : Hid (cmpI a b = 0) := Lib.hid (by unfold cmpI; rw [if_neg h, if_neg h2])
      go_enter Tryd.func91, Tryd.ntmps91
      go_wp2_with fail
      refine (N _ _).mono ?_
      rintro e w' ⟨rfl, rfl⟩
      go_wp2_with fail
      refine (N _ _).mono ?_
      rintro e w' ⟨rfl, rfl⟩
      go_wp2_with fail
      go_ret
      exact ⟨by rw [H.out]; rfl, rfl⟩
end Go.Proofs.YtepifkmileilfaaDoor
