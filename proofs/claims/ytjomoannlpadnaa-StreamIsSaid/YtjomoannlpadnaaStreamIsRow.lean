/- StreamIs: THE STATEMENT: whatever its arguments, the law groynelaw11.StreamIs returns true, and its arguments read behind the call as before it. No condition. -/
import Derived.Test.YtjomoannlpadnaaStreamOpen
import Derived.Test.YtjomoannlpadnaaStreamLaws6
namespace Go.Proofs.Ytjomoannlpadnaa
open Go.ChangeShapes Go.WideShapes Go.ChangeAt Go.RowKit
open Go.ChangeMaps (open_string shut_string)
set_option linter.unusedVariables false

set_option maxRecDepth 100000 in
theorem streamIs_lifted (os : Os) (started : os.Started) (H : Type) (enc : TypeId × Value → H) :
    ReturnsInHanded {} Try.checked os 17 .any (Rows.streamIsSpec.pre6 enc Try.prog Try.f17 Rows.streamIsRow.domain false) (Rows.streamIsSpec.post enc Try.prog Try.f17 false true false false) := by
  refine lift_law (tb := 4) own0 started (by kernel_rfl) Try.func17
    (ChangeSpec.witness6 (enc := enc) (C := Try.checked) false ⟨#[], #[.slice none 0 0, .agg #[.slice none 0 0, .int .i64 0]], []⟩ 8 (by kernel_rfl) (by kernel_rfl) (by kernel_rfl) (by kernel_rfl))
    laid0 (by kernel_rfl) rfl (by kernel_rfl) Try.underlying4 ?spec ?contract
  case spec =>
    intro ds h
    match ds, h with
    | [_, _], _ => exact ⟨rfl, rfl, rfl⟩
  case contract =>
    intro W base args ds p hval hA hsz
    rw [Try.params17] at hA hval hsz
    obtain ⟨v0, vs0, d0, ds0, p0, q0, hargs, rfl, -, h0, r0⟩ := trodAll_cons hA
    obtain ⟨v1, vs1, d1, ds1, p1, q1, rfl, rfl, -, h1, r1⟩ := trodAll_cons r0
    obtain ⟨rfl, rfl, -⟩ := trodAll_nil r1
    obtain rfl : args = #[v0, v1] := by cases args; simp_all
    clear hA r0
    obtain ⟨A0, n0, c0, l0, rfl, hn0, hc0, hz0, ha0, hd0⟩ := arg_arr (size := 1) (R := ByteR) Try.underlying42 (by kernel_rfl) (by omega) (open_byteR Try.underlying5) (hval 0 42 v0 rfl rfl) h0
    have hval1 := hval 1 81 v1 rfl rfl
    obtain ⟨A1, n1, c1, k1, q1, rfl, hn1, hc1, hz1, ha1⟩ := arg_buf hval1 h1
    rcases Nat.lt_or_ge 1000 n0 with hp | hp
    · exact streamIs_long A0 A1 n0 c0 n1 c1 k1 W (.inl hp)
    · rcases Nat.lt_or_ge 1000 n1 with hq | hq
      · exact streamIs_long A0 A1 n0 c0 n1 c1 k1 W (.inr hq)
      · exact streamIs_any A0 A1 n0 c0 n1 c1 l0 ⟨q1, k1⟩ W ha0 hz0 hn0 (by unfold maxLen at hc0; omega) ha1 hz1 hn1 (by unfold maxLen at hc1; omega) hp hq

theorem streamIs_proved : Rows.StreamIsSaid :=
  OpenClaim.holds_of_wide 17 Try.f17 rfl rfl rfl rfl rfl rfl rfl ⟨rfl, rfl, rfl, rfl, rfl⟩ rfl rfl rfl rfl rfl (by kernel_rfl) Try.func17 (by kernel_rfl)
    (of_decide_eq_true (by kernel_rfl)) (by unfold Func.isWrapper; rw [if_neg (of_decide_eq_false (by kernel_rfl))]; exact ⟨rfl, rfl⟩)
    (fun os started H enc _ => streamIs_lifted os started H enc)
end Go.Proofs.Ytjomoannlpadnaa
