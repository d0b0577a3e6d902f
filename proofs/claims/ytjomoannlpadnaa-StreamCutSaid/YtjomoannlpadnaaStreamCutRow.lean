/- StreamCut: THE STATEMENT: whatever its arguments, the law groynelaw11.StreamCut returns true, and its arguments read behind the call as before it. No condition. -/
import Derived.Test.YtjomoannlpadnaaStreamOpen
import Derived.Test.YtjomoannlpadnaaStreamLaws4
namespace Go.Proofs.Ytjomoannlpadnaa
open Go.ChangeShapes Go.WideShapes Go.ChangeAt Go.RowKit
open Go.ChangeMaps (open_string shut_string)
set_option linter.unusedVariables false

set_option maxRecDepth 100000 in
theorem streamCut_lifted (os : Os) (started : os.Started) (H : Type) (enc : TypeId × Value → H) :
    ReturnsInHanded {} Try.checked os 18 .any (Rows.streamCutSpec.pre6 enc Try.prog Try.f18 Rows.streamCutRow.domain false) (Rows.streamCutSpec.post enc Try.prog Try.f18 false true false false) := by
  refine lift_law (tb := 4) own0 started (by kernel_rfl) Try.func18
    (ChangeSpec.witness6 (enc := enc) (C := Try.checked) false ⟨#[], #[.slice none 0 0, .slice none 0 0, .slice none 0 0], []⟩ 8 (by kernel_rfl) (by kernel_rfl) (by kernel_rfl) (by kernel_rfl))
    laid0 (by kernel_rfl) rfl (by kernel_rfl) Try.underlying4 ?spec ?contract
  case spec =>
    intro ds h
    match ds, h with
    | [_, _, _], _ => exact ⟨rfl, rfl, rfl⟩
  case contract =>
    intro W base args ds p hval hA hsz
    rw [Try.params18] at hA hval hsz
    obtain ⟨v0, vs0, d0, ds0, p0, q0, hargs, rfl, -, h0, r0⟩ := trodAll_cons hA
    obtain ⟨v1, vs1, d1, ds1, p1, q1, rfl, rfl, -, h1, r1⟩ := trodAll_cons r0
    obtain ⟨v2, vs2, d2, ds2, p2, q2, rfl, rfl, -, h2, r2⟩ := trodAll_cons r1
    obtain ⟨rfl, rfl, -⟩ := trodAll_nil r2
    obtain rfl : args = #[v0, v1, v2] := by cases args; simp_all
    clear hA r0 r1
    obtain ⟨A0, n0, c0, l0, rfl, hn0, hc0, hz0, ha0, hd0⟩ := arg_arr (size := 1) (R := ByteR) Try.underlying42 (by kernel_rfl) (by omega) (open_byteR Try.underlying5) (hval 0 42 v0 rfl rfl) h0
    obtain ⟨A1, n1, c1, l1, rfl, hn1, hc1, hz1, ha1, hd1⟩ := arg_arr (size := 1) (R := ByteR) Try.underlying42 (by kernel_rfl) (by omega) (open_byteR Try.underlying5) (hval 1 42 v1 rfl rfl) h1
    obtain ⟨A2, n2, c2, l2, rfl, hn2, hc2, hz2, ha2, hd2⟩ := arg_arr (size := 1) (R := ByteR) Try.underlying42 (by kernel_rfl) (by omega) (open_byteR Try.underlying5) (hval 2 42 v2 rfl rfl) h2
    rcases Nat.lt_or_ge 500 n0 with hp | hp
    · exact streamCut_long A0 A1 A2 n0 c0 n1 c1 n2 c2 W (.inl hp)
    · rcases Nat.lt_or_ge 500 n1 with hq | hq
      · exact streamCut_long A0 A1 A2 n0 c0 n1 c1 n2 c2 W (.inr (.inl hq))
      · rcases Nat.lt_or_ge 500 n2 with hr | hr
        · exact streamCut_long A0 A1 A2 n0 c0 n1 c1 n2 c2 W (.inr (.inr hr))
        · exact streamCut_any A0 A1 A2 n0 c0 n1 c1 n2 c2 l0 l1 l2 W ha0 hz0 ha1 hz1 ha2 hz2 hp hq hr

theorem streamCut_proved : Rows.StreamCutSaid :=
  OpenClaim.holds_of_wide 18 Try.f18 rfl rfl rfl rfl rfl rfl rfl ⟨rfl, rfl, rfl, rfl, rfl⟩ rfl rfl rfl rfl rfl (by kernel_rfl) Try.func18 (by kernel_rfl)
    (of_decide_eq_true (by kernel_rfl)) (by unfold Func.isWrapper; rw [if_neg (of_decide_eq_false (by kernel_rfl))]; exact ⟨rfl, rfl⟩)
    (fun os started H enc _ => streamCut_lifted os started H enc)
end Go.Proofs.Ytjomoannlpadnaa
