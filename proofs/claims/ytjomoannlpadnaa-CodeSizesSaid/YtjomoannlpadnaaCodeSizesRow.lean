/- CodeSizes: THE STATEMENT: whatever its arguments, the law groynelaw02.CodeSizes returns true, and its arguments read behind the call as before it. No condition. -/
import Derived.Test.YtjomoannlpadnaaCodeOpen
import Derived.Test.YtjomoannlpadnaaCodeLaws
namespace Go.Proofs.Ytjomoannlpadnaa
open Go.ChangeShapes Go.WideShapes Go.ChangeAt Go.RowKit
open Go.ChangeMaps (open_string shut_string)
set_option linter.unusedVariables false

set_option maxRecDepth 100000 in
theorem codeSizes_lifted (os : Os) (started : os.Started) (H : Type) (enc : TypeId × Value → H) :
    ReturnsInHanded {} Try.checked os 12 .any (Rows.codeSizesSpec.pre6 enc Try.prog Try.f12 Rows.codeSizesRow.domain false) (Rows.codeSizesSpec.post enc Try.prog Try.f12 false true false false) := by
  refine lift_law (tb := 4) own0 started (by kernel_rfl) Try.func12
    (ChangeSpec.witness6 (enc := enc) (C := Try.checked) false ⟨#[], #[.int .i64 0, .int .i64 0, .string ⟨#[]⟩], []⟩ 8 (by kernel_rfl) (by kernel_rfl) (by kernel_rfl) (by kernel_rfl))
    laid0 (by kernel_rfl) rfl (by kernel_rfl) Try.underlying4 ?spec ?contract
  case spec =>
    intro ds h
    match ds, h with
    | [_, _, _], _ => exact ⟨rfl, rfl, rfl⟩
  case contract =>
    intro W base args ds p hval hA hsz
    rw [Try.params12] at hA hval hsz
    obtain ⟨v0, vs0, d0, ds0, p0, q0, hargs, rfl, -, h0, r0⟩ := trodAll_cons hA
    obtain ⟨v1, vs1, d1, ds1, p1, q1, rfl, rfl, -, h1, r1⟩ := trodAll_cons r0
    obtain ⟨v2, vs2, d2, ds2, p2, q2, rfl, rfl, -, h2, r2⟩ := trodAll_cons r1
    obtain ⟨rfl, rfl, -⟩ := trodAll_nil r2
    obtain rfl : args = #[v0, v1, v2] := by cases args; simp_all
    clear hA r0 r1
    obtain ⟨a0, rfl, -, -, w0⟩ := open_int Try.underlying3 (hval 0 3 v0 rfl rfl) h0
    obtain ⟨a1, rfl, -, -, w1⟩ := open_int Try.underlying3 (hval 1 3 v1 rfl rfl) h1
    obtain ⟨s2, rfl, -, -, hs2⟩ := open_string Try.underlying9 (hval 2 9 v2 rfl rfl) h2
    rcases Nat.lt_or_ge 500 s2.size with hp | hp
    · exact codeSizes_big a0 a1 s2 W hp
    · exact codeSizes_any a0 a1 s2 W hp

theorem codeSizes_proved : Rows.CodeSizesSaid :=
  OpenClaim.holds_of_wide 12 Try.f12 rfl rfl rfl rfl rfl rfl rfl ⟨rfl, rfl, rfl, rfl, rfl⟩ rfl rfl rfl rfl rfl (by kernel_rfl) Try.func12 (by kernel_rfl)
    (of_decide_eq_true (by kernel_rfl)) (by unfold Func.isWrapper; rw [if_neg (of_decide_eq_false (by kernel_rfl))]; exact ⟨rfl, rfl⟩)
    (fun os started H enc _ => codeSizes_lifted os started H enc)
end Go.Proofs.Ytjomoannlpadnaa
