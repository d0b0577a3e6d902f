/- PickScale: THE STATEMENT: whatever its arguments, the law groynelaw07.PickScale returns true, and its arguments read behind the call as before it. No condition. -/
import Derived.Test.YtjomoannlpadnaaPickOpen
import Derived.Test.YtjomoannlpadnaaPickScale
namespace Go.Proofs.Ytjomoannlpadnaa
open Go.ChangeShapes Go.WideShapes Go.ChangeAt Go.RowKit
open Go.ChangeMaps (open_string shut_string)
set_option linter.unusedVariables false

set_option maxRecDepth 100000 in
theorem pickScale_lifted (os : Os) (started : os.Started) (H : Type) (enc : TypeId × Value → H) :
    ReturnsInHanded {} Try.checked os 5 .any (Rows.pickScaleSpec.pre6 enc Try.prog Try.f5 Rows.pickScaleRow.domain false) (Rows.pickScaleSpec.post enc Try.prog Try.f5 false true false false) := by
  refine lift_law (tb := 4) own0 started (by kernel_rfl) Try.func5
    (ChangeSpec.witness6 (enc := enc) (C := Try.checked) false ⟨#[], #[.slice none 0 0, .int .i64 0], []⟩ 8 (by kernel_rfl) (by kernel_rfl) (by kernel_rfl) (by kernel_rfl))
    laid0 (by kernel_rfl) rfl (by kernel_rfl) Try.underlying4 ?spec ?contract
  case spec =>
    intro ds h
    match ds, h with
    | [_, _], _ => exact ⟨rfl, rfl, rfl⟩
  case contract =>
    intro W base args ds p hval hA hsz
    rw [Try.params5] at hA hval hsz
    obtain ⟨v0, vs0, d0, ds0, p0, q0, hargs, rfl, -, h0, r0⟩ := trodAll_cons hA
    obtain ⟨v1, vs1, d1, ds1, p1, q1, rfl, rfl, -, h1, r1⟩ := trodAll_cons r0
    obtain ⟨rfl, rfl, -⟩ := trodAll_nil r1
    obtain rfl : args = #[v0, v1] := by cases args; simp_all
    clear hA r0
    obtain ⟨A0, n0, c0, l0, rfl, hn0, hc0, hz0, ha0, hd0⟩ := arg_arr (size := 2) (R := WtR) Try.underlying22 (by kernel_rfl) (by omega) open_wtR (hval 0 22 v0 rfl rfl) h0
    obtain ⟨a1, rfl, -, -, w1⟩ := open_int Try.underlying3 (hval 1 3 v1 rfl rfl) h1
    rcases Nat.lt_or_ge 60 n0 with hp | hp
    · exact pickScale_far A0 n0 c0 a1 W hp
    · rcases Int.lt_or_le 0 (tot l0) with h0 | h0
      · exact pickScale_some A0 n0 c0 l0 a1 W ha0 hp h0
      · exact pickScale_none A0 n0 c0 l0 a1 W ha0 hp (Int.le_antisymm h0 (tot_bd l0).1)

theorem pickScale_proved : Rows.PickScaleSaid :=
  OpenClaim.holds_of_wide 5 Try.f5 rfl rfl rfl rfl rfl rfl rfl ⟨rfl, rfl, rfl, rfl, rfl⟩ rfl rfl rfl rfl rfl (by kernel_rfl) Try.func5 (by kernel_rfl)
    (of_decide_eq_true (by kernel_rfl)) (by unfold Func.isWrapper; rw [if_neg (of_decide_eq_false (by kernel_rfl))]; exact ⟨rfl, rfl⟩)
    (fun os started H enc _ => pickScale_lifted os started H enc)
end Go.Proofs.Ytjomoannlpadnaa
