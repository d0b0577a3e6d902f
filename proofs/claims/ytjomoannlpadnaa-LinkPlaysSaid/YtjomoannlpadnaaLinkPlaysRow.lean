/- LinkPlays: THE STATEMENT: whatever its arguments, the law groynelaw12.LinkPlays returns true, and its arguments read behind the call as before it. No condition. -/
import Derived.Test.YtjomoannlpadnaaLinkAct
import Derived.Test.YtjomoannlpadnaaLinkPlays
namespace Go.Proofs.Ytjomoannlpadnaa
open Go.ChangeShapes Go.WideShapes Go.ChangeAt Go.RowKit
open Go.ChangeMaps (open_string shut_string)
set_option linter.unusedVariables false

set_option maxRecDepth 100000 in
theorem linkPlays_lifted (os : Os) (started : os.Started) (H : Type) (enc : TypeId × Value → H) :
    ReturnsInHanded {} Try.checked os 14 .any (Rows.linkPlaysSpec.pre6 enc Try.prog Try.f14 Rows.linkPlaysRow.domain false) (Rows.linkPlaysSpec.post enc Try.prog Try.f14 false true false false) := by
  refine lift_law (tb := 4) own0 started (by kernel_rfl) Try.func14
    (ChangeSpec.witness6 (enc := enc) (C := Try.checked) false ⟨#[], #[.agg #[.int .i64 0, .slice none 0 0], .slice none 0 0], []⟩ 8 (by kernel_rfl) (by kernel_rfl) (by kernel_rfl) (by kernel_rfl))
    laid0 (by kernel_rfl) rfl (by kernel_rfl) Try.underlying4 ?spec ?contract
  case spec =>
    intro ds h
    match ds, h with
    | [_, _], _ => exact ⟨rfl, rfl, rfl⟩
  case contract =>
    intro W base args ds p hval hA hsz
    rw [Try.params14] at hA hval hsz
    obtain ⟨v0, vs0, d0, ds0, p0, q0, hargs, rfl, -, h0, r0⟩ := trodAll_cons hA
    obtain ⟨v1, vs1, d1, ds1, p1, q1, rfl, rfl, -, h1, r1⟩ := trodAll_cons r0
    obtain ⟨rfl, rfl, -⟩ := trodAll_nil r1
    obtain rfl : args = #[v0, v1] := by cases args; simp_all
    clear hA r0
    have hval0 := hval 0 37 v0 rfl rfl
    have hval1 := hval 1 70 v1 rfl rfl
    obtain ⟨ep, A, n, c, q, rfl, hn, hc, hl⟩ := arg_link hval0 h0
    have hm : n ≤ 9223372036854775807 := by unfold maxLen at hc; omega
    obtain ⟨Aa, na, ca, ya, rfl, hna, hca, hya⟩ := arg_acts hval1 h1
    cases hf : fewB q with
    | false => exact linkPlays_few ep A Aa n c na ca ⟨ep, q⟩ W ⟨rfl, hl⟩ hm hf
    | true =>
      rcases Nat.lt_or_ge 60 na with hb | hb
      · exact linkPlays_many ep A Aa n c na ca ⟨ep, q⟩ W ⟨rfl, hl⟩ hm hf hb
      · exact linkPlays_main ep A Aa n c na ca ⟨ep, q⟩ ya W ⟨rfl, hl⟩ hm hf hb hya

theorem linkPlays_proved : Rows.LinkPlaysSaid :=
  OpenClaim.holds_of_wide 14 Try.f14 rfl rfl rfl rfl rfl rfl rfl ⟨rfl, rfl, rfl, rfl, rfl⟩ rfl rfl rfl rfl rfl (by kernel_rfl) Try.func14 (by kernel_rfl)
    (of_decide_eq_true (by kernel_rfl)) (by unfold Func.isWrapper; rw [if_neg (of_decide_eq_false (by kernel_rfl))]; exact ⟨rfl, rfl⟩)
    (fun os started H enc _ => linkPlays_lifted os started H enc)
end Go.Proofs.Ytjomoannlpadnaa
