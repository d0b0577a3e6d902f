/- LinkKeeps: THE STATEMENT: whatever its arguments, the law groynelaw12.LinkKeeps returns true, and its arguments read behind the call as before it. No condition. -/
import Derived.Test.YtjomoannlpadnaaLinkAct
import Derived.Test.YtjomoannlpadnaaLinkKeeps
namespace Go.Proofs.Ytjomoannlpadnaa
open Go.ChangeShapes Go.WideShapes Go.ChangeAt Go.RowKit
open Go.ChangeMaps (open_string shut_string)
set_option linter.unusedVariables false

set_option maxRecDepth 100000 in
theorem linkKeeps_lifted (os : Os) (started : os.Started) (H : Type) (enc : TypeId × Value → H) :
    ReturnsInHanded {} Try.checked os 15 .any (Rows.linkKeepsSpec.pre6 enc Try.prog Try.f15 Rows.linkKeepsRow.domain false) (Rows.linkKeepsSpec.post enc Try.prog Try.f15 false true false false) := by
  refine lift_law (tb := 4) own0 started (by kernel_rfl) Try.func15
    (ChangeSpec.witness6 (enc := enc) (C := Try.checked) false ⟨#[], #[.agg #[.int .i64 0, .slice none 0 0], .slice none 0 0, .slice none 0 0], []⟩ 8 (by kernel_rfl) (by kernel_rfl) (by kernel_rfl) (by kernel_rfl))
    laid0 (by kernel_rfl) rfl (by kernel_rfl) Try.underlying4 ?spec ?contract
  case spec =>
    intro ds h
    match ds, h with
    | [_, _, _], _ => exact ⟨rfl, rfl, rfl⟩
  case contract =>
    intro W base args ds p hval hA hsz
    rw [Try.params15] at hA hval hsz
    obtain ⟨v0, vs0, d0, ds0, p0, q0, hargs, rfl, -, h0, r0⟩ := trodAll_cons hA
    obtain ⟨v1, vs1, d1, ds1, p1, q1, rfl, rfl, -, h1, r1⟩ := trodAll_cons r0
    obtain ⟨v2, vs2, d2, ds2, p2, q2, rfl, rfl, -, h2, r2⟩ := trodAll_cons r1
    obtain ⟨rfl, rfl, -⟩ := trodAll_nil r2
    obtain rfl : args = #[v0, v1, v2] := by cases args; simp_all
    clear hA r0 r1
    have hval0 := hval 0 37 v0 rfl rfl
    have hval1 := hval 1 70 v1 rfl rfl
    obtain ⟨A2, n2, c2, l2, rfl, hn2, hc2, hz2, ha2, hd2⟩ := arg_arr (size := 1) (R := ByteR) Try.underlying42 (by kernel_rfl) (by omega) (open_byteR Try.underlying5) (hval 2 42 v2 rfl rfl) h2
    obtain ⟨ep, A, n, c, q, rfl, hn, hc, hl⟩ := arg_link hval0 h0
    have hm : n ≤ 9223372036854775807 := by unfold maxLen at hc; omega
    obtain ⟨Aa, na, ca, ya, rfl, hna, hca, hya⟩ := arg_acts hval1 h1
    cases hf : fewB q with
    | false => exact linkKeeps_few ep A Aa A2 n c na ca n2 c2 ⟨ep, q⟩ W ⟨rfl, hl⟩ hm hf
    | true =>
      rcases Nat.lt_or_ge 60 na with hb | hb
      · exact linkKeeps_many ep A Aa A2 n c na ca n2 c2 ⟨ep, q⟩ W ⟨rfl, hl⟩ hm hf hb
      · cases hk : okL ep n with
        | false => exact linkKeeps_sane ep A Aa A2 n c na ca n2 c2 ⟨ep, q⟩ W ⟨rfl, hl⟩ hm hf hb (.inl hk)
        | true =>
          rcases Nat.lt_or_ge 300 n2 with hq | hq
          · exact linkKeeps_sane ep A Aa A2 n c na ca n2 c2 ⟨ep, q⟩ W ⟨rfl, hl⟩ hm hf hb (.inr hq)
          · exact linkKeeps_main ep A Aa A2 n c na ca n2 c2 ⟨ep, q⟩ ya l2 W ⟨rfl, hl⟩ hm hf hb hk hq hya ha2

theorem linkKeeps_proved : Rows.LinkKeepsSaid :=
  OpenClaim.holds_of_wide 15 Try.f15 rfl rfl rfl rfl rfl rfl rfl ⟨rfl, rfl, rfl, rfl, rfl⟩ rfl rfl rfl rfl rfl (by kernel_rfl) Try.func15 (by kernel_rfl)
    (of_decide_eq_true (by kernel_rfl)) (by unfold Func.isWrapper; rw [if_neg (of_decide_eq_false (by kernel_rfl))]; exact ⟨rfl, rfl⟩)
    (fun os started H enc _ => linkKeeps_lifted os started H enc)
end Go.Proofs.Ytjomoannlpadnaa
