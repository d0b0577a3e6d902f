/- StreamRow: THE STATEMENT: whatever its arguments, the law groynelaw11.StreamRow returns true, and its arguments read behind the call as before it. No condition. -/
import Derived.Test.YtjomoannlpadnaaStreamOpen
import Derived.Test.YtjomoannlpadnaaStreamLaws3
namespace Go.Proofs.Ytjomoannlpadnaa
open Go.ChangeShapes Go.WideShapes Go.ChangeAt Go.RowKit
open Go.ChangeMaps (open_string shut_string)
set_option linter.unusedVariables false

set_option maxRecDepth 100000 in
theorem streamRow_lifted (os : Os) (started : os.Started) (H : Type) (enc : TypeId × Value → H) :
    ReturnsInHanded {} Try.checked os 19 .any (Rows.streamRowSpec.pre6 enc Try.prog Try.f19 Rows.streamRowRow.domain false) (Rows.streamRowSpec.post enc Try.prog Try.f19 false true false false) := by
  refine lift_law (tb := 4) own0 started (by kernel_rfl) Try.func19
    (ChangeSpec.witness6 (enc := enc) (C := Try.checked) false ⟨#[], #[.slice none 0 0, .slice none 0 0, .int .i64 0], []⟩ 8 (by kernel_rfl) (by kernel_rfl) (by kernel_rfl) (by kernel_rfl))
    laid0 (by kernel_rfl) rfl (by kernel_rfl) Try.underlying4 ?spec ?contract
  case spec =>
    intro ds h
    match ds, h with
    | [_, _, _], _ => exact ⟨rfl, rfl, rfl⟩
  case contract =>
    intro W base args ds p hval hA hsz
    rw [Try.params19] at hA hval hsz
    obtain ⟨v0, vs0, d0, ds0, p0, q0, hargs, rfl, -, h0, r0⟩ := trodAll_cons hA
    obtain ⟨v1, vs1, d1, ds1, p1, q1, rfl, rfl, -, h1, r1⟩ := trodAll_cons r0
    obtain ⟨v2, vs2, d2, ds2, p2, q2, rfl, rfl, -, h2, r2⟩ := trodAll_cons r1
    obtain ⟨rfl, rfl, -⟩ := trodAll_nil r2
    obtain rfl : args = #[v0, v1, v2] := by cases args; simp_all
    clear hA r0 r1
    have hval0 := hval 0 35 v0 rfl rfl
    obtain ⟨A1, n1, c1, l1, rfl, hn1, hc1, hz1, ha1, hd1⟩ := arg_arr (size := 1) (R := ByteR) Try.underlying42 (by kernel_rfl) (by omega) (open_byteR Try.underlying5) (hval 1 42 v1 rfl rfl) h1
    obtain ⟨a2, rfl, -, -, w2⟩ := open_int Try.underlying3 (hval 2 3 v2 rfl rfl) h2
    obtain ⟨A0, n0, c0, q0, rfl, hn0, hc0, hq0⟩ := arg_rows hval0 h0
    rcases Nat.lt_or_ge 20 n0 with hp | hp
    · exact streamRow_long A0 A1 n0 c0 n1 c1 a2 W (.inl hp)
    · rcases Nat.lt_or_ge 300 n1 with hq | hq
      · exact streamRow_long A0 A1 n0 c0 n1 c1 a2 W (.inr hq)
      · exact streamRow_any A0 A1 n0 c0 n1 c1 q0 l1 a2 W hq0 ha1 hz1 hp hq

theorem streamRow_proved : Rows.StreamRowSaid :=
  OpenClaim.holds_of_wide 19 Try.f19 rfl rfl rfl rfl rfl rfl rfl ⟨rfl, rfl, rfl, rfl, rfl⟩ rfl rfl rfl rfl rfl (by kernel_rfl) Try.func19 (by kernel_rfl)
    (of_decide_eq_true (by kernel_rfl)) (by unfold Func.isWrapper; rw [if_neg (of_decide_eq_false (by kernel_rfl))]; exact ⟨rfl, rfl⟩)
    (fun os started H enc _ => streamRow_lifted os started H enc)
end Go.Proofs.Ytjomoannlpadnaa
