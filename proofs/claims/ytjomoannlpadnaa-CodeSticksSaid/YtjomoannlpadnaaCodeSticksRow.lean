/- CodeSticks: THE STATEMENT: whatever its arguments, the law groynelaw02.CodeSticks returns true, and its arguments read behind the call as before it. No condition. -/
import Derived.Test.YtjomoannlpadnaaCodeOpen
import Derived.Test.YtjomoannlpadnaaCodeLaws
namespace Go.Proofs.Ytjomoannlpadnaa
open Go.ChangeShapes Go.WideShapes Go.ChangeAt Go.RowKit
open Go.ChangeMaps (open_string shut_string)
theorem open_act2 {H : Type} {enc : TypeId × Value → H} {w : World} {base : Nat} {spare : Nat → Bool} {held : Bool} (n : Nat) (cs : List Value) (x : DataW H × List MemPlace) (hl : cs.length = 2) (h : DataW.trod enc Try.prog w base spare held n 68 cs = some x) : ∃ y, Act2R cs y := by
  match cs, hl with
  | [u0, u1], _ =>
    obtain ⟨n0, y0, h0⟩ := open_field Try.underlying68 h 0 rfl (T := 4) (off := 0) (size := 1) rfl rfl (by kernel_rfl)
    obtain ⟨n1, y1, h1⟩ := open_field Try.underlying68 h 1 rfl (T := 3) (off := 1) (size := 1) rfl rfl (by kernel_rfl)
    obtain ⟨s, e0, _⟩ := DataW.trod_bool Try.underlying4 h0
    obtain ⟨m, e1, _⟩ := DataW.trod_int Try.underlying3 h1
    simp at e0 e1
    subst e0 e1
    exact ⟨(s, m), rfl⟩
set_option linter.unusedVariables false

set_option maxRecDepth 100000 in
theorem codeSticks_lifted (os : Os) (started : os.Started) (H : Type) (enc : TypeId × Value → H) :
    ReturnsInHanded {} Try.checked os 13 .any (Rows.codeSticksSpec.pre6 enc Try.prog Try.f13 Rows.codeSticksRow.domain false) (Rows.codeSticksSpec.post enc Try.prog Try.f13 false true false false) := by
  refine lift_law (tb := 4) own0 started (by kernel_rfl) Try.func13
    (ChangeSpec.witness6 (enc := enc) (C := Try.checked) false ⟨#[], #[.slice none 0 0, .int .i64 0, .slice none 0 0], []⟩ 8 (by kernel_rfl) (by kernel_rfl) (by kernel_rfl) (by kernel_rfl))
    laid0 (by kernel_rfl) rfl (by kernel_rfl) Try.underlying4 ?spec ?contract
  case spec =>
    intro ds h
    match ds, h with
    | [_, _, _], _ => exact ⟨rfl, rfl, rfl⟩
  case contract =>
    intro W base args ds p hval hA hsz
    rw [Try.params13] at hA hval hsz
    obtain ⟨v0, vs0, d0, ds0, p0, q0, hargs, rfl, -, h0, r0⟩ := trodAll_cons hA
    obtain ⟨v1, vs1, d1, ds1, p1, q1, rfl, rfl, -, h1, r1⟩ := trodAll_cons r0
    obtain ⟨v2, vs2, d2, ds2, p2, q2, rfl, rfl, -, h2, r2⟩ := trodAll_cons r1
    obtain ⟨rfl, rfl, -⟩ := trodAll_nil r2
    obtain rfl : args = #[v0, v1, v2] := by cases args; simp_all
    clear hA r0 r1
    obtain ⟨A0, n0, c0, l0, rfl, hn0, hc0, hz0, ha0, hd0⟩ := arg_arr (size := 1) (R := ByteR) Try.underlying42 (by kernel_rfl) (by omega) (open_byteR Try.underlying5) (hval 0 42 v0 rfl rfl) h0
    obtain ⟨a1, rfl, -, -, w1⟩ := open_int Try.underlying3 (hval 1 3 v1 rfl rfl) h1
    obtain ⟨A2, n2, c2, l2, rfl, hn2, hc2, hz2, ha2, hd2⟩ := arg_arr (size := 2) (R := Act2R) Try.underlying66 (by kernel_rfl) (by omega) open_act2 (hval 2 66 v2 rfl rfl) h2
    rcases Nat.lt_or_ge 500 n0 with hp | hp
    · exact codeSticks_long A0 A2 n0 c0 n2 c2 a1 W (.inl hp)
    · rcases Nat.lt_or_ge 60 n2 with hq | hq
      · exact codeSticks_long A0 A2 n0 c0 n2 c2 a1 W (.inr hq)
      · exact codeSticks_any A0 A2 n0 c0 n2 c2 l0 l2 a1 W ha0 hz0 hn0 (by unfold maxLen at hc0; omega) ha2 hp hq

theorem codeSticks_proved : Rows.CodeSticksSaid :=
  OpenClaim.holds_of_wide 13 Try.f13 rfl rfl rfl rfl rfl rfl rfl ⟨rfl, rfl, rfl, rfl, rfl⟩ rfl rfl rfl rfl rfl (by kernel_rfl) Try.func13 (by kernel_rfl)
    (of_decide_eq_true (by kernel_rfl)) (by unfold Func.isWrapper; rw [if_neg (of_decide_eq_false (by kernel_rfl))]; exact ⟨rfl, rfl⟩)
    (fun os started H enc _ => codeSticks_lifted os started H enc)
end Go.Proofs.Ytjomoannlpadnaa
