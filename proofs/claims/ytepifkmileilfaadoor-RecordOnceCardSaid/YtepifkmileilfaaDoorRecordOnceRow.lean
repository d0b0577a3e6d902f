/- RecordOnce: THE STATEMENT: whatever its arguments, the law groynelaw04.RecordOnce returns true, and its arguments read behind the call as before it. The card ties the listed variables to the program's text. No condition. -/
import Derived.Test.YtepifkmileilfaaDoorOpenD
import Derived.Test.YtepifkmileilfaaDoorRecLaw4
import Derived.Test.YtepifkmileilfaaDoorResOpen
import Derived.Test.YtepifkmileilfaaDoorTie
import Derived.Test.YtepifkmileilfaaDoorCards
import Derived.SevenTiedAt
namespace Go.Proofs.YtepifkmileilfaaDoor
open Go.ChangeShapes Go.WideShapes Go.ChangeAt Go.RowKit
open Go.ChangeMaps (open_string shut_string)
set_option linter.unusedVariables false
theorem own0 : ownKnob Tryd.prog.godebug = none := by kernel_rfl
theorem laid0 : laidOutB Tryd.prog = true := by kernel_rfl

set_option maxRecDepth 100000 in
theorem recordOnce_lifted (os : Os) (started : os.Started) (H : Type) (enc : TypeId × Value → H) :
    ReturnsInHanded {} Tryd.checked os 10 .any (fun w args => (Rows.recordOnceSpec.pre enc Tryd.prog Tryd.f10 Rows.recordOnceRow.domain false w args ∧ laidMetH Tryd.prog Rows.recordOnceRow.laid w) ∧ sizedMet enc Tryd.prog Tryd.f10 (OpenSpec.ofChange Rows.recordOnceSpec) false w args) (Rows.recordOnceSpec.post enc Tryd.prog Tryd.f10 false true false false) := by
  refine lift_law_laid (tb := 4) own0 started (by kernel_rfl) Tryd.func10
    (ChangeSpec.witness_shaped (enc := enc) (C := Tryd.checked) (os := os) (X := fun w _ => laidMetH Tryd.prog Rows.recordOnceRow.laid w) false (World.laidAll Tryd.prog os Rows.recordOnceRow.laid) #[.slice none 0 0] 8 (World.laidAll_os _ _ _)
      (World.shaped_of_ZipB (by kernel_rfl) (by kernel_rfl)) (by kernel_rfl) (by kernel_rfl) (by kernel_rfl)
      (by rw [MakeChecks.laidMetH_plain _ _ _ (by kernel_rfl)]; exact laidMet_laidAll _ (by kernel_rfl) (by kernel_rfl)))
    laid0 (by kernel_rfl) rfl (by kernel_rfl) Tryd.underlying4 ?spec ?contract
  case spec =>
    intro ds h
    match ds, h with
    | [_], _ => exact ⟨rfl, rfl, rfl⟩
  case contract =>
    intro W base args ds p hval hA hsz
    rw [Tryd.params10] at hA hval hsz
    obtain ⟨v0, vs0, d0, ds0, p0, q0, hargs, rfl, -, h0, r0⟩ := trodAll_cons hA
    obtain ⟨rfl, rfl, -⟩ := trodAll_nil r0
    obtain rfl : args = #[v0] := by cases args; simp_all
    clear hA
    obtain ⟨A0, n0, c0, l0, rfl, hn0, hc0, hz0, ha0, hd0⟩ := arg_arr (size := 1) (R := ByteR) Tryd.underlying40 (by kernel_rfl) (by omega) (open_byteR Tryd.underlying5) (hval 0 40 v0 rfl rfl) h0
    exact recordOnce_any A0 n0 c0 l0 W ha0 hz0 hn0 (by unfold maxLen at hc0; omega)

theorem recordOnce_proved : Rows.RecordOnceSaid :=
  OpenClaim.holds_of_wide 10 Tryd.f10 rfl rfl rfl rfl rfl rfl rfl ⟨rfl, rfl, rfl, rfl, rfl⟩ rfl rfl rfl rfl rfl (by kernel_rfl) Tryd.func10 (by kernel_rfl)
    (of_decide_eq_true (by kernel_rfl)) (by unfold Func.isWrapper; rw [if_neg (of_decide_eq_false (by kernel_rfl))]; exact ⟨rfl, rfl⟩)
    (fun os started H enc _ => recordOnce_lifted os started H enc)
theorem recordOnce_card : Rows.RecordOnceCardSaid :=
  Claim7.holds_tied_plain_at .later [] [.data, .pinned] true (true, "3a24f8f75f34d698582d14295f887a4efb9a761903b279b8a21d51115f85b303") false recordOnce_proved (fun _ h => by cases h) (by kernel_rfl) (fun _ h => by cases h) recordOnce_row_tie rfl ⟨rfl, rfl⟩ (by kernel_rfl) rfl
    (fun f fn hf hfn => by
      obtain rfl : f = 10 := Option.some.inj ((show Tryd.prog.funcNamed "groyne/groynelaw04.RecordOnce" = some 10 by kernel_rfl).symm.trans hf) |>.symm
      obtain rfl : fn = Tryd.f10 := (Option.some.inj (Tryd.func10.symm.trans hfn)).symm
      exact ⟨by kernel_rfl, fun j t ht => by
        have hall : (Tryd.f10.params.toList.all fun u => !Tryd.prog.wantsStandIn u) = true := by kernel_rfl
        have hm : t ∈ Tryd.f10.params.toList := Array.mem_toList_iff.2 (Array.mem_of_getElem? ht)
        exact (show Tryd.prog.wantsStandIn t = false by simpa using List.all_eq_true.1 hall t hm)⟩)
    (by kernel_rfl)
end Go.Proofs.YtepifkmileilfaaDoor
