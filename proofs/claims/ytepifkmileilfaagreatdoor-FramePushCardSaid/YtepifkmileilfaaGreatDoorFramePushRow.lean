/- FramePush: THE STATEMENT: whatever its arguments, the law groynelaw10.FramePush returns true, and its arguments read behind the call as before it. The card ties the listed variables to the program's text. No condition. -/
import Derived.Test.YtepifkmileilfaaGreatDoorOpenD
import Derived.Test.YtepifkmileilfaaGreatDoorFrPush
import Derived.Test.YtepifkmileilfaaGreatDoorFrOpen
import Derived.Test.YtepifkmileilfaaGreatDoorTie
import Derived.Test.YtepifkmileilfaaGreatDoorCards
import Derived.SevenTiedAt
namespace Go.Proofs.YtepifkmileilfaaGreatDoor
open Go.ChangeShapes Go.WideShapes Go.ChangeAt Go.RowKit
open Go.ChangeMaps (open_string shut_string)
set_option linter.unusedVariables false
theorem own0 : ownKnob Tryz.prog.godebug = none := by kernel_rfl
theorem laid0 : laidOutB Tryz.prog = true := by kernel_rfl

set_option maxRecDepth 100000 in
theorem framePush_lifted (os : Os) (started : os.Started) (H : Type) (enc : TypeId × Value → H) :
    ReturnsInHanded {} Tryz.checked os 14 .any (fun w args => (Rows.framePushSpec.pre enc Tryz.prog Tryz.f14 Rows.framePushRow.domain false w args ∧ laidMetH Tryz.prog Rows.framePushRow.laid w) ∧ sizedMet enc Tryz.prog Tryz.f14 (OpenSpec.ofChange Rows.framePushSpec) false w args) (Rows.framePushSpec.post enc Tryz.prog Tryz.f14 false true false false) := by
  refine lift_law_laid (tb := 4) own0 started (by kernel_rfl) Tryz.func14
    (ChangeSpec.witness_shaped (enc := enc) (C := Tryz.checked) (os := os) (X := fun w _ => laidMetH Tryz.prog Rows.framePushRow.laid w) false (World.laidAll Tryz.prog os Rows.framePushRow.laid) #[.agg #[.int .i64 0, .int .i64 0, .int .i64 0, .int .i64 0, .int .i64 0, .slice none 0 0, .slice none 0 0, .int .i64 0, .slice none 0 0, .slice none 0 0]] 8 (World.laidAll_os _ _ _)
      (World.shaped_of_ZipB (by kernel_rfl) (by kernel_rfl)) (by kernel_rfl) (by kernel_rfl) (by kernel_rfl)
      (by rw [MakeChecks.laidMetH_plain _ _ _ (by kernel_rfl)]; exact laidMet_laidAll _ (by kernel_rfl) (by kernel_rfl)))
    laid0 (by kernel_rfl) rfl (by kernel_rfl) Tryz.underlying4 ?spec ?contract
  case spec =>
    intro ds h
    match ds, h with
    | [_], _ => exact ⟨rfl, rfl, rfl⟩
  case contract =>
    intro W base args ds p hval hA hsz
    rw [Tryz.params14] at hA hval hsz
    obtain ⟨v0, vs0, d0, ds0, p0, q0, hargs, rfl, -, h0, r0⟩ := trodAll_cons hA
    obtain ⟨rfl, rfl, -⟩ := trodAll_nil r0
    obtain rfl : args = #[v0] := by cases args; simp_all
    clear hA
    have hval0 := hval 0 87 v0 rfl rfl
    obtain ⟨f, s, rfl, hV⟩ := arg_frame hval0 h0
    exact framePush_any f s W hV

theorem framePush_proved : Rows.FramePushSaid :=
  OpenClaim.holds_of_wide 14 Tryz.f14 rfl rfl rfl rfl rfl rfl rfl ⟨rfl, rfl, rfl, rfl, rfl⟩ rfl rfl rfl rfl rfl (by kernel_rfl) Tryz.func14 (by kernel_rfl)
    (of_decide_eq_true (by kernel_rfl)) (by unfold Func.isWrapper; rw [if_neg (of_decide_eq_false (by kernel_rfl))]; exact ⟨rfl, rfl⟩)
    (fun os started H enc _ => framePush_lifted os started H enc)
theorem framePush_card : Rows.FramePushCardSaid :=
  Claim7.holds_tied_plain_at .later [] [.data, .pinned] true (true, "c4167838736f660b4fcd56119de9dfc2d707bcf8b01de13e201e316fce149d5a") false framePush_proved (fun _ h => by cases h) (by kernel_rfl) (fun _ h => by cases h) framePush_row_tie rfl ⟨rfl, rfl⟩ (by kernel_rfl) rfl
    (fun f fn hf hfn => by
      obtain rfl : f = 14 := Option.some.inj ((show Tryz.prog.funcNamed "groyne/groynelaw10.FramePush" = some 14 by kernel_rfl).symm.trans hf) |>.symm
      obtain rfl : fn = Tryz.f14 := (Option.some.inj (Tryz.func14.symm.trans hfn)).symm
      exact ⟨by kernel_rfl, fun j t ht => by
        have hall : (Tryz.f14.params.toList.all fun u => !Tryz.prog.wantsStandIn u) = true := by kernel_rfl
        have hm : t ∈ Tryz.f14.params.toList := Array.mem_toList_iff.2 (Array.mem_of_getElem? ht)
        exact (show Tryz.prog.wantsStandIn t = false by simpa using List.all_eq_true.1 hall t hm)⟩)
    (by kernel_rfl)
end Go.Proofs.YtepifkmileilfaaGreatDoor
