/- ScriptBack: THE STATEMENT: whatever its arguments, the law groynelaw23.ScriptBack returns true, and its arguments read behind the call as before it. The card ties the listed variables to the program's text. No condition. -/
import Derived.Test.YtfdjbnofcniodaaGreatDoorOpenD
import Derived.Test.YtfdjbnofcniodaaGreatDoorScBack
import Derived.Test.YtfdjbnofcniodaaGreatDoorScOpen
import Derived.Test.YtfdjbnofcniodaaGreatDoorTie
import Derived.Test.YtfdjbnofcniodaaGreatDoorCards
import Derived.SevenTiedAt
namespace Go.Proofs.YtfdjbnofcniodaaGreatDoor
open Go.ChangeShapes Go.WideShapes Go.ChangeAt Go.RowKit
open Go.ChangeMaps (open_string shut_string)
set_option linter.unusedVariables false
theorem own0 : ownKnob Tryz.prog.godebug = none := by kernel_rfl
theorem laid0 : laidOutB Tryz.prog = true := by kernel_rfl

set_option maxRecDepth 100000 in
theorem scriptBack_lifted (os : Os) (started : os.Started) (H : Type) (enc : TypeId × Value → H) :
    ReturnsInHanded {} Tryz.checked os 6 .any (fun w args => (Rows.scriptBackSpec.pre enc Tryz.prog Tryz.f6 Rows.scriptBackRow.domain false w args ∧ laidMetH Tryz.prog Rows.scriptBackRow.laid w) ∧ sizedMet enc Tryz.prog Tryz.f6 (OpenSpec.ofChange Rows.scriptBackSpec) false w args) (Rows.scriptBackSpec.post enc Tryz.prog Tryz.f6 false true false false) := by
  refine lift_law_laid (tb := 4) own0 started (by kernel_rfl) Tryz.func6
    (ChangeSpec.witness_shaped (enc := enc) (C := Tryz.checked) (os := os) (X := fun w _ => laidMetH Tryz.prog Rows.scriptBackRow.laid w) false (World.laidAll Tryz.prog os Rows.scriptBackRow.laid) #[.slice none 0 0] 8 (World.laidAll_os _ _ _)
      (World.shaped_of_ZipB (by kernel_rfl) (by kernel_rfl)) (by kernel_rfl) (by kernel_rfl) (by kernel_rfl)
      (by rw [MakeChecks.laidMetH_plain _ _ _ (by kernel_rfl)]; exact laidMet_laidAll _ (by kernel_rfl) (by kernel_rfl)))
    laid0 (by kernel_rfl) rfl (by kernel_rfl) Tryz.underlying4 ?spec ?contract
  case spec =>
    intro ds h
    match ds, h with
    | [_], _ => exact ⟨rfl, rfl, rfl⟩
  case contract =>
    intro W base args ds p hval hA hsz
    rw [Tryz.params6] at hA hval hsz
    obtain ⟨v0, vs0, d0, ds0, p0, q0, hargs, rfl, -, h0, r0⟩ := trodAll_cons hA
    obtain ⟨rfl, rfl, -⟩ := trodAll_nil r0
    obtain rfl : args = #[v0] := by cases args; simp_all
    clear hA
    have hval0 := hval 0 68 v0 rfl rfl
    obtain ⟨A, n, c, l, rfl, hsl, hA⟩ := arg_steps hval0 h0
    exact scriptBack_any A n c l W hsl hA

theorem scriptBack_proved : Rows.ScriptBackSaid :=
  OpenClaim.holds_of_wide 6 Tryz.f6 rfl rfl rfl rfl rfl rfl rfl ⟨rfl, rfl, rfl, rfl, rfl⟩ rfl rfl rfl rfl rfl (by kernel_rfl) Tryz.func6 (by kernel_rfl)
    (of_decide_eq_true (by kernel_rfl)) (by unfold Func.isWrapper; rw [if_neg (of_decide_eq_false (by kernel_rfl))]; exact ⟨rfl, rfl⟩)
    (fun os started H enc _ => scriptBack_lifted os started H enc)
theorem scriptBack_card : Rows.ScriptBackCardSaid :=
  Claim7.holds_tied_plain_at .later [] [.data, .pinned] true (true, "5721e02d372f14a3c8e7af90f58bbc91ab464a9c8734b0dbbebb2f281f22588b") false scriptBack_proved (fun _ h => by cases h) (by kernel_rfl) (fun _ h => by cases h) scriptBack_row_tie rfl ⟨rfl, rfl⟩ (by kernel_rfl) rfl
    (fun f fn hf hfn => by
      obtain rfl : f = 6 := Option.some.inj ((show Tryz.prog.funcNamed "groyne/groynelaw23.ScriptBack" = some 6 by kernel_rfl).symm.trans hf) |>.symm
      obtain rfl : fn = Tryz.f6 := (Option.some.inj (Tryz.func6.symm.trans hfn)).symm
      exact ⟨by kernel_rfl, fun j t ht => by
        have hall : (Tryz.f6.params.toList.all fun u => !Tryz.prog.wantsStandIn u) = true := by kernel_rfl
        have hm : t ∈ Tryz.f6.params.toList := Array.mem_toList_iff.2 (Array.mem_of_getElem? ht)
        exact (show Tryz.prog.wantsStandIn t = false by simpa using List.all_eq_true.1 hall t hm)⟩)
    (by kernel_rfl)
end Go.Proofs.YtfdjbnofcniodaaGreatDoor
