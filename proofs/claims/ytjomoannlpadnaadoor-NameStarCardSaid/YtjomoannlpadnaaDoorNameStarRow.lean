/- NameStar: THE STATEMENT: whatever its arguments, the law groynelaw01.NameStar returns true, and its arguments read behind the call as before it. The card ties the listed variables to the program's text. No condition. -/
import Derived.Test.YtjomoannlpadnaaDoorOpenD
import Derived.Test.YtjomoannlpadnaaDoorNameLaw4
import Derived.Test.YtjomoannlpadnaaDoorTie
import Derived.Test.YtjomoannlpadnaaDoorCards
import Derived.SevenTiedAt
namespace Go.Proofs.YtjomoannlpadnaaDoor
open Go.ChangeShapes Go.WideShapes Go.ChangeAt Go.RowKit
open Go.ChangeMaps (open_string shut_string)
set_option linter.unusedVariables false
theorem own0 : ownKnob Tryd.prog.godebug = none := by kernel_rfl
theorem laid0 : laidOutB Tryd.prog = true := by kernel_rfl

set_option maxRecDepth 100000 in
theorem nameStar_lifted (os : Os) (started : os.Started) (H : Type) (enc : TypeId × Value → H) :
    ReturnsInHanded {} Tryd.checked os 5 .any (fun w args => (Rows.nameStarSpec.pre enc Tryd.prog Tryd.f5 Rows.nameStarRow.domain false w args ∧ laidMetH Tryd.prog Rows.nameStarRow.laid w) ∧ sizedMet enc Tryd.prog Tryd.f5 (OpenSpec.ofChange Rows.nameStarSpec) false w args) (Rows.nameStarSpec.post enc Tryd.prog Tryd.f5 false true false false) := by
  refine lift_law_laid (tb := 4) own0 started (by kernel_rfl) Tryd.func5
    (ChangeSpec.witness_shaped (enc := enc) (C := Tryd.checked) (os := os) (X := fun w _ => laidMetH Tryd.prog Rows.nameStarRow.laid w) false (World.laidAll Tryd.prog os Rows.nameStarRow.laid) #[.string ⟨#[]⟩, .string ⟨#[]⟩] 8 (World.laidAll_os _ _ _)
      (World.shaped_of_ZipB (by kernel_rfl) (by kernel_rfl)) (by kernel_rfl) (by kernel_rfl) (by kernel_rfl)
      (by rw [MakeChecks.laidMetH_plain _ _ _ (by kernel_rfl)]; exact laidMet_laidAll _ (by kernel_rfl) (by kernel_rfl)))
    laid0 (by kernel_rfl) rfl (by kernel_rfl) Tryd.underlying4 ?spec ?contract
  case spec =>
    intro ds h
    match ds, h with
    | [_, _], _ => exact ⟨rfl, rfl, rfl⟩
  case contract =>
    intro W base args ds p hval hA hsz
    rw [Tryd.params5] at hA hval hsz
    obtain ⟨v0, vs0, d0, ds0, p0, q0, hargs, rfl, -, h0, r0⟩ := trodAll_cons hA
    obtain ⟨v1, vs1, d1, ds1, p1, q1, rfl, rfl, -, h1, r1⟩ := trodAll_cons r0
    obtain ⟨rfl, rfl, -⟩ := trodAll_nil r1
    obtain rfl : args = #[v0, v1] := by cases args; simp_all
    clear hA r0
    obtain ⟨s0, rfl, -, -, hs0⟩ := open_string Tryd.underlying9 (hval 0 9 v0 rfl rfl) h0
    obtain ⟨s1, rfl, -, -, hs1⟩ := open_string Tryd.underlying9 (hval 1 9 v1 rfl rfl) h1
    exact nameStar_any s0 s1 W hs0 hs1

theorem nameStar_proved : Rows.NameStarSaid :=
  OpenClaim.holds_of_wide 5 Tryd.f5 rfl rfl rfl rfl rfl rfl rfl ⟨rfl, rfl, rfl, rfl, rfl⟩ rfl rfl rfl rfl rfl (by kernel_rfl) Tryd.func5 (by kernel_rfl)
    (of_decide_eq_true (by kernel_rfl)) (by unfold Func.isWrapper; rw [if_neg (of_decide_eq_false (by kernel_rfl))]; exact ⟨rfl, rfl⟩)
    (fun os started H enc _ => nameStar_lifted os started H enc)
theorem nameStar_card : Rows.NameStarCardSaid :=
  Claim7.holds_tied_plain_at .later [] [.data, .pinned] true (true, "10be6b29a56a9afd99073fd73c7bc99d2408225fb31fada441e4dbf495c4a671") false nameStar_proved (fun _ h => by cases h) (by kernel_rfl) (fun _ h => by cases h) nameStar_row_tie rfl ⟨rfl, rfl⟩ (by kernel_rfl) rfl
    (fun f fn hf hfn => by
      obtain rfl : f = 5 := Option.some.inj ((show Tryd.prog.funcNamed "groyne/groynelaw01.NameStar" = some 5 by kernel_rfl).symm.trans hf) |>.symm
      obtain rfl : fn = Tryd.f5 := (Option.some.inj (Tryd.func5.symm.trans hfn)).symm
      exact ⟨by kernel_rfl, fun j t ht => by
        have hall : (Tryd.f5.params.toList.all fun u => !Tryd.prog.wantsStandIn u) = true := by kernel_rfl
        have hm : t ∈ Tryd.f5.params.toList := Array.mem_toList_iff.2 (Array.mem_of_getElem? ht)
        exact (show Tryd.prog.wantsStandIn t = false by simpa using List.all_eq_true.1 hall t hm)⟩)
    (by kernel_rfl)
end Go.Proofs.YtjomoannlpadnaaDoor
