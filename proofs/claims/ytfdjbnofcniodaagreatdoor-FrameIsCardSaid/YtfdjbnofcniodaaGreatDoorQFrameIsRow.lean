/- FrameIs: THE STATEMENT: whatever its arguments, the law groynelaw10.FrameIs returns true, and its arguments read behind the call as before it. The card ties the listed variables to the program's text. No condition. -/
import Derived.Test.YtfdjbnofcniodaaGreatDoorQOpenD
import Derived.Test.YtfdjbnofcniodaaGreatDoorQFrIs
import Derived.Test.YtfdjbnofcniodaaGreatDoorQFrOpen
import Derived.Test.YtfdjbnofcniodaaGreatDoorTie
import Derived.Test.YtfdjbnofcniodaaGreatDoorCards
import Derived.SevenTiedAt
namespace Go.Proofs.YtfdjbnofcniodaaGreatDoor
open Lib (hid)
set_option maxRecDepth 100000
open Go.ChangeShapes Go.WideShapes Go.ChangeAt Go.RowKit
open Go.ChangeMaps (open_string shut_string)
set_option linter.unusedVariables false
theorem own0 : ownKnob Tryz.prog.godebug = none := by kernel_rfl
theorem laid0 : laidOutB Tryz.prog = true := by kernel_rfl
theorem frameIs_lifted (os : Os) (started : os.Started) (H : Type) (enc : TypeId × Value → H) :
  ReturnsInHanded {} Tryz.checked os 9 .any (fun w args => (Rows.frameIsSpec.pre enc Tryz.prog Tryz.f9 Rows.frameIsRow.domain false w args ∧ laidMetH Tryz.prog Rows.frameIsRow.laid w) ∧ sizedMet enc Tryz.prog Tryz.f9 (OpenSpec.ofChange Rows.frameIsSpec) false w args) (Rows.frameIsSpec.post enc Tryz.prog Tryz.f9 false true false false) := by
 refine lift_law_laid (tb := 4) own0 started (by kernel_rfl) Tryz.func9
  (ChangeSpec.witness_shaped (enc := enc) (C := Tryz.checked) (os := os) (X := fun w _ => laidMetH Tryz.prog Rows.frameIsRow.laid w) false (World.laidAll Tryz.prog os Rows.frameIsRow.laid) #[.agg #[.int .i64 0, .int .i64 0, .int .i64 0, .int .i64 0, .int .i64 0, .slice none 0 0, .slice none 0 0, .int .i64 0, .slice none 0 0, .slice none 0 0], .agg #[.int .i64 0, .int .i64 0, .int .i64 0, .int .i64 0, .int .i64 0, .slice none 0 0, .slice none 0 0, .int .i64 0, .slice none 0 0, .slice none 0 0], .slice none 0 0] 8 (World.laidAll_os _ _ _)
   (World.shaped_of_ZipB (by kernel_rfl) (by kernel_rfl)) (by kernel_rfl) (by kernel_rfl) (by kernel_rfl)
   (by rw [MakeChecks.laidMetH_plain _ _ _ (by kernel_rfl)]; exact laidMet_laidAll _ (by kernel_rfl) (by kernel_rfl)))
  laid0 (by kernel_rfl) rfl (by kernel_rfl) Tryz.underlying4 ?spec ?contract
 case spec =>
  intro ds h
  match ds, h with
  | [_, _, _], _ => exact ⟨rfl, rfl, rfl⟩
 case contract =>
  intro W base args ds p hval hA hsz
  rw [Tryz.params9] at hA hval hsz
  obtain ⟨v0, vs0, d0, ds0, p0, q0, hargs, rfl, -, h0, r0⟩ := trodAll_cons hA
  obtain ⟨v1, vs1, d1, ds1, p1, q1, rfl, rfl, -, h1, r1⟩ := trodAll_cons r0
  obtain ⟨v2, vs2, d2, ds2, p2, q2, rfl, rfl, -, h2, r2⟩ := trodAll_cons r1
  obtain ⟨rfl, rfl, -⟩ := trodAll_nil r2
  obtain rfl : args = #[v0, v1, v2] := by cases args; simp_all
  clear hA r0 r1
  have hval0 := hval 0 87 v0 rfl rfl
  have hval1 := hval 1 87 v1 rfl rfl
  obtain ⟨A2, n2, c2, l2, rfl, hn2, hc2, hz2, ha2, hd2⟩ := arg_arr (size := 1) (R := ByteR) Tryz.underlying22 (by kernel_rfl) (by omega) (open_byteR Tryz.underlying5) (hval 2 22 v2 rfl rfl) h2
  obtain ⟨f, s, rfl, hV⟩ := arg_frame hval0 h0
  obtain ⟨g, s', rfl, hG⟩ := arg_frame hval1 h1
  exact frameIs_any f s g s' A2 n2 c2 l2 W hV hG ha2 hz2 hn2 (by unfold maxLen at hc2; omega)
theorem frameIs_proved : Rows.FrameIsSaid :=
 OpenClaim.holds_of_wide 9 Tryz.f9 rfl rfl rfl rfl rfl rfl rfl ⟨rfl, rfl, rfl, rfl, rfl⟩ rfl rfl rfl rfl rfl (by kernel_rfl) Tryz.func9 (by kernel_rfl)
  (of_decide_eq_true (by kernel_rfl)) (by unfold Func.isWrapper; rw [if_neg (of_decide_eq_false (by kernel_rfl))]; exact ⟨rfl, rfl⟩)
  (fun os started H enc _ => frameIs_lifted os started H enc)
theorem frameIs_card : Rows.FrameIsCardSaid :=
 Claim7.holds_tied_plain_at .later [] [.data, .pinned] true (true, "5721e02d372f14a3c8e7af90f58bbc91ab464a9c8734b0dbbebb2f281f22588b") false frameIs_proved (fun _ h => by cases h) (by kernel_rfl) (fun _ h => by cases h) frameIs_row_tie rfl ⟨rfl, rfl⟩ (by kernel_rfl) rfl
  (fun f fn hf hfn => by
   obtain rfl : f = 9 := Option.some.inj ((show Tryz.prog.funcNamed "groyne/groynelaw10.FrameIs" = some 9 by kernel_rfl).symm.trans hf) |>.symm
   obtain rfl : fn = Tryz.f9 := (Option.some.inj (Tryz.func9.symm.trans hfn)).symm
   exact ⟨by kernel_rfl, fun j t ht => by
    have hall : (Tryz.f9.params.toList.all fun u => !Tryz.prog.wantsStandIn u) = true := by kernel_rfl
    have hm : t ∈ Tryz.f9.params.toList := Array.mem_toList_iff.2 (Array.mem_of_getElem? ht)
    exact (show Tryz.prog.wantsStandIn t = false by simpa using List.all_eq_true.1 hall t hm)⟩)
  (by kernel_rfl)
end Go.Proofs.YtfdjbnofcniodaaGreatDoor
