/- TableIs: THE STATEMENT: whatever its arguments, the law groynelaw05.TableIs returns true, and its arguments read behind the call as before it. The card ties the listed variables to the program's text. No condition. -/
import Derived.Test.YtfdjbnofcniodaaGreatDoorOpenD
import Derived.Test.YtfdjbnofcniodaaGreatDoorTabIs
import Derived.Test.YtfdjbnofcniodaaGreatDoorTbOpen
import Derived.Test.YtfdjbnofcniodaaGreatDoorTie
import Derived.Test.YtfdjbnofcniodaaGreatDoorCards
import Derived.SevenTiedAt
namespace Go.Proofs.YtfdjbnofcniodaaGreatDoor
open Go.ChangeShapes Go.WideShapes Go.ChangeAt Go.RowKit
open Go.ChangeMaps (open_string shut_string)
set_option linter.unusedVariables false
theorem own0 : ownKnob Tryz.prog.godebug = none := by kernel_rfl
theorem laid0 : laidOutB Tryz.prog = true := by kernel_rfl

set_option maxRecDepth 100000 in
theorem tableIs_lifted (os : Os) (started : os.Started) (H : Type) (enc : TypeId × Value → H) :
    ReturnsInHanded {} Tryz.checked os 5 .any (fun w args => (Rows.tableIsSpec.pre enc Tryz.prog Tryz.f5 Rows.tableIsRow.domain false w args ∧ laidMetH Tryz.prog Rows.tableIsRow.laid w) ∧ sizedMet enc Tryz.prog Tryz.f5 (OpenSpec.ofChange Rows.tableIsSpec) false w args) (Rows.tableIsSpec.post enc Tryz.prog Tryz.f5 false true false false) := by
  refine lift_law_laid (tb := 4) own0 started (by kernel_rfl) Tryz.func5
    (ChangeSpec.witness_shaped (enc := enc) (C := Tryz.checked) (os := os) (X := fun w _ => laidMetH Tryz.prog Rows.tableIsRow.laid w) false (World.laidAll Tryz.prog os Rows.tableIsRow.laid) #[.slice none 0 0, .slice none 0 0, .agg #[.int .i64 0, .string ⟨#[]⟩], .agg #[.int .i64 0, .string ⟨#[]⟩, .int .i64 0, .int .i64 0, .string ⟨#[]⟩, .slice none 0 0, .slice none 0 0], .slice none 0 0] 8 (World.laidAll_os _ _ _)
      (World.shaped_of_ZipB (by kernel_rfl) (by kernel_rfl)) (by kernel_rfl) (by kernel_rfl) (by kernel_rfl)
      (by rw [MakeChecks.laidMetH_plain _ _ _ (by kernel_rfl)]; exact laidMet_laidAll _ (by kernel_rfl) (by kernel_rfl)))
    laid0 (by kernel_rfl) rfl (by kernel_rfl) Tryz.underlying4 ?spec ?contract
  case spec =>
    intro ds h
    match ds, h with
    | [_, _, _, _, _], _ => exact ⟨rfl, rfl, rfl⟩
  case contract =>
    intro W base args ds p hval hA hsz
    rw [Tryz.params5] at hA hval hsz
    obtain ⟨v0, vs0, d0, ds0, p0, q0, hargs, rfl, -, h0, r0⟩ := trodAll_cons hA
    obtain ⟨v1, vs1, d1, ds1, p1, q1, rfl, rfl, -, h1, r1⟩ := trodAll_cons r0
    obtain ⟨v2, vs2, d2, ds2, p2, q2, rfl, rfl, -, h2, r2⟩ := trodAll_cons r1
    obtain ⟨v3, vs3, d3, ds3, p3, q3, rfl, rfl, -, h3, r3⟩ := trodAll_cons r2
    obtain ⟨v4, vs4, d4, ds4, p4, q4, rfl, rfl, -, h4, r4⟩ := trodAll_cons r3
    obtain ⟨rfl, rfl, -⟩ := trodAll_nil r4
    obtain rfl : args = #[v0, v1, v2, v3, v4] := by cases args; simp_all
    clear hA r0 r1 r2 r3
    have hval0 := hval 0 42 v0 rfl rfl
    have hval1 := hval 1 42 v1 rfl rfl
    have hval2 := hval 2 38 v2 rfl rfl
    have hval3 := hval 3 34 v3 rfl rfl
    have hval4 := hval 4 46 v4 rfl rfl
    obtain ⟨A, n, c, a, rfl, hsa, hA, hwa⟩ := arg_reslW hval0 h0
    obtain ⟨B, m, d, b, rfl, hsb, hB, hwb⟩ := arg_reslW hval1 h1
    obtain ⟨k, rfl, hk⟩ := arg_key hval2 h2
    obtain ⟨r, C, p, f, C', p', f', rfl, hV⟩ := arg_res hval3 h3
    obtain ⟨G, q, h, gone, rfl, hsg, hG⟩ := arg_keyl hval4 h4
    exact tableIs_any A n c a B m d b k r C p f C' p' f' G q h gone W hsa hA hwa hsb hB hwb hV hG

theorem tableIs_proved : Rows.TableIsSaid :=
  OpenClaim.holds_of_wide 5 Tryz.f5 rfl rfl rfl rfl rfl rfl rfl ⟨rfl, rfl, rfl, rfl, rfl⟩ rfl rfl rfl rfl rfl (by kernel_rfl) Tryz.func5 (by kernel_rfl)
    (of_decide_eq_true (by kernel_rfl)) (by unfold Func.isWrapper; rw [if_neg (of_decide_eq_false (by kernel_rfl))]; exact ⟨rfl, rfl⟩)
    (fun os started H enc _ => tableIs_lifted os started H enc)
theorem tableIs_card : Rows.TableIsCardSaid :=
  Claim7.holds_tied_plain_at .later [] [.data, .pinned] true (true, "5721e02d372f14a3c8e7af90f58bbc91ab464a9c8734b0dbbebb2f281f22588b") false tableIs_proved (fun _ h => by cases h) (by kernel_rfl) (fun _ h => by cases h) tableIs_row_tie rfl ⟨rfl, rfl⟩ (by kernel_rfl) rfl
    (fun f fn hf hfn => by
      obtain rfl : f = 5 := Option.some.inj ((show Tryz.prog.funcNamed "groyne/groynelaw05.TableIs" = some 5 by kernel_rfl).symm.trans hf) |>.symm
      obtain rfl : fn = Tryz.f5 := (Option.some.inj (Tryz.func5.symm.trans hfn)).symm
      exact ⟨by kernel_rfl, fun j t ht => by
        have hall : (Tryz.f5.params.toList.all fun u => !Tryz.prog.wantsStandIn u) = true := by kernel_rfl
        have hm : t ∈ Tryz.f5.params.toList := Array.mem_toList_iff.2 (Array.mem_of_getElem? ht)
        exact (show Tryz.prog.wantsStandIn t = false by simpa using List.all_eq_true.1 hall t hm)⟩)
    (by kernel_rfl)
end Go.Proofs.YtfdjbnofcniodaaGreatDoor
