/- TableWith: THE STATEMENT: whatever its arguments, the law groynelaw05.TableWith returns true, and its arguments read behind the call as before it. The card ties the listed variables to the program's text. No condition. -/
import Derived.Test.YtepifkmileilfaaDoorOpenD
import Derived.Test.YtepifkmileilfaaDoorTabWithLaw
import Derived.Test.YtepifkmileilfaaDoorResOpen
import Derived.Test.YtepifkmileilfaaDoorTie
import Derived.Test.YtepifkmileilfaaDoorCards
import Derived.SevenTiedAt
namespace Go.Proofs.YtepifkmileilfaaDoor
open Go.ChangeShapes Go.WideShapes Go.ChangeAt Go.RowKit
open Go.ChangeMaps (open_string shut_string)
set_option linter.unusedVariables false
theorem own0 : ownKnob Tryd.prog.godebug = none := by kernel_rfl
theorem laid0 : laidOutB Tryd.prog = true := by kernel_rfl

set_option maxRecDepth 100000 in
theorem tableWith_lifted (os : Os) (started : os.Started) (H : Type) (enc : TypeId × Value → H) :
    ReturnsInHanded {} Tryd.checked os 12 .any (fun w args => (Rows.tableWithSpec.pre enc Tryd.prog Tryd.f12 Rows.tableWithRow.domain false w args ∧ laidMetH Tryd.prog Rows.tableWithRow.laid w) ∧ sizedMet enc Tryd.prog Tryd.f12 (OpenSpec.ofChange Rows.tableWithSpec) false w args) (Rows.tableWithSpec.post enc Tryd.prog Tryd.f12 false true false false) := by
  refine lift_law_laid (tb := 4) own0 started (by kernel_rfl) Tryd.func12
    (ChangeSpec.witness_shaped (enc := enc) (C := Tryd.checked) (os := os) (X := fun w _ => laidMetH Tryd.prog Rows.tableWithRow.laid w) false (World.laidAll Tryd.prog os Rows.tableWithRow.laid) #[.slice none 0 0, .agg #[.int .i64 0, .string ⟨#[]⟩, .int .i64 0, .int .i64 0, .string ⟨#[]⟩, .slice none 0 0, .slice none 0 0], .agg #[.int .i64 0, .string ⟨#[]⟩]] 8 (World.laidAll_os _ _ _)
      (World.shaped_of_ZipB (by kernel_rfl) (by kernel_rfl)) (by kernel_rfl) (by kernel_rfl) (by kernel_rfl)
      (by rw [MakeChecks.laidMetH_plain _ _ _ (by kernel_rfl)]; exact laidMet_laidAll _ (by kernel_rfl) (by kernel_rfl)))
    laid0 (by kernel_rfl) rfl (by kernel_rfl) Tryd.underlying4 ?spec ?contract
  case spec =>
    intro ds h
    match ds, h with
    | [_, _, _], _ => exact ⟨rfl, rfl, rfl⟩
  case contract =>
    intro W base args ds p hval hA hsz
    rw [Tryd.params12] at hA hval hsz
    obtain ⟨v0, vs0, d0, ds0, p0, q0, hargs, rfl, -, h0, r0⟩ := trodAll_cons hA
    obtain ⟨v1, vs1, d1, ds1, p1, q1, rfl, rfl, -, h1, r1⟩ := trodAll_cons r0
    obtain ⟨v2, vs2, d2, ds2, p2, q2, rfl, rfl, -, h2, r2⟩ := trodAll_cons r1
    obtain ⟨rfl, rfl, -⟩ := trodAll_nil r2
    obtain rfl : args = #[v0, v1, v2] := by cases args; simp_all
    clear hA r0 r1
    have hval0 := hval 0 48 v0 rfl rfl
    have hval1 := hval 1 36 v1 rfl rfl
    have hval2 := hval 2 57 v2 rfl rfl
    obtain ⟨A, n, c, l, rfl, hsl, hA⟩ := arg_resl hval0 h0
    obtain ⟨r, B, m, d, B', m', d', rfl, hV⟩ := arg_res hval1 h1
    obtain ⟨k, rfl, hk⟩ := arg_key hval2 h2
    exact tableWith_any A n c l r B m d B' m' d' k W hsl hA hV hk

theorem tableWith_proved : Rows.TableWithSaid :=
  OpenClaim.holds_of_wide 12 Tryd.f12 rfl rfl rfl rfl rfl rfl rfl ⟨rfl, rfl, rfl, rfl, rfl⟩ rfl rfl rfl rfl rfl (by kernel_rfl) Tryd.func12 (by kernel_rfl)
    (of_decide_eq_true (by kernel_rfl)) (by unfold Func.isWrapper; rw [if_neg (of_decide_eq_false (by kernel_rfl))]; exact ⟨rfl, rfl⟩)
    (fun os started H enc _ => tableWith_lifted os started H enc)
theorem tableWith_card : Rows.TableWithCardSaid :=
  Claim7.holds_tied_plain_at .later [] [.data, .pinned] true (true, "3a24f8f75f34d698582d14295f887a4efb9a761903b279b8a21d51115f85b303") false tableWith_proved (fun _ h => by cases h) (by kernel_rfl) (fun _ h => by cases h) tableWith_row_tie rfl ⟨rfl, rfl⟩ (by kernel_rfl) rfl
    (fun f fn hf hfn => by
      obtain rfl : f = 12 := Option.some.inj ((show Tryd.prog.funcNamed "groyne/groynelaw05.TableWith" = some 12 by kernel_rfl).symm.trans hf) |>.symm
      obtain rfl : fn = Tryd.f12 := (Option.some.inj (Tryd.func12.symm.trans hfn)).symm
      exact ⟨by kernel_rfl, fun j t ht => by
        have hall : (Tryd.f12.params.toList.all fun u => !Tryd.prog.wantsStandIn u) = true := by kernel_rfl
        have hm : t ∈ Tryd.f12.params.toList := Array.mem_toList_iff.2 (Array.mem_of_getElem? ht)
        exact (show Tryd.prog.wantsStandIn t = false by simpa using List.all_eq_true.1 hall t hm)⟩)
    (by kernel_rfl)
end Go.Proofs.YtepifkmileilfaaDoor
