/- What package frame's small functions compute. -/
import Derived.Test.YtepifkmileilfaaGreatDoorFrQ
import Derived.Test.YtepifkmileilfaaGreatDoorIdxM
import Derived.Test.YtepifkmileilfaaGreatDoorIndex
import Derived.Test.YtepifkmileilfaaGreatDoorResAll
namespace Go.Proofs.YtepifkmileilfaaGreatDoor
set_option linter.unusedVariables false
open Go.RowKit

set_option maxHeartbeats 400000 in
theorem frWithin_any (n m : Int) (w : World) : Calls Tryz.prog 145 #[.int .i64 n, .int .i64 m] w fun e w' => e = .returned (.bool (inB n m)) ∧ w = w' := by
  by_cases h1 : 0 ≤ n
  · by_cases h2 : n ≤ m
    · have H := Lib.hid (in_tt h1 h2)
      go_enter Tryz.func145, Tryz.ntmps145
      go_wp2_with fail
      go_ret
      exact ⟨ret_bool H.out.symm, rfl⟩
    · have H := Lib.hid (in_tf h1 h2)
      go_enter Tryz.func145, Tryz.ntmps145
      go_wp2_with fail
      go_ret
      exact ⟨ret_bool H.out.symm, rfl⟩
  · have H := Lib.hid (in_ff (m := m) h1)
    go_enter Tryz.func145, Tryz.ntmps145
    go_wp2_with fail
    go_ret
    exact ⟨ret_bool H.out.symm, rfl⟩
def unl (b : Bool) (e : Int) : Int := if b = true then 0 else e
set_option maxHeartbeats 400000 in
theorem unless_any (b : Bool) (x : Int) (w : World) : Calls Tryz.prog 144 #[.bool b, .int .i64 x] w fun e w' => e = .returned (.int .i64 (unl b x)) ∧ w = w' := by
  cases b with
  | true =>
    go_enter Tryz.func144, Tryz.ntmps144
    go_wp2_with fail
    go_ret
    exact ⟨rfl, rfl⟩
  | false =>
    go_enter Tryz.func144, Tryz.ntmps144
    go_wp2_with fail
    go_ret
    exact ⟨rfl, rfl⟩
theorem goodK_out {k : Ky} (h : inB k.kind 3 = false) : goodK k = false := by unfold goodK; rw [h]; rfl
theorem goodK_in {k : Ky} (h : inB k.kind 3 = true) : goodK k = saneN (tx k.name) := by unfold goodK; rw [h]; rfl
set_option maxHeartbeats 1000000 in
theorem frKey_any (k : Ky) (w : World) (hs : k.name.size ≤ maxLen) : Calls Tryz.prog 227 #[.agg #[.int .i64 k.kind, .string k.name]] w fun e w' => e = .returned (.bool (goodK k)) ∧ Ext w w' := by
  go_enter Tryz.func227, Tryz.ntmps227
  go_wp2_with fail
  refine (frWithin_any _ _ _).mono ?_
  rintro e w1 ⟨rfl, rfl⟩
  cases h : inB k.kind 3 with
  | false =>
    have HR := Lib.hid (goodK_out h)
    go_wp2_with fail
    go_ret
    exact ⟨ret_bool HR.out.symm, Ext.new _ _⟩
  | true =>
    have HR := Lib.hid (goodK_in h)
    go_wp2_with fail
    refine (sane_any _ _ hs).mono ?_
    rintro e w2 ⟨rfl, hb2⟩
    go_wp2_with fail
    go_ret
    exact ⟨ret_bool HR.out.symm, (Ext.new _ _).trans hb2⟩
set_option maxHeartbeats 400000 in
theorem frBad_any (k : Ky) (w : World) (hs : k.name.size ≤ maxLen) : Calls Tryz.prog 196 #[.agg #[.int .i64 k.kind, .string k.name]] w fun e w' => e = .returned (.bool (!goodK k)) ∧ Ext w w' := by
  go_enter Tryz.func196, Tryz.ntmps196
  go_wp2_with fail
  refine (frKey_any _ _ hs).mono ?_
  rintro e w1 ⟨rfl, hb1⟩
  go_wp2_with fail
  go_ret
  exact ⟨rfl, (Ext.new _ _).trans hb1⟩
theorem frBad_pred (S : Nat → Prop) (w0 : World) : PredK S w0 196 #[] (fun k => !goodK k) :=
  ⟨Tryz.call196, fun y w _ hs => frBad_any y w hs⟩
set_option maxHeartbeats 400000 in
theorem frSmall1_pred (S : Nat → Prop) (w0 : World) : PredM S w0 194 #[] (fun m => !mOk m) := by
  refine ⟨Tryz.call194, fun y v w _ hs => ?_⟩
  show Calls Tryz.prog 194 #[.agg #[.int .i64 y.kind, .string y.name, .int .i64 v]] w _
  have H : Hid ((!(inB v 2147483647)) = (!mOk (y, v))) := Lib.hid rfl
  go_enter Tryz.func194, Tryz.ntmps194
  go_wp2_with fail
  refine (frWithin_any _ _ _).mono ?_
  rintro e w' ⟨rfl, rfl⟩
  go_wp2_with fail
  go_ret
  exact ⟨ret_bool H.out, Ext.new _ _⟩
set_option maxHeartbeats 400000 in
theorem frNamed1_pred (S : Nat → Prop) (w0 : World) : PredM S w0 197 #[] (fun m => !goodK m.1) := by
  refine ⟨Tryz.call197, fun y v w _ hs => ?_⟩
  show Calls Tryz.prog 197 #[.agg #[.int .i64 y.kind, .string y.name, .int .i64 v]] w _
  go_enter Tryz.func197, Tryz.ntmps197
  go_wp2_with fail
  refine (frBad_any y _ hs).mono ?_
  rintro e w1 ⟨rfl, hb1⟩
  go_wp2_with fail
  go_ret
  exact ⟨rfl, (Ext.new _ _).trans hb1⟩
end Go.Proofs.YtepifkmileilfaaGreatDoor
