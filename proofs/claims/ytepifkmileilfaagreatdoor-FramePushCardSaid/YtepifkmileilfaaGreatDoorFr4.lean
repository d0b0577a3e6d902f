/- What package frame's small and bare compute. -/
import Derived.Test.YtepifkmileilfaaGreatDoorFr3
namespace Go.Proofs.YtepifkmileilfaaGreatDoor
set_option linter.unusedVariables false
open Go.RowKit

theorem any_all_not {α : Type} (p : α → Bool) (l : List α) : (!(l.any fun x => !p x)) = l.all p := by
  rw [Bool.eq_iff_iff]; simp
theorem max_if (x y : Int) : (if x < y then y else x) = max x y := by split <;> omega
theorem run_max4 {P : Program} {w : World} (ts : Array TypeId) (t : TypeId) (k k1 k2 k3 : IntKind) (x y z u : Int) : (Builtin.max_ ts t #[.int k x, .int k1 y, .int k2 z, .int k3 u]).run P w = .ok (.int k (max (max (max x y) z) u)) w := by
  simp [Builtin.max_, Builtin.max2, max_if]
def smallE (f : Fr) : Bool := f.hav.all mOk && inB f.epoch 2147483647 && inB f.nonce 2147483647 && inB f.turn 2147483647 && inB f.err 15
theorem small_big {f : Fr} {M : Int} (h : M = max (max (max (f.adds.length : Int) f.gone.length) f.hav.length) f.held.length) : smallF f = (!(decide (64 < M)) && smallE f) := by
  have h1 : (decide (f.adds.length ≤ 64) && decide (f.gone.length ≤ 64) && decide (f.hav.length ≤ 64) && decide (f.held.length ≤ 64)) = !(decide (64 < M)) := by
    rw [Bool.eq_iff_iff]; simp only [Bool.and_eq_true, decide_eq_true_eq, Bool.not_eq_true', decide_eq_false_iff_not]; omega
  unfold smallF smallE; rw [h1]; simp only [Bool.and_assoc]
set_option maxRecDepth 100000 in
set_option maxHeartbeats 4000000 in
theorem frSmall_any (S : Nat → Prop) (f : Fr) (s : FrS) (w : World) (hV : FrV S w f s) :
    Calls Tryz.prog 146 #[frVal f s] w fun e w' => e = .returned (.bool (smallF f)) ∧ Ext w w' := by
  have HV := Lib.hid hV
  obtain ⟨⟨A1, n1, c1⟩, ⟨A2, n2, c2⟩, ⟨A3, n3, c3⟩, ⟨A4, n4, c4⟩⟩ := s
  unfold frVal
  simp only
  clear hV
  obtain ⟨M, hM⟩ : ∃ M : Int, M = max (max (max (n1 : Int) n2) n3) n4 := ⟨_, rfl⟩
  have hmax : ∀ w, (Builtin.max_ #[3, 3, 3, 3] 3 #[.int .i64 (n1 : Int), .int .i64 (n2 : Int), .int .i64 (n3 : Int), .int .i64 (n4 : Int)]).run Tryz.prog w = .ok (.int .i64 M) w := fun w => by rw [hM]; exact run_max4 _ _ _ _ _ _ _ _ _ _
  have HB : Hid (smallF f = (!(decide (64 < M)) && smallE f)) := Lib.hid (small_big (by rw [hM, show f.adds.length = n1 from HV.out.adds.len, show f.gone.length = n2 from HV.out.gone.len, show f.hav.length = n3 from HV.out.hav.len, show f.held.length = n4 from HV.out.held.len]))
  have HA : Hid ((!(f.hav.any fun m => !mOk m)) = f.hav.all mOk) := Lib.hid (any_all_not _ _)
  clear hM
  go_enter Tryz.func146, Tryz.ntmps146
  go_wp2_with fail
  refine (containsM_any (T := S) S 194 #[] (fun m => !mOk m) A3 n3 c3 f.hav _ HV.out.sh.len (MkL.keep HV.out.hav (Ext.new _ _).keep) (frSmall1_pred _ _)).mono ?_
  rintro e w1 ⟨rfl, hb1⟩
  have K1 := Lib.hid (box_up hb1)
  have E1 := Lib.hid ((Ext.new w _).trans hb1)
  clear hb1 hmax
  obtain ⟨q0, -⟩ := blk_rules K1.out
  by_cases hB : 64 < M
  · have HR : Hid (smallF f = false) := Lib.hid (by rw [HB.out, decide_eq_true hB]; rfl)
    have hB2 : decide (64 < M) = true := decide_eq_true hB
    go_wp2_with fail
    go_ret
    exact ⟨ret_bool HR.out.symm, E1.out⟩
  have HB1 : Hid (smallF f = smallE f) := Lib.hid (by rw [HB.out, decide_eq_false hB]; rfl)
  have hB2 : decide (64 < M) = false := decide_eq_false hB
  cases h1 : f.hav.any (fun m => !mOk m) with
  | true =>
    have HR : Hid (smallF f = false) := Lib.hid (by have h2 := HA.out; rw [h1] at h2; rw [HB1.out]; unfold smallE; rw [← h2]; rfl)
    go_wp2_with fail
    go_ret
    exact ⟨ret_bool HR.out.symm, E1.out⟩
  | false =>
  have HA1 : Hid (f.hav.all mOk = true) := Lib.hid (by have h2 := HA.out; rw [h1] at h2; exact h2.symm)
  clear h1
  go_wp2_with fail
  refine (frWithin_any _ _ _).mono ?_
  rintro e wx ⟨rfl, rfl⟩
  cases g0 : inB f.epoch 2147483647 with
  | false =>
    have HR : Hid (smallF f = false) := Lib.hid (by rw [HB1.out]; unfold smallE; rw [HA1.out, g0]; rfl)
    go_wp2_with fail
    go_ret
    exact ⟨ret_bool HR.out.symm, E1.out⟩
  | true =>
  have G0 : Hid (inB f.epoch 2147483647 = true) := Lib.hid g0
  clear g0
  go_wp2_with fail
  refine (frWithin_any _ _ _).mono ?_
  rintro e wx ⟨rfl, rfl⟩
  cases g1 : inB f.nonce 2147483647 with
  | false =>
    have HR : Hid (smallF f = false) := Lib.hid (by rw [HB1.out]; unfold smallE; rw [HA1.out, G0.out, g1]; rfl)
    go_wp2_with fail
    go_ret
    exact ⟨ret_bool HR.out.symm, E1.out⟩
  | true =>
  have G1 : Hid (inB f.nonce 2147483647 = true) := Lib.hid g1
  clear g1
  go_wp2_with fail
  refine (frWithin_any _ _ _).mono ?_
  rintro e wx ⟨rfl, rfl⟩
  cases g2 : inB f.turn 2147483647 with
  | false =>
    have HR : Hid (smallF f = false) := Lib.hid (by rw [HB1.out]; unfold smallE; rw [HA1.out, G0.out, G1.out, g2]; rfl)
    go_wp2_with fail
    go_ret
    exact ⟨ret_bool HR.out.symm, E1.out⟩
  | true =>
  have G2 : Hid (inB f.turn 2147483647 = true) := Lib.hid g2
  clear g2
  go_wp2_with fail
  refine (frWithin_any _ _ _).mono ?_
  rintro e wx ⟨rfl, rfl⟩
  have HR : Hid (inB f.err 15 = smallF f) := Lib.hid (by rw [HB1.out]; unfold smallE; rw [HA1.out, G0.out, G1.out, G2.out]; rfl)
  generalize inB f.err 15 = v at HR ⊢
  go_wp2_with fail
  go_ret
  exact ⟨ret_bool HR.out, E1.out⟩
/-- the slices of a frame without what its type has -/
def bareS (t : Int) (s : FrS) : FrS := if t = 0 then ⟨s.a, s.g, ⟨none, 0, 0⟩, s.k⟩ else if t = 1 then ⟨⟨none, 0, 0⟩, ⟨none, 0, 0⟩, s.h, s.k⟩ else if t = 2 then ⟨s.a, s.g, s.h, ⟨none, 0, 0⟩⟩ else if t = 3 then ⟨s.a, s.g, s.h, ⟨none, 0, 0⟩⟩ else s
set_option maxRecDepth 100000 in
set_option maxHeartbeats 4000000 in
theorem frBare_any (f : Fr) (s : FrS) (w : World) :
    Calls Tryz.prog 195 #[frVal f s] w fun e w' => e = .returned (frVal (bareF f) (bareS f.typ s)) ∧ Ext w w' := by
  obtain ⟨⟨A1, n1, c1⟩, ⟨A2, n2, c2⟩, ⟨A3, n3, c3⟩, ⟨A4, n4, c4⟩⟩ := s
  obtain ⟨ft, fe, fk, fn, fu, fa, fg, fr, fh, fl⟩ := f
  by_cases h0 : ft = 0
  · subst h0
    have HR : frVal (bareF ⟨0, fe, fk, fn, fu, fa, fg, fr, fh, fl⟩) (bareS 0 ⟨⟨A1, n1, c1⟩, ⟨A2, n2, c2⟩, ⟨A3, n3, c3⟩, ⟨A4, n4, c4⟩⟩) = .agg #[.int .i64 0, .int .i64 0, .int .i64 fk, .int .i64 fn, .int .i64 fu, .slice A1 n1 c1, .slice A2 n2 c2, .int .i64 fr, .slice none 0 0, .slice A4 n4 c4] := by simp [frVal, bareF, bareS]
    dsimp only
    rw [HR]
    clear HR
    unfold frVal
    dsimp only
    go_enter Tryz.func195, Tryz.ntmps195
    go_wp2_with fail
    obtain ⟨-, -, z0, -, -⟩ := box2 (Ext.refl ((w.alloc (.cells #[.int .i64 0, .int .i64 0, .int .i64 fk, .int .i64 fn, .int .i64 fu, .slice A1 n1 c1, .slice A2 n2 c2, .int .i64 fr, .slice none 0 0, .slice A4 n4 c4] 93)).alloc (.cells #[.int .i64 0, .int .i64 0, .int .i64 fk, .int .i64 fn, .int .i64 fu, .slice A1 n1 c1, .slice A2 n2 c2, .int .i64 fr, .slice none 0 0, .slice A4 n4 c4] 93)))
    exact bodyPost_ret (v := .agg #[.int .i64 0, .int .i64 0, .int .i64 fk, .int .i64 fn, .int .i64 fu, .slice A1 n1 c1, .slice A2 n2 c2, .int .i64 fr, .slice none 0 0, .slice A4 n4 c4]) (by simp [results, Tryz.results195, go_sem, z0]) rfl ⟨rfl, ((Ext.refl w).alloc _).alloc _⟩
  by_cases h1 : ft = 1
  · subst h1
    have HR : frVal (bareF ⟨1, fe, fk, fn, fu, fa, fg, fr, fh, fl⟩) (bareS 1 ⟨⟨A1, n1, c1⟩, ⟨A2, n2, c2⟩, ⟨A3, n3, c3⟩, ⟨A4, n4, c4⟩⟩) = .agg #[.int .i64 1, .int .i64 0, .int .i64 0, .int .i64 0, .int .i64 fu, .slice none 0 0, .slice none 0 0, .int .i64 fr, .slice A3 n3 c3, .slice A4 n4 c4] := by simp [frVal, bareF, bareS]
    dsimp only
    rw [HR]
    clear HR
    unfold frVal
    dsimp only
    go_enter Tryz.func195, Tryz.ntmps195
    go_wp2_with fail
    obtain ⟨-, -, z0, -, -⟩ := box2 (Ext.refl ((w.alloc (.cells #[.int .i64 1, .int .i64 0, .int .i64 0, .int .i64 0, .int .i64 fu, .slice none 0 0, .slice none 0 0, .int .i64 fr, .slice A3 n3 c3, .slice A4 n4 c4] 93)).alloc (.cells #[.int .i64 1, .int .i64 0, .int .i64 0, .int .i64 0, .int .i64 fu, .slice none 0 0, .slice none 0 0, .int .i64 fr, .slice A3 n3 c3, .slice A4 n4 c4] 93)))
    exact bodyPost_ret (v := .agg #[.int .i64 1, .int .i64 0, .int .i64 0, .int .i64 0, .int .i64 fu, .slice none 0 0, .slice none 0 0, .int .i64 fr, .slice A3 n3 c3, .slice A4 n4 c4]) (by simp [results, Tryz.results195, go_sem, z0]) rfl ⟨rfl, ((Ext.refl w).alloc _).alloc _⟩
  by_cases h2 : ft = 2
  · subst h2
    have HR : frVal (bareF ⟨2, fe, fk, fn, fu, fa, fg, fr, fh, fl⟩) (bareS 2 ⟨⟨A1, n1, c1⟩, ⟨A2, n2, c2⟩, ⟨A3, n3, c3⟩, ⟨A4, n4, c4⟩⟩) = .agg #[.int .i64 2, .int .i64 0, .int .i64 0, .int .i64 0, .int .i64 0, .slice A1 n1 c1, .slice A2 n2 c2, .int .i64 0, .slice A3 n3 c3, .slice none 0 0] := by simp [frVal, bareF, bareS]
    dsimp only
    rw [HR]
    clear HR
    unfold frVal
    dsimp only
    go_enter Tryz.func195, Tryz.ntmps195
    go_wp2_with fail
    obtain ⟨-, -, z0, -, -⟩ := box2 (Ext.refl ((w.alloc (.cells #[.int .i64 2, .int .i64 0, .int .i64 0, .int .i64 0, .int .i64 0, .slice A1 n1 c1, .slice A2 n2 c2, .int .i64 0, .slice A3 n3 c3, .slice none 0 0] 93)).alloc (.cells #[.int .i64 2, .int .i64 0, .int .i64 0, .int .i64 0, .int .i64 0, .slice A1 n1 c1, .slice A2 n2 c2, .int .i64 0, .slice A3 n3 c3, .slice none 0 0] 93)))
    exact bodyPost_ret (v := .agg #[.int .i64 2, .int .i64 0, .int .i64 0, .int .i64 0, .int .i64 0, .slice A1 n1 c1, .slice A2 n2 c2, .int .i64 0, .slice A3 n3 c3, .slice none 0 0]) (by simp [results, Tryz.results195, go_sem, z0]) rfl ⟨rfl, ((Ext.refl w).alloc _).alloc _⟩
  by_cases h3 : ft = 3
  · subst h3
    have HR : frVal (bareF ⟨3, fe, fk, fn, fu, fa, fg, fr, fh, fl⟩) (bareS 3 ⟨⟨A1, n1, c1⟩, ⟨A2, n2, c2⟩, ⟨A3, n3, c3⟩, ⟨A4, n4, c4⟩⟩) = .agg #[.int .i64 3, .int .i64 0, .int .i64 fk, .int .i64 fn, .int .i64 0, .slice A1 n1 c1, .slice A2 n2 c2, .int .i64 fr, .slice A3 n3 c3, .slice none 0 0] := by simp [frVal, bareF, bareS]
    dsimp only
    rw [HR]
    clear HR
    unfold frVal
    dsimp only
    go_enter Tryz.func195, Tryz.ntmps195
    go_wp2_with fail
    obtain ⟨-, -, z0, -, -⟩ := box2 (Ext.refl ((w.alloc (.cells #[.int .i64 3, .int .i64 0, .int .i64 fk, .int .i64 fn, .int .i64 0, .slice A1 n1 c1, .slice A2 n2 c2, .int .i64 fr, .slice A3 n3 c3, .slice none 0 0] 93)).alloc (.cells #[.int .i64 3, .int .i64 0, .int .i64 fk, .int .i64 fn, .int .i64 0, .slice A1 n1 c1, .slice A2 n2 c2, .int .i64 fr, .slice A3 n3 c3, .slice none 0 0] 93)))
    exact bodyPost_ret (v := .agg #[.int .i64 3, .int .i64 0, .int .i64 fk, .int .i64 fn, .int .i64 0, .slice A1 n1 c1, .slice A2 n2 c2, .int .i64 fr, .slice A3 n3 c3, .slice none 0 0]) (by simp [results, Tryz.results195, go_sem, z0]) rfl ⟨rfl, ((Ext.refl w).alloc _).alloc _⟩
  have HR : frVal (bareF ⟨ft, fe, fk, fn, fu, fa, fg, fr, fh, fl⟩) (bareS ft ⟨⟨A1, n1, c1⟩, ⟨A2, n2, c2⟩, ⟨A3, n3, c3⟩, ⟨A4, n4, c4⟩⟩) = .agg #[.int .i64 ft, .int .i64 0, .int .i64 fk, .int .i64 fn, .int .i64 fu, .slice A1 n1 c1, .slice A2 n2 c2, .int .i64 fr, .slice A3 n3 c3, .slice A4 n4 c4] := by simp [frVal, bareF, bareS, h0, h1, h2, h3]
  dsimp only
  rw [HR]
  clear HR
  unfold frVal
  dsimp only
  have e0 : (ft == 0) = false := by simpa using h0
  have e1 : (ft == 1) = false := by simpa using h1
  have e2 : (ft == 2) = false := by simpa using h2
  have e3 : (ft == 3) = false := by simpa using h3
  go_enter Tryz.func195, Tryz.ntmps195
  go_wp2_with fail
  obtain ⟨-, -, z0, -, -⟩ := box2 (Ext.refl ((w.alloc (.cells #[.int .i64 ft, .int .i64 0, .int .i64 fk, .int .i64 fn, .int .i64 fu, .slice A1 n1 c1, .slice A2 n2 c2, .int .i64 fr, .slice A3 n3 c3, .slice A4 n4 c4] 93)).alloc (.cells #[.int .i64 ft, .int .i64 0, .int .i64 fk, .int .i64 fn, .int .i64 fu, .slice A1 n1 c1, .slice A2 n2 c2, .int .i64 fr, .slice A3 n3 c3, .slice A4 n4 c4] 93)))
  exact bodyPost_ret (v := .agg #[.int .i64 ft, .int .i64 0, .int .i64 fk, .int .i64 fn, .int .i64 fu, .slice A1 n1 c1, .slice A2 n2 c2, .int .i64 fr, .slice A3 n3 c3, .slice A4 n4 c4]) (by simp [results, Tryz.results195, go_sem, z0]) rfl ⟨rfl, ((Ext.refl w).alloc _).alloc _⟩
end Go.Proofs.YtepifkmileilfaaGreatDoor
