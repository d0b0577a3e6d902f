/- What package frame's kind, small and bare compute. -/
import Derived.Test.YtepifkmileilfaaGreatDoorFr2
namespace Go.Proofs.YtepifkmileilfaaGreatDoor
set_option linter.unusedVariables false
open Go.RowKit

set_option maxHeartbeats 400000 in
theorem frKind1_pred (S : Nat → Prop) (w0 : World) (g : Nat) (kd : Int) (hg : g < w0.heap.size) (hc : w0.cell? ⟨g, 2, none⟩ = some (.int .i64 kd)) :
    PredR S w0 199 #[.pointer (some ⟨g, 0, none⟩)] (fun r => r.kind != kd) := by
  refine ⟨Tryz.call199, fun r B m d B' m' d' w he hv => ?_⟩
  show Calls Tryz.prog 199 #[rsVal r B m d B' m' d', .pointer (some ⟨g, 0, none⟩)] w _
  have d0 : w.cell? ⟨g, 2, none⟩ = some (.int .i64 kd) := (he.cell hg).trans hc
  have hgw : g < w.heap.size := Nat.lt_of_lt_of_le hg he.size
  clear he hv hc
  unfold rsVal
  go_enter Tryz.func199, Tryz.ntmps199
  go_wp2_with fail
  go_ret
  exact ⟨rfl, Ext.new _ _⟩
set_option maxHeartbeats 400000 in
theorem frKind2_pred (S : Nat → Prop) (w0 : World) (g : Nat) (kd : Int) (hg : g < w0.heap.size) (hc : w0.cell? ⟨g, 2, none⟩ = some (.int .i64 kd)) :
    PredK S w0 200 #[.pointer (some ⟨g, 0, none⟩)] (fun k => k.kind != kd) := by
  refine ⟨Tryz.call200, fun y w he hv => ?_⟩
  show Calls Tryz.prog 200 #[.agg #[.int .i64 y.kind, .string y.name], .pointer (some ⟨g, 0, none⟩)] w _
  have d0 : w.cell? ⟨g, 2, none⟩ = some (.int .i64 kd) := (he.cell hg).trans hc
  have hgw : g < w.heap.size := Nat.lt_of_lt_of_le hg he.size
  clear he hv hc
  go_enter Tryz.func200, Tryz.ntmps200
  go_wp2_with fail
  go_ret
  exact ⟨rfl, Ext.new _ _⟩
theorem any_all_ne {α : Type} (f : α → Int) (kd : Int) (l : List α) : (!(l.any fun x => f x != kd)) = l.all (fun x => decide (f x = kd)) := by
  rw [Bool.eq_iff_iff]; simp
set_option maxRecDepth 100000 in
set_option maxHeartbeats 1000000 in
theorem frKind_any (S : Nat → Prop) (f : Fr) (s : FrS) (w : World) (hV : FrV S w f s) :
    Calls Tryz.prog 150 #[frVal f s] w fun e w' => e = .returned (.bool (kindF f)) ∧ Ext w w' := by
  have hmf : ∀ (fn : Fn) (first cap : Array Value) (w : World), (Instr.makeFunc fn first cap).run Tryz.prog w = .ok (.func fn first cap) w := fun _ _ _ _ => rfl
  have HV := Lib.hid hV
  obtain ⟨⟨A1, n1, c1⟩, ⟨A2, n2, c2⟩, ⟨A3, n3, c3⟩, ⟨A4, n4, c4⟩⟩ := s
  unfold frVal
  simp only
  clear hV
  have HK : Hid (kindF f = ((!(f.adds.any fun r => r.kind != f.kind)) && !(f.gone.any fun k => k.kind != f.kind))) := Lib.hid (by
    unfold kindF; rw [any_all_ne (fun r : Rs => r.kind), any_all_ne (fun k : Ky => k.kind)])
  go_enter Tryz.func150, Tryz.ntmps150
  go_wp2_with fail
  refine (containsR_any (T := S) S 199 #[.pointer (some ⟨w.heap.size, 0, none⟩)] (fun r => r.kind != f.kind) A1 n1 c1 f.adds _ HV.out.sa.len (ResL.keep HV.out.adds (Ext.new _ _).keep) (frKind1_pred _ _ _ _ (by simp) ((blk_rules (heap_alloc_new w _)).1 2))).mono ?_
  rintro e w1 ⟨rfl, hb1⟩
  have K1 := Lib.hid (box_up hb1)
  have E1 := Lib.hid ((Ext.new w _).trans hb1)
  clear hb1
  obtain ⟨q0, -⟩ := blk_rules K1.out
  cases h1 : f.adds.any (fun r => r.kind != f.kind) with
  | true =>
    have HR : Hid (kindF f = false) := Lib.hid (by rw [HK.out, h1]; rfl)
    go_wp2_with fail
    go_ret
    exact ⟨ret_bool HR.out.symm, E1.out⟩
  | false =>
  have HR : Hid ((!(f.gone.any fun k => k.kind != f.kind)) = kindF f) := Lib.hid (by rw [HK.out, h1]; rfl)
  clear h1
  go_wp2_with fail
  refine (containsK_any (T := S) S 200 #[.pointer (some ⟨w.heap.size, 0, none⟩)] (fun k => k.kind != f.kind) A2 n2 c2 f.gone _ HV.out.sg.len (KeyL.keep HV.out.gone E1.out.keep) (frKind2_pred _ _ _ _ (Array.getElem?_eq_some_iff.1 K1.out).1 ((blk_rules K1.out).1 2))).mono ?_
  rintro e w2 ⟨rfl, hb2⟩
  have E2 := Lib.hid (E1.out.trans hb2)
  generalize (f.gone.any fun k => k.kind != f.kind) = v at HR ⊢
  go_wp2_with fail
  go_ret
  exact ⟨ret_bool HR.out, E2.out⟩
end Go.Proofs.YtepifkmileilfaaGreatDoor
