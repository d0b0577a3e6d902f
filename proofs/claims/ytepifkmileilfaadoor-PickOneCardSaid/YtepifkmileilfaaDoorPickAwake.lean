/- The example of layer 7 (awake), for seats that lack the Pick laws: the head of PickLaw. -/
import Derived.Test.YtepifkmileilfaaDoorPick
namespace Go.Proofs.YtepifkmileilfaaDoor
open Go.RowKit
attribute [local go_sem ↓] run_max2 run_min2

theorem two_weights (w : World) (t : TypeId) (s r : ByteArray) (x y : Int) : ArrR (w.alloc (.cells #[.string s, .int .i64 x, .string r, .int .i64 y] t)) 2 WtR (some ⟨w.heap.size, 0, none⟩) 2 [(s, x), (r, y)] := by
  refine ArrR.of_block (heap_alloc_new w _) rfl fun k p hp => ?_
  match k, hp with
  | 0, hp => cases hp; exact ⟨_, rfl, rfl, fun j u hu => by match j, hu with | 0, hu => exact hu | 1, hu => exact hu⟩
  | 1, hp => cases hp; exact ⟨_, rfl, rfl, fun j u hu => by match j, hu with | 0, hu => exact hu | 1, hu => exact hu⟩
theorem two_ints (w : World) (t : TypeId) (x y : Int) : ArrR (w.alloc (.cells #[.int .i64 x, .int .i64 y] t)) 1 (IntR .i64) (some ⟨w.heap.size, 0, none⟩) 2 [x, y] := by
  refine ArrR.of_block (heap_alloc_new w _) rfl fun k p hp => ?_
  match k, hp with
  | 0, hp => cases hp; exact ⟨_, rfl, rfl, fun j u hu => by match j, hu with | 0, hu => exact hu⟩
  | 1, hp => cases hp; exact ⟨_, rfl, rfl, fun j u hu => by match j, hu with | 0, hu => exact hu⟩

set_option maxHeartbeats 400000 in
theorem awake07 (w : World) : Calls Tryd.prog 15 #[] w fun e w' => e = .returned (.bool true) ∧ Ext w w' := by
  go_enter Tryd.func15, Tryd.ntmps15
  go_wp2_with fail
  have h0 := two_weights w 80 ⟨#[97]⟩ ⟨#[98]⟩ 1 3
  refine (cluster_any _ _ _ [(⟨#[97]⟩, 1), (⟨#[98]⟩, 3)] _ _ (by omega) h0).mono ?_
  rintro e w1 ⟨rfl, hb1⟩
  rw [show cluS [(⟨#[97]⟩, 1), (⟨#[98]⟩, 3)] 0 = ⟨#[97]⟩ from rfl, show cluB [(⟨#[97]⟩, 1), (⟨#[98]⟩, 3)] 0 = true from rfl]
  replace h0 := h0.up hb1
  replace hb1 := (Ext.new w _).trans hb1
  go_wp2_with fail
  refine (cluster_any _ _ _ [(⟨#[97]⟩, 1), (⟨#[98]⟩, 3)] _ _ (by omega) h0).mono ?_
  rintro e w2 ⟨rfl, hb2⟩
  rw [show cluS [(⟨#[97]⟩, 1), (⟨#[98]⟩, 3)] 1 = ⟨#[98]⟩ from rfl, show cluB [(⟨#[97]⟩, 1), (⟨#[98]⟩, 3)] 1 = true from rfl]
  replace h0 := h0.up hb2
  replace hb2 := hb1.trans hb2
  go_wp2_with fail
  refine (drawHost_any _ _ _ [5, 6] _ _ (by omega) (two_ints _ _ _ _)).mono ?_
  rintro e w3 ⟨rfl, rfl⟩
  rw [show hostN [5, 6] 3 = 6 from rfl]
  go_wp2_with fail
  refine (total_any _ _ _ [(⟨#[97]⟩, 1), (⟨#[98]⟩, 3)] _ (by omega) (h0.up (Ext.new _ _))).mono ?_
  rintro e w4 ⟨rfl, hb4⟩
  rw [show tot [(⟨#[97]⟩, 1), (⟨#[98]⟩, 3)] = 4 from rfl]
  go_wp2_with fail
  go_ret
  exact ⟨rfl, (hb2.alloc _).trans hb4⟩
end Go.Proofs.YtepifkmileilfaaDoor
