/- The example of layer 4. -/
import Derived.Test.YtfdjbnofcniodaaGreatDoorTakeAll
import Derived.Test.YtfdjbnofcniodaaGreatDoorRefAll
namespace Go.Proofs.YtfdjbnofcniodaaGreatDoor
set_option linter.unusedVariables false
open Go.RowKit

def wk04 : Rs := ⟨2, ⟨#[99]⟩, 1, 0, ⟨#[101]⟩, [], []⟩
theorem wk04_sane : saneR wk04 = 0 := by
  rw [sane_iff]
  exact ⟨⟨by decide, by decide⟩, by decide, by decide, by decide, by decide, by decide⟩
theorem wk04_put : putR wk04 = [2, 1, 99, 1, 1, 101] := by
  unfold putR; rw [if_pos wk04_sane]; decide
theorem wk04_take : takeR ⟨[2, 1, 99, 1, 1, 101], 0⟩ = (⟨[], 0⟩, wk04) := by
  have := codec_r.back wk04 [] wk04_sane
  rw [List.append_nil, wk04_put] at this
  exact this
theorem wk04_V (S : Nat → Prop) (w : World) : RsV S w wk04 none 0 0 none 0 0 := ⟨by decide, by decide, SlW.nil_, SlW.nil_, ArrQ.nil_, ArrQ.nil_⟩

set_option maxRecDepth 100000 in
set_option maxHeartbeats 2000000 in
theorem awake04 (w : World) : Calls Tryz.prog 10 #[] w fun e w' => e = .returned (.bool true) ∧ Ext w w' := by
  go_enter Tryz.func10, Tryz.ntmps10
  go_wp2_with fail
  refine (((put_lay (fun _ => True) w).2 none 0 0 [] wk04 none 0 0 none 0 0 w (Ext.refl _) ArrR.nil_ (fun _ => rfl) (by omega) trivial (wk04_V _ _)).mono fun _ _ h => LayN.of h).mono ?_
  rintro e w1 ⟨A, N, c, rfl, HN, HC, HB, HO, hb1⟩
  have HNc : Hid (N ≤ c ∧ c ≤ maxLen) := Lib.hid (by
    obtain ⟨A1, c1, e1, h1, h2, -, -, -⟩ := own_byts HO.out
    injection e1 with _ _ e1; subst e1; exact ⟨h1, h2⟩)
  rw [wk04_put] at HN HB HO
  rw [List.nil_append] at HB HO
  obtain rfl : N = 6 := by have := HN.out; simpa using this
  have hcm : c ≤ 9223372036854775807 := by have := HNc.out.2; unfold maxLen at this; omega
  have hnc : 6 ≤ c := HNc.out.1
  obtain ⟨b, o, u0, rfl, hbB, hu0, hc0⟩ := Byts.at_ HB.out (k := 0) (by omega)
  obtain ⟨b', o', u2, e2, -, hu2, hc2⟩ := Byts.at_ HB.out (k := 2) (by omega)
  injection e2 with e2
  injection e2 with e2 e3
  subst e2 e3
  obtain rfl : u0 = 2 := by simpa using hu0.symm
  obtain rfl : u2 = 99 := by simpa using hu2.symm
  have hR := RdAt.box (w := w1) 0 HB.out HC.out hnc hcm
  have HR := Lib.hid hR
  have E1 := Lib.hid hb1
  clear HN HO hu0 hu2 hR hb1 HNc
  go_wp2_with fail
  refine ((take_takes w1.heap.size).2 ⟨[2, 1, 99, 1, 1, 101], 0⟩ _ HR.out).mono ?_
  rw [wk04_take]
  rintro e w2 ⟨B, m, d, B', m', d', rfl, hv, hr2, ho2⟩
  have hz : w1.heap.size < w2.heap.size := by have := ho2.size; simp at this; omega
  have d0 : w2.cell? ⟨b, o, none⟩ = some (.int .u8 2) := (ho2.cell (by simp; omega) (by omega)).trans (((Ext.new w1 _).cell hbB).trans hc0)
  have d2 : w2.cell? ⟨b, o + 2, none⟩ = some (.int .u8 99) := (ho2.cell (by simp; omega) (by omega)).trans (((Ext.new w1 _).cell hbB).trans hc2)
  have HR2 := Lib.hid hr2
  have E2 : Hid (Ext w w2) := Lib.hid (Only.ext (E1.out.alloc _) ho2 E1.out.size)
  have hbz : b < w2.heap.size := by omega
  have hto : (wk04.to.toList == [101]) = true := by rw [tx_toList]; decide
  have hnm : (wk04.name.toList == [99]) = true := by rw [tx_toList]; decide
  have HD : Hid ((⟨[], 0⟩ : Rd).done = 0) := Lib.hid rfl
  clear ho2 hv hr2 hc0 hc2
  go_wp2_with fail
  refine (done_any w1.heap.size ⟨[], 0⟩ _ (HR2.out.up (Ext.new _ _))).mono ?_
  rintro e w3 ⟨rfl, hr3, ho3⟩
  rw [HD.out]
  have hk := (ho3.blk (b := w2.heap.size) (by simp) (by omega)).trans (heap_alloc_new w2 _)
  obtain ⟨q0, -⟩ := blk_rules hk
  have E3 : Hid (Ext w w3) := Lib.hid (Only.ext (E2.out.alloc _) ho3 E1.out.size)
  clear hk ho3 hr3
  go_wp2_with fail
  go_ret
  exact ⟨rfl, E3.out⟩
end Go.Proofs.YtfdjbnofcniodaaGreatDoor
