/- The law RecordShort of layer 4. -/
import Derived.Test.YtepifkmileilfaaDoorRecAwake
import Derived.Test.YtepifkmileilfaaDoorPlain
namespace Go.Proofs.YtepifkmileilfaaDoor
set_option linter.unusedVariables false
open Go.RowKit

theorem RdAt.eCell {w : World} {g : Nat} {r : Rd} (h : RdAt w g r) : w.cell? ⟨g, 1, none⟩ = some (.int .i64 r.e) := by
  obtain ⟨A, n, c, hg, -⟩ := h
  exact (blk_rules hg).1 1
set_option maxRecDepth 100000 in
set_option maxHeartbeats 4000000 in
theorem recordShort_any (S : Nat → Prop) (r : Rs) (A A' : Option Addr) (n c n' c' : Nat) (k : Int) (w : World) (hV : RsV S w r A n c A' n' c') :
    Calls Tryd.prog 5 #[rsVal r A n c A' n' c', .int .i64 k] w fun e w' => e = .returned (.bool true) ∧ Ext w w' := by
  have HV := Lib.hid hV
  clear hV
  unfold rsVal
  go_enter Tryd.func5, Tryd.ntmps5
  go_wp2_with fail
  refine (awake04 _).mono ?_
  rintro e w1 ⟨rfl, hb1⟩
  have K1 := Lib.hid (box1b hb1).1
  have z1 := (box1b hb1).2
  have E1 := Lib.hid ((Ext.new w _).trans hb1)
  clear hb1
  obtain ⟨q0, -⟩ := blk_rules K1.out
  go_wp2_with fail
  refine (few03_any S r A A' n c n' c' _ (HV.out.up E1.out)).mono ?_
  rintro e w2 ⟨v, rfl, -, hb2⟩
  have E2 := Lib.hid (E1.out.trans hb2)
  have K2 := Lib.hid ((hb2.block z1).trans K1.out)
  have z2 := Nat.lt_of_lt_of_le z1 hb2.size
  clear q0 hb2
  cases v with
  | false =>
    go_wp2_with fail
    go_ret
    exact ⟨rfl, E2.out⟩
  | true =>
  obtain ⟨q0, -⟩ := blk_rules K2.out
  go_wp2_with fail
  refine (resSane_any S r A A' n c n' c' _ (HV.out.up E2.out)).mono ?_
  rintro e w3 ⟨rfl, hb3⟩
  have E3 := Lib.hid (E2.out.trans hb3)
  have K3 := Lib.hid ((hb3.block z2).trans K2.out)
  have z3 := Nat.lt_of_lt_of_le z2 hb3.size
  clear q0 hb3
  obtain ⟨v, hv⟩ : ∃ v, v = saneR r := ⟨_, rfl⟩
  rw [← hv]
  have HVS := Lib.hid hv
  clear hv
  by_cases hs : v = 0
  rotate_left
  · have hs1 : (v != 0) = true := by simpa using hs
    clear hs
    go_wp2_with fail
    go_ret
    exact ⟨rfl, E3.out⟩
  have hs1 : (v != 0) = false := by simpa using hs
  have HS : Hid (saneR r = 0) := Lib.hid (by rw [← HVS.out]; exact hs)
  clear hs
  obtain ⟨q0, -⟩ := blk_rules K3.out
  go_wp2_with fail
  refine (((put_lay S w3).2 none 0 0 [] r A n c A' n' c' _ (Ext.refl _) ArrR.nil_ (fun _ => rfl) (by omega) trivial (HV.out.up E3.out)).mono fun _ _ h => LayN.of h).mono ?_
  rintro e w4 ⟨B, N, d, rfl, HN, HC, HB, HO, hb4⟩
  have E4 := Lib.hid (E3.out.trans hb4)
  have hNp : 0 < N := by have := HN.out; have h2 := putR_pos HS.out; omega
  have hNl : N ≤ 1600 := by have := HN.out; have h2 := putR_len r; omega
  have HBs : Hid (Byts w4 B N (putR r)) := Lib.hid (by have := HB.out; rwa [List.nil_append] at this)
  have HNc : Hid (N ≤ d ∧ d ≤ maxLen) := Lib.hid (by
    obtain ⟨A1, c1, e1, h1, h2, -, -, -⟩ := own_byts HO.out
    injection e1 with _ _ e1; subst e1; exact ⟨h1, h2⟩)
  have hdm : d ≤ 9223372036854775807 := by have := HNc.out.2; unfold maxLen at this; omega
  have hNd := HNc.out.1
  clear q0 hb4 HB
  obtain ⟨q, hq, hbit⟩ := and_mask k 65535 (by omega)
  have hbit' : bits .and .i64 k 65535 = (q : Int) := hbit
  obtain ⟨j, hj⟩ : ∃ j, j = q % N := ⟨_, rfl⟩
  have hjN : j < N := by rw [hj]; exact Nat.mod_lt _ hNp
  have hm2 : (q : Int) % (N : Int) = (j : Int) := by rw [hj]; rfl
  have HJ := Lib.hid hj
  clear hj hbit
  have hjd : j ≤ d := by omega
  have hNz : ((N : Int) == 0) = false := by simp; omega
  go_wp2_with fail
  have hR := RdAt.box (w := w4) 0 (byts_take HBs.out (Nat.le_of_lt hjN)) HC.out hjd hdm
  have HE : Hid ((takeR ⟨(putR r).take j, 0⟩).1.e = 1) := Lib.hid (codec_r.short r j HS.out (by have h1 := HN.out; omega))
  have HZ : Hid ((takeR ⟨(putR r).take j, 0⟩).2 = rs0) := Lib.hid (takeR_zero _ (by rw [HE.out]; decide))
  refine ((take_takes w4.heap.size).2 ⟨(putR r).take j, 0⟩ _ hR).mono ?_
  rw [HZ.out]
  rintro e w5 ⟨C, m, f, C', m', f', rfl, hv5, hr5, ho5⟩
  have hec := hr5.eCell
  rw [HE.out] at hec
  have E5 : Hid (Ext w w5) := Lib.hid (Only.ext (E4.out.alloc _) ho5 E4.out.size)
  have HV5 := Lib.hid hv5
  have z5 : w4.heap.size < w5.heap.size := by have := ho5.size; simp at this; omega
  clear hv5 hr5 ho5 hR hm2 hbit' HJ
  go_wp2_with fail
  refine (refSame_eq (fun b => (w4.alloc (.cells #[.slice B j d, .int .i64 0] 44)).heap.size ≤ b) (fun _ => True) rs0 C none m f 0 0 C' none m' f' 0 0 _ (HV5.out.up (Ext.new _ _)) (rs0_V _ _)).mono ?_
  rintro e w6 ⟨rfl, hb6⟩
  go_wp2_with fail
  go_ret
  exact ⟨rfl, (E5.out.alloc _).trans hb6⟩
end Go.Proofs.YtepifkmileilfaaDoor
