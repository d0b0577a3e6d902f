/- What package frame's small, named, adds, kind compute. -/
import Derived.Test.YtepifkmileilfaaGreatDoorFr1
import Derived.Test.YtepifkmileilfaaGreatDoorConK
import Derived.Test.YtepifkmileilfaaGreatDoorConR
namespace Go.Proofs.YtepifkmileilfaaGreatDoor
set_option linter.unusedVariables false
open Go.RowKit

theorem box_up {w w1 : World} {cs : Array Value} {t : TypeId} (h : Ext (w.alloc (.cells cs t)) w1) : w1.heap[w.heap.size]? = some (.cells cs t (0, 0)) := (box1b h).1
set_option maxRecDepth 100000 in
set_option maxHeartbeats 1000000 in
theorem frNamed_any (S : Nat → Prop) (f : Fr) (s : FrS) (w : World) (hV : FrV S w f s) :
    Calls Tryz.prog 148 #[frVal f s] w fun e w' => e = .returned (.bool (namedF f)) ∧ Ext w w' := by
  have HV := Lib.hid hV
  obtain ⟨⟨A1, n1, c1⟩, ⟨A2, n2, c2⟩, ⟨A3, n3, c3⟩, ⟨A4, n4, c4⟩⟩ := s
  unfold frVal
  simp only
  clear hV
  go_enter Tryz.func148, Tryz.ntmps148
  go_wp2_with fail
  refine (containsK_any (T := S) S 196 #[] (fun k => !goodK k) A2 n2 c2 f.gone _ HV.out.sg.len (KeyL.keep HV.out.gone (Ext.new _ _).keep) (frBad_pred _ _)).mono ?_
  rintro e w1 ⟨rfl, hb1⟩
  have K1 := Lib.hid (box_up hb1)
  have E1 := Lib.hid ((Ext.new w _).trans hb1)
  clear hb1
  obtain ⟨q0, -⟩ := blk_rules K1.out
  cases h1 : f.gone.any (fun k => !goodK k) with
  | true =>
    have HR : Hid (namedF f = false) := Lib.hid (by unfold namedF; rw [show f.gone.all goodK = false from by rw [← Bool.not_eq_true, List.all_eq_true]; intro hh; rw [List.any_eq_true] at h1; obtain ⟨x, hx, hy⟩ := h1; rw [hh x hx] at hy; cases hy]; rfl)
    go_wp2_with fail
    go_ret
    exact ⟨ret_bool HR.out.symm, E1.out⟩
  | false =>
  have H1 : Hid (f.gone.all goodK = true) := Lib.hid (by rw [List.all_eq_true]; intro x hx; rw [List.any_eq_false] at h1; simpa using h1 x hx)
  clear h1
  go_wp2_with fail
  refine (containsK_any (T := S) S 196 #[] (fun k => !goodK k) A4 n4 c4 f.held _ HV.out.sk.len (KeyL.keep HV.out.held E1.out.keep) (frBad_pred _ _)).mono ?_
  rintro e w2 ⟨rfl, hb2⟩
  have K2 := Lib.hid ((hb2.block (Array.getElem?_eq_some_iff.1 K1.out).1).trans K1.out)
  have E2 := Lib.hid (E1.out.trans hb2)
  clear hb2 q0
  obtain ⟨q0, -⟩ := blk_rules K2.out
  cases h2 : f.held.any (fun k => !goodK k) with
  | true =>
    have HR : Hid (namedF f = false) := Lib.hid (by unfold namedF; rw [show f.held.all goodK = false from by rw [← Bool.not_eq_true, List.all_eq_true]; intro hh; rw [List.any_eq_true] at h2; obtain ⟨x, hx, hy⟩ := h2; rw [hh x hx] at hy; cases hy]; simp)
    go_wp2_with fail
    go_ret
    exact ⟨ret_bool HR.out.symm, E2.out⟩
  | false =>
  have H2 : Hid (f.held.all goodK = true) := Lib.hid (by rw [List.all_eq_true]; intro x hx; rw [List.any_eq_false] at h2; simpa using h2 x hx)
  clear h2
  go_wp2_with fail
  refine (containsM_any (T := S) S 197 #[] (fun m => !goodK m.1) A3 n3 c3 f.hav _ HV.out.sh.len (MkL.keep HV.out.hav E2.out.keep) (frNamed1_pred _ _)).mono ?_
  rintro e w3 ⟨rfl, hb3⟩
  have HR : Hid ((!(f.hav.any (fun m => !goodK m.1))) = namedF f) := Lib.hid (by
    unfold namedF; rw [H1.out, H2.out]
    rw [Bool.eq_iff_iff]; simp)
  have E3 := Lib.hid (E2.out.trans hb3)
  generalize f.hav.any (fun m => !goodK m.1) = v at HR ⊢
  go_wp2_with fail
  go_ret
  exact ⟨ret_bool HR.out, E3.out⟩
set_option maxRecDepth 100000 in
set_option maxHeartbeats 1000000 in
theorem frAdds_any (S : Nat → Prop) (f : Fr) (s : FrS) (w : World) (hV : FrV S w f s) :
    Calls Tryz.prog 149 #[frVal f s] w fun e w' => e = .returned (.int .i64 (firstE saneR f.adds)) ∧ Ext w w' := by
  have HV := Lib.hid hV
  obtain ⟨⟨A1, n1, c1⟩, ⟨A2, n2, c2⟩, ⟨A3, n3, c3⟩, ⟨A4, n4, c4⟩⟩ := s
  unfold frVal
  simp only
  clear hV
  have hn1 : n1 ≤ 9223372036854775807 := by have := HV.out.sa.len; unfold maxLen at this; exact this
  go_enter Tryz.func149, Tryz.ntmps149
  go_wp2_with fail
  go_loopw [9] (fun i wr => ∃ k : Nat, k ≤ n1 ∧ i = .int .i64 k ∧ Hid (firstE saneR f.adds = firstE saneR (f.adds.drop k)) ∧ Hid (Ext w wr)) (fun i _ => n1 - (intOf i).toNat)
  case atStart => exact ⟨0, Nat.zero_le _, rfl, Lib.hid rfl, Lib.hid (Ext.new _ _)⟩
  case round =>
    obtain ⟨k, hk, rfl, HS, HX⟩ := hrel
    by_cases hlt : k < n1
    · obtain ⟨b, o, r, B, m, d, B', m', d', rfl, hbB, -, hlk, hv, hc0, hc1, hc2, hc3, hc4, hc5, hc6⟩ := ResL.at_ HV.out.adds hlt
      have d0 : wr.cell? ⟨b, o + k * 7, none⟩ = some (.int .i64 r.kind) := (HX.out.cell hbB).trans hc0
      have d1 : wr.cell? ⟨b, o + k * 7 + 1, none⟩ = some (.string r.name) := (HX.out.cell hbB).trans hc1
      have d2 : wr.cell? ⟨b, o + k * 7 + 2, none⟩ = some (.int .i64 r.ver) := (HX.out.cell hbB).trans hc2
      have d3 : wr.cell? ⟨b, o + k * 7 + 3, none⟩ = some (.int .i64 r.port) := (HX.out.cell hbB).trans hc3
      have d4 : wr.cell? ⟨b, o + k * 7 + 4, none⟩ = some (.string r.to) := (HX.out.cell hbB).trans hc4
      have d5 : wr.cell? ⟨b, o + k * 7 + 5, none⟩ = some (.slice B m d) := (HX.out.cell hbB).trans hc5
      have d6 : wr.cell? ⟨b, o + k * 7 + 6, none⟩ = some (.slice B' m' d') := (HX.out.cell hbB).trans hc6
      have HL := Lib.hid hlk
      have HVr := Lib.hid hv
      have hbw := Nat.lt_of_lt_of_le hbB HX.out.size
      clear hlk hv hc0 hc1 hc2 hc3 hc4 hc5 hc6
      go_wp2_with fail
      refine (resSane_any S r B B' m d m' d' _ (HVr.out.up (HX.out.alloc _))).mono ?_
      rintro e w1 ⟨rfl, hb1⟩
      have HX1 := Lib.hid ((HX.out.alloc _).trans hb1)
      clear hb1 d0 d1 d2 d3 d4 d5 d6
      obtain ⟨x, hx⟩ : ∃ x, x = saneR r := ⟨_, rfl⟩
      rw [← hx]
      have HSt : Hid (firstE saneR (f.adds.drop k) = if x ≠ 0 then x else firstE saneR (f.adds.drop (k + 1))) := Lib.hid (by rw [hx, drop_of HL.out]; rfl)
      clear hx
      by_cases h0 : x = 0
      · subst h0
        have HS2 : Hid (firstE saneR f.adds = firstE saneR (f.adds.drop (k + 1))) := Lib.hid (by rw [HS.out, HSt.out, if_neg (by simp)])
        go_wp2_with fail
        go_roundw
        case rel => exact ⟨k + 1, by omega, by go_num, HS2, HX1⟩
        case measure => simp [intOf]; omega
      · have hq : (x != 0) = true := by simpa using h0
        have HR : Hid (firstE saneR f.adds = x) := Lib.hid (by rw [HS.out, HSt.out, if_pos h0])
        go_wp2_with fail
        go_ret
        exact ⟨ret_int HR.out.symm, HX1.out⟩
    · have HR : Hid (firstE saneR f.adds = 0) := Lib.hid (by rw [HS.out, List.drop_eq_nil_of_le (by have := HV.out.adds.len; simp only at this; omega)]; rfl)
      go_wp2_with fail
      go_ret
      exact ⟨ret_int HR.out.symm, HX.out⟩
end Go.Proofs.YtepifkmileilfaaGreatDoor
