/- What the document's Keys, With, Patch of layer 5 compute. -/
import Derived.Test.YtfdjbnofcniodaaGreatDoorTb1
namespace Go.Proofs.YtfdjbnofcniodaaGreatDoor
set_option linter.unusedVariables false
open Go.RowKit

set_option maxRecDepth 100000 in
set_option maxHeartbeats 8000000 in
theorem refKeys5_any (l : List Rs) (A : Option Addr) (n c : Nat) (w : World) (hA : ResL All w A n l) (hn : n ≤ 1000000) :
    Calls Tryz.prog 46 #[.slice A n c] w (GivesK w (l.map Rs.key)) := by
  have HA := Lib.hid hA
  clear hA
  go_enter Tryz.func46, Tryz.ntmps46
  go_wp2_with fail
  go_loopw [3, 4] (fun v i wr => ∃ (k : Nat) (us : List Value), k ≤ n ∧ i = .int .i64 k ∧ Hid (wr.ownsRow w.heap.size 38 2 v k us) ∧ Hid (RowsOf KyQ 2 us ((l.take k).map Rs.key)) ∧ Hid (Ext w wr)) (fun _ i _ => n - (intOf i).toNat)
  case atStart => exact ⟨0, [], Nat.zero_le _, by go_num, Lib.hid own_nil, Lib.hid rfl, Lib.hid (Ext.refl _)⟩
  case round =>
    obtain ⟨k, us, hk, rfl, HW, HU, HX⟩ := hrel
    obtain ⟨Av, cv, hv0, -, -, -, -⟩ := own_flat HW.out
    subst hv0
    by_cases hlt : k < n
    · obtain ⟨b, o, r, C, p, f, C', p', f', rfl, hbB, -, hlk, hv, hc0, hc1, hc2, hc3, hc4, hc5, hc6⟩ := ResL.at_ HA.out hlt
      have HLK := Lib.hid hlk
      have HNM := Lib.hid hv.nm
      have i1 : (0 : Int) ≤ (k : Int) := by omega
      have i2 : (k : Int) < (n : Int) := by omega
      have d0 : wr.cell? ⟨b, o + k * 7, none⟩ = some (.int .i64 r.kind) := (HX.out.cell hbB).trans hc0
      have d1 : wr.cell? ⟨b, o + k * 7 + 1, none⟩ = some (.string r.name) := (HX.out.cell hbB).trans hc1
      have d2 : wr.cell? ⟨b, o + k * 7 + 2, none⟩ = some (.int .i64 r.ver) := (HX.out.cell hbB).trans hc2
      have d3 : wr.cell? ⟨b, o + k * 7 + 3, none⟩ = some (.int .i64 r.port) := (HX.out.cell hbB).trans hc3
      have d4 : wr.cell? ⟨b, o + k * 7 + 4, none⟩ = some (.string r.to) := (HX.out.cell hbB).trans hc4
      have d5 : wr.cell? ⟨b, o + k * 7 + 5, none⟩ = some (.slice C p f) := (HX.out.cell hbB).trans hc5
      have d6 : wr.cell? ⟨b, o + k * 7 + 6, none⟩ = some (.slice C' p' f') := (HX.out.cell hbB).trans hc6
      clear hlk hv hc0 hc1 hc2 hc3 hc4 hc5 hc6
      go_wp2_with fail
      refine (refKey_any r C C' p f p' f' _).mono ?_
      rintro e x1 ⟨rfl, hb1⟩
      have HX1 := Lib.hid (HX.out.trans hb1)
      have HW1 := Lib.hid (own_up HW.out hb1)
      have hz1 : w.heap.size ≤ x1.heap.size := HX1.out.size
      have hFk := flat_k x1 [.int .i64 r.key.kind, .string r.key.name] 38 rfl
      have hOW := own_up HW1.out (Ext.new x1 (.cells #[.int .i64 r.key.kind, .string r.key.name] 38))
      obtain ⟨v', w5, hrun, hown5, hg5, hnw⟩ := run_append_flat elem_key 46 hOW 1 hFk (by simp [Value.oneCell']) (by omega) (by omega) (by rw [World.size_alloc]; omega) (fun h => by cases h)
      have HRUN := Lib.hid hrun
      have HX5 := Lib.hid ((HX1.out.alloc (.cells #[.int .i64 r.key.kind, .string r.key.name] 38)).grown hg5 hOW (Nat.le_refl _))
      have HW5 := Lib.hid hown5
      have HU5 : Hid (RowsOf KyQ 2 (us ++ [.int .i64 r.key.kind, .string r.key.name]) ((l.take (k + 1)).map Rs.key)) := Lib.hid (by rw [take_snoc_of HLK.out, List.map_append]; exact RowsOf.snoc rfl (show KyQ [.int .i64 r.key.kind, .string r.key.name] r.key from ⟨rfl, HNM.out⟩) HU.out)
      clear hb1 hFk hOW hrun hown5 hg5 hnw d0 d1 d2 d3 d4 d5 d6
      go_wp2_with (refine Lib.wpList_append_run _ rfl _ _ _ _ rfl _ _ rfl rfl v' w5 HRUN.out ?_)
      go_roundw
      case rel => exact ⟨k + 1, _, by omega, by go_num, HW5, HU5, HX5⟩
      case measure => simp [intOf]; omega
    · obtain rfl : k = n := by omega
      have HT : Hid (l.take k = l) := Lib.hid (List.take_of_length_le (Nat.le_of_eq HA.out.len))
      obtain ⟨Ax, cx, ex, h1, h2, h3, hF⟩ := own_flat HW.out
      injection ex with e1 e2 e3
      subst e1 e3
      have HFl := Lib.hid (hF.arrQ (S := fun _ => True) HU.out (by omega) (fun _ _ _ _ => trivial))
      have HSl : Hid (SlW Av k cv) := Lib.hid ⟨h1, h2, h3⟩
      have i2 : ¬ (k : Int) < (k : Int) := by omega
      clear hF h1 h2 h3
      go_wp2_with fail
      go_ret
      refine ⟨Av, k, cv, rfl, HSl.out, ?_, HX.out⟩
      have h9 := HFl.out
      rw [HT.out] at h9
      exact h9

theorem rsl_one {w : World} {S : Nat → Prop} : ∀ {us : List Value} {l : List Rs}, RowsOf (RsQ S w) 7 us l → ∀ u ∈ us, u.oneCell' = true
  | _, [], h, u, hu => by rw [show _ = [] from h] at hu; cases hu
  | _, x :: l, ⟨cs, r, e, _, ⟨A, n, c, B, m, d, hc, _⟩, h2⟩, u, hu => by
    rw [e] at hu
    rcases List.mem_append.1 hu with hu | hu
    · subst hc
      simp only [List.mem_cons, List.not_mem_nil, or_false] at hu
      rcases hu with rfl | rfl | rfl | rfl | rfl | rfl | rfl <;> rfl
    · exact rsl_one h2 u hu

set_option maxRecDepth 100000 in
set_option maxHeartbeats 8000000 in
theorem refWith5_any (A : Option Addr) (n c : Nat) (l : List Rs) (r : Rs) (B : Option Addr) (m d : Nat) (B' : Option Addr) (m' d' : Nat) (w : World) (hn : n ≤ 400000) (hA : ResL All w A n l) (hv : RsV All w r B m d B' m' d') :
    Calls Tryz.prog 40 #[.slice A n c, rsVal r B m d B' m' d'] w (GivesL w (withT l r)) := by
  have HA := Lib.hid hA
  have HV := Lib.hid hv
  have hL := hA.len
  have HWT : Hid (withT l r = l.filter (fun x => decide (cmpK x.key r.key = -1)) ++ [r] ++ l.filter (fun x => decide (cmpK x.key r.key = 1))) := Lib.hid rfl
  have hl1 : (l.filter (fun x => decide (cmpK x.key r.key = -1))).length ≤ 400000 := Nat.le_trans (List.length_filter_le _ _) (by omega)
  have hl2 : (l.filter (fun x => decide (cmpK x.key r.key = 1))).length ≤ 400000 := Nat.le_trans (List.length_filter_le _ _) (by omega)
  obtain ⟨L1, hL1⟩ : ∃ L1, L1 = l.filter (fun x => decide (cmpK x.key r.key = -1)) := ⟨_, rfl⟩
  obtain ⟨L2, hL2⟩ : ∃ L2, L2 = l.filter (fun x => decide (cmpK x.key r.key = 1)) := ⟨_, rfl⟩
  rw [← hL1, ← hL2] at HWT
  rw [← hL1] at hl1
  rw [← hL2] at hl2
  have HC1 : Hid (∀ w1, ArrQ All w1 7 (RsQ All w) A n l → Calls Tryz.prog 120 #[.slice A n c, .agg #[.int .i64 r.key.kind, .string r.key.name], .int .i64 (-1)] w1 (OwnR w w1 L1)) := Lib.hid (fun w1 h => by rw [hL1]; exact refPart5_any l A n c r.key (-1) w1 w h (by omega) HV.out.nm)
  have HC2 : Hid (∀ w1, ArrQ All w1 7 (RsQ All w) A n l → Calls Tryz.prog 120 #[.slice A n c, .agg #[.int .i64 r.key.kind, .string r.key.name], .int .i64 1] w1 (OwnR w w1 L2)) := Lib.hid (fun w1 h => by rw [hL2]; exact refPart5_any l A n c r.key 1 w1 w h (by omega) HV.out.nm)
  clear hA hv hL1 hL2 hL
  unfold rsVal
  go_enter Tryz.func40, Tryz.ntmps40
  go_wp2_with fail
  refine (refKey_any r B B' m d m' d' _).mono ?_
  rintro e w1 ⟨rfl, hb1⟩
  have K1 := Lib.hid (box_at hb1)
  have E1 := Lib.hid ((Ext.new w (.cells #[.int .i64 r.kind, .string r.name, .int .i64 r.ver, .int .i64 r.port, .string r.to, .slice B m d, .slice B' m' d'] 34)).trans hb1)
  have hz1 : w.heap.size < w1.heap.size := (Array.getElem?_eq_some_iff.1 K1.out).1
  clear hb1
  go_wp2_with fail
  have X2 : Ext w1 (w1.alloc (.cells #[.int .i64 r.key.kind, .string r.key.name] 38)) := Ext.new _ _
  have KK2 := Lib.hid (heap_alloc_new w1 (.cells #[.int .i64 r.key.kind, .string r.key.name] 38))
  have KR2 := Lib.hid ((X2.block hz1).trans K1.out)
  have E2 := Lib.hid (E1.out.trans X2)
  have hz2 : w1.heap.size < (w1.alloc (.cells #[.int .i64 r.key.kind, .string r.key.name] 38)).heap.size := by simp
  generalize w1.alloc (.cells #[.int .i64 r.key.kind, .string r.key.name] 38) = w2 at X2 KK2 KR2 E2 hz2 ⊢
  refine (HC1.out _ (ArrQ.keep HA.out (fun _ _ _ h => h) E2.out.keep)).mono ?_
  rintro e w3 ⟨v3, us3, rfl, HO3, HU3, hb3⟩
  have KK3 := Lib.hid ((hb3.block hz2).trans KK2.out)
  have KR3 := Lib.hid ((hb3.block (by omega)).trans KR2.out)
  have E3 := Lib.hid (E2.out.trans hb3)
  have hz3 : w1.heap.size < w3.heap.size := Nat.lt_of_lt_of_le hz2 hb3.size
  obtain ⟨A3, c3, e3, -, -, -, -⟩ := own_flat HO3.out
  subst e3
  have hz32 : w2.heap.size ≤ w3.heap.size := hb3.size
  have hFk := flat_k w3 [.int .i64 r.kind, .string r.name, .int .i64 r.ver, .int .i64 r.port, .string r.to, .slice B m d, .slice B' m' d'] 34 rfl
  have hOW := own_up HO3.out (Ext.new w3 (.cells #[.int .i64 r.kind, .string r.name, .int .i64 r.ver, .int .i64 r.port, .string r.to, .slice B m d, .slice B' m' d'] 34))
  obtain ⟨v4, w4, hrun4, hown4, hg4, -⟩ := run_append_flat elem_res 42 hOW 1 hFk (by simp [Value.oneCell']) (by omega) (by omega) (by rw [World.size_alloc]; omega) (fun h => by cases h)
  have X4 : Ext w2 w4 := (hb3.alloc (.cells #[.int .i64 r.kind, .string r.name, .int .i64 r.ver, .int .i64 r.port, .string r.to, .slice B m d, .slice B' m' d'] 34)).grown hg4 hOW (Nat.le_refl _)
  have KK4 := Lib.hid ((X4.block hz2).trans KK2.out)
  have E4 := Lib.hid (E2.out.trans X4)
  have HO4 := Lib.hid hown4
  have HRUN4 := Lib.hid hrun4
  have hz4 : w2.heap.size ≤ w4.heap.size := X4.size
  obtain ⟨A4, c4, e4, -, -, -, -⟩ := own_flat HO4.out
  subst e4
  clear hb3 hFk hOW hrun4 hown4 hg4
  obtain ⟨q0, q1⟩ := blk_rules KR3.out
  obtain ⟨p0, p1⟩ := blk_rules KK4.out
  go_wp2_with (refine Lib.wpList_append_run _ rfl _ _ _ _ rfl _ _ rfl rfl _ w4 HRUN4.out ?_)
  clear q0 q1 p0 p1
  refine (HC2.out _ (ArrQ.keep HA.out (fun _ _ _ h => h) E4.out.keep)).mono ?_
  rintro e w5 ⟨v5, us5, rfl, HO5, HU5, hb5⟩
  obtain ⟨A5, c5, e5, -, -, h53, hF5⟩ := own_flat HO5.out
  subst e5
  have hOW5 := own_up HO4.out hb5
  have hz5 : w4.heap.size ≤ w5.heap.size := hb5.size
  obtain ⟨v6, w6, hrun6, hown6, hg6, -⟩ := run_append_flat elem_res 42 hOW5 c5 hF5 (rsl_one HU5.out) (by omega) (by omega) (by omega) h53
  have E6 := Lib.hid (Ext.grown (E4.out.trans hb5) hg6 hOW5 E2.out.size)
  have HRUN6 := Lib.hid hrun6
  obtain ⟨A6, c6, e6, g1, g2, g3, hF6⟩ := own_flat hown6
  subst e6
  have HS6 : Hid (SlW A6 (L1.length + 1 + L2.length) c6) := Lib.hid ⟨g1, g2, g3⟩
  have HR6 : Hid (RowsOf (RsQ All w) 7 (us3 ++ [.int .i64 r.kind, .string r.name, .int .i64 r.ver, .int .i64 r.port, .string r.to, .slice B m d, .slice B' m' d'] ++ us5) (L1 ++ [r] ++ L2)) := Lib.hid (RowsOf.app (RowsOf.snoc rfl (show RsQ All w [.int .i64 r.kind, .string r.name, .int .i64 r.ver, .int .i64 r.port, .string r.to, .slice B m d, .slice B' m' d'] r from ⟨B, m, d, B', m', d', rfl, HV.out⟩) HU3.out) HU5.out)
  have HF6 := Lib.hid (hF6.arrQ (S := fun _ => True) HR6.out (by omega) (fun _ _ _ _ => trivial))
  clear hb5 h53 hF5 hOW5 hrun6 hown6 hg6 g1 g2 g3 hF6
  go_wp2_with (refine Lib.wpList_append_run _ rfl _ _ _ _ rfl _ _ rfl rfl _ w6 HRUN6.out ?_)
  go_ret
  rw [HWT.out]
  exact ⟨A6, _, c6, rfl, HS6.out, HF6.out.weak (fun _ _ h => h.keep E6.out.keep) (fun _ _ _ => trivial), E6.out⟩
end Go.Proofs.YtfdjbnofcniodaaGreatDoor
