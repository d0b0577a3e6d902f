/- The law ScriptRows of layer 23. -/
import Derived.Test.YtfdjbnofcniodaaGreatDoorSc7
import Derived.Test.YtfdjbnofcniodaaGreatDoorSc8
import Derived.Test.YtfdjbnofcniodaaGreatDoorGround
namespace Go.Proofs.YtfdjbnofcniodaaGreatDoor
set_option linter.unusedVariables false
open Go.RowKit

theorem putSs_app (a b : List Sp) : putSs (a ++ b) = putSs a ++ putSs b := by unfold putSs; rw [List.flatMap_append]
theorem rows_one {w : World} {S : Nat → Prop} : ∀ {us : List Value} {l : List Sp}, RowsOf (SpQ S w) 11 us l → ∀ u ∈ us, u.oneCell' = true
  | _, [], h, u, hu => by rw [show _ = [] from h] at hu; cases hu
  | _, x :: l, ⟨cs, r, e, _, ⟨A, n, c, B, m, d, hc, _⟩, h2⟩, u, hu => by
    rw [e] at hu
    rcases List.mem_append.1 hu with hu | hu
    · subst hc
      simp only [List.mem_cons, List.not_mem_nil, or_false] at hu
      rcases hu with rfl | rfl | rfl | rfl | rfl | rfl | rfl | rfl | rfl | rfl | rfl <;> rfl
    · exact rows_one h2 u hu
theorem convS {w : World} {A : Option Addr} {n : Nat} {bs : List UInt8} (h : Byts w A n bs) (c : Nat) : (convert 22 9 (.slice A n c)).run Tryz.prog w = .ok (.string (bstr bs)) w :=
  run_conv Tryz.underlying22 Tryz.underlying5 Tryz.underlying9 h c
theorem ours_snoc {l : List Sp} {k : Nat} {s : Sp} (hs : l[k]? = some s) (h : ∀ x ∈ l.take k, ours x) (ho : ours s) : ∀ x ∈ l.take (k + 1), ours x := by
  rw [take_snoc_of hs]
  intro x hx
  rcases List.mem_append.1 hx with hx | hx
  · exact h x hx
  · simp at hx; subst hx; exact ho
theorem app_rows {w1 w2 w3 : World} {base : Nat} {v : Value} {n : Nat} {e : TypeId} {us vs : List Value} {la lb : List Sp} {B2 : Nat} {v2 : Value} (hU : RowsOf (SpQ (Sx base v) w1) 11 us la) (hV : RowsOf (SpQ (Sx B2 v2) w2) 11 vs lb) (h12 : Ext w1 w2) (hg : w2.grownBy w3 v.ownBlock)
    (hown : w1.ownsRow base e 11 v n us) (hB : w1.heap.size ≤ B2) : RowsOf (SpQ (fun _ => True) w3) 11 (us ++ vs) (la ++ lb) := by
  refine RowsOf.app (hU.mono fun cs x h => ?_) (hV.mono fun cs x h => ?_)
  · refine (h.keep (w' := w3) ⟨Nat.le_trans h12.size hg.size, fun b o hb hS => ?_⟩).weak fun _ _ _ => trivial
    exact (World.cell?_of_block (hg.block b (Nat.lt_of_lt_of_le hb h12.size) (fun e' => hS.2 e'.symm))).trans (h12.cell hb)
  · refine (h.keep (w' := w3) ⟨hg.size, fun b o hb hS => ?_⟩).weak fun _ _ _ => trivial
    exact World.cell?_of_block (hg.block b hb (fun e' => by have := (hown.lt b e'.symm).2; have := hS.1; omega))

set_option maxRecDepth 100000 in
set_option maxHeartbeats 16000000 in
theorem scriptRows_any (A : Option Addr) (n c : Nat) (la : List Sp) (B : Option Addr) (m d : Nat) (lb : List Sp) (w : World) (hsl : SlW A n c) (hA : SpL (fun _ => True) w A n la) (hsk : SlW B m d) (hB : SpL (fun _ => True) w B m lb) :
    Calls Tryz.prog 8 #[.slice A n c, .slice B m d] w fun e w' => e = .returned (.bool true) ∧ Ext w w' := by
  have HA := Lib.hid hA
  have HB := Lib.hid hB
  have HSL := Lib.hid hsl
  have HSK := Lib.hid hsk
  clear hA hB hsl hsk
  go_enter Tryz.func8, Tryz.ntmps8
  go_wp2_with fail
  refine (awake23 _).mono ?_
  rintro e w1 ⟨rfl, hb1⟩
  have E1 := Lib.hid hb1
  clear hb1
  go_wp2_with fail
  refine (few23_any (fun _ => True) la A n c _ (Nat.le_trans HSL.out.1 HSL.out.2.1) (SpL.keep HA.out E1.out.keep)).mono ?_
  rintro e w2 ⟨v, rfl, hv, hb2⟩
  have E2 := Lib.hid (E1.out.trans hb2)
  clear hb2
  cases v with
  | false =>
    go_wp2_with fail
    go_ret
    exact ⟨rfl, E2.out⟩
  | true =>
  have hn60 : n ≤ 60 := hv rfl
  clear hv
  go_wp2_with fail
  refine (few23_any (fun _ => True) lb B m d _ (Nat.le_trans HSK.out.1 HSK.out.2.1) (SpL.keep HB.out E2.out.keep)).mono ?_
  rintro e w3 ⟨v, rfl, hv, hb3⟩
  have E3 := Lib.hid (E2.out.trans hb3)
  clear hb3
  cases v with
  | false =>
    go_wp2_with fail
    go_ret
    exact ⟨rfl, E3.out⟩
  | true =>
  have hm60 : m ≤ 60 := hv rfl
  clear hv
  go_wp2_with fail
  refine (scSteps_any la A n c _ (SpL.keep HA.out E3.out.keep) (by omega)).mono ?_
  rintro e w4 ⟨A4, n4, c4, rfl, -, hL4, hb4⟩
  have E4 := Lib.hid (E3.out.trans hb4)
  have HL4 := Lib.hid hL4
  have hn4 : n4 ≤ 60 := by have h8 := HL4.out.len; have h9 := HA.out.len; omega
  clear hb4 hL4
  go_wp2_with fail
  refine (scPut_any (fun _ => True) la A4 n4 c4 _ HL4.out (by omega)).mono ?_
  rintro e w5 ⟨A5, N5, c5, rfl, h5⟩
  have E5 := Lib.hid (E4.out.trans h5.ext)
  have F5 := Lib.hid h5.ext
  have HB5 : Hid (Byts w5 A5 N5 (putSs la)) := Lib.hid (by have := h5.byts; rwa [List.nil_append] at this)
  have HC5 := Lib.hid h5.nil
  have hnc5 := h5.nc
  have hcm5 : c5 ≤ 9223372036854775807 := by have := h5.cm; unfold maxLen at this; exact this
  have hN5 : N5 ≤ 6600000 := by have h8 := HB5.out.len; have h9 := putSs_len_le la; have h7 := HA.out.len; omega
  clear h5
  go_wp2_with fail
  refine (scSteps_any lb B m d _ (SpL.keep HB.out E5.out.keep) (by omega)).mono ?_
  rintro e w6 ⟨A6, n6, c6, rfl, -, hL6, hb6⟩
  have E6 := Lib.hid (E5.out.trans hb6)
  have G6 := Lib.hid hb6
  have HL6 := Lib.hid hL6
  have hn6 : n6 ≤ 60 := by have h8 := HL6.out.len; have h9 := HB.out.len; omega
  clear hb6 hL6
  go_wp2_with fail
  refine (scPut_any (fun _ => True) lb A6 n6 c6 _ HL6.out (by omega)).mono ?_
  rintro e w7 ⟨A7, N7, c7, rfl, h7⟩
  have E7 := Lib.hid (E6.out.trans h7.ext)
  have F7 := Lib.hid h7.ext
  have HB7 : Hid (Byts w7 A7 N7 (putSs lb)) := Lib.hid (by have := h7.byts; rwa [List.nil_append] at this)
  have HC7 := Lib.hid h7.nil
  have hnc7 := h7.nc
  have hcm7 : c7 ≤ 9223372036854775807 := by have := h7.cm; unfold maxLen at this; exact this
  have hN7 : N7 ≤ 6600000 := by have h8 := HB7.out.len; have h9 := putSs_len_le lb; have h7 := HB.out.len; omega
  clear h7
  have HB5' := Lib.hid (ArrR.up HB5.out (G6.out.trans F7.out))
  -- both
  obtain ⟨usA, hFA, hUA⟩ := ArrR.rows HA.out.arr (by omega)
  obtain ⟨usB, hFB, hUB⟩ := ArrR.rows HB.out.arr (by omega)
  have hE8 := own_empty_lit w7 w7.heap.size 73 11 (Nat.le_refl _)
  have X8 : Ext w7 (w7.alloc (.cells #[] 73)) := Ext.new _ _
  obtain ⟨v8, w8, hr8, hown8, hg8, -⟩ := run_append_flat elem_stepD 68 hE8 c (hFA.up (E7.out.trans X8)) (rows_one hUA) (by omega) (by omega) X8.size HSL.out.2.2
  rw [Nat.zero_add, List.nil_append] at hown8
  have X9 := X8.grown hg8 hE8 (Nat.le_refl _)
  obtain ⟨v9, w9, hr9, hown9, hg9, -⟩ := run_append_flat elem_stepD 68 hown8 d (hFB.up (E7.out.trans X9)) (rows_one hUB) (by omega) (by omega) X9.size HSK.out.2.2
  have X10 := X9.grown hg9 hown8 (Nat.le_refl _)
  obtain ⟨A9, c9, e9, b1, b2, b3, hF9⟩ := own_flat hown9
  subst e9
  have HBO : Hid (SpL (fun _ => True) w9 A9 (n + m) (la ++ lb)) := Lib.hid ((hF9.arrQ (S := fun _ => True) (RowsOf.app hUA hUB) (by omega) (fun _ _ _ _ => trivial)).weak (fun _ _ h => h.keep (E7.out.trans X10).keep) (fun _ _ _ => trivial))
  have hc9 : n + m ≤ c9 := b1
  have hc9m : c9 ≤ 9223372036854775807 := by unfold maxLen at b2; exact b2
  -- all
  have hE10 := own_empty_lit w9 w9.heap.size 5 1 (Nat.le_refl _)
  have Y10 : Ext w9 (w9.alloc (.cells #[] 5)) := Ext.new _ _
  obtain ⟨v10, w10, hr10, hown10, hg10, -⟩ := run_append_flat elem_byte 22 hE10 c5 ((ArrR.flat (f := byteV) HB5'.out).up (X10.trans Y10)) (byteV_one _) (by omega) (by omega) Y10.size HC5.out
  rw [Nat.zero_add, List.nil_append] at hown10
  have Y11 := Y10.grown hg10 hE10 (Nat.le_refl _)
  obtain ⟨v11, w11, hr11, hown11, hg11, -⟩ := run_append_flat elem_byte 22 hown10 c7 ((ArrR.flat (f := byteV) HB7.out).up (X10.trans Y11)) (byteV_one _) (by omega) (by omega) Y11.size HC7.out
  have Y12 := Y11.grown hg11 hown10 (Nat.le_refl _)
  rw [← List.map_append] at hown11
  obtain ⟨A11, c11, e11, hnc11, hcm11, hA11, hB11, -⟩ := own_byts hown11
  subst e11
  obtain ⟨N11, hN11⟩ : ∃ N11, N11 = N5 + N7 := ⟨_, rfl⟩
  rw [← hN11] at hnc11 hB11 hr11
  have hN11m : N11 ≤ 13200000 := by omega
  have hcm11' : c11 ≤ 9223372036854775807 := by unfold maxLen at hcm11; exact hcm11
  have HR8 := Lib.hid hr8
  have HR9 := Lib.hid hr9
  have HR10 := Lib.hid hr10
  have HR11 := Lib.hid hr11
  have HB11 := Lib.hid hB11
  have HA11 := Lib.hid hA11
  have E11 := Lib.hid (E7.out.trans (X10.trans Y12))
  have HBO11 := Lib.hid (SpL.keep HBO.out Y12.keep)
  have HA5 := Lib.hid (ArrR.up HB5'.out (X10.trans Y12))
  have HA7 := Lib.hid (ArrR.up HB7.out (X10.trans Y12))
  clear hE8 X8 hr8 hown8 hg8 X9 hr9 hown9 hg9 X10 b1 b2 b3 hF9 hE10 Y10 hr10 hown10 hg10 Y11 hr11 hown11 hg11 Y12 hFA hUA hFB hUB hB11 hA11 hcm11 hN11
  go_wp2_with (first
    | (refine Lib.wpList_append_run _ rfl _ _ _ _ rfl _ _ rfl rfl _ w8 HR8.out ?_)
    | (refine Lib.wpList_append_run _ rfl _ _ _ _ rfl _ _ rfl rfl _ w9 HR9.out ?_)
    | (refine Lib.wpList_append_run _ rfl _ _ _ _ rfl _ _ rfl rfl _ w10 HR10.out ?_)
    | (refine Lib.wpList_append_run _ rfl _ _ _ _ rfl _ _ rfl rfl _ w11 HR11.out ?_))
  obtain ⟨M, hM⟩ : ∃ M, M = n + m := ⟨_, rfl⟩
  rw [← hM] at HBO11 hc9
  try rw [← hM]
  have hM120 : M ≤ 120 := by omega
  have HM := Lib.hid hM
  clear hM
  go_loopw [10, 11] (fun nv i wr => ∃ (q k : Nat), q ≤ k ∧ k ≤ M ∧ nv = .int .i64 q ∧ i = .int .i64 k ∧ Hid (q = 0 → ∀ s ∈ (la ++ lb).take k, ours s) ∧ Hid (Ext w11 wr)) (fun _ i _ => M - (intOf i).toNat)
  case atStart => exact ⟨0, 0, Nat.le_refl _, Nat.zero_le _, by go_num, by go_num, Lib.hid (fun _ s hs => by cases hs), Lib.hid (Ext.refl _)⟩
  case round =>
    obtain ⟨q, k, hqk, hk, rfl, rfl, HQ, HX⟩ := hrel
    have HE := Lib.hid (E11.out.trans HX.out)
    by_cases hlt : k < M
    · obtain ⟨b, o, s, C, p, f, C', p', f', rfl, hbB, -, hlk, hv, hc0, hc1, hc2, hc3, hc4, hc5, hc6, hc7, hc8, hc9, hc10⟩ := SpL.at_ HBO11.out hlt
      have HV := Lib.hid hv
      have HLK := Lib.hid hlk
      have i1 : (0 : Int) ≤ (k : Int) := by omega
      have i2 : (k : Int) < (M : Int) := by omega
      have d0 : wr.cell? ⟨b, o + k * 11, none⟩ = some (.int .i64 s.kind) := (HX.out.cell hbB).trans hc0
      have d1 : wr.cell? ⟨b, o + k * 11 + 1, none⟩ = some (.int .i64 s.side) := (HX.out.cell hbB).trans hc1
      have d2 : wr.cell? ⟨b, o + k * 11 + 2, none⟩ = some (.int .i64 s.way) := (HX.out.cell hbB).trans hc2
      have d3 : wr.cell? ⟨b, o + k * 11 + 3, none⟩ = some (.int .i64 s.n) := (HX.out.cell hbB).trans hc3
      have d4 : wr.cell? ⟨b, o + k * 11 + 4, none⟩ = some (.slice C p f) := (HX.out.cell hbB).trans hc4
      have d5 : wr.cell? ⟨b, o + k * 11 + 5, none⟩ = some (.slice C' p' f') := (HX.out.cell hbB).trans hc5
      have d6 : wr.cell? ⟨b, o + k * 11 + 6, none⟩ = some (.int .i64 s.a.port) := (HX.out.cell hbB).trans hc6
      have d7 : wr.cell? ⟨b, o + k * 11 + 7, none⟩ = some (.string s.a.host) := (HX.out.cell hbB).trans hc7
      have d8 : wr.cell? ⟨b, o + k * 11 + 8, none⟩ = some (.string s.a.path) := (HX.out.cell hbB).trans hc8
      have d9 : wr.cell? ⟨b, o + k * 11 + 9, none⟩ = some (.int .i64 s.a.first) := (HX.out.cell hbB).trans hc9
      have d10 : wr.cell? ⟨b, o + k * 11 + 10, none⟩ = some (.int .i64 s.a.other) := (HX.out.cell hbB).trans hc10
      clear hlk hv
      go_wp2_with fail
      refine (refSane23_any (fun _ => True) s C p f C' p' f' _ (HV.out.up HX.out)).mono ?_
      rintro e w12 ⟨rfl, hb12⟩
      have HX2 := Lib.hid (HX.out.trans hb12)
      clear d0 d1 d2 d3 d4 d5 d6 d7 d8 d9 d10
      have x1 : w12.cell? ⟨b, o + k * 11 + 1, none⟩ = some (.int .i64 s.side) := (HX2.out.cell hbB).trans hc1
      clear hc0 hc1 hc2 hc3 hc4 hc5 hc6 hc7 hc8 hc9 hc10 hb12
      obtain ⟨Z, hZ⟩ : ∃ Z, Z = saneS s := ⟨_, rfl⟩
      rw [← hZ]
      have HZ := Lib.hid hZ
      clear hZ
      by_cases hs : Z = 0
      · have hz1 : (Z != 0) = false := by simpa using hs
        have HS0 : Hid (saneS s = 0) := Lib.hid (by rw [← HZ.out]; exact hs)
        clear hs
        by_cases h3 : 3 < s.side
        · go_wp2_with fail
          clear x1
          go_roundw
          case rel => exact ⟨q + 1, k + 1, by omega, by omega, by go_num, by go_num, Lib.hid (fun h => absurd h (by omega)), HX2⟩
          case measure => simp [intOf]; omega
        · have HQ2 : Hid (q = 0 → ∀ s ∈ (la ++ lb).take (k + 1), ours s) := Lib.hid (fun h => ours_snoc HLK.out (HQ.out h) ⟨HS0.out, by omega⟩)
          go_wp2_with fail
          clear x1
          go_roundw
          case rel => exact ⟨q, k + 1, by omega, by omega, by go_num, by go_num, HQ2, HX2⟩
          case measure => simp [intOf]; omega
      · have hz1 : (Z != 0) = true := by simpa using hs
        clear hs
        go_wp2_with fail
        clear x1
        go_roundw
        case rel => exact ⟨q + 1, k + 1, by omega, by omega, by go_num, by go_num, Lib.hid (fun h => absurd h (by omega)), HX2⟩
        case measure => simp [intOf]; omega
    · obtain rfl : k = M := by omega
      have HQ3 : Hid (q = 0 → ∀ s ∈ la ++ lb, ours s) := Lib.hid (fun h => by have h9 := HQ.out h; rwa [List.take_of_length_le (by have := HBO11.out.len; omega)] at h9)
      have HBOr := Lib.hid (SpL.keep HBO11.out HX.out.keep)
      have HBr := Lib.hid (ArrR.up HB11.out HX.out)
      have i2 : ¬ (k : Int) < (k : Int) := by omega
      go_wp2_with fail
      refine ((scGet_any A5 N5 c5 (putSs la) _ (ArrR.up HA5.out HX.out) HC5.out hnc5 hcm5).mono fun _ _ h => GotS.out h).mono ?_
      obtain ⟨LA, hLA⟩ : ∃ LA, LA = getSs (putSs la) := ⟨_, rfl⟩
      rw [← hLA]
      have h400a : LA.length ≤ 400 := by rw [hLA]; exact (getSs_good _).2.1
      have HLA := Lib.hid hLA
      clear hLA
      rintro e w12 ⟨A12, c12, us12, rfl, hsl12, HL12, HO12, HU12, hb12⟩
      have HX12 := Lib.hid (HX.out.trans hb12)
      have G12 := Lib.hid hb12
      clear hb12
      go_wp2_with fail
      refine ((scGet_any A7 N7 c7 (putSs lb) _ (ArrR.up HA7.out HX12.out) HC7.out hnc7 hcm7).mono fun _ _ h => GotS.out h).mono ?_
      obtain ⟨LB, hLB⟩ : ∃ LB, LB = getSs (putSs lb) := ⟨_, rfl⟩
      rw [← hLB]
      have h400b : LB.length ≤ 400 := by rw [hLB]; exact (getSs_good _).2.1
      have HLB := Lib.hid hLB
      clear hLB
      rintro e w13 ⟨A13, c13, us13, rfl, hsl13, HL13, HO13, HU13, hb13⟩
      obtain ⟨A13x, c13x, e13x, -, -, -, hF13⟩ := own_flat HO13.out
      injection e13x with e1 e2 e3
      subst e1 e3
      have hO13 := own_up HO12.out hb13
      obtain ⟨v14, w14, hr14, hown14, hg14, -⟩ := run_append_flat elem_step 77 hO13 c13 hF13 (rows_one HU13.out) (by omega) (by omega) (Nat.le_trans G12.out.size hb13.size) hsl13.2.2
      obtain ⟨A14, c14, e14, b1, b2, b3, hF14⟩ := own_flat hown14
      subst e14
      have HAPP := app_rows HU12.out HU13.out hb13 hg14 HO12.out (Nat.le_refl _)
      have HLX : Hid (SpL (fun _ => True) w14 A14 (LA.length + LB.length) (LA ++ LB)) := Lib.hid (hF14.arrQ (S := fun _ => True) HAPP (by omega) (fun _ _ _ _ => trivial))
      have HX14 : Hid (Ext wr w14) := Lib.hid ((G12.out.trans hb13).grown hg14 hO13 (Nat.le_refl _))
      have HR14 := Lib.hid hr14
      obtain ⟨NX, hNX⟩ : ∃ NX, NX = LA.length + LB.length := ⟨_, rfl⟩
      have HNX := Lib.hid hNX
      have HLX2 : Hid (SpL (fun _ => True) w14 A14 NX (LA ++ LB)) := Lib.hid (by rw [hNX]; exact HLX.out)
      have hc14 : NX ≤ c14 := by rw [hNX]; exact b1
      have hNX8 : NX ≤ 800 := by omega
      clear hb13 hsl12 hsl13 HL12 HL13 hF13 hO13 hown14 hg14 hr14 b1 b2 b3 hF14 HAPP HLX
      rw [← hNX] at HR14
      clear hNX
      go_wp2_with (refine Lib.wpList_append_run _ rfl _ _ _ _ rfl _ _ rfl rfl _ w14 HR14.out ?_)
      have E14 := Lib.hid (HE.out.trans HX14.out)
      have HBO14 := Lib.hid (SpL.keep HBOr.out HX14.out.keep)
      have HB14 := Lib.hid (ArrR.up HBr.out HX14.out)
      have HPA : Hid (putSs (la ++ lb) = putSs la ++ putSs lb) := Lib.hid (putSs_app la lb)
      have kc : ∀ w', Ext w14.drew w' → (convert 22 9 (.slice A11 N11 c11)).run Tryz.prog w' = .ok (.string (bstr (putSs la ++ putSs lb))) w' := fun w' hx => convS (ArrR.up HB14.out ((Ext.refl w14).drew.trans hx)) c11
      by_cases hq0 : q = 0
      · have HALL := HQ3.out hq0
        have hla : LA = la := by rw [HLA.out]; exact getSs_put (fun s hs => HALL s (List.mem_append_left _ hs)) (by have := HA.out.len; omega)
        have hlb : LB = lb := by rw [HLB.out]; exact getSs_put (fun s hs => HALL s (List.mem_append_right _ hs)) (by have := HB.out.len; omega)
        have HGET : Hid (getSs (putSs la ++ putSs lb) = la ++ lb) := Lib.hid (by rw [← HPA.out]; exact getSs_put HALL (by have h8 := HBO14.out.len; omega))
        have HLX3 : Hid (SpL (fun _ => True) w14 A14 NX (la ++ lb)) := Lib.hid (by have := HLX2.out; rwa [hla, hlb] at this)
        have hNM : NX = k := by have h8 := HLX3.out.len; have h9 := HBO14.out.len; omega
        have jq : decide ((0 : Int) < (q : Int)) = false := decide_eq_false (by omega)
        have jn : decide (0 < q) = false := decide_eq_false (by omega)
        have jp : ¬ 0 < q := by omega
        have hAB : (la ++ lb).length = k := HBO14.out.len
        subst hNM
        clear HALL hla hlb HQ HQ3 hq0
        have hSw : Ext w14.drew w14.drew := Ext.refl _
        refine wpS_begin (Ext w14.drew) (by kernel_rfl) ?_
        refine wpS_take 0 (v := ?_) hSw rfl (by kernel_rfl) (by kernel_rfl) (by kernel_rfl) (by rfl) (fun w' hin => ?_) ?_
        rotate_left
        · (try simp only [] at hin); go_simp <;> with_reducible rfl
        try simp only [Act.put, List.setIfInBounds_toArray, List.set_cons_zero, List.set_cons_succ]
        refine wpS_take 1 (v := ?_) hSw rfl (by kernel_rfl) (by kernel_rfl) (by kernel_rfl) (by rfl) (fun w' hin => ?_) ?_
        rotate_left
        · (try simp only [] at hin); go_simp <;> with_reducible rfl
        try simp only [Act.put, List.setIfInBounds_toArray, List.set_cons_zero, List.set_cons_succ]
        refine wpS_take 2 (v := ?_) hSw rfl (by kernel_rfl) (by kernel_rfl) (by kernel_rfl) (by rfl) (fun w' hin => ?_) ?_
        rotate_left
        · (try simp only [] at hin); go_simp <;> with_reducible rfl
        try simp only [Act.put, List.setIfInBounds_toArray, List.set_cons_zero, List.set_cons_succ]
        refine wpS_take 6 (v := ?_) hSw rfl (by kernel_rfl) (by kernel_rfl) (by kernel_rfl) (by rfl) (fun w' hin => ?_) ?_
        rotate_left
        · (try simp only [] at hin); go_simp <;> with_reducible rfl
        try simp only [Act.put, List.setIfInBounds_toArray, List.set_cons_zero, List.set_cons_succ]
        refine wpS_take 7 (v := ?_) hSw rfl (by kernel_rfl) (by kernel_rfl) (by kernel_rfl) (by rfl) (fun w' hin => ?_) ?_
        rotate_left
        · (try simp only [] at hin); go_simp <;> with_reducible rfl
        try simp only [Act.put, List.setIfInBounds_toArray, List.set_cons_zero, List.set_cons_succ]
        refine wpS_one 3 rfl (by kernel_rfl) (by rfl) (fun K hK => ?_)
        go_simp
        refine (scSteps_any (la ++ lb) A9 NX c9 _ (SpL.keep HBO14.out ((Ext.refl w14).drew.trans hSw).keep) (by omega)).mono ?_
        rintro e y3 ⟨P3, p3, g3, rfl, -, hL3, hb⟩
        have Q3 := Lib.hid (((Ext.refl w14).drew.trans hSw).trans hb)
        have HP3 := Lib.hid hL3
        have hp3 : p3 ≤ 120 := by have h8 := HP3.out.len; have h9 := HBO14.out.len; omega
        clear hL3
        simp only []
        refine hK.out _ _ (Ext y3) (fun _ hx => hSw.trans (hb.trans hx)) (Ext.refl _) (fun hSw => ?_)
        clear hK K
        try simp only [Act.put, List.setIfInBounds_toArray, List.set_cons_zero, List.set_cons_succ]
        refine wpS_one 4 rfl (by kernel_rfl) (by rfl) (fun K hK => ?_)
        go_simp
        refine (scPut_any (fun _ => True) (la ++ lb) P3 p3 g3 _ (SpL.keep HP3.out hSw.keep) (by omega)).mono ?_
        rintro e y4 ⟨P4, p4, g4, rfl, h4⟩
        have hb := h4.ext
        have Q4 := Lib.hid (Q3.out.trans (hSw.trans hb))
        have HP4 : Hid (Byts y4 P4 p4 (putSs la ++ putSs lb)) := Lib.hid (by have := h4.byts; rwa [List.nil_append, HPA.out] at this)
        have kd : ∀ w', Ext y4 w' → (convert 22 9 (.slice P4 p4 g4)).run Tryz.prog w' = .ok (.string (bstr (putSs la ++ putSs lb))) w' := fun w' hx => convS (ArrR.up HP4.out hx) g4
        clear h4
        simp only []
        refine hK.out _ _ (Ext y4) (fun _ hx => hSw.trans (hb.trans hx)) (Ext.refl _) (fun hSw => ?_)
        clear hK K
        try simp only [Act.put, List.setIfInBounds_toArray, List.set_cons_zero, List.set_cons_succ]
        refine wpS_take 5 (v := ?_) hSw rfl (by kernel_rfl) (by kernel_rfl) (by kernel_rfl) (by rfl) (fun w' hin => ?_) ?_
        rotate_left
        · (try simp only [] at hin); go_simp <;> with_reducible rfl
        try simp only [Act.put, List.setIfInBounds_toArray, List.set_cons_zero, List.set_cons_succ]
        refine wpS_take 8 (v := ?_) hSw rfl (by kernel_rfl) (by kernel_rfl) (by kernel_rfl) (by rfl) (fun w' hin => ?_) ?_
        rotate_left
        · (try simp only [] at hin); go_simp <;> with_reducible rfl
        try simp only [Act.put, List.setIfInBounds_toArray, List.set_cons_zero, List.set_cons_succ]
        refine wpS_take 9 (v := ?_) hSw rfl (by kernel_rfl) (by kernel_rfl) (by kernel_rfl) (by rfl) (fun w' hin => ?_) ?_
        rotate_left
        · (try simp only [] at hin); go_simp <;> with_reducible rfl
        try simp only [Act.put, List.setIfInBounds_toArray, List.set_cons_zero, List.set_cons_succ]
        refine wpS_take 10 (v := ?_) hSw rfl (by kernel_rfl) (by kernel_rfl) (by kernel_rfl) (by rfl) (fun w' hin => ?_) ?_
        rotate_left
        · (try simp only [] at hin); go_simp <;> with_reducible rfl
        try simp only [Act.put, List.setIfInBounds_toArray, List.set_cons_zero, List.set_cons_succ]
        refine wpS_take 11 (v := ?_) hSw rfl (by kernel_rfl) (by kernel_rfl) (by kernel_rfl) (by rfl) (fun w' hin => ?_) ?_
        rotate_left
        · (try simp only [] at hin); go_simp <;> with_reducible rfl
        try simp only [Act.put, List.setIfInBounds_toArray, List.set_cons_zero, List.set_cons_succ]
        refine wpS_take 12 (v := ?_) hSw rfl (by kernel_rfl) (by kernel_rfl) (by kernel_rfl) (by rfl) (fun w' hin => ?_) ?_
        rotate_left
        · (try simp only [] at hin); go_simp <;> with_reducible rfl
        try simp only [Act.put, List.setIfInBounds_toArray, List.set_cons_zero, List.set_cons_succ]
        refine wpS_take 13 (v := ?_) hSw rfl (by kernel_rfl) (by kernel_rfl) (by kernel_rfl) (by rfl) (fun w' hin => ?_) ?_
        rotate_left
        · (try simp only [] at hin); go_simp <;> with_reducible rfl
        try simp only [Act.put, List.setIfInBounds_toArray, List.set_cons_zero, List.set_cons_succ]
        refine wpS_take 14 (v := ?_) hSw rfl (by kernel_rfl) (by kernel_rfl) (by kernel_rfl) (by rfl) (fun w' hin => ?_) ?_
        rotate_left
        · (try simp only [] at hin); go_simp <;> with_reducible rfl
        try simp only [Act.put, List.setIfInBounds_toArray, List.set_cons_zero, List.set_cons_succ]
        refine wpS_take 17 (v := ?_) hSw rfl (by kernel_rfl) (by kernel_rfl) (by kernel_rfl) (by rfl) (fun w' hin => ?_) ?_
        rotate_left
        · (try simp only [] at hin); go_simp <;> with_reducible rfl
        try simp only [Act.put, List.setIfInBounds_toArray, List.set_cons_zero, List.set_cons_succ]
        refine wpS_one 15 rfl (by kernel_rfl) (by rfl) (fun K hK => ?_)
        go_simp
        refine ((scGet_any A11 N11 c11 (putSs la ++ putSs lb) _ (ArrR.up HB14.out (Q4.out.trans hSw)) HA11.out hnc11 hcm11').mono fun _ _ h => GotS.out h).mono ?_
        rw [HGET.out]
        rintro e y5 ⟨P5, g5, u5, rfl, hsl5, HL5, -, -, hb⟩
        rw [hAB] at HL5 ⊢
        have Q5 := Lib.hid (Q4.out.trans (hSw.trans hb))
        clear hsl5
        simp only []
        refine hK.out _ _ (Ext y5) (fun _ hx => hSw.trans (hb.trans hx)) (Ext.refl _) (fun hSw => ?_)
        clear hK K
        try simp only [Act.put, List.setIfInBounds_toArray, List.set_cons_zero, List.set_cons_succ]
        refine wpS_one 16 rfl (by kernel_rfl) (by rfl) (fun K hK => ?_)
        go_simp
        refine (scRows_any (la ++ lb) P5 NX g5 _ (SpL.keep HL5.out hSw.keep) (by omega)).mono ?_
        rintro e y6 ⟨P6, p6, g6, rfl, hsl6, hL6, hb⟩
        have Q6 := Lib.hid (Q5.out.trans (hSw.trans hb))
        have HL6 := Lib.hid hL6
        have HS6 := Lib.hid hsl6
        clear hL6 hsl6
        simp only []
        refine hK.out _ _ (Ext y6) (fun _ hx => hSw.trans (hb.trans hx)) (Ext.refl _) (fun hSw => ?_)
        clear hK K
        try simp only [Act.put, List.setIfInBounds_toArray, List.set_cons_zero, List.set_cons_succ]
        refine wpS_one 18 rfl (by kernel_rfl) (by rfl) (fun K hK => ?_)
        go_simp
        refine (scRows_any (la ++ lb) A14 NX c14 _ (SpL.keep HLX3.out (Q6.out.trans hSw).keep) (by omega)).mono ?_
        rintro e y7 ⟨P7, p7, g7, rfl, -, hL7, hb⟩
        have Q7 := Lib.hid (Q6.out.trans (hSw.trans hb))
        have HL7 := Lib.hid hL7
        have HL6' := Lib.hid (SpL.keep HL6.out (hSw.trans hb).keep)
        obtain rfl : p6 = p7 := HL6.out.len.symm.trans HL7.out.len
        clear hL7
        simp only []
        refine hK.out _ _ (Ext y7) (fun _ hx => hSw.trans (hb.trans hx)) (Ext.refl _) (fun hSw => ?_)
        clear hK K
        try simp only [Act.put, List.setIfInBounds_toArray, List.set_cons_zero, List.set_cons_succ]
        refine wpS_one 19 rfl (by kernel_rfl) (by rfl) (fun K hK => ?_)
        go_simp
        refine (refSame23_eq _ _ _ _ (la ++ lb) P6 P7 p6 g6 g7 _ (Nat.le_trans HS6.out.1 HS6.out.2.1) (SpL.keep HL6'.out hSw.keep) (SpL.keep HL7.out hSw.keep)).mono ?_
        rintro e y8 ⟨rfl, hb⟩
        have Q8 := Lib.hid (Q7.out.trans (hSw.trans hb))
        simp only []
        refine hK.out _ _ (Ext y8) (fun _ hx => hSw.trans (hb.trans hx)) (Ext.refl _) (fun hSw => ?_)
        clear hK K
        try simp only [Act.put, List.setIfInBounds_toArray, List.set_cons_zero, List.set_cons_succ]
        refine wpS_take 20 (v := ?_) hSw rfl (by kernel_rfl) (by kernel_rfl) (by kernel_rfl) (by rfl) (fun w' hin => ?_) ?_
        rotate_left
        · (try simp only [] at hin); go_simp <;> with_reducible rfl
        try simp only [Act.put, List.setIfInBounds_toArray, List.set_cons_zero, List.set_cons_succ]
        refine wpS_take 21 (v := ?_) hSw rfl (by kernel_rfl) (by kernel_rfl) (by kernel_rfl) (by rfl) (fun w' hin => ?_) ?_
        rotate_left
        · (try simp only [] at hin); go_simp <;> with_reducible rfl
        try simp only [Act.put, List.setIfInBounds_toArray, List.set_cons_zero, List.set_cons_succ]
        refine wpS_take 22 (v := ?_) hSw rfl (by kernel_rfl) (by kernel_rfl) (by kernel_rfl) (by rfl) (fun w' hin => ?_) ?_
        rotate_left
        · (try simp only [] at hin); go_simp <;> with_reducible rfl
        try simp only [Act.put, List.setIfInBounds_toArray, List.set_cons_zero, List.set_cons_succ]
        refine wpS_take 23 (v := ?_) hSw rfl (by kernel_rfl) (by kernel_rfl) (by kernel_rfl) (by rfl) (fun w' hin => ?_) ?_
        rotate_left
        · (try simp only [] at hin); go_simp <;> with_reducible rfl
        try simp only [Act.put, List.setIfInBounds_toArray, List.set_cons_zero, List.set_cons_succ]
        refine wpS_take 24 (v := ?_) hSw rfl (by kernel_rfl) (by kernel_rfl) (by kernel_rfl) (by rfl) (fun w' hin => ?_) ?_
        rotate_left
        · (try simp only [] at hin); go_simp <;> with_reducible rfl
        try simp only [Act.put, List.setIfInBounds_toArray, List.set_cons_zero, List.set_cons_succ]
        refine wpS_take 25 (v := ?_) hSw rfl (by kernel_rfl) (by kernel_rfl) (by kernel_rfl) (by rfl) (fun w' hin => ?_) ?_
        rotate_left
        · (try simp only [] at hin); go_simp <;> with_reducible rfl
        try simp only [Act.put, List.setIfInBounds_toArray, List.set_cons_zero, List.set_cons_succ]
        refine wpS_take 26 (v := ?_) hSw rfl (by kernel_rfl) (by kernel_rfl) (by kernel_rfl) (by rfl) (fun w' hin => ?_) ?_
        rotate_left
        · (try simp only [] at hin); go_simp <;> with_reducible rfl
        try simp only [Act.put, List.setIfInBounds_toArray, List.set_cons_zero, List.set_cons_succ]
        refine wpS_take 27 (v := ?_) hSw rfl (by kernel_rfl) (by kernel_rfl) (by kernel_rfl) (by rfl) (fun w' hin => ?_) ?_
        rotate_left
        · (try simp only [] at hin); go_simp <;> with_reducible rfl
        try simp only [Act.put, List.setIfInBounds_toArray, List.set_cons_zero, List.set_cons_succ]
        refine wpS_take 28 (v := ?_) hSw rfl (by kernel_rfl) (by kernel_rfl) (by kernel_rfl) (by rfl) (fun w' hin => ?_) ?_
        rotate_left
        · (try simp only [] at hin); go_simp <;> with_reducible rfl
        try simp only [Act.put, List.setIfInBounds_toArray, List.set_cons_zero, List.set_cons_succ]
        refine wpS_take 29 (v := ?_) hSw rfl (by kernel_rfl) (by kernel_rfl) (by kernel_rfl) (by rfl) (fun w' hin => ?_) ?_
        rotate_left
        · (try simp only [] at hin); go_simp <;> with_reducible rfl
        try simp only [Act.put, List.setIfInBounds_toArray, List.set_cons_zero, List.set_cons_succ]
        refine wpS_done (by kernel_rfl) ?_
        clear kc jq jn jp
        go_wp2_with fail
        go_ret
        exact ⟨by first | rfl | simp [*], E14.out.trans (Q8.out.trans hSw)⟩
      · have jq : decide ((0 : Int) < (q : Int)) = true := decide_eq_true (by omega)
        have jn : decide (0 < q) = true := decide_eq_true (by omega)
        have jp : 0 < q := by omega
        clear HQ HQ3 hq0
        have hSw : Ext w14.drew w14.drew := Ext.refl _
        refine wpS_begin (Ext w14.drew) (by kernel_rfl) ?_
        refine wpS_take 0 (v := ?_) hSw rfl (by kernel_rfl) (by kernel_rfl) (by kernel_rfl) (by rfl) (fun w' hin => ?_) ?_
        rotate_left
        · (try simp only [] at hin); go_simp <;> with_reducible rfl
        try simp only [Act.put, List.setIfInBounds_toArray, List.set_cons_zero, List.set_cons_succ]
        refine wpS_take 1 (v := ?_) hSw rfl (by kernel_rfl) (by kernel_rfl) (by kernel_rfl) (by rfl) (fun w' hin => ?_) ?_
        rotate_left
        · (try simp only [] at hin); go_simp <;> with_reducible rfl
        try simp only [Act.put, List.setIfInBounds_toArray, List.set_cons_zero, List.set_cons_succ]
        refine wpS_take 2 (v := ?_) hSw rfl (by kernel_rfl) (by kernel_rfl) (by kernel_rfl) (by rfl) (fun w' hin => ?_) ?_
        rotate_left
        · (try simp only [] at hin); go_simp <;> with_reducible rfl
        try simp only [Act.put, List.setIfInBounds_toArray, List.set_cons_zero, List.set_cons_succ]
        refine wpS_take 6 (v := ?_) hSw rfl (by kernel_rfl) (by kernel_rfl) (by kernel_rfl) (by rfl) (fun w' hin => ?_) ?_
        rotate_left
        · (try simp only [] at hin); go_simp <;> with_reducible rfl
        try simp only [Act.put, List.setIfInBounds_toArray, List.set_cons_zero, List.set_cons_succ]
        refine wpS_take 7 (v := ?_) hSw rfl (by kernel_rfl) (by kernel_rfl) (by kernel_rfl) (by rfl) (fun w' hin => ?_) ?_
        rotate_left
        · (try simp only [] at hin); go_simp <;> with_reducible rfl
        try simp only [Act.put, List.setIfInBounds_toArray, List.set_cons_zero, List.set_cons_succ]
        refine wpS_one 3 rfl (by kernel_rfl) (by rfl) (fun K hK => ?_)
        go_simp
        refine (scSteps_any (la ++ lb) A9 k c9 _ (SpL.keep HBO14.out ((Ext.refl w14).drew.trans hSw).keep) (by omega)).mono ?_
        rintro e y3 ⟨P3, p3, g3, rfl, -, hL3, hb⟩
        have Q3 := Lib.hid (((Ext.refl w14).drew.trans hSw).trans hb)
        have HP3 := Lib.hid hL3
        have hp3 : p3 ≤ 120 := by have h8 := HP3.out.len; have h9 := HBO14.out.len; omega
        clear hL3
        simp only []
        refine hK.out _ _ (Ext y3) (fun _ hx => hSw.trans (hb.trans hx)) (Ext.refl _) (fun hSw => ?_)
        clear hK K
        try simp only [Act.put, List.setIfInBounds_toArray, List.set_cons_zero, List.set_cons_succ]
        refine wpS_one 4 rfl (by kernel_rfl) (by rfl) (fun K hK => ?_)
        go_simp
        refine (scPut_any (fun _ => True) (la ++ lb) P3 p3 g3 _ (SpL.keep HP3.out hSw.keep) (by omega)).mono ?_
        rintro e y4 ⟨P4, p4, g4, rfl, h4⟩
        have hb := h4.ext
        have Q4 := Lib.hid (Q3.out.trans (hSw.trans hb))
        have HP4 : Hid (Byts y4 P4 p4 (putSs la ++ putSs lb)) := Lib.hid (by have := h4.byts; rwa [List.nil_append, HPA.out] at this)
        have kd : ∀ w', Ext y4 w' → (convert 22 9 (.slice P4 p4 g4)).run Tryz.prog w' = .ok (.string (bstr (putSs la ++ putSs lb))) w' := fun w' hx => convS (ArrR.up HP4.out hx) g4
        clear h4
        simp only []
        refine hK.out _ _ (Ext y4) (fun _ hx => hSw.trans (hb.trans hx)) (Ext.refl _) (fun hSw => ?_)
        clear hK K
        try simp only [Act.put, List.setIfInBounds_toArray, List.set_cons_zero, List.set_cons_succ]
        refine wpS_take 5 (v := ?_) hSw rfl (by kernel_rfl) (by kernel_rfl) (by kernel_rfl) (by rfl) (fun w' hin => ?_) ?_
        rotate_left
        · (try simp only [] at hin); go_simp <;> with_reducible rfl
        try simp only [Act.put, List.setIfInBounds_toArray, List.set_cons_zero, List.set_cons_succ]
        refine wpS_take 8 (v := ?_) hSw rfl (by kernel_rfl) (by kernel_rfl) (by kernel_rfl) (by rfl) (fun w' hin => ?_) ?_
        rotate_left
        · (try simp only [] at hin); go_simp <;> with_reducible rfl
        try simp only [Act.put, List.setIfInBounds_toArray, List.set_cons_zero, List.set_cons_succ]
        refine wpS_take 9 (v := ?_) hSw rfl (by kernel_rfl) (by kernel_rfl) (by kernel_rfl) (by rfl) (fun w' hin => ?_) ?_
        rotate_left
        · (try simp only [] at hin); go_simp <;> with_reducible rfl
        try simp only [Act.put, List.setIfInBounds_toArray, List.set_cons_zero, List.set_cons_succ]
        refine wpS_take 10 (v := ?_) hSw rfl (by kernel_rfl) (by kernel_rfl) (by kernel_rfl) (by rfl) (fun w' hin => ?_) ?_
        rotate_left
        · (try simp only [] at hin); go_simp <;> with_reducible rfl
        try simp only [Act.put, List.setIfInBounds_toArray, List.set_cons_zero, List.set_cons_succ]
        refine wpS_take 11 (v := ?_) hSw rfl (by kernel_rfl) (by kernel_rfl) (by kernel_rfl) (by rfl) (fun w' hin => ?_) ?_
        rotate_left
        · (try simp only [] at hin); go_simp <;> with_reducible rfl
        try simp only [Act.put, List.setIfInBounds_toArray, List.set_cons_zero, List.set_cons_succ]
        refine wpS_take 12 (v := ?_) hSw rfl (by kernel_rfl) (by kernel_rfl) (by kernel_rfl) (by rfl) (fun w' hin => ?_) ?_
        rotate_left
        · (try simp only [] at hin); go_simp <;> with_reducible rfl
        try simp only [Act.put, List.setIfInBounds_toArray, List.set_cons_zero, List.set_cons_succ]
        refine wpS_take 13 (v := ?_) hSw rfl (by kernel_rfl) (by kernel_rfl) (by kernel_rfl) (by rfl) (fun w' hin => ?_) ?_
        rotate_left
        · (try simp only [] at hin); go_simp <;> with_reducible rfl
        try simp only [Act.put, List.setIfInBounds_toArray, List.set_cons_zero, List.set_cons_succ]
        refine wpS_skip 14 hSw rfl (by kernel_rfl) (by kernel_rfl) (by kernel_rfl) (by rfl) ?_
        try simp only [Act.put, List.setIfInBounds_toArray, List.set_cons_zero, List.set_cons_succ]
        refine wpS_skip 15 hSw rfl (by kernel_rfl) (by kernel_rfl) (by kernel_rfl) (by rfl) ?_
        try simp only [Act.put, List.setIfInBounds_toArray, List.set_cons_zero, List.set_cons_succ]
        refine wpS_skip 16 hSw rfl (by kernel_rfl) (by kernel_rfl) (by kernel_rfl) (by rfl) ?_
        try simp only [Act.put, List.setIfInBounds_toArray, List.set_cons_zero, List.set_cons_succ]
        refine wpS_skip 17 hSw rfl (by kernel_rfl) (by kernel_rfl) (by kernel_rfl) (by rfl) ?_
        try simp only [Act.put, List.setIfInBounds_toArray, List.set_cons_zero, List.set_cons_succ]
        refine wpS_skip 18 hSw rfl (by kernel_rfl) (by kernel_rfl) (by kernel_rfl) (by rfl) ?_
        try simp only [Act.put, List.setIfInBounds_toArray, List.set_cons_zero, List.set_cons_succ]
        refine wpS_skip 19 hSw rfl (by kernel_rfl) (by kernel_rfl) (by kernel_rfl) (by rfl) ?_
        try simp only [Act.put, List.setIfInBounds_toArray, List.set_cons_zero, List.set_cons_succ]
        refine wpS_skip 20 hSw rfl (by kernel_rfl) (by kernel_rfl) (by kernel_rfl) (by rfl) ?_
        try simp only [Act.put, List.setIfInBounds_toArray, List.set_cons_zero, List.set_cons_succ]
        refine wpS_skip 21 hSw rfl (by kernel_rfl) (by kernel_rfl) (by kernel_rfl) (by rfl) ?_
        try simp only [Act.put, List.setIfInBounds_toArray, List.set_cons_zero, List.set_cons_succ]
        refine wpS_skip 22 hSw rfl (by kernel_rfl) (by kernel_rfl) (by kernel_rfl) (by rfl) ?_
        try simp only [Act.put, List.setIfInBounds_toArray, List.set_cons_zero, List.set_cons_succ]
        refine wpS_skip 23 hSw rfl (by kernel_rfl) (by kernel_rfl) (by kernel_rfl) (by rfl) ?_
        try simp only [Act.put, List.setIfInBounds_toArray, List.set_cons_zero, List.set_cons_succ]
        refine wpS_skip 24 hSw rfl (by kernel_rfl) (by kernel_rfl) (by kernel_rfl) (by rfl) ?_
        try simp only [Act.put, List.setIfInBounds_toArray, List.set_cons_zero, List.set_cons_succ]
        refine wpS_skip 25 hSw rfl (by kernel_rfl) (by kernel_rfl) (by kernel_rfl) (by rfl) ?_
        try simp only [Act.put, List.setIfInBounds_toArray, List.set_cons_zero, List.set_cons_succ]
        refine wpS_skip 26 hSw rfl (by kernel_rfl) (by kernel_rfl) (by kernel_rfl) (by rfl) ?_
        try simp only [Act.put, List.setIfInBounds_toArray, List.set_cons_zero, List.set_cons_succ]
        refine wpS_take 27 (v := ?_) hSw rfl (by kernel_rfl) (by kernel_rfl) (by kernel_rfl) (by rfl) (fun w' hin => ?_) ?_
        rotate_left
        · (try simp only [] at hin); go_simp <;> with_reducible rfl
        try simp only [Act.put, List.setIfInBounds_toArray, List.set_cons_zero, List.set_cons_succ]
        refine wpS_take 28 (v := ?_) hSw rfl (by kernel_rfl) (by kernel_rfl) (by kernel_rfl) (by rfl) (fun w' hin => ?_) ?_
        rotate_left
        · (try simp only [] at hin); go_simp <;> with_reducible rfl
        try simp only [Act.put, List.setIfInBounds_toArray, List.set_cons_zero, List.set_cons_succ]
        refine wpS_take 29 (v := ?_) hSw rfl (by kernel_rfl) (by kernel_rfl) (by kernel_rfl) (by rfl) (fun w' hin => ?_) ?_
        rotate_left
        · (try simp only [] at hin); go_simp <;> with_reducible rfl
        try simp only [Act.put, List.setIfInBounds_toArray, List.set_cons_zero, List.set_cons_succ]
        refine wpS_done (by kernel_rfl) ?_
        clear kc jq jn jp
        go_wp2_with fail
        go_ret
        exact ⟨by first | rfl | simp [*], E14.out.trans (Q4.out.trans hSw)⟩
end Go.Proofs.YtfdjbnofcniodaaGreatDoor
