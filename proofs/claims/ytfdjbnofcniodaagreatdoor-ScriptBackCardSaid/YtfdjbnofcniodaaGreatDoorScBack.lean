/- The law ScriptBack of layer 23. -/
import Derived.Test.YtfdjbnofcniodaaGreatDoorSc7
import Derived.Test.YtfdjbnofcniodaaGreatDoorSc8
namespace Go.Proofs.YtfdjbnofcniodaaGreatDoor
set_option linter.unusedVariables false
open Go.RowKit

/-- a step of a sidecar that there is: its side is brought down -/
def maskS (s : Sp) : Sp := ⟨s.kind, bits .and .i64 s.side 3, s.way, s.n, s.adds, s.gone, s.a⟩
def okS (s : Sp) : Bool := decide (saneS s = 0)
theorem backM_step {l : List Sp} {k : Nat} {s : Sp} (h : l[k]? = some s) : ((l.take (k + 1)).map maskS).filter okS = ((l.take k).map maskS).filter okS ++ (if okS (maskS s) then [maskS s] else []) := by
  rw [take_snoc_of h, List.map_append, List.filter_append]
  simp only [List.map_cons, List.map_nil, List.filter_cons, List.filter_nil]
theorem backM_ours {l : List Sp} : ∀ s ∈ (l.map maskS).filter okS, ours s := by
  intro s hs
  obtain ⟨h1, h2⟩ := List.mem_filter.1 hs
  obtain ⟨t, -, rfl⟩ := List.mem_map.1 h1
  refine ⟨of_decide_eq_true h2, ?_⟩
  obtain ⟨r, hr, e⟩ := and_mask t.side 3 (by omega)
  show bits .and .i64 t.side 3 ≤ 3
  have e' : bits .and .i64 t.side 3 = (r : Int) := e
  rw [e']; omega

set_option maxRecDepth 100000 in
set_option maxHeartbeats 8000000 in
theorem scriptBack_any (A : Option Addr) (n c : Nat) (l : List Sp) (w : World) (hsl : SlW A n c) (hA : SpL (fun _ => True) w A n l) :
    Calls Tryz.prog 6 #[.slice A n c] w fun e w' => e = .returned (.bool true) ∧ Ext w w' := by
  have HA := Lib.hid hA
  have hnm : n ≤ maxLen := Nat.le_trans hsl.1 hsl.2.1
  have hnm' : n ≤ 9223372036854775807 := by unfold maxLen at hnm; exact hnm
  clear hA hsl
  go_enter Tryz.func6, Tryz.ntmps6
  go_wp2_with fail
  refine (awake23 _).mono ?_
  rintro e w1 ⟨rfl, hb1⟩
  have E1 := Lib.hid hb1
  clear hb1
  go_wp2_with fail
  refine (few23_any (fun _ => True) l A n c _ hnm (SpL.keep HA.out E1.out.keep)).mono ?_
  rintro e w2 ⟨v, rfl, hv, hb2⟩
  have E2 := Lib.hid (E1.out.trans hb2)
  clear hb2
  cases v with
  | false =>
    go_wp2_with fail
    go_ret
    exact ⟨rfl, E2.out⟩
  | true =>
  have hn60 := hv rfl
  clear hv
  go_wp2_with fail
  go_loopw [4, 5] (fun v i wr => ∃ (k : Nat) (us : List Value), k ≤ n ∧ i = .int .i64 k ∧ Hid (wr.ownsRow w2.heap.size 73 11 v (((l.take k).map maskS).filter okS).length us) ∧ Hid (RowsOf (SpQ (fun _ => True) w) 11 us (((l.take k).map maskS).filter okS)) ∧ Hid (Ext w2 wr)) (fun _ i _ => n - (intOf i).toNat)
  case atStart => exact ⟨0, [], Nat.zero_le _, by go_num, Lib.hid own_nil, Lib.hid rfl, Lib.hid (Ext.refl _)⟩
  case round =>
    obtain ⟨k, us, hk, rfl, HW, HU, HX⟩ := hrel
    have HE := Lib.hid (E2.out.trans HX.out)
    have hMk : (((l.take k).map maskS).filter okS).length ≤ k := Nat.le_trans (List.length_filter_le _ _) (by rw [List.length_map, List.length_take]; exact Nat.min_le_left _ _)
    obtain ⟨M, hM⟩ : ∃ M, M = (((l.take k).map maskS).filter okS).length := ⟨_, rfl⟩
    rw [← hM] at HW hMk
    have HM := Lib.hid hM
    clear hM
    obtain ⟨Av, cv, hv0, -, -, -, -⟩ := own_flat HW.out
    subst hv0
    by_cases hlt : k < n
    · obtain ⟨b, o, s, B, m, d, B', m', d', rfl, hbB, -, hlk, hv, hc0, hc1, hc2, hc3, hc4, hc5, hc6, hc7, hc8, hc9, hc10⟩ := SpL.at_ HA.out hlt
      have HV := Lib.hid hv
      have HLK := Lib.hid hlk
      have hbr : b < wr.heap.size := Nat.lt_of_lt_of_le hbB HE.out.size
      have i1 : (0 : Int) ≤ (k : Int) := by omega
      have i2 : (k : Int) < (n : Int) := by omega
      have d0 : wr.cell? ⟨b, o + k * 11, none⟩ = some (.int .i64 s.kind) := (HE.out.cell hbB).trans hc0
      have d1 : wr.cell? ⟨b, o + k * 11 + 1, none⟩ = some (.int .i64 s.side) := (HE.out.cell hbB).trans hc1
      have d2 : wr.cell? ⟨b, o + k * 11 + 2, none⟩ = some (.int .i64 s.way) := (HE.out.cell hbB).trans hc2
      have d3 : wr.cell? ⟨b, o + k * 11 + 3, none⟩ = some (.int .i64 s.n) := (HE.out.cell hbB).trans hc3
      have d4 : wr.cell? ⟨b, o + k * 11 + 4, none⟩ = some (.slice B m d) := (HE.out.cell hbB).trans hc4
      have d5 : wr.cell? ⟨b, o + k * 11 + 5, none⟩ = some (.slice B' m' d') := (HE.out.cell hbB).trans hc5
      have d6 : wr.cell? ⟨b, o + k * 11 + 6, none⟩ = some (.int .i64 s.a.port) := (HE.out.cell hbB).trans hc6
      have d7 : wr.cell? ⟨b, o + k * 11 + 7, none⟩ = some (.string s.a.host) := (HE.out.cell hbB).trans hc7
      have d8 : wr.cell? ⟨b, o + k * 11 + 8, none⟩ = some (.string s.a.path) := (HE.out.cell hbB).trans hc8
      have d9 : wr.cell? ⟨b, o + k * 11 + 9, none⟩ = some (.int .i64 s.a.first) := (HE.out.cell hbB).trans hc9
      have d10 : wr.cell? ⟨b, o + k * 11 + 10, none⟩ = some (.int .i64 s.a.other) := (HE.out.cell hbB).trans hc10
      obtain ⟨r, hr3, hr⟩ := and_mask s.side 3 (by omega)
      have hr' : bits .and .i64 s.side 3 = (r : Int) := hr
      clear hlk hv hc0 hc1 hc2 hc3 hc4 hc5 hc6 hc7 hc8 hc9 hc10 hr
      obtain ⟨x, hx⟩ : ∃ x, x = maskS s := ⟨_, rfl⟩
      have HXS := Lib.hid hx
      have HXE : Hid (x = ⟨s.kind, r, s.way, s.n, s.adds, s.gone, s.a⟩) := Lib.hid (by rw [hx]; unfold maskS; rw [hr'])
      clear hx
      go_wp2_with fail
      refine (refSane23_any (fun _ => True) ⟨s.kind, r, s.way, s.n, s.adds, s.gone, s.a⟩ B m d B' m' d' _ ((SpV.mk HV.out.sa HV.out.sg HV.out.adds HV.out.gone HV.out.hh HV.out.hp : SpV (fun _ => True) w ⟨s.kind, r, s.way, s.n, s.adds, s.gone, s.a⟩ B m d B' m' d').up (HE.out.alloc _))).mono ?_
      rintro e w3 ⟨rfl, hb3⟩
      rw [← HXE.out]
      have K3 := Lib.hid (boxS_up hb3)
      have HX3 := Lib.hid ((HX.out.alloc (.cells #[.int .i64 s.kind, .int .i64 (r : Int), .int .i64 s.way, .int .i64 s.n, .slice B m d, .slice B' m' d', .int .i64 s.a.port, .string s.a.host, .string s.a.path, .int .i64 s.a.first, .int .i64 s.a.other] 73)).trans hb3)
      have HW3 := Lib.hid (own_up HW.out ((Ext.new wr (.cells #[.int .i64 s.kind, .int .i64 (r : Int), .int .i64 s.way, .int .i64 s.n, .slice B m d, .slice B' m' d', .int .i64 s.a.port, .string s.a.host, .string s.a.path, .int .i64 s.a.first, .int .i64 s.a.other] 73)).trans hb3))
      have hm0 := backM_step HLK.out
      rw [← HXS.out] at hm0
      have HM0 := Lib.hid hm0
      have hz3 : w2.heap.size ≤ w3.heap.size := HX3.out.size
      clear hb3 hm0 d0 d1 d2 d3 d4 d5 d6 d7 d8 d9 d10
      obtain ⟨Z, hZ⟩ : ∃ Z, Z = saneS x := ⟨_, rfl⟩
      rw [← hZ]
      by_cases hs : Z = 0
      · have hz1 : (Z == 0) = true := by simpa using hs
        have HM1 : Hid (((l.take (k + 1)).map maskS).filter okS = ((l.take k).map maskS).filter okS ++ [x]) := Lib.hid (by rw [HM0.out, if_pos (by unfold okS; rw [← hZ]; exact decide_eq_true hs)])
        clear hs hZ
        have hFk := flat_k w3 [.int .i64 s.kind, .int .i64 (r : Int), .int .i64 s.way, .int .i64 s.n, .slice B m d, .slice B' m' d', .int .i64 s.a.port, .string s.a.host, .string s.a.path, .int .i64 s.a.first, .int .i64 s.a.other] 73 rfl
        have hOW := own_up HW3.out (Ext.new w3 (.cells #[.int .i64 s.kind, .int .i64 (r : Int), .int .i64 s.way, .int .i64 s.n, .slice B m d, .slice B' m' d', .int .i64 s.a.port, .string s.a.host, .string s.a.path, .int .i64 s.a.first, .int .i64 s.a.other] 73))
        obtain ⟨v', w5, hrun, hown5, hg5, hnw⟩ := run_append_flat elem_stepD 68 hOW 1 hFk (by simp [Value.oneCell']) (by omega) (by omega) (by rw [World.size_alloc]; omega) (fun h => by cases h)
        have HRUN := Lib.hid hrun
        have HX5 := Lib.hid ((HX3.out.alloc (.cells #[.int .i64 s.kind, .int .i64 (r : Int), .int .i64 s.way, .int .i64 s.n, .slice B m d, .slice B' m' d', .int .i64 s.a.port, .string s.a.host, .string s.a.path, .int .i64 s.a.first, .int .i64 s.a.other] 73)).grown hg5 hOW (Nat.le_refl _))
        have HW5 : Hid (w5.ownsRow w2.heap.size 73 11 v' (((l.take (k + 1)).map maskS).filter okS).length (us ++ [.int .i64 s.kind, .int .i64 (r : Int), .int .i64 s.way, .int .i64 s.n, .slice B m d, .slice B' m' d', .int .i64 s.a.port, .string s.a.host, .string s.a.path, .int .i64 s.a.first, .int .i64 s.a.other])) := Lib.hid (by rw [HM1.out, List.length_append, ← HM.out]; exact hown5)
        have HU5 : Hid (RowsOf (SpQ (fun _ => True) w) 11 (us ++ [.int .i64 s.kind, .int .i64 (r : Int), .int .i64 s.way, .int .i64 s.n, .slice B m d, .slice B' m' d', .int .i64 s.a.port, .string s.a.host, .string s.a.path, .int .i64 s.a.first, .int .i64 s.a.other]) (((l.take (k + 1)).map maskS).filter okS)) := Lib.hid (by
          rw [HM1.out, HXE.out]
          exact RowsOf.snoc rfl (show SpQ (fun _ => True) w [.int .i64 s.kind, .int .i64 (r : Int), .int .i64 s.way, .int .i64 s.n, .slice B m d, .slice B' m' d', .int .i64 s.a.port, .string s.a.host, .string s.a.path, .int .i64 s.a.first, .int .i64 s.a.other] ⟨s.kind, r, s.way, s.n, s.adds, s.gone, s.a⟩ from ⟨B, m, d, B', m', d', rfl, HV.out.sa, HV.out.sg, HV.out.adds, HV.out.gone, HV.out.hh, HV.out.hp⟩) HU.out)
        obtain ⟨q0, q1⟩ := blk_rules K3.out
        clear hFk hOW hrun hown5 hg5 hnw
        go_wp2_with (refine Lib.wpList_append_run _ rfl _ _ _ _ rfl _ _ rfl rfl v' w5 HRUN.out ?_)
        clear q0 q1
        go_roundw
        case rel => exact ⟨k + 1, _, by omega, by go_num, HW5, HU5, HX5⟩
        case measure => simp [intOf]; omega
      · have hz1 : (Z == 0) = false := by simpa using hs
        have HM1 : Hid (((l.take (k + 1)).map maskS).filter okS = ((l.take k).map maskS).filter okS) := Lib.hid (by rw [HM0.out, if_neg (by unfold okS; rw [← hZ]; simpa using hs), List.append_nil])
        clear hs hZ
        have HW5 : Hid (w3.ownsRow w2.heap.size 73 11 (.slice Av M cv) (((l.take (k + 1)).map maskS).filter okS).length us) := Lib.hid (by rw [HM1.out, ← HM.out]; exact HW3.out)
        have HU5 : Hid (RowsOf (SpQ (fun _ => True) w) 11 us (((l.take (k + 1)).map maskS).filter okS)) := Lib.hid (by rw [HM1.out]; exact HU.out)
        go_wp2_with fail
        go_roundw
        case rel => exact ⟨k + 1, _, by omega, by go_num, HW5, HU5, HX3⟩
        case measure => simp [intOf]; omega
    · obtain rfl : k = n := by omega
      have hT : l.take k = l := List.take_of_length_le (Nat.le_of_eq HA.out.len)
      obtain ⟨L, hL⟩ : ∃ L, L = ((l.take k).map maskS).filter okS := ⟨_, rfl⟩
      have hM := HM.out
      rw [← hL] at HU hM
      have HO : Hid (∀ s ∈ L, ours s) := Lib.hid (by rw [hL]; exact backM_ours)
      have HN := Lib.hid hM
      obtain ⟨Ax, cx, ex, h1, h2, h3, hF⟩ := own_flat HW.out
      injection ex with e1 e2 e3
      subst e1 e3
      have HL : Hid (SpL (fun _ => True) wr Av M L) := Lib.hid ((hF.arrQ (S := fun _ => True) HU.out (by omega) (fun _ _ _ _ => trivial)).weak (fun _ _ h => h.keep HE.out.keep) (fun _ _ _ => trivial))
      have HP : Hid (getSs (putSs L) = L) := Lib.hid (getSs_put HO.out (by have := HN.out; omega))
      have i2 : ¬ (k : Int) < (k : Int) := by omega
      clear h1 h2 h3 hF hL hM
      go_wp2_with fail
      refine (scSteps_any L Av M cv _ HL.out (by omega)).mono ?_
      rintro e w3 ⟨A3, n3, c3, rfl, -, hL3, hb3⟩
      have E3 := Lib.hid (HE.out.trans hb3)
      have HL3 := Lib.hid hL3
      have HM3 := Lib.hid (SpL.keep HL.out hb3.keep)
      have hn3 : n3 ≤ 60 := by have h8 := HL3.out.len; have h9 := HN.out; omega
      clear hb3 hL3
      go_wp2_with fail
      refine (scPut_any (fun _ => True) L A3 n3 c3 _ HL3.out (by omega)).mono ?_
      rintro e w4 ⟨A4, N4, c4, rfl, h4⟩
      have E4 := Lib.hid (E3.out.trans h4.ext)
      have HB4 : Hid (Byts w4 A4 N4 (putSs L)) := Lib.hid (by have := h4.byts; rwa [List.nil_append] at this)
      have HC4 := Lib.hid h4.nil
      have hnc4 := h4.nc
      have hcm4 : c4 ≤ 9223372036854775807 := by have := h4.cm; unfold maxLen at this; exact this
      have HM4 := Lib.hid (SpL.keep HM3.out h4.ext.keep)
      clear h4
      go_wp2_with fail
      refine ((scGet_any A4 N4 c4 (putSs L) _ HB4.out HC4.out hnc4 hcm4).mono fun _ _ h => GotS.out h).mono ?_
      rw [HP.out]
      rintro e w5 ⟨A5, c5, us5, rfl, -, HL5, -, -, hb5⟩
      have E5 := Lib.hid (E4.out.trans hb5)
      have HM5 := Lib.hid (SpL.keep HM4.out hb5.keep)
      clear hb5
      rw [← HN.out] at HL5 ⊢
      go_wp2_with fail
      refine (scRows_any L A5 M c5 _ HL5.out (by omega)).mono ?_
      rintro e w6 ⟨A6, n6, c6, rfl, hsl6, hL6, hb6⟩
      have E6 := Lib.hid (E5.out.trans hb6)
      have HM6 := Lib.hid (SpL.keep HM5.out hb6.keep)
      obtain rfl : n6 = M := hL6.len.symm.trans HM6.out.len
      have HR6 := Lib.hid hL6
      have HS6 := Lib.hid hsl6
      clear hb6 hL6 hsl6
      go_wp2_with fail
      refine (refSame23_eq _ _ _ _ L A6 Av n6 c6 cv _ (Nat.le_trans HS6.out.1 HS6.out.2.1) HR6.out HM6.out).mono ?_
      rintro e w7 ⟨rfl, hb7⟩
      have E7 := Lib.hid (E6.out.trans hb7)
      clear hb7
      go_wp2_with fail
      go_ret
      exact ⟨by first | rfl | simp [*], E7.out⟩
end Go.Proofs.YtfdjbnofcniodaaGreatDoor
