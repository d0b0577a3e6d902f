/- The law ScriptGood of layer 23. -/
import Derived.Test.YtfdjbnofcniodaaGreatDoorSc7
import Derived.Test.YtfdjbnofcniodaaGreatDoorSc8
namespace Go.Proofs.YtfdjbnofcniodaaGreatDoor
set_option linter.unusedVariables false
open Go.RowKit

set_option maxRecDepth 100000 in
set_option maxHeartbeats 8000000 in
theorem scriptGood_any (A : Option Addr) (n c : Nat) (bs : List UInt8) (w : World) (hB : Byts w A n bs) (hc : A = none → c = 0) (hnc : n ≤ c) (hcm : c ≤ 9223372036854775807) :
    Calls Tryz.prog 7 #[.slice A n c] w fun e w' => e = .returned (.bool true) ∧ Ext w w' := by
  have HB := Lib.hid hB
  have HC := Lib.hid hc
  have hlen : bs.length = n := hB.len
  clear hB hc
  go_enter Tryz.func7, Tryz.ntmps7
  go_wp2_with fail
  refine (awake23 _).mono ?_
  rintro e w1 ⟨rfl, hb1⟩
  have E1 := Lib.hid hb1
  clear hb1
  by_cases hn : 5000 < n
  · go_wp2_with fail
    go_ret
    exact ⟨rfl, E1.out⟩
  go_wp2_with fail
  refine ((scGet_any A n c bs _ (ArrR.up HB.out E1.out) HC.out hnc hcm).mono fun _ _ h => GotS.out h).mono ?_
  have hg := getSs_good bs
  obtain ⟨L, hL⟩ : ∃ L, L = getSs bs := ⟨_, rfl⟩
  rw [← hL] at hg ⊢
  have HO := Lib.hid hg.1
  have h400 := hg.2.1
  have hNb := hg.2.2.1
  have h00 := hg.2.2.2
  rw [hlen] at hNb h00
  clear hg hL
  rintro e w2 ⟨Al, cl, us, rfl, hsl, HL, -, -, hb2⟩
  obtain ⟨N, hN⟩ : ∃ N, N = L.length := ⟨_, rfl⟩
  rw [← hN] at h400 hNb h00 hsl HL ⊢
  have HN := Lib.hid hN
  have E2 := Lib.hid (E1.out.trans hb2)
  have hslm : N ≤ cl := hsl.1
  have hclm : cl ≤ 9223372036854775807 := by have := hsl.2.1; unfold maxLen at this; exact this
  clear hN hb2 hsl
  go_wp2_with fail
  go_loopw [5] (fun i wr => ∃ k : Nat, k ≤ N ∧ i = .int .i64 k ∧ Hid (Ext w2 wr)) (fun i _ => N - (intOf i).toNat)
  case atStart => exact ⟨0, Nat.zero_le _, by go_num, Lib.hid (Ext.refl _)⟩
  case round =>
    obtain ⟨k, hk, rfl, HX⟩ := hrel
    have HE := Lib.hid (E2.out.trans HX.out)
    by_cases hlt : k < N
    · obtain ⟨b, o, s, B, m, d, B', m', d', rfl, hbB, -, hlk, hv, hc0, hc1, hc2, hc3, hc4, hc5, hc6, hc7, hc8, hc9, hc10⟩ := SpL.at_ HL.out hlt
      have hos := HO.out s (List.mem_of_getElem? hlk)
      have HS0 := Lib.hid hos.1
      obtain ⟨-, hkd, hsd, -⟩ := sane_sbOk hos.1
      have hs3 := hos.2
      have HV := Lib.hid hv
      have hbr : b < wr.heap.size := Nat.lt_of_lt_of_le hbB HX.out.size
      have i1 : (0 : Int) ≤ (k : Int) := by omega
      have i2 : (k : Int) < (N : Int) := by omega
      have d0 : wr.cell? ⟨b, o + k * 11, none⟩ = some (.int .i64 s.kind) := (HX.out.cell hbB).trans hc0
      have d1 : wr.cell? ⟨b, o + k * 11 + 1, none⟩ = some (.int .i64 s.side) := (HX.out.cell hbB).trans hc1
      have d2 : wr.cell? ⟨b, o + k * 11 + 2, none⟩ = some (.int .i64 s.way) := (HX.out.cell hbB).trans hc2
      have d3 : wr.cell? ⟨b, o + k * 11 + 3, none⟩ = some (.int .i64 s.n) := (HX.out.cell hbB).trans hc3
      have d4 : wr.cell? ⟨b, o + k * 11 + 4, none⟩ = some (.slice B m d) := (HX.out.cell hbB).trans hc4
      have d5 : wr.cell? ⟨b, o + k * 11 + 5, none⟩ = some (.slice B' m' d') := (HX.out.cell hbB).trans hc5
      have d6 : wr.cell? ⟨b, o + k * 11 + 6, none⟩ = some (.int .i64 s.a.port) := (HX.out.cell hbB).trans hc6
      have d7 : wr.cell? ⟨b, o + k * 11 + 7, none⟩ = some (.string s.a.host) := (HX.out.cell hbB).trans hc7
      have d8 : wr.cell? ⟨b, o + k * 11 + 8, none⟩ = some (.string s.a.path) := (HX.out.cell hbB).trans hc8
      have d9 : wr.cell? ⟨b, o + k * 11 + 9, none⟩ = some (.int .i64 s.a.first) := (HX.out.cell hbB).trans hc9
      have d10 : wr.cell? ⟨b, o + k * 11 + 10, none⟩ = some (.int .i64 s.a.other) := (HX.out.cell hbB).trans hc10
      clear hlk hv hos
      go_wp2_with fail
      refine (scSane_any (fun _ => True) s B m d B' m' d' _ (HV.out.up HX.out)).mono ?_
      rw [HS0.out]
      rintro e w3 ⟨rfl, hb3⟩
      have HX3 := Lib.hid (HX.out.trans hb3)
      clear d0 d1 d2 d3 d4 d5 d6 d7 d8 d9 d10
      have x0 : w3.cell? ⟨b, o + k * 11, none⟩ = some (.int .i64 s.kind) := (HX3.out.cell hbB).trans hc0
      have x1 : w3.cell? ⟨b, o + k * 11 + 1, none⟩ = some (.int .i64 s.side) := (HX3.out.cell hbB).trans hc1
      have j1 : decide (s.side < 0) = false := decide_eq_false (by omega)
      have j2 : decide (3 < s.side) = false := decide_eq_false (by omega)
      clear hc0 hc1 hc2 hc3 hc4 hc5 hc6 hc7 hc8 hc9 hc10 hb3
      go_wp2_with fail
      refine (scName_any s.kind _ hkd).mono ?_
      rintro e w4 ⟨t, rfl, ht, hb4⟩
      have hne : t.toList.isEmpty = false := by rw [List.isEmpty_eq_false_iff]; exact ht.1
      have HX4 := Lib.hid (HX3.out.trans hb4)
      clear ht hb4 x0 x1
      go_wp2_with fail
      go_roundw
      case rel => exact ⟨k + 1, by omega, by go_num, HX4⟩
      case measure => simp [intOf]; omega
    · have HL2 := Lib.hid (SpL.keep HL.out HX.out.keep)
      have i2 : ¬ (k : Int) < (N : Int) := by omega
      have i3 : (N : Int) ≤ 400 := by omega
      have i4 : (N : Int) ≤ (n : Int) := by omega
      have HP : Hid (getSs (putSs L) = L) := Lib.hid (getSs_put HO.out (by have := HN.out; omega))
      have HPL := Lib.hid (putSs_len_le L)
      clear HL
      have hz : ((N : Int) == 0) = ((n : Int) == 0) := by
        rw [Bool.eq_iff_iff]; simp only [beq_iff_eq]; omega
      obtain ⟨zz, hzz⟩ : ∃ zz, zz = ((n : Int) == 0) := ⟨_, rfl⟩
      rw [← hzz] at hz
      have hz2 : ((n : Int) == 0) = zz := hzz.symm
      clear hzz
      go_wp2_with fail
      refine (scPut_any (fun _ => True) L Al N cl _ HL2.out (by omega)).mono ?_
      rintro e w3 ⟨A3, N3, c3, rfl, h3⟩
      have E3 := Lib.hid (HE.out.trans h3.ext)
      have HB3 : Hid (Byts w3 A3 N3 (putSs L)) := Lib.hid (by have := h3.byts; rwa [List.nil_append] at this)
      have HC3 := Lib.hid h3.nil
      have hnc3 := h3.nc
      have hcm3 : c3 ≤ 9223372036854775807 := by have := h3.cm; unfold maxLen at this; exact this
      have HL3 := Lib.hid (SpL.keep HL2.out h3.ext.keep)
      clear h3
      go_wp2_with fail
      refine ((scGet_any A3 N3 c3 (putSs L) _ HB3.out HC3.out hnc3 hcm3).mono fun _ _ h => GotS.out h).mono ?_
      rw [HP.out, ← HN.out]
      rintro e w4 ⟨A4, c4, us4, rfl, hsl4, HL4, -, -, hb4⟩
      have E4 := Lib.hid (E3.out.trans hb4)
      have HL5 := Lib.hid (SpL.keep HL3.out hb4.keep)
      clear hb4 hsl4
      go_wp2_with fail
      refine (scRows_any L A4 N c4 _ HL4.out (by omega)).mono ?_
      rintro e w5 ⟨A5, n5, c5, rfl, hsl5, hL5, hb5⟩
      have E5 := Lib.hid (E4.out.trans hb5)
      have HL6 := Lib.hid (SpL.keep HL5.out hb5.keep)
      have HR5 := Lib.hid hL5
      have HS5 := Lib.hid hsl5
      clear hb5 hsl5 hL5
      go_wp2_with fail
      refine (scRows_any L Al N cl _ HL6.out (by omega)).mono ?_
      rintro e w6 ⟨A6, n6, c6, rfl, -, hL6, hb6⟩
      have E6 := Lib.hid (E5.out.trans hb6)
      have HR6 := Lib.hid hL6
      have HR5' := Lib.hid (SpL.keep HR5.out hb6.keep)
      obtain rfl : n5 = n6 := HR5.out.len.symm.trans HR6.out.len
      clear hb6 hL6
      go_wp2_with fail
      refine (refSame23_eq _ _ _ _ L A5 A6 n5 c5 c6 _ (Nat.le_trans HS5.out.1 HS5.out.2.1) HR5'.out HR6.out).mono ?_
      rintro e w7 ⟨rfl, hb7⟩
      have E7 := Lib.hid (E6.out.trans hb7)
      clear hb7
      go_wp2_with fail
      go_ret
      exact ⟨by first | rfl | simp [*], E7.out⟩
end Go.Proofs.YtfdjbnofcniodaaGreatDoor
