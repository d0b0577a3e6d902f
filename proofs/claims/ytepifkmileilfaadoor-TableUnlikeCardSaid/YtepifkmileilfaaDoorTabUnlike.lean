/- The law TableUnlike of layer 5. -/
import Derived.Test.YtepifkmileilfaaDoorTabLaw
namespace Go.Proofs.YtepifkmileilfaaDoor
set_option linter.unusedVariables false
open Go.RowKit

set_option maxRecDepth 100000 in
set_option maxHeartbeats 8000000 in
theorem tableUnlike_any (A : Option Addr) (n c : Nat) (a : List Rs) (B : Option Addr) (m d : Nat) (b : List Rs) (w : World) (hsa : SlW A n c) (hA : ResL All w A n a) (hsb : SlW B m d) (hB : ResL All w B m b) :
    Calls Tryd.prog 7 #[.slice A n c, .slice B m d] w fun e w' => e = .returned (.bool true) ∧ Ext w w' := by
  have Ha := Lib.hid hA
  have Hb := Lib.hid hB
  have HMa : Hid (n ≤ maxLen) := Lib.hid (Nat.le_trans hsa.1 hsa.2.1)
  have HMb : Hid (m ≤ maxLen) := Lib.hid (Nat.le_trans hsb.1 hsb.2.1)
  have hla : a.length = n := hA.len
  have hlb : b.length = m := hB.len
  have HSLa := Lib.hid hsa
  have HSLb := Lib.hid hsb
  clear hA hB hsa hsb
  go_enter Tryd.func7, Tryd.ntmps7
  go_wp2_with fail
  refine (awake05 _).mono ?_
  rintro e w1 ⟨rfl, hb1⟩
  have E1 := Lib.hid hb1
  clear hb1
  go_wp2_with fail
  refine (few04_any All a A n c _ HMa.out (ResL.keep Ha.out E1.out.keep)).mono ?_
  rintro e w2 ⟨v, rfl, hv, hb2⟩
  have E2 := Lib.hid (E1.out.trans hb2)
  clear hb2
  cases v with
  | false =>
    go_wp2_with fail
    go_ret
    exact ⟨rfl, E2.out⟩
  | true =>
  have hfa : n ≤ 80 := hv rfl
  clear hv
  go_wp2_with fail
  refine (few04_any All b B m d _ HMb.out (ResL.keep Hb.out E2.out.keep)).mono ?_
  rintro e w3 ⟨v, rfl, hv, hb3⟩
  have E3 := Lib.hid (E2.out.trans hb3)
  clear hb3
  cases v with
  | false =>
    go_wp2_with fail
    go_ret
    exact ⟨rfl, E3.out⟩
  | true =>
  have hfb : m ≤ 80 := hv rfl
  clear hv
  go_wp2_with fail
  refine (tabSane_any A n c a _ HMa.out (ResL.keep Ha.out E3.out.keep)).mono ?_
  rintro e w4 ⟨rfl, hb4⟩
  have E4 := Lib.hid (E3.out.trans hb4)
  clear hb4
  obtain ⟨Za, hZ⟩ : ∃ Z, Z = saneT a := ⟨_, rfl⟩
  rw [← hZ]
  have HZa := Lib.hid hZ
  clear hZ
  by_cases hsa : Za = 0
  rotate_left
  · have hz1 : (Za != 0) = true := by simpa using hsa
    go_wp2_with fail
    go_ret
    exact ⟨rfl, E4.out⟩
  have HSa := Lib.hid (saneT_all (HZa.out.symm.trans hsa))
  subst hsa
  go_wp2_with fail
  refine (tabSane_any B m d b _ HMb.out (ResL.keep Hb.out E4.out.keep)).mono ?_
  rintro e w5 ⟨rfl, hb5⟩
  have E5 := Lib.hid (E4.out.trans hb5)
  clear hb5
  obtain ⟨Zb, hZ⟩ : ∃ Z, Z = saneT b := ⟨_, rfl⟩
  rw [← hZ]
  have HZb := Lib.hid hZ
  clear hZ
  by_cases hsb : Zb = 0
  rotate_left
  · have hz1 : (Zb != 0) = true := by simpa using hsb
    go_wp2_with fail
    go_ret
    exact ⟨rfl, E5.out⟩
  have HSb := Lib.hid (saneT_all (HZb.out.symm.trans hsb))
  subst hsb
  go_wp2_with fail
  refine (diff_any A n c a B m d b _ (by omega) (by omega) (ResL.keep Ha.out E5.out.keep) (ResL.keep Hb.out E5.out.keep) (fun z hz => sane_wf (HSa.out.2.1 z hz)) (fun z hz => sane_wf (HSb.out.2.1 z hz))).mono ?_
  rintro e w6 ⟨AP, nP, cP, AQ, nQ, cQ, rfl, hsP, hsQ, hP, hQ, hb6⟩
  have E6 := Lib.hid (E5.out.trans hb6)
  have HP := Lib.hid hP
  have HQ := Lib.hid hQ
  have HWP := Lib.hid hsP
  have HWQ := Lib.hid hsQ
  have hlP : (addsT a b).length = nP := hP.len
  have hlQ : (goneT a b).length = nQ := hQ.len
  have hleP : nP ≤ 64 := by have h8 : (addsT a b).length ≤ b.length := List.length_filter_le _ _; have h9 := HSb.out.1; omega
  have hleQ : nQ ≤ 64 := by have h8 : (goneT a b).length ≤ (a.map Rs.key).length := List.length_filter_le _ _; rw [List.length_map] at h8; have h9 := HSa.out.1; omega
  have F6 := Lib.hid hb6
  clear hb6 hsP hsQ hP hQ
  go_wp2_with fail
  refine (diff_any B m d b A n c a _ (by omega) (by omega) (ResL.keep Hb.out E6.out.keep) (ResL.keep Ha.out E6.out.keep) (fun z hz => sane_wf (HSb.out.2.1 z hz)) (fun z hz => sane_wf (HSa.out.2.1 z hz))).mono ?_
  rintro e w7 ⟨AR, nR, cR, AS, nS, cS, rfl, hsR, hsS, hR, hS, hb7⟩
  have E7 := Lib.hid (E6.out.trans hb7)
  have HR := Lib.hid hR
  have HS := Lib.hid hS
  have HWR := Lib.hid hsR
  have HWS := Lib.hid hsS
  have hlR : (addsT b a).length = nR := hR.len
  have hlS : (goneT b a).length = nS := hS.len
  have hleR : nR ≤ 64 := by have h8 : (addsT b a).length ≤ a.length := List.length_filter_le _ _; have h9 := HSa.out.1; omega
  have hleS : nS ≤ 64 := by have h8 : (goneT b a).length ≤ (b.map Rs.key).length := List.length_filter_le _ _; rw [List.length_map] at h8; have h9 := HSb.out.1; omega
  have F7 := Lib.hid hb7
  clear hb7 hsR hsS hR hS
  go_wp2_with fail

  go_loopw [10] (fun i wr => ∃ k : Nat, k ≤ nQ ∧ i = .int .i64 k ∧ Hid (Ext w7 wr)) (fun i _ => nQ - (intOf i).toNat)
  case atStart => exact ⟨0, Nat.zero_le _, by go_num, Lib.hid (Ext.refl _)⟩
  case round =>
    obtain ⟨k, hk, rfl, HE⟩ := hrel
    by_cases hlt : k < nQ
    · obtain ⟨bb, off, y, rfl, hbl0, -, hx, hsz, d0, d1⟩ := KeyL.at_ HQ.out hlt
      have hgb := gone_back HSa.out.2.2.1 HSb.out.2.2.1 (List.mem_of_getElem? hx)
      have i1 : (0 : Int) ≤ (k : Int) := by omega
      have i2 : (k : Int) < (nQ : Int) := by omega
      have t0 : wr.cell? ⟨bb, off + k * 2, none⟩ = some (.int .i64 y.kind) := ((F7.out.trans HE.out).cell hbl0).trans d0
      have t1 : wr.cell? ⟨bb, off + k * 2 + 1, none⟩ = some (.string y.name) := ((F7.out.trans HE.out).cell hbl0).trans d1
      have HGB := Lib.hid hgb
      clear hx d0 d1 hgb
      go_wp2_with fail
      refine (get_any y AR nR cR (addsT b a) _ (by omega) (ResL.keep HR.out HE.out.keep)).mono ?_
      rintro e w8 ⟨r, C, p, f, C', p', f', rfl, -, -, hb8⟩
      rw [HGB.out]
      have HE8 := Lib.hid (HE.out.trans hb8)
      clear hb8 t0 t1
      unfold rsVal
      go_wp2_with fail
      go_roundw
      case rel => exact ⟨k + 1, by omega, by go_num, Lib.hid (HE8.out.alloc _)⟩
      case measure => simp [intOf]; omega
    · have hq1 : (((n : Int) - (nR : Int)) == ((m : Int) - (nP : Int))) = true := by
        have := adds_len HSa.out.2.2.1 HSb.out.2.2.1
        rw [hla, hlb, hlP, hlR] at this
        simp; omega
      have hq2 : (((nP : Int) - (nS : Int)) == ((nR : Int) - (nQ : Int))) = true := by
        have := gone_len HSa.out.2.2.1 HSb.out.2.2.1
        rw [hlP, hlQ, hlR, hlS] at this
        simp; omega
      have hdn := diff_none HSa.out.2.2.1 HSb.out.2.2.1
      rw [hlP, hlQ] at hdn
      have HDN := Lib.hid hdn
      have hn64 : n ≤ 64 := by have := HSa.out.1; omega
      have hm64 : m ≤ 64 := by have := HSb.out.1; omega
      clear hdn
      go_wp2_with fail
      refine (tabSame_any A B n c m d a b _ HMa.out HMb.out (ResL.keep Ha.out (E7.out.trans HE.out).keep) (ResL.keep Hb.out (E7.out.trans HE.out).keep)).mono ?_
      rintro e w8 ⟨rfl, hb8⟩
      have E8 := Lib.hid ((E7.out.trans HE.out).trans hb8)
      clear hb8
      by_cases hab : a = b
      · have hz : nP + nQ = 0 := HDN.out.2 hab
        have hz1 : (((nP : Int) + (nQ : Int)) == 0) = true := by simp; omega
        rw [decide_eq_true hab]
        clear hab
        go_wp2_with fail
        go_ret
        exact ⟨rfl, E8.out⟩
      · have hz : ¬ nP + nQ = 0 := fun h => hab (HDN.out.1 h)
        have hz1 : (((nP : Int) + (nQ : Int)) == 0) = false := by simp; omega
        rw [decide_eq_false hab]
        clear hab
        go_wp2_with fail
        go_ret
        exact ⟨rfl, E8.out⟩
end Go.Proofs.YtepifkmileilfaaDoor
