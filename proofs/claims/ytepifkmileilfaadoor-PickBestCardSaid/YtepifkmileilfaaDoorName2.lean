/- What package name's Path, width, Narrow, Cmp compute. -/
import Derived.Test.YtepifkmileilfaaDoorName
namespace Go.Proofs.YtepifkmileilfaaDoor
set_option linter.unusedVariables false
open Go.RowKit

theorem pre_one (s : ByteArray) (c : UInt8) : preB s ⟨#[c]⟩ = decide ((tx s).head? = some c) := by
  unfold preB
  rw [show tx ⟨#[c]⟩ = [c] from rfl, Bool.eq_iff_iff]
  simp only [decide_eq_true_eq]
  cases tx s with
  | nil => simp
  | cons d r => simp [List.cons_prefix_cons, eq_comm]
theorem pre_two (s : ByteArray) (c d : UInt8) : preB s ⟨#[c, d]⟩ = decide ((tx s).take 2 = [c, d]) := by
  unfold preB
  rw [show tx ⟨#[c, d]⟩ = [c, d] from rfl, Bool.eq_iff_iff]
  simp only [decide_eq_true_eq]
  rw [List.prefix_iff_eq_take]; exact ⟨fun h => h.symm, fun h => h.symm⟩
theorem path_bad {s : ByteArray} {k : Nat} {u : UInt8} (h : (tx s)[k]? = some u) (hp : pathC u = false) : pathB (tx s) = false := by
  unfold pathB
  rw [show (tx s).all pathC = false from by rw [List.all_eq_false]; exact ⟨u, List.mem_of_getElem? h, by rw [hp]; decide⟩]; rfl

set_option maxHeartbeats 1600000 in
theorem path_any (s : ByteArray) (w : World) (hm : s.size ≤ maxLen) : Calls Tryd.prog 23 #[.string s] w fun e w' => e = .returned (.bool (pathB (tx s))) ∧ Ext w w' := by
  have hm' := hm
  unfold maxLen at hm
  go_enter Tryd.func23, Tryd.ntmps23
  go_wp2_with fail
  go_loopw [4] (fun _ wr => ∃ j : Nat, j ≤ s.size ∧ wr = w.iter s j ∧ Hid (∀ (k : Nat) (u : UInt8), k < j → (tx s)[k]? = some u → pathC u = true)) (fun _ wr => s.size - wr.iterPos w.heap.size)
  case atStart => exact ⟨0, Nat.zero_le _, rfl, Lib.hid fun k u hk => absurd hk (by omega)⟩
  case round =>
    obtain ⟨j, hj, rfl, HP⟩ := hrel
    by_cases hlt : j < s.size
    · have hb := byte_at hlt
      obtain ⟨u, hu⟩ : ∃ u, u = s[j] := ⟨_, rfl⟩
      rw [← hu] at hb
      have HB := Lib.hid hb
      clear hb
      cases hpu : pathC u with
      | true =>
        have HN : Hid (∀ (k : Nat) (v : UInt8), k < j + 1 → (tx s)[k]? = some v → pathC v = true) := Lib.hid fun k v hk hv => by
          rcases Nat.lt_or_ge k j with h | h
          · exact HP.out k v h hv
          · obtain rfl : k = j := by omega
            rw [HB.out] at hv; injection hv with hv; subst hv; exact hpu
        have ha : u.toNat < 128 := by
          unfold pathC at hpu
          rw [Bool.or_eq_true] at hpu
          rcases hpu with h | h
          · exact partB_lt h
          · simp at h; omega
        have hnx := fun ty => run_next_ascii (P := Tryd.prog) w s j ty hlt (by rw [← hu]; exact ha)
        rw [← hu] at hnx
        cases hp : partB u with
        | true =>
          have hpi : plainI (u.toNat : Int) = true := by rw [plainI_of]; exact hp
          clear hu hpu hp
          go_wp2_with fail
          refine (plain_any _ _).mono ?_
          rintro e w' ⟨rfl, rfl⟩
          rw [hpi]
          go_wp2_with fail
          go_roundw
          case rel => exact ⟨j + 1, by omega, rfl, HN⟩
          case measure => simp; omega
        | false =>
          have hpi : plainI 47 = false := by decide
          have h47 : u.toNat = 47 := by unfold pathC at hpu; rw [hp] at hpu; simpa using hpu
          rw [h47] at hnx
          clear hu hpu hp h47
          go_wp2_with fail
          refine (plain_any _ _).mono ?_
          rintro e w' ⟨rfl, rfl⟩
          rw [hpi]
          go_wp2_with fail
          go_roundw
          case rel => exact ⟨j + 1, by omega, rfl, HN⟩
          case measure => simp; omega
      | false =>
        have H : Hid (pathB (tx s) = false) := Lib.hid (path_bad HB.out hpu)
        have hp : partB u = false := by unfold pathC at hpu; rw [Bool.or_eq_false_iff] at hpu; exact hpu.1
        have h47 : u.toNat ≠ 47 := by unfold pathC at hpu; rw [Bool.or_eq_false_iff] at hpu; simpa using hpu.2
        by_cases ha : u.toNat < 128
        · have hnx := fun ty => run_next_ascii (P := Tryd.prog) w s j ty hlt (by rw [← hu]; exact ha)
          rw [← hu] at hnx
          have hpi : plainI (u.toNat : Int) = false := by rw [plainI_of]; exact hp
          have hne : ((u.toNat : Int) != 47) = true := by rw [bne_iff_ne]; omega
          clear hu hpu hp h47
          go_wp2_with fail
          refine (plain_any _ _).mono ?_
          rintro e w' ⟨rfl, rfl⟩
          rw [hpi]
          go_wp2_with fail
          go_ret
          exact ⟨by rw [H.out]; rfl, Ext.new _ _⟩
        · have hnx := fun ty => run_next_any (P := Tryd.prog) w s j ty hlt
          have hhi := (decode_high s j hlt (by rw [← hu]; omega)).1
          obtain ⟨c, hc⟩ : ∃ c : Nat, c = (Utf8.decode s j).1 := ⟨_, rfl⟩
          rw [← hc] at hnx hhi
          have hpi : plainI (c : Int) = false := plainI_high (by omega)
          have hne : ((c : Int) != 47) = true := by rw [bne_iff_ne]; omega
          clear hu hpu hp h47 hc
          go_wp2_with fail
          refine (plain_any _ _).mono ?_
          rintro e w' ⟨rfl, rfl⟩
          rw [hpi]
          go_wp2_with fail
          go_ret
          exact ⟨by rw [H.out]; rfl, Ext.new _ _⟩
    · have hje : j = s.size := by omega
      have hnx := fun ty => run_next_end (P := Tryd.prog) w s j ty hlt
      have hall : (tx s).all pathC = true := List.all_eq_true.2 fun u hu => by
        obtain ⟨k, hk⟩ := List.mem_iff_getElem?.1 hu
        exact HP.out k u (by rw [hje, ← tx_len]; exact (List.getElem?_eq_some_iff.1 hk).1) hk
      by_cases hl : s.size ≤ 40
      · have H : Hid (pathB (tx s) = preB s ⟨#[47]⟩) := Lib.hid (by unfold pathB; rw [hall, tx_len, decide_eq_true hl, pre_one]; simp)
        clear hje hall
        go_wp2_with fail
        refine (hasPrefix_any s ⟨#[47]⟩ _ hm' (by simp [maxLen, ByteArray.size])).mono ?_
        rintro e w' ⟨rfl, rfl⟩
        go_wp2_with fail
        go_ret
        exact ⟨by rw [H.out]; rfl, Ext.new _ _⟩
      · have H : Hid (pathB (tx s) = false) := Lib.hid (by unfold pathB; rw [hall, tx_len, decide_eq_false hl]; simp)
        clear hje hall
        go_wp2_with fail
        go_ret
        exact ⟨by rw [H.out]; rfl, Ext.new _ _⟩

set_option maxHeartbeats 400000 in
theorem width_any (s : ByteArray) (w : World) (hm : s.size ≤ maxLen) : Calls Tryd.prog 116 #[.string s] w fun e w' => e = .returned (.int .i64 (widthN (tx s))) ∧ w = w' := by
  by_cases h1 : tx s = [42]
  · have hq : (s.toList == [42]) = true := by rw [tx_toList, h1]; rfl
    have H : Hid (widthN (tx s) = 0) := Lib.hid (by rw [h1]; rfl)
    clear h1
    go_enter Tryd.func116, Tryd.ntmps116
    go_wp2_with fail
    go_ret
    exact ⟨by rw [H.out]; rfl, rfl⟩
  · have hq : (s.toList == [42]) = false := by rw [tx_toList]; simpa using h1
    by_cases h2 : (tx s).take 2 = [42, 46]
    · have H : Hid (widthN (tx s) = s.size) := Lib.hid (by rw [(width_star h2).1, tx_len])
      have hp : preB s ⟨#[42, 46]⟩ = true := by rw [pre_two]; exact decide_eq_true h2
      clear h1 h2
      go_enter Tryd.func116, Tryd.ntmps116
      go_wp2_with fail
      refine (hasPrefix_any s ⟨#[42, 46]⟩ _ hm (by simp [maxLen, ByteArray.size])).mono ?_
      rintro e w' ⟨rfl, rfl⟩
      rw [hp]
      go_wp2_with fail
      go_ret
      exact ⟨by rw [H.out]; rfl, rfl⟩
    · have H : Hid (widthN (tx s) = 9223372036854775807) := Lib.hid (width_plain h2 h1)
      have hp : preB s ⟨#[42, 46]⟩ = false := by rw [pre_two]; exact decide_eq_false h2
      clear h1 h2
      go_enter Tryd.func116, Tryd.ntmps116
      go_wp2_with fail
      refine (hasPrefix_any s ⟨#[42, 46]⟩ _ hm (by simp [maxLen, ByteArray.size])).mono ?_
      rintro e w' ⟨rfl, rfl⟩
      rw [hp]
      go_wp2_with fail
      go_ret
      exact ⟨by rw [H.out]; rfl, rfl⟩
set_option maxHeartbeats 400000 in
theorem narrow_any (s t : ByteArray) (w : World) (hs : s.size ≤ maxLen) (ht : t.size ≤ maxLen) : Calls Tryd.prog 62 #[.string s, .string t] w fun e w' => e = .returned (.int .i64 (narrowN (tx s) (tx t))) ∧ w = w' := by
  go_enter Tryd.func62, Tryd.ntmps62
  go_wp2_with fail
  refine (width_any s _ hs).mono ?_
  rintro e w' ⟨rfl, rfl⟩
  go_wp2_with fail
  refine (width_any t _ ht).mono ?_
  rintro e w' ⟨rfl, rfl⟩
  go_wp2_with fail
  refine (cmpInt_any _ _ _).mono ?_
  rintro e w' ⟨rfl, rfl⟩
  go_wp2_with fail
  go_ret
  exact ⟨rfl, rfl⟩
end Go.Proofs.YtepifkmileilfaaDoor
