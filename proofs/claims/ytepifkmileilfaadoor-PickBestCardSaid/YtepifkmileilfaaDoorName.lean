/- What package name's functions on single names compute: low, plain, Sane, Cmp, width, Narrow. -/
import Derived.Test.YtepifkmileilfaaDoorStr
import Derived.Laws.RangeAny
import Derived.Lib.Bytealg
import Derived.Lib.IndexLaws
namespace Go.Proofs.YtepifkmileilfaaDoor
set_option linter.unusedVariables false
open Go.RowKit

def lowI (c : Int) : Bool := decide (97 ≤ c) && decide (c ≤ 122)
def plainI (c : Int) : Bool := lowI c || (decide (48 ≤ c) && decide (c ≤ 57)) || decide (c = 45)
theorem lowI_of (u : UInt8) : lowI (u.toNat : Int) = lowB u := by
  unfold lowI lowB; rw [Bool.eq_iff_iff]; simp only [Bool.and_eq_true, decide_eq_true_eq]; omega
theorem plainI_of (u : UInt8) : plainI (u.toNat : Int) = partB u := by
  unfold plainI partB; rw [lowI_of, Bool.eq_iff_iff]
  cases lowB u <;> simp only [Bool.and_eq_true, Bool.or_eq_true, decide_eq_true_eq, Bool.false_eq_true, false_or, true_or] <;> omega
theorem plainI_high {c : Int} (h : 128 ≤ c) : plainI c = false := by
  unfold plainI lowI; rw [Bool.eq_false_iff]; simp only [ne_eq, Bool.and_eq_true, Bool.or_eq_true, decide_eq_true_eq]; omega

set_option maxHeartbeats 400000 in
theorem low_any (c : Int) (w : World) : Calls Tryd.prog 119 #[.int .i32 c] w fun e w' => e = .returned (.bool (lowI c)) ∧ w = w' := by
  by_cases h1 : 97 ≤ c <;> by_cases h2 : c ≤ 122
  · have H : Hid (lowI c = true) := Lib.hid (by simp [lowI, h1, h2])
    go_enter Tryd.func119, Tryd.ntmps119
    go_wp2_with fail
    go_ret
    exact ⟨by rw [H.out]; rfl, rfl⟩
  all_goals
    have H : Hid (lowI c = false) := Lib.hid (by simp [lowI, h1, h2])
    go_enter Tryd.func119, Tryd.ntmps119
    go_wp2_with fail
    go_ret
    exact ⟨by rw [H.out]; rfl, rfl⟩
set_option maxHeartbeats 800000 in
theorem plain_any (c : Int) (w : World) : Calls Tryd.prog 65 #[.int .i32 c] w fun e w' => e = .returned (.bool (plainI c)) ∧ w = w' := by
  cases h0 : lowI c with
  | true =>
    have H : Hid (plainI c = true) := Lib.hid (by simp [plainI, h0])
    go_enter Tryd.func65, Tryd.ntmps65
    go_wp2_with fail
    refine (low_any _ _).mono ?_
    rintro e w' ⟨rfl, rfl⟩
    rw [h0]
    go_wp2_with fail
    go_ret
    exact ⟨by rw [H.out]; rfl, rfl⟩
  | false =>
    have HP : Hid (plainI c = ((decide (48 ≤ c) && decide (c ≤ 57)) || decide (c = 45))) := Lib.hid (by simp [plainI, h0])
    rcases (show (48 ≤ c ∧ c ≤ 57) ∨ 57 < c ∨ c < 48 by omega) with ⟨h1, h2⟩ | h1 | h1
    · have H : Hid (plainI c = true) := Lib.hid (by rw [HP.out, Bool.eq_iff_iff]; simp; omega)
      go_enter Tryd.func65, Tryd.ntmps65
      go_wp2_with fail
      refine (low_any _ _).mono ?_
      rintro e w' ⟨rfl, rfl⟩
      rw [h0]
      go_wp2_with fail
      go_ret
      exact ⟨by rw [H.out]; rfl, rfl⟩
    · have H : Hid (plainI c = (c == 45)) := Lib.hid (by rw [HP.out, Bool.eq_iff_iff]; simp; omega)
      have hd : decide (c ≤ 57) = false := decide_eq_false (by omega)
      go_enter Tryd.func65, Tryd.ntmps65
      go_wp2_with fail
      refine (low_any _ _).mono ?_
      rintro e w' ⟨rfl, rfl⟩
      rw [h0]
      go_wp2_with fail
      go_ret
      exact ⟨by rw [H.out]; rfl, rfl⟩
    · have H : Hid (plainI c = (c == 45)) := Lib.hid (by rw [HP.out, Bool.eq_iff_iff]; simp; omega)
      go_enter Tryd.func65, Tryd.ntmps65
      go_wp2_with fail
      refine (low_any _ _).mono ?_
      rintro e w' ⟨rfl, rfl⟩
      rw [h0]
      go_wp2_with fail
      go_ret
      exact ⟨by rw [H.out]; rfl, rfl⟩

theorem byte_at {s : ByteArray} {k : Nat} (hk : k < s.size) : (tx s)[k]? = some s[k] := by
  unfold tx; rw [List.getElem?_eq_getElem (by rw [Array.length_toList]; exact hk)]; rfl
theorem sane_long {s : ByteArray} (h : 12 < s.size) : saneN (tx s) = false := by
  unfold saneN; rw [tx_len, decide_eq_false (by omega)]; rfl
theorem sane_bad {s : ByteArray} {k : Nat} {u : UInt8} (h : (tx s)[k]? = some u) (hp : partB u = false) : saneN (tx s) = false := by
  rw [Bool.eq_false_iff]; intro hs
  rw [sane_part hs u (List.mem_of_getElem? h)] at hp; cases hp
theorem sane_badlow {s : ByteArray} {u : UInt8} (h : (tx s)[0]? = some u) (hp : lowB u = false) : saneN (tx s) = false := by
  rw [Bool.eq_false_iff]; intro hs
  obtain ⟨c, r, e, hc⟩ := sane_cons hs
  rw [e] at h; simp at h; subst h; rw [hc] at hp; cases hp
theorem sane_good {s : ByteArray} (hl : s.size ≤ 12) (h0 : 0 < s.size) (hp : ∀ (k : Nat) (u : UInt8), (tx s)[k]? = some u → partB u = true) (hh : ∀ u : UInt8, (tx s)[0]? = some u → lowB u = true) : saneN (tx s) = true := by
  unfold saneN
  rw [tx_len, decide_eq_true hl, List.all_eq_true.2 (fun u hu => by obtain ⟨k, hk⟩ := List.mem_iff_getElem?.1 hu; exact hp k u hk)]
  rw [List.head?_eq_getElem?]
  have := byte_at h0
  rw [this]
  exact hh _ this
theorem partB_lt {u : UInt8} (h : partB u = true) : u.toNat < 128 := by
  rw [← plainI_of] at h
  rcases Nat.lt_or_ge u.toNat 128 with h1 | h1
  · exact h1
  · rw [plainI_high (by omega)] at h; cases h

set_option maxHeartbeats 1600000 in
theorem sane_any (s : ByteArray) (w : World) (hm : s.size ≤ maxLen) : Calls Tryd.prog 67 #[.string s] w fun e w' => e = .returned (.bool (saneN (tx s))) ∧ Ext w w' := by
  unfold maxLen at hm
  by_cases hl : 12 < s.size
  · have H : Hid (saneN (tx s) = false) := Lib.hid (sane_long hl)
    go_enter Tryd.func67, Tryd.ntmps67
    go_wp2_with fail
    go_ret
    exact ⟨by rw [H.out]; rfl, Ext.refl _⟩
  · go_enter Tryd.func67, Tryd.ntmps67
    go_wp2_with fail
    go_loopw [3] (fun _ wr => ∃ j : Nat, j ≤ s.size ∧ wr = w.iter s j ∧ Hid (∀ k u, k < j → (tx s)[k]? = some u → partB u = true) ∧ Hid (∀ u, 0 < j → (tx s)[0]? = some u → lowB u = true)) (fun _ wr => s.size - wr.iterPos w.heap.size)
    case atStart => exact ⟨0, Nat.zero_le _, rfl, Lib.hid fun k u hk => absurd hk (by omega), Lib.hid fun u h0 => absurd h0 (by omega)⟩
    case round =>
      obtain ⟨j, hj, rfl, HP, HL⟩ := hrel
      by_cases hlt : j < s.size
      · have hb := byte_at hlt
        obtain ⟨u, hu⟩ : ∃ u, u = s[j] := ⟨_, rfl⟩
        rw [← hu] at hb
        have HB := Lib.hid hb
        clear hb
        cases hpu : partB u with
        | true =>
          have ha : u.toNat < 128 := partB_lt hpu
          have hnx := fun ty => run_next_ascii (P := Tryd.prog) w s j ty hlt (by rw [← hu]; exact ha)
          rw [← hu] at hnx
          have HU := Lib.hid hu
          have hpi : plainI (u.toNat : Int) = true := by rw [plainI_of]; exact hpu
          clear hu hpu
          by_cases h0 : j = 0
          · subst h0
            cases hlu : lowB u with
            | true =>
              have hli : lowI (u.toNat : Int) = true := by rw [lowI_of]; exact hlu
              have HN : Hid (∀ k v, k < 0 + 1 → (tx s)[k]? = some v → partB v = true) := Lib.hid fun k v hk hv => by
                obtain rfl : k = 0 := by omega
                rw [HB.out] at hv; injection hv with hv; subst hv; rw [← plainI_of]; exact hpi
              have HM : Hid (∀ v, 0 < 0 + 1 → (tx s)[0]? = some v → lowB v = true) := Lib.hid fun v _ hv => by
                rw [HB.out] at hv; injection hv with hv; subst hv; exact hlu
              clear hlu
              go_wp2_with fail
              refine (plain_any _ _).mono ?_
              rintro e w' ⟨rfl, rfl⟩
              rw [hpi]
              go_wp2_with fail
              refine (low_any _ _).mono ?_
              rintro e w' ⟨rfl, rfl⟩
              rw [hli]
              go_wp2_with fail
              go_roundw
              case rel => exact ⟨0 + 1, by omega, rfl, HN, HM⟩
              case measure => simp; omega
            | false =>
              have hli : lowI (u.toNat : Int) = false := by rw [lowI_of]; exact hlu
              have H : Hid (saneN (tx s) = false) := Lib.hid (sane_badlow HB.out hlu)
              clear hlu
              go_wp2_with fail
              refine (plain_any _ _).mono ?_
              rintro e w' ⟨rfl, rfl⟩
              rw [hpi]
              go_wp2_with fail
              refine (low_any _ _).mono ?_
              rintro e w' ⟨rfl, rfl⟩
              rw [hli]
              go_wp2_with fail
              go_ret
              exact ⟨by rw [H.out]; rfl, Ext.new _ _⟩
          · have HN : Hid (∀ k v, k < j + 1 → (tx s)[k]? = some v → partB v = true) := Lib.hid fun k v hk hv => by
              rcases Nat.lt_or_ge k j with h | h
              · exact HP.out k v h hv
              · obtain rfl : k = j := by omega
                rw [HB.out] at hv; injection hv with hv; subst hv; rw [← plainI_of]; exact hpi
            have HM : Hid (∀ v, 0 < j + 1 → (tx s)[0]? = some v → lowB v = true) := Lib.hid fun v _ hv => HL.out v (by omega) hv
            have hj0 : ((j : Int) == 0) = false := by rw [beq_eq_false_iff_ne]; omega
            go_wp2_with fail
            refine (plain_any _ _).mono ?_
            rintro e w' ⟨rfl, rfl⟩
            rw [hpi]
            go_wp2_with fail
            go_roundw
            case rel => exact ⟨j + 1, by omega, rfl, HN, HM⟩
            case measure => simp; omega
        | false =>
          have H : Hid (saneN (tx s) = false) := Lib.hid (sane_bad HB.out hpu)
          by_cases ha : u.toNat < 128
          · have hnx := fun ty => run_next_ascii (P := Tryd.prog) w s j ty hlt (by rw [← hu]; exact ha)
            rw [← hu] at hnx
            have hpi : plainI (u.toNat : Int) = false := by rw [plainI_of]; exact hpu
            clear hu hpu
            go_wp2_with fail
            refine (plain_any _ _).mono ?_
            rintro e w' ⟨rfl, rfl⟩
            rw [hpi]
            go_wp2_with fail
            go_ret
            exact ⟨by rw [H.out]; rfl, Ext.new _ _⟩
          · have hnx := fun ty => run_next_any (P := Tryd.prog) w s j ty hlt
            have hhi := (decode_high s j hlt (by rw [← hu]; omega)).1
            obtain ⟨c, hc⟩ : ∃ c : Nat, c = (Utf8.decode s j).1 := ⟨_, rfl⟩
            rw [← hc] at hnx hhi
            have hpi : plainI (c : Int) = false := plainI_high (by omega)
            clear hu hpu hc
            go_wp2_with fail
            refine (plain_any _ _).mono ?_
            rintro e w' ⟨rfl, rfl⟩
            rw [hpi]
            go_wp2_with fail
            go_ret
            exact ⟨by rw [H.out]; rfl, Ext.new _ _⟩
      · have hje : j = s.size := by omega
        have hnx := fun ty => run_next_end (P := Tryd.prog) w s j ty hlt
        by_cases h0 : s.size = 0
        · have H : Hid (saneN (tx s) = false) := Lib.hid (by
            rw [List.eq_nil_of_length_eq_zero (show (tx s).length = 0 by rw [tx_len]; exact h0)]; rfl)
          have hemp : s.toList.isEmpty = true := by rw [tx_toList, List.isEmpty_iff]; exact List.eq_nil_of_length_eq_zero (by rw [tx_len]; exact h0)
          clear hje h0
          go_wp2_with fail
          go_ret
          exact ⟨by rw [H.out]; rfl, Ext.new _ _⟩
        · have H : Hid (saneN (tx s) = true) := Lib.hid (sane_good (by omega) (by omega) (fun k u hu => HP.out k u (by rw [hje, ← tx_len]; exact (List.getElem?_eq_some_iff.1 hu).1) hu) (fun u hu => HL.out u (by omega) hu))
          have hemp : s.toList.isEmpty = false := by rw [tx_toList, List.isEmpty_eq_false_iff]; intro e; rw [← tx_len, e] at h0; exact h0 rfl
          clear hje h0
          go_wp2_with fail
          go_ret
          exact ⟨by rw [H.out]; rfl, Ext.new _ _⟩
end Go.Proofs.YtepifkmileilfaaDoor
