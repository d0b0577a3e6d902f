/- What the reference of package stream computes: Wrap, number, TakeNumber. -/
import Derived.Test.YtjomoannlpadnaaStream
namespace Go.Proofs.Ytjomoannlpadnaa
set_option linter.unusedVariables false
open Go.RowKit
attribute [local go_sem ↓] run_max2 run_min2
attribute [local go_sem ↓] Go.wp_at_zero Go.wp_at_succ

set_option maxRecDepth 100000 in
set_option maxHeartbeats 400000 in
theorem refWrap_any (A : Option Addr) (n c : Nat) (bs : List UInt8) (w : World) (hA : Byts w A n bs) (hc : A = none → c = 0) :
    Calls Try.prog 54 #[.slice A n c] w (WrapPost w bs) := by
  have HL := Lib.hid hA.len
  have HA := Lib.hid hA
  clear hA
  by_cases hb : 100000 < n
  · have HW : Hid (wrap8 bs = ([], 3)) := Lib.hid (by unfold wrap8; rw [if_pos (by rw [HL.out]; exact hb)])
    go_enter Try.func54, Try.ntmps54
    go_wp2_with fail
    go_ret2
    exact ⟨none, 0, 0, by rw [HW.out]; rfl, by rw [HW.out]; exact Own8.nil_, Ext.refl _⟩
  · have HW : Hid (wrap8 bs = (encT bs, 0)) := Lib.hid (by unfold wrap8; rw [if_neg (by rw [HL.out]; exact hb)])
    go_enter Try.func54, Try.ntmps54
    go_wp2_with fail
    refine (refNumber_any none 0 0 [] n _ ArrR.nil_ (fun _ => rfl) (by omega)).mono ?_
    rintro e w1 ⟨v1, rfl, hown1, hb1⟩
    rw [bnd_of (by omega), Nat.zero_add, List.nil_append] at hown1
    have hl := enc_len n
    have hz1 : w.heap.size ≤ w1.heap.size := hb1.size
    have HO := Lib.hid hown1
    clear hown1
    go_wp2_with (at_builtin
                 obtain ⟨v', w2, hrun, hown2, hg2, _⟩ := run_append_flat elem_byte 42 HO.out c (ArrR.flat (f := byteV) (ArrR.up HA.out hb1)) (byteV_one bs) (by omega) (by omega) hz1 hc
                 rw [← List.map_append] at hown2
                 obtain ⟨A2, c2, rfl, h8⟩ := Own8.of_own hown2
                 refine Lib.wpList_append_run _ rfl _ _ _ _ rfl _ _ rfl rfl _ w2 hrun ?_)
    go_ret2
    refine ⟨A2, _, c2, by rw [HW.out]; rfl, ?_, hb1.grown hg2 HO.out (Nat.le_refl _)⟩
    rw [HW.out]
    unfold encT
    rw [HL.out]
    exact h8

/-- a number, how many bytes it takes, what is wrong -/
def numR (bs : List UInt8) (k : Int) : Nat × Nat × Int := if (parse bs).2.2 ≠ 0 then (0, 0, (parse bs).2.2) else if bnd k < (parse bs).1 then (0, 0, 3) else parse bs

set_option maxRecDepth 100000 in
set_option maxHeartbeats 400000 in
theorem refNum_any (A : Option Addr) (n c : Nat) (bs : List UInt8) (k : Int) (w : World) (hA : Byts w A n bs) :
    Calls Try.prog 85 #[.slice A n c, .int .i64 k] w fun e w' => e = .returned (.tuple #[.int .i64 ((numR bs k).1 : Nat), .int .i64 ((numR bs k).2.1 : Nat), .int .i64 (numR bs k).2.2]) ∧ w' = w := by
  have HB := Lib.hid hA
  have HL := Lib.hid hA.len
  clear hA
  go_enter Try.func85, Try.ntmps85
  go_wp2_with fail
  go_loop [7, 8, 9] (fun t f i => ∃ (j x m : Nat), j ≤ 5 ∧ i = .int .i64 j ∧ t = .int .i64 x ∧ f = .int .i64 m ∧ Hid (parseF (5 - j) j x (bs.drop j) = parse bs) ∧ Hid (x < 128 ^ j) ∧ Hid (m = 128 ^ j)) (fun _ _ i => 5 - (intOf i).toNat)
  case atStart => exact ⟨0, 0, 1, by omega, rfl, rfl, rfl, Lib.hid rfl, Lib.hid (by decide), Lib.hid rfl⟩
  case round =>
    obtain ⟨j, x, m, hj, rfl, rfl, rfl, HP, HX, HM⟩ := hrel
    by_cases hlt : j < 5
    · by_cases hn : n ≤ j
      · have HR : Hid (numR bs k = (0, 0, 1)) := Lib.hid (by
          have h1 := HP.out
          have hl := HL.out
          rw [List.drop_eq_nil_of_le (by omega), show 5 - j = (5 - j - 1) + 1 by omega] at h1
          unfold numR
          rw [← h1]
          rfl)
        go_wp2_with fail
        go_ret3
        exact ⟨by rw [HR.out]; rfl, rfl⟩
      · obtain ⟨b, o, u, rfl, hb0, hu, hcell⟩ := Byts.at_ HB.out (k := j) (by omega)
        have hm4 : m ≤ 268435456 := by
          rw [HM.out]
          exact Nat.le_trans (Nat.pow_le_pow_right (by omega) (show j ≤ 4 by omega)) (by decide)
        have hxm : x < m := by rw [HM.out]; exact HX.out
        obtain ⟨z, hz⟩ : ∃ z, z = u.toNat % 128 * m := ⟨_, rfl⟩
        have hzl : z ≤ 127 * m := by rw [hz]; exact Nat.mul_le_mul_right _ (by omega)
        have hst := HP.out
        rw [parseF_step (by omega) hu, ← HM.out, ← hz] at hst
        have hylt : x + z < 128 ^ (j + 1) := by have := step_lt u HX.out; rw [← HM.out, ← hz] at this; exact this
        have hmn : m * 128 = 128 ^ (j + 1) := by rw [HM.out, Nat.pow_succ]
        have hz1 : (u.toNat : Int) % 128 * (m : Int) = (z : Int) := by rw [hz]; push_cast; rfl
        have hz2 : IntKind.i64.wrap ((x : Int) + (z : Int)) = ((x + z : Nat) : Int) := by rw [IntKind.wrap_i64]; omega
        have hz3 : IntKind.i64.wrap ((m : Int) * 128) = ((m * 128 : Nat) : Int) := by rw [IntKind.wrap_i64]; omega
        have hz4 : IntKind.i64.wrap (z : Int) = (z : Int) := by rw [IntKind.wrap_i64]; omega
        have hu8 : u.toNat < 256 := u.toNat_lt
        have HS := Lib.hid hst
        have HYL := Lib.hid hylt
        have HMN := Lib.hid hmn
        clear hu hst hylt hmn hz
        by_cases h1 : 128 ≤ u.toNat
        · go_wp2_with fail
          go_round
          case rel => exact ⟨j + 1, x + z, m * 128, by omega, by go_num, rfl, rfl, Lib.hid (by rw [← HS.out, if_pos h1]), HYL, HMN⟩
          case measure => simp [intOf]; omega
        · by_cases h2 : u.toNat = 0 ∧ 0 < j
          · have HR : Hid (numR bs k = (0, 0, 2)) := Lib.hid (by unfold numR; rw [← HS.out, if_neg h1, if_pos h2]; rfl)
            obtain ⟨h2, h3⟩ := h2
            go_wp2_with fail
            go_ret3
            exact ⟨by rw [HR.out]; rfl, rfl⟩
          · have HR : Hid (parse bs = (x + z, j + 1, 0)) := Lib.hid (by rw [← HS.out, if_neg h1, if_neg h2])
            have H2 := Lib.hid h2
            clear h2
            by_cases h3 : bnd k < x + z
            · have HQ : Hid (numR bs k = (0, 0, 3)) := Lib.hid (by unfold numR; rw [HR.out, if_neg (by simp), if_pos h3])
              go_wp2_with fail
              · rename_i hj0 hq _
                have hq := eq_of_beq hq
                exact absurd ⟨by omega, by omega⟩ H2.out
              all_goals
                refine (refBound_any k _).mono ?_
                rintro e w1 ⟨rfl, rfl⟩
                go_wp2_with fail
                go_ret3
                exact ⟨by rw [HQ.out]; rfl, rfl⟩
            · have HQ : Hid (numR bs k = (x + z, j + 1, 0)) := Lib.hid (by unfold numR; rw [HR.out, if_neg (by simp), if_neg h3])
              go_wp2_with fail
              · rename_i hj0 hq _
                have hq := eq_of_beq hq
                exact absurd ⟨by omega, by omega⟩ H2.out
              all_goals
                refine (refBound_any k _).mono ?_
                rintro e w1 ⟨rfl, rfl⟩
                go_wp2_with fail
                go_ret3
                exact ⟨by rw [HQ.out]; go_num, rfl⟩
    · obtain rfl : j = 5 := by omega
      have HR : Hid (numR bs k = (0, 0, 2)) := Lib.hid (by
        have h1 := HP.out
        unfold numR
        rw [← h1]
        rfl)
      go_wp2_with fail
      go_ret3
      exact ⟨by rw [HR.out]; rfl, rfl⟩
end Go.Proofs.Ytjomoannlpadnaa
