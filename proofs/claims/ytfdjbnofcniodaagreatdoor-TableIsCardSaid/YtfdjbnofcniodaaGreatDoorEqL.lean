/- slices.EqualFunc at []groyne/api.Rule, with what tells equality. -/
import Derived.Test.YtfdjbnofcniodaaGreatDoorIndex
import Derived.Test.YtfdjbnofcniodaaGreatDoorEq
namespace Go.Proofs.YtfdjbnofcniodaaGreatDoor
set_option linter.unusedVariables false
open Go.RowKit

def SameL (S : Nat → Prop) (w0 : World) (F : Nat) : Prop :=
  Enters F ∧ ∀ (r : Rl) (B : Option Addr) (m d : Nat) (r2 : Rl) (B2 : Option Addr) (m2 d2 : Nat) (w : World), Ext w0 w → RlV S w r B m d → RlV S w r2 B2 m2 d2 → Calls Tryz.prog F #[.agg #[.string r.host, .string r.pre, .slice B m d], .agg #[.string r2.host, .string r2.pre, .slice B2 m2 d2]] w fun e w' => e = .returned (.bool (decide (r = r2))) ∧ Ext w w'
set_option maxRecDepth 100000 in
set_option maxHeartbeats 2000000 in
theorem equalFL_any (S : Nat → Prop) {T T' : Nat → Prop} (F : Nat) (A B : Option Addr) (n c m d : Nat) (l l' : List (Rl)) (w : World) (hm : n ≤ maxLen) (hm' : m ≤ maxLen) (hA : ArrQ T w 3 (RlQ S w) A n l) (hB : ArrQ T' w 3 (RlQ S w) B m l') (hF : SameL S w F) :
    Calls Tryz.prog 217 #[.slice A n c, .slice B m d, .func (.func F) #[] #[]] w fun e w' => e = .returned (.bool (decide (l = l'))) ∧ Ext w w' := by
  unfold maxLen at hm hm'
  have HA := Lib.hid hA
  have HB := Lib.hid hB
  have HF := Lib.hid hF
  clear hA hB hF
  by_cases hnm : n = m
  rotate_left
  · have HR : Hid (decide (l = l') = false) := Lib.hid (decide_eq_false fun e => hnm (by rw [← HA.out.len, ← HB.out.len, e]))
    have hq : ¬ (n : Int) = (m : Int) := by omega
    go_enter Tryz.func217, Tryz.ntmps217
    go_wp2_with fail
    go_ret
    exact ⟨ret_bool HR.out.symm, Ext.refl _⟩
  subst hnm
  go_enter Tryz.func217, Tryz.ntmps217
  go_wp2_with fail
  go_loopw [17] (fun i wr => ∃ k : Nat, k ≤ n ∧ i = .int .i64 k ∧ Hid (l.take k = l'.take k) ∧ Hid (Ext w wr)) (fun i _ => n - (intOf i).toNat)
  case atStart => exact ⟨0, Nat.zero_le _, rfl, Lib.hid (by simp), Lib.hid (Ext.refl _)⟩
  case round =>
    obtain ⟨k, hk, rfl, HS, HX⟩ := hrel
    by_cases hlt : k < n
    · obtain ⟨b, o, r, B, m, d, rfl, hbB, hSb, hlk, hv, hc0, hc1, hc2⟩ := RlL.at_ HA.out hlt
      obtain ⟨b2, o2, r2, B2, m2, d2, rfl, hbC, hSc, hlm, hw, he0, he1, he2⟩ := RlL.at_ HB.out hlt
      have HL1 := Lib.hid hlk
      have HL2 := Lib.hid hlm
      have HV := Lib.hid hv
      have HV2 := Lib.hid hw
      have i1 : (0 : Int) ≤ (k : Int) := by omega
      have i2 : (k : Int) < (n : Int) := by omega
      have hbB' := Nat.lt_of_lt_of_le hbB HX.out.size
      have hbC' := Nat.lt_of_lt_of_le hbC HX.out.size
      clear hlk hlm hv hw
      have s0 : wr.cell? ⟨b, o + k * 3, none⟩ = some (.string r.host) := (HX.out.cell hbB).trans hc0
      have p0 : wr.cell? ⟨b2, o2 + k * 3, none⟩ = some (.string r2.host) := (HX.out.cell hbC).trans he0
      have s1 : wr.cell? ⟨b, o + k * 3 + 1, none⟩ = some (.string r.pre) := (HX.out.cell hbB).trans hc1
      have p1 : wr.cell? ⟨b2, o2 + k * 3 + 1, none⟩ = some (.string r2.pre) := (HX.out.cell hbC).trans he1
      have s2 : wr.cell? ⟨b, o + k * 3 + 2, none⟩ = some (.slice B m d) := (HX.out.cell hbB).trans hc2
      have p2 : wr.cell? ⟨b2, o2 + k * 3 + 2, none⟩ = some (.slice B2 m2 d2) := (HX.out.cell hbC).trans he2
      clear hc0 he0 hc1 he1 hc2 he2
      go_wp2_with fail
      rw [HF.out.1, Oper.upon_enter]
      refine (HF.out.2 r B m d r2 B2 m2 d2 _ ((HX.out.alloc _).alloc _) (HV.out.up ((HX.out.alloc _).alloc _)) (HV2.out.up ((HX.out.alloc _).alloc _))).mono ?_
      rintro e w1 ⟨rfl, hb1⟩
      have HX1 := Lib.hid (((HX.out.alloc _).alloc _).trans hb1)
      clear hb1 s0 p0 s1 p1 s2 p2
      by_cases hq : r = r2
      · subst hq
        rw [decide_eq_true rfl]
        have HS2 : Hid (l.take (k + 1) = l'.take (k + 1)) := Lib.hid (by rw [take_snoc_of HL1.out, take_snoc_of HL2.out, HS.out])
        go_wp2_with fail
        go_roundw
        case rel => exact ⟨k + 1, by omega, by go_num, HS2, HX1⟩
        case measure => simp [intOf]; omega
      · rw [decide_eq_false hq]
        have HR : Hid (decide (l = l') = false) := Lib.hid (decide_eq_false fun e => by have h1 := HL1.out; rw [e, HL2.out] at h1; injection h1 with h1; exact hq h1.symm)
        go_wp2_with fail
        go_ret
        exact ⟨ret_bool HR.out.symm, HX1.out⟩
    · have HR : Hid (decide (l = l') = true) := Lib.hid (decide_eq_true (by have h1 := HS.out; rwa [List.take_of_length_le (by have := HA.out.len; omega), List.take_of_length_le (by have := HB.out.len; omega)] at h1))
      go_wp2_with fail
      go_ret
      exact ⟨ret_bool HR.out.symm, HX.out⟩
end Go.Proofs.YtfdjbnofcniodaaGreatDoor
