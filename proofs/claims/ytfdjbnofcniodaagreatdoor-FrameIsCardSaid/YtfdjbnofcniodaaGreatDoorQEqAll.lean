/- slices.Equal at []groyne/api.Key. -/
import Derived.Test.YtfdjbnofcniodaaGreatDoorQGround
import Derived.Test.YtfdjbnofcniodaaGreatDoorQNames
import Derived.Test.YtfdjbnofcniodaaGreatDoorQIndex
namespace Go.Proofs.YtfdjbnofcniodaaGreatDoor
open Lib (hid)
set_option maxHeartbeats 2000000
set_option maxRecDepth 100000
set_option linter.unusedVariables false
open Go.RowKit
theorem equalW_any {S T : Nat → Prop} (A B : Option Addr) (n c m d : Nat) (l l' : List (ByteArray × Int)) (w : World) (hm : n ≤ maxLen) (hm' : m ≤ maxLen) (hA : ArrQ S w 2 WtQ A n l) (hB : ArrQ T w 2 WtQ B m l') :
  Calls Tryz.prog 215 #[.slice A n c, .slice B m d] w fun e w' => e = .returned (.bool (decide (l = l'))) ∧ Ext w w' := by
 unfold maxLen at hm hm'
 have HA := hid hA
 have HB := hid hB
 clear hA hB
 by_cases hnm : n = m; rotate_left
 ·have HR : Hid (decide (l = l') = false) := hid (decide_eq_false fun e => hnm (by rw [← HA.out.len, ← HB.out.len, e]))
  have hq : ¬ (n : Int) = (m : Int) := by omega
  go_enter Tryz.func215, Tryz.ntmps215
  go_wp2_with fail
  go_ret
  exact ⟨ret_bool HR.out.symm, Ext.refl _⟩
 subst hnm
 go_enter Tryz.func215, Tryz.ntmps215
 go_wp2_with fail
 go_loopw [13] (fun i wr => ∃ k : Nat, k ≤ n ∧ i = .int .i64 k ∧ Hid (l.take k = l'.take k) ∧ Hid (Ext w wr)) (fun i _ => n - (intOf i).toNat)
 case atStart => exact ⟨0, Nat.zero_le _, rfl, hid (by simp), hid (Ext.refl _)⟩
 case round =>
  obtain ⟨k, hk, rfl, HS, HX⟩ := hrel
  by_cases hlt : k < n
  ·obtain ⟨b, o, s, x, rfl, hbB, hSb, hlk, hsz, hc0, hc1⟩ := WtL.at_ HA.out hlt
   obtain ⟨b2, o2, s2, x2, rfl, hbC, hSc, hlm, hsy, he0, he1⟩ := WtL.at_ HB.out hlt
   have HL1 := hid hlk
   have HL2 := hid hlm
   have i1 : (0 : Int) ≤ (k : Int) := by omega
   have i2 : (k : Int) < (n : Int) := by omega
   clear hlk hlm
   by_cases hs : s = s2
   ·subst hs
    by_cases hq : x = x2
    ·subst hq
     go_wp2_with fail
     have s0 : ∀ w', Ext wr.drew w' → w'.cell? ⟨b, o + k * 2, none⟩ = some (.string s) := fun w' hx => ((HX.out.trans ((Ext.refl wr).drew.trans hx)).cell hbB).trans hc0
     have p0 : ∀ w', Ext wr.drew w' → w'.cell? ⟨b2, o2 + k * 2, none⟩ = some (.string s) := fun w' hx => ((HX.out.trans ((Ext.refl wr).drew.trans hx)).cell hbC).trans he0
     have s1 : ∀ w', Ext wr.drew w' → w'.cell? ⟨b, o + k * 2 + 1, none⟩ = some (.int .i64 x) := fun w' hx => ((HX.out.trans ((Ext.refl wr).drew.trans hx)).cell hbB).trans hc1
     have p1 : ∀ w', Ext wr.drew w' → w'.cell? ⟨b2, o2 + k * 2 + 1, none⟩ = some (.int .i64 x) := fun w' hx => ((HX.out.trans ((Ext.refl wr).drew.trans hx)).cell hbC).trans he1
     have hSw : Ext wr.drew wr.drew := Ext.refl _
     refine wpS_begin (Ext wr.drew) (by kernel_rfl) ?_
     refine wpS_tk 0 ?_ hSw rfl (fun w' hin => ?_) ?_; rotate_left
     ·go_simp <;> with_reducible rfl
     try simp only [lyr]
     refine wpS_tk 1 ?_ hSw rfl (fun w' hin => ?_) ?_; rotate_left
     ·go_simp <;> with_reducible rfl
     try simp only [lyr]
     refine wpS_tk 2 ?_ hSw rfl (fun w' hin => ?_) ?_; rotate_left
     ·go_simp <;> with_reducible rfl
     try simp only [lyr]
     refine wpS_tk 3 ?_ hSw rfl (fun w' hin => ?_) ?_; rotate_left
     ·go_simp <;> with_reducible rfl
     try simp only [lyr]
     refine wpS_tk 4 ?_ hSw rfl (fun w' hin => ?_) ?_; rotate_left
     ·go_simp <;> with_reducible rfl
     try simp only [lyr]
     refine wpS_tk 5 ?_ hSw rfl (fun w' hin => ?_) ?_; rotate_left
     ·go_simp <;> with_reducible rfl
     try simp only [lyr]
     refine wpS_tk 6 ?_ hSw rfl (fun w' hin => ?_) ?_; rotate_left
     ·go_simp <;> with_reducible rfl
     try simp only [lyr]
     refine wpS_tk 7 ?_ hSw rfl (fun w' hin => ?_) ?_; rotate_left
     ·go_simp <;> with_reducible rfl
     try simp only [lyr]
     refine wpS_tk 8 ?_ hSw rfl (fun w' hin => ?_) ?_; rotate_left
     ·go_simp <;> with_reducible rfl
     try simp only [lyr]
     refine wpS_done (by kernel_rfl) ?_
     clear s0 p0 s1 p1
     have HX1 : Hid (Ext w wr.drew) := hid HX.out.drew
     have HS2 : Hid (l.take (k + 1) = l'.take (k + 1)) := hid (by rw [take_snoc_of HL1.out, take_snoc_of HL2.out, HS.out])
     go_wp2_with fail
     go_roundw
     case rel => exact ⟨k + 1, by omega, by go_num, HS2, HX1⟩
     case measure => simp [intOf]; omega
    ·have HR : Hid (decide (l = l') = false) := hid (decide_eq_false fun e => by have h1 := HL1.out; rw [e, HL2.out] at h1; injection h1 with h1; injection h1 with h1 h2; exact hq h2.symm)
     go_wp2_with fail
     have s0 : ∀ w', Ext wr.drew w' → w'.cell? ⟨b, o + k * 2, none⟩ = some (.string s) := fun w' hx => ((HX.out.trans ((Ext.refl wr).drew.trans hx)).cell hbB).trans hc0
     have p0 : ∀ w', Ext wr.drew w' → w'.cell? ⟨b2, o2 + k * 2, none⟩ = some (.string s) := fun w' hx => ((HX.out.trans ((Ext.refl wr).drew.trans hx)).cell hbC).trans he0
     have s1 : ∀ w', Ext wr.drew w' → w'.cell? ⟨b, o + k * 2 + 1, none⟩ = some (.int .i64 x) := fun w' hx => ((HX.out.trans ((Ext.refl wr).drew.trans hx)).cell hbB).trans hc1
     have p1 : ∀ w', Ext wr.drew w' → w'.cell? ⟨b2, o2 + k * 2 + 1, none⟩ = some (.int .i64 x2) := fun w' hx => ((HX.out.trans ((Ext.refl wr).drew.trans hx)).cell hbC).trans he1
     have hSw : Ext wr.drew wr.drew := Ext.refl _
     refine wpS_begin (Ext wr.drew) (by kernel_rfl) ?_
     refine wpS_tk 0 ?_ hSw rfl (fun w' hin => ?_) ?_; rotate_left
     ·go_simp <;> with_reducible rfl
     try simp only [lyr]
     refine wpS_tk 1 ?_ hSw rfl (fun w' hin => ?_) ?_; rotate_left
     ·go_simp <;> with_reducible rfl
     try simp only [lyr]
     refine wpS_tk 2 ?_ hSw rfl (fun w' hin => ?_) ?_; rotate_left
     ·go_simp <;> with_reducible rfl
     try simp only [lyr]
     refine wpS_tk 3 ?_ hSw rfl (fun w' hin => ?_) ?_; rotate_left
     ·go_simp <;> with_reducible rfl
     try simp only [lyr]
     refine wpS_tk 4 ?_ hSw rfl (fun w' hin => ?_) ?_; rotate_left
     ·go_simp <;> with_reducible rfl
     try simp only [lyr]
     refine wpS_tk 5 ?_ hSw rfl (fun w' hin => ?_) ?_; rotate_left
     ·go_simp <;> with_reducible rfl
     try simp only [lyr]
     refine wpS_tk 6 ?_ hSw rfl (fun w' hin => ?_) ?_; rotate_left
     ·go_simp <;> with_reducible rfl
     try simp only [lyr]
     refine wpS_tk 7 ?_ hSw rfl (fun w' hin => ?_) ?_; rotate_left
     ·go_simp <;> with_reducible rfl
     try simp only [lyr]
     refine wpS_tk 8 ?_ hSw rfl (fun w' hin => ?_) ?_; rotate_left
     ·go_simp <;> with_reducible rfl
     try simp only [lyr]
     refine wpS_done (by kernel_rfl) ?_
     clear s0 p0 s1 p1
     go_wp2_with fail
     go_ret
     exact ⟨ret_bool HR.out.symm, HX.out.drew⟩
   ·have hq : ¬ s.toList = s2.toList := fun e => hs (tx_inj (by rw [← tx_toList, ← tx_toList]; exact e))
    have HR : Hid (decide (l = l') = false) := hid (decide_eq_false fun e => by have h1 := HL1.out; rw [e, HL2.out] at h1; injection h1 with h1; injection h1 with h1 h2; exact hs h1.symm)
    go_wp2_with fail
    have s0 : ∀ w', Ext wr.drew w' → w'.cell? ⟨b, o + k * 2, none⟩ = some (.string s) := fun w' hx => ((HX.out.trans ((Ext.refl wr).drew.trans hx)).cell hbB).trans hc0
    have p0 : ∀ w', Ext wr.drew w' → w'.cell? ⟨b2, o2 + k * 2, none⟩ = some (.string s2) := fun w' hx => ((HX.out.trans ((Ext.refl wr).drew.trans hx)).cell hbC).trans he0
    have s1 : ∀ w', Ext wr.drew w' → w'.cell? ⟨b, o + k * 2 + 1, none⟩ = some (.int .i64 x) := fun w' hx => ((HX.out.trans ((Ext.refl wr).drew.trans hx)).cell hbB).trans hc1
    have p1 : ∀ w', Ext wr.drew w' → w'.cell? ⟨b2, o2 + k * 2 + 1, none⟩ = some (.int .i64 x2) := fun w' hx => ((HX.out.trans ((Ext.refl wr).drew.trans hx)).cell hbC).trans he1
    have hSw : Ext wr.drew wr.drew := Ext.refl _
    refine wpS_begin (Ext wr.drew) (by kernel_rfl) ?_
    refine wpS_tk 0 ?_ hSw rfl (fun w' hin => ?_) ?_; rotate_left
    ·go_simp <;> with_reducible rfl
    try simp only [lyr]
    refine wpS_tk 1 ?_ hSw rfl (fun w' hin => ?_) ?_; rotate_left
    ·go_simp <;> with_reducible rfl
    try simp only [lyr]
    refine wpS_tk 2 ?_ hSw rfl (fun w' hin => ?_) ?_; rotate_left
    ·go_simp <;> with_reducible rfl
    try simp only [lyr]
    refine wpS_tk 3 ?_ hSw rfl (fun w' hin => ?_) ?_; rotate_left
    ·go_simp <;> with_reducible rfl
    try simp only [lyr]
    refine wpS_tk 4 ?_ hSw rfl (fun w' hin => ?_) ?_; rotate_left
    ·go_simp <;> with_reducible rfl
    try simp only [lyr]
    refine wpS_tk 5 ?_ hSw rfl (fun w' hin => ?_) ?_; rotate_left
    ·go_simp <;> with_reducible rfl
    try simp only [lyr]
    refine wpS_tk 6 ?_ hSw rfl (fun w' hin => ?_) ?_; rotate_left
    ·go_simp <;> with_reducible rfl
    try simp only [lyr]
    refine wpS_tk 7 ?_ hSw rfl (fun w' hin => ?_) ?_; rotate_left
    ·go_simp <;> with_reducible rfl
    try simp only [lyr]
    refine wpS_tk 8 ?_ hSw rfl (fun w' hin => ?_) ?_; rotate_left
    ·go_simp <;> with_reducible rfl
    try simp only [lyr]
    refine wpS_done (by kernel_rfl) ?_
    clear s0 p0 s1 p1
    go_wp2_with fail
    go_ret
    exact ⟨ret_bool HR.out.symm, HX.out.drew⟩
  ·have HR : Hid (decide (l = l') = true) := hid (decide_eq_true (by have h1 := HS.out; rwa [List.take_of_length_le (by have := HA.out.len; omega), List.take_of_length_le (by have := HB.out.len; omega)] at h1))
   go_wp2_with fail
   go_ret
   exact ⟨ret_bool HR.out.symm, HX.out⟩
set_option linter.unusedVariables false
open Go.RowKit
theorem equalH_any {S T : Nat → Prop} (A B : Option Addr) (n c m d : Nat) (l l' : List (Int)) (w : World) (hm : n ≤ maxLen) (hm' : m ≤ maxLen) (hA : ArrQ S w 1 (IntR .i64) A n l) (hB : ArrQ T w 1 (IntR .i64) B m l') :
  Calls Tryz.prog 216 #[.slice A n c, .slice B m d] w fun e w' => e = .returned (.bool (decide (l = l'))) ∧ Ext w w' := by
 unfold maxLen at hm hm'
 have HA := hid hA
 have HB := hid hB
 clear hA hB
 by_cases hnm : n = m; rotate_left
 ·have HR : Hid (decide (l = l') = false) := hid (decide_eq_false fun e => hnm (by rw [← HA.out.len, ← HB.out.len, e]))
  have hq : ¬ (n : Int) = (m : Int) := by omega
  go_enter Tryz.func216, Tryz.ntmps216
  go_wp2_with fail
  go_ret
  exact ⟨ret_bool HR.out.symm, Ext.refl _⟩
 subst hnm
 go_enter Tryz.func216, Tryz.ntmps216
 go_wp2_with fail
 go_loopw [13] (fun i wr => ∃ k : Nat, k ≤ n ∧ i = .int .i64 k ∧ Hid (l.take k = l'.take k) ∧ Hid (Ext w wr)) (fun i _ => n - (intOf i).toNat)
 case atStart => exact ⟨0, Nat.zero_le _, rfl, hid (by simp), hid (Ext.refl _)⟩
 case round =>
  obtain ⟨k, hk, rfl, HS, HX⟩ := hrel
  by_cases hlt : k < n
  ·obtain ⟨b, o, x, rfl, hbB, hSb, hlk, hc0⟩ := HostL.at_ HA.out hlt
   obtain ⟨b2, o2, x2, rfl, hbC, hSc, hlm, he0⟩ := HostL.at_ HB.out hlt
   have HL1 := hid hlk
   have HL2 := hid hlm
   have i1 : (0 : Int) ≤ (k : Int) := by omega
   have i2 : (k : Int) < (n : Int) := by omega
   clear hlk hlm
   by_cases hq : x = x2
   ·subst hq
    go_wp2_with fail
    have s0 : ∀ w', Ext wr.drew w' → w'.cell? ⟨b, o + k, none⟩ = some (.int .i64 x) := fun w' hx => ((HX.out.trans ((Ext.refl wr).drew.trans hx)).cell hbB).trans hc0
    have p0 : ∀ w', Ext wr.drew w' → w'.cell? ⟨b2, o2 + k, none⟩ = some (.int .i64 x) := fun w' hx => ((HX.out.trans ((Ext.refl wr).drew.trans hx)).cell hbC).trans he0
    have hSw : Ext wr.drew wr.drew := Ext.refl _
    refine wpS_begin (Ext wr.drew) (by kernel_rfl) ?_
    refine wpS_tk 0 ?_ hSw rfl (fun w' hin => ?_) ?_; rotate_left
    ·go_simp <;> with_reducible rfl
    try simp only [lyr]
    refine wpS_tk 1 ?_ hSw rfl (fun w' hin => ?_) ?_; rotate_left
    ·go_simp <;> with_reducible rfl
    try simp only [lyr]
    refine wpS_tk 2 ?_ hSw rfl (fun w' hin => ?_) ?_; rotate_left
    ·go_simp <;> with_reducible rfl
    try simp only [lyr]
    refine wpS_tk 3 ?_ hSw rfl (fun w' hin => ?_) ?_; rotate_left
    ·go_simp <;> with_reducible rfl
    try simp only [lyr]
    refine wpS_tk 4 ?_ hSw rfl (fun w' hin => ?_) ?_; rotate_left
    ·go_simp <;> with_reducible rfl
    try simp only [lyr]
    refine wpS_tk 5 ?_ hSw rfl (fun w' hin => ?_) ?_; rotate_left
    ·go_simp <;> with_reducible rfl
    try simp only [lyr]
    refine wpS_tk 6 ?_ hSw rfl (fun w' hin => ?_) ?_; rotate_left
    ·go_simp <;> with_reducible rfl
    try simp only [lyr]
    refine wpS_tk 7 ?_ hSw rfl (fun w' hin => ?_) ?_; rotate_left
    ·go_simp <;> with_reducible rfl
    try simp only [lyr]
    refine wpS_tk 8 ?_ hSw rfl (fun w' hin => ?_) ?_; rotate_left
    ·go_simp <;> with_reducible rfl
    try simp only [lyr]
    refine wpS_done (by kernel_rfl) ?_
    clear s0 p0
    have HX1 : Hid (Ext w wr.drew) := hid HX.out.drew
    have HS2 : Hid (l.take (k + 1) = l'.take (k + 1)) := hid (by rw [take_snoc_of HL1.out, take_snoc_of HL2.out, HS.out])
    go_wp2_with fail
    go_roundw
    case rel => exact ⟨k + 1, by omega, by go_num, HS2, HX1⟩
    case measure => simp [intOf]; omega
   ·have HR : Hid (decide (l = l') = false) := hid (decide_eq_false fun e => by have h1 := HL1.out; rw [e, HL2.out] at h1; injection h1 with h1; exact hq h1.symm)
    go_wp2_with fail
    have s0 : ∀ w', Ext wr.drew w' → w'.cell? ⟨b, o + k, none⟩ = some (.int .i64 x) := fun w' hx => ((HX.out.trans ((Ext.refl wr).drew.trans hx)).cell hbB).trans hc0
    have p0 : ∀ w', Ext wr.drew w' → w'.cell? ⟨b2, o2 + k, none⟩ = some (.int .i64 x2) := fun w' hx => ((HX.out.trans ((Ext.refl wr).drew.trans hx)).cell hbC).trans he0
    have hSw : Ext wr.drew wr.drew := Ext.refl _
    refine wpS_begin (Ext wr.drew) (by kernel_rfl) ?_
    refine wpS_tk 0 ?_ hSw rfl (fun w' hin => ?_) ?_; rotate_left
    ·go_simp <;> with_reducible rfl
    try simp only [lyr]
    refine wpS_tk 1 ?_ hSw rfl (fun w' hin => ?_) ?_; rotate_left
    ·go_simp <;> with_reducible rfl
    try simp only [lyr]
    refine wpS_tk 2 ?_ hSw rfl (fun w' hin => ?_) ?_; rotate_left
    ·go_simp <;> with_reducible rfl
    try simp only [lyr]
    refine wpS_tk 3 ?_ hSw rfl (fun w' hin => ?_) ?_; rotate_left
    ·go_simp <;> with_reducible rfl
    try simp only [lyr]
    refine wpS_tk 4 ?_ hSw rfl (fun w' hin => ?_) ?_; rotate_left
    ·go_simp <;> with_reducible rfl
    try simp only [lyr]
    refine wpS_tk 5 ?_ hSw rfl (fun w' hin => ?_) ?_; rotate_left
    ·go_simp <;> with_reducible rfl
    try simp only [lyr]
    refine wpS_tk 6 ?_ hSw rfl (fun w' hin => ?_) ?_; rotate_left
    ·go_simp <;> with_reducible rfl
    try simp only [lyr]
    refine wpS_tk 7 ?_ hSw rfl (fun w' hin => ?_) ?_; rotate_left
    ·go_simp <;> with_reducible rfl
    try simp only [lyr]
    refine wpS_tk 8 ?_ hSw rfl (fun w' hin => ?_) ?_; rotate_left
    ·go_simp <;> with_reducible rfl
    try simp only [lyr]
    refine wpS_done (by kernel_rfl) ?_
    clear s0 p0
    go_wp2_with fail
    go_ret
    exact ⟨ret_bool HR.out.symm, HX.out.drew⟩
  ·have HR : Hid (decide (l = l') = true) := hid (decide_eq_true (by have h1 := HS.out; rwa [List.take_of_length_le (by have := HA.out.len; omega), List.take_of_length_le (by have := HB.out.len; omega)] at h1))
   go_wp2_with fail
   go_ret
   exact ⟨ret_bool HR.out.symm, HX.out⟩
set_option linter.unusedVariables false
open Go.RowKit
def SameL (S : Nat → Prop) (w0 : World) (F : Nat) : Prop :=
 Enters F ∧ ∀ (r : Rl) (B : Option Addr) (m d : Nat) (r2 : Rl) (B2 : Option Addr) (m2 d2 : Nat) (w : World), Ext w0 w → RlV S w r B m d → RlV S w r2 B2 m2 d2 → Calls Tryz.prog F #[.agg #[.string r.host, .string r.pre, .slice B m d], .agg #[.string r2.host, .string r2.pre, .slice B2 m2 d2]] w fun e w' => e = .returned (.bool (decide (r = r2))) ∧ Ext w w'
theorem equalFL_any (S : Nat → Prop) {T T' : Nat → Prop} (F : Nat) (A B : Option Addr) (n c m d : Nat) (l l' : List (Rl)) (w : World) (hm : n ≤ maxLen) (hm' : m ≤ maxLen) (hA : ArrQ T w 3 (RlQ S w) A n l) (hB : ArrQ T' w 3 (RlQ S w) B m l') (hF : SameL S w F) :
  Calls Tryz.prog 217 #[.slice A n c, .slice B m d, .func (.func F) #[] #[]] w fun e w' => e = .returned (.bool (decide (l = l'))) ∧ Ext w w' := by
 unfold maxLen at hm hm'
 have HA := hid hA
 have HB := hid hB
 have HF := hid hF
 clear hA hB hF
 by_cases hnm : n = m; rotate_left
 ·have HR : Hid (decide (l = l') = false) := hid (decide_eq_false fun e => hnm (by rw [← HA.out.len, ← HB.out.len, e]))
  have hq : ¬ (n : Int) = (m : Int) := by omega
  go_enter Tryz.func217, Tryz.ntmps217
  go_wp2_with fail
  go_ret
  exact ⟨ret_bool HR.out.symm, Ext.refl _⟩
 subst hnm
 go_enter Tryz.func217, Tryz.ntmps217
 go_wp2_with fail
 go_loopw [17] (fun i wr => ∃ k : Nat, k ≤ n ∧ i = .int .i64 k ∧ Hid (l.take k = l'.take k) ∧ Hid (Ext w wr)) (fun i _ => n - (intOf i).toNat)
 case atStart => exact ⟨0, Nat.zero_le _, rfl, hid (by simp), hid (Ext.refl _)⟩
 case round =>
  obtain ⟨k, hk, rfl, HS, HX⟩ := hrel
  by_cases hlt : k < n
  ·obtain ⟨b, o, r, B, m, d, rfl, hbB, hSb, hlk, hv, hc0, hc1, hc2⟩ := RlL.at_ HA.out hlt
   obtain ⟨b2, o2, r2, B2, m2, d2, rfl, hbC, hSc, hlm, hw, he0, he1, he2⟩ := RlL.at_ HB.out hlt
   have HL1 := hid hlk
   have HL2 := hid hlm
   have HV := hid hv
   have HV2 := hid hw
   have i1 : (0 : Int) ≤ (k : Int) := by omega
   have i2 : (k : Int) < (n : Int) := by omega
   have hbB' := Nat.lt_of_lt_of_le hbB HX.out.size
   have hbC' := Nat.lt_of_lt_of_le hbC HX.out.size
   clear hlk hlm hv hw
   have s0 : wr.cell? ⟨b, o + k * 3, none⟩ = some (.string r.host) := (HX.out.cell hbB).trans hc0
   have p0 : wr.cell? ⟨b2, o2 + k * 3, none⟩ = some (.string r2.host) := (HX.out.cell hbC).trans he0
   have s1 : wr.cell? ⟨b, o + k * 3 + 1, none⟩ = some (.string r.pre) := (HX.out.cell hbB).trans hc1
   have p1 : wr.cell? ⟨b2, o2 + k * 3 + 1, none⟩ = some (.string r2.pre) := (HX.out.cell hbC).trans he1
   have s2 : wr.cell? ⟨b, o + k * 3 + 2, none⟩ = some (.slice B m d) := (HX.out.cell hbB).trans hc2
   have p2 : wr.cell? ⟨b2, o2 + k * 3 + 2, none⟩ = some (.slice B2 m2 d2) := (HX.out.cell hbC).trans he2
   clear hc0 he0 hc1 he1 hc2 he2
   go_wp2_with fail
   rw [HF.out.1, Oper.upon_enter]
   refine (HF.out.2 r B m d r2 B2 m2 d2 _ ((HX.out.alloc _).alloc _) (HV.out.up ((HX.out.alloc _).alloc _)) (HV2.out.up ((HX.out.alloc _).alloc _))).mono ?_
   rintro e w1 ⟨rfl, hb1⟩
   have HX1 := hid (((HX.out.alloc _).alloc _).trans hb1)
   clear hb1 s0 p0 s1 p1 s2 p2
   by_cases hq : r = r2
   ·subst hq
    rw [decide_eq_true rfl]
    have HS2 : Hid (l.take (k + 1) = l'.take (k + 1)) := hid (by rw [take_snoc_of HL1.out, take_snoc_of HL2.out, HS.out])
    go_wp2_with fail
    go_roundw
    case rel => exact ⟨k + 1, by omega, by go_num, HS2, HX1⟩
    case measure => simp [intOf]; omega
   ·rw [decide_eq_false hq]
    have HR : Hid (decide (l = l') = false) := hid (decide_eq_false fun e => by have h1 := HL1.out; rw [e, HL2.out] at h1; injection h1 with h1; exact hq h1.symm)
    go_wp2_with fail
    go_ret
    exact ⟨ret_bool HR.out.symm, HX1.out⟩
  ·have HR : Hid (decide (l = l') = true) := hid (decide_eq_true (by have h1 := HS.out; rwa [List.take_of_length_le (by have := HA.out.len; omega), List.take_of_length_le (by have := HB.out.len; omega)] at h1))
   go_wp2_with fail
   go_ret
   exact ⟨ret_bool HR.out.symm, HX.out⟩
set_option linter.unusedVariables false
open Go.RowKit
def SameR (S : Nat → Prop) (w0 : World) (F : Nat) : Prop :=
 Enters F ∧ ∀ (r : Rs) (B : Option Addr) (m d : Nat) (B' : Option Addr) (m' d' : Nat) (r2 : Rs) (B2 : Option Addr) (m2 d2 : Nat) (B3 : Option Addr) (m3 d3 : Nat) (w : World), Ext w0 w → RsV S w r B m d B' m' d' → RsV S w r2 B2 m2 d2 B3 m3 d3 → Calls Tryz.prog F #[(rsVal r B m d B' m' d'), (rsVal r2 B2 m2 d2 B3 m3 d3)] w fun e w' => e = .returned (.bool (decide (r = r2))) ∧ Ext w w'
theorem equalFR_any (S : Nat → Prop) {T T' : Nat → Prop} (F : Nat) (A B : Option Addr) (n c m d : Nat) (l l' : List (Rs)) (w : World) (hm : n ≤ maxLen) (hm' : m ≤ maxLen) (hA : ArrQ T w 7 (RsQ S w) A n l) (hB : ArrQ T' w 7 (RsQ S w) B m l') (hF : SameR S w F) :
  Calls Tryz.prog 124 #[.slice A n c, .slice B m d, .func (.func F) #[] #[]] w fun e w' => e = .returned (.bool (decide (l = l'))) ∧ Ext w w' := by
 unfold maxLen at hm hm'
 have HA := hid hA
 have HB := hid hB
 have HF := hid hF
 clear hA hB hF
 by_cases hnm : n = m; rotate_left
 ·have HR : Hid (decide (l = l') = false) := hid (decide_eq_false fun e => hnm (by rw [← HA.out.len, ← HB.out.len, e]))
  have hq : ¬ (n : Int) = (m : Int) := by omega
  go_enter Tryz.func124, Tryz.ntmps124
  go_wp2_with fail
  go_ret
  exact ⟨ret_bool HR.out.symm, Ext.refl _⟩
 subst hnm
 go_enter Tryz.func124, Tryz.ntmps124
 go_wp2_with fail
 go_loopw [17] (fun i wr => ∃ k : Nat, k ≤ n ∧ i = .int .i64 k ∧ Hid (l.take k = l'.take k) ∧ Hid (Ext w wr)) (fun i _ => n - (intOf i).toNat)
 case atStart => exact ⟨0, Nat.zero_le _, rfl, hid (by simp), hid (Ext.refl _)⟩
 case round =>
  obtain ⟨k, hk, rfl, HS, HX⟩ := hrel
  by_cases hlt : k < n
  ·obtain ⟨b, o, r, B, m, d, B', m', d', rfl, hbB, hSb, hlk, hv, hc0, hc1, hc2, hc3, hc4, hc5, hc6⟩ := ResL.at_ HA.out hlt
   obtain ⟨b2, o2, r2, B2, m2, d2, B3, m3, d3, rfl, hbC, hSc, hlm, hw, he0, he1, he2, he3, he4, he5, he6⟩ := ResL.at_ HB.out hlt
   have HL1 := hid hlk
   have HL2 := hid hlm
   have HV := hid hv
   have HV2 := hid hw
   have i1 : (0 : Int) ≤ (k : Int) := by omega
   have i2 : (k : Int) < (n : Int) := by omega
   have hbB' := Nat.lt_of_lt_of_le hbB HX.out.size
   have hbC' := Nat.lt_of_lt_of_le hbC HX.out.size
   clear hlk hlm hv hw
   have s0 : wr.cell? ⟨b, o + k * 7, none⟩ = some (.int .i64 r.kind) := (HX.out.cell hbB).trans hc0
   have p0 : wr.cell? ⟨b2, o2 + k * 7, none⟩ = some (.int .i64 r2.kind) := (HX.out.cell hbC).trans he0
   have s1 : wr.cell? ⟨b, o + k * 7 + 1, none⟩ = some (.string r.name) := (HX.out.cell hbB).trans hc1
   have p1 : wr.cell? ⟨b2, o2 + k * 7 + 1, none⟩ = some (.string r2.name) := (HX.out.cell hbC).trans he1
   have s2 : wr.cell? ⟨b, o + k * 7 + 2, none⟩ = some (.int .i64 r.ver) := (HX.out.cell hbB).trans hc2
   have p2 : wr.cell? ⟨b2, o2 + k * 7 + 2, none⟩ = some (.int .i64 r2.ver) := (HX.out.cell hbC).trans he2
   have s3 : wr.cell? ⟨b, o + k * 7 + 3, none⟩ = some (.int .i64 r.port) := (HX.out.cell hbB).trans hc3
   have p3 : wr.cell? ⟨b2, o2 + k * 7 + 3, none⟩ = some (.int .i64 r2.port) := (HX.out.cell hbC).trans he3
   have s4 : wr.cell? ⟨b, o + k * 7 + 4, none⟩ = some (.string r.to) := (HX.out.cell hbB).trans hc4
   have p4 : wr.cell? ⟨b2, o2 + k * 7 + 4, none⟩ = some (.string r2.to) := (HX.out.cell hbC).trans he4
   have s5 : wr.cell? ⟨b, o + k * 7 + 5, none⟩ = some (.slice B m d) := (HX.out.cell hbB).trans hc5
   have p5 : wr.cell? ⟨b2, o2 + k * 7 + 5, none⟩ = some (.slice B2 m2 d2) := (HX.out.cell hbC).trans he5
   have s6 : wr.cell? ⟨b, o + k * 7 + 6, none⟩ = some (.slice B' m' d') := (HX.out.cell hbB).trans hc6
   have p6 : wr.cell? ⟨b2, o2 + k * 7 + 6, none⟩ = some (.slice B3 m3 d3) := (HX.out.cell hbC).trans he6
   clear hc0 he0 hc1 he1 hc2 he2 hc3 he3 hc4 he4 hc5 he5 hc6 he6
   go_wp2_with fail
   rw [HF.out.1, Oper.upon_enter]
   refine (HF.out.2 r B m d B' m' d' r2 B2 m2 d2 B3 m3 d3 _ ((HX.out.alloc _).alloc _) (HV.out.up ((HX.out.alloc _).alloc _)) (HV2.out.up ((HX.out.alloc _).alloc _))).mono ?_
   rintro e w1 ⟨rfl, hb1⟩
   have HX1 := hid (((HX.out.alloc _).alloc _).trans hb1)
   clear hb1 s0 p0 s1 p1 s2 p2 s3 p3 s4 p4 s5 p5 s6 p6
   by_cases hq : r = r2
   ·subst hq
    rw [decide_eq_true rfl]
    have HS2 : Hid (l.take (k + 1) = l'.take (k + 1)) := hid (by rw [take_snoc_of HL1.out, take_snoc_of HL2.out, HS.out])
    go_wp2_with fail
    go_roundw
    case rel => exact ⟨k + 1, by omega, by go_num, HS2, HX1⟩
    case measure => simp [intOf]; omega
   ·rw [decide_eq_false hq]
    have HR : Hid (decide (l = l') = false) := hid (decide_eq_false fun e => by have h1 := HL1.out; rw [e, HL2.out] at h1; injection h1 with h1; exact hq h1.symm)
    go_wp2_with fail
    go_ret
    exact ⟨ret_bool HR.out.symm, HX1.out⟩
  ·have HR : Hid (decide (l = l') = true) := hid (decide_eq_true (by have h1 := HS.out; rwa [List.take_of_length_le (by have := HA.out.len; omega), List.take_of_length_le (by have := HB.out.len; omega)] at h1))
   go_wp2_with fail
   go_ret
   exact ⟨ret_bool HR.out.symm, HX.out⟩
set_option linter.unusedVariables false
open Go.RowKit
theorem equalK_any {S T : Nat → Prop} (A B : Option Addr) (n c m d : Nat) (l l' : List (Ky)) (w : World) (hm : n ≤ maxLen) (hm' : m ≤ maxLen) (hA : ArrQ S w 2 KyQ A n l) (hB : ArrQ T w 2 KyQ B m l') :
  Calls Tryz.prog 150 #[.slice A n c, .slice B m d] w fun e w' => e = .returned (.bool (decide (l = l'))) ∧ Ext w w' := by
 unfold maxLen at hm hm'
 have HA := hid hA
 have HB := hid hB
 clear hA hB
 by_cases hnm : n = m; rotate_left
 ·have HR : Hid (decide (l = l') = false) := hid (decide_eq_false fun e => hnm (by rw [← HA.out.len, ← HB.out.len, e]))
  have hq : ¬ (n : Int) = (m : Int) := by omega
  go_enter Tryz.func150, Tryz.ntmps150
  go_wp2_with fail
  go_ret
  exact ⟨ret_bool HR.out.symm, Ext.refl _⟩
 subst hnm
 go_enter Tryz.func150, Tryz.ntmps150
 go_wp2_with fail
 go_loopw [13] (fun i wr => ∃ k : Nat, k ≤ n ∧ i = .int .i64 k ∧ Hid (l.take k = l'.take k) ∧ Hid (Ext w wr)) (fun i _ => n - (intOf i).toNat)
 case atStart => exact ⟨0, Nat.zero_le _, rfl, hid (by simp), hid (Ext.refl _)⟩
 case round =>
  obtain ⟨k, hk, rfl, HS, HX⟩ := hrel
  by_cases hlt : k < n
  ·obtain ⟨b, o, y, rfl, hbB, hSb, hlk, hsz, hc0, hc1⟩ := KeyL.at_ HA.out hlt
   obtain ⟨b2, o2, y2, rfl, hbC, hSc, hlm, hsy, he0, he1⟩ := KeyL.at_ HB.out hlt
   have HL1 := hid hlk
   have HL2 := hid hlm
   have i1 : (0 : Int) ≤ (k : Int) := by omega
   have i2 : (k : Int) < (n : Int) := by omega
   clear hlk hlm
   obtain ⟨y0, y1⟩ := y
   obtain ⟨z0, z1⟩ := y2
   simp only at hsz hsy hc0 he0 hc1 he1
   by_cases hq0 : y0 = z0
   ·subst hq0
    by_cases hs : y1 = z1
    ·subst hs
     go_wp2_with fail
     have s0 : ∀ w', Ext wr.drew w' → w'.cell? ⟨b, o + k * 2, none⟩ = some (.int .i64 y0) := fun w' hx => ((HX.out.trans ((Ext.refl wr).drew.trans hx)).cell hbB).trans hc0
     have p0 : ∀ w', Ext wr.drew w' → w'.cell? ⟨b2, o2 + k * 2, none⟩ = some (.int .i64 y0) := fun w' hx => ((HX.out.trans ((Ext.refl wr).drew.trans hx)).cell hbC).trans he0
     have s1 : ∀ w', Ext wr.drew w' → w'.cell? ⟨b, o + k * 2 + 1, none⟩ = some (.string y1) := fun w' hx => ((HX.out.trans ((Ext.refl wr).drew.trans hx)).cell hbB).trans hc1
     have p1 : ∀ w', Ext wr.drew w' → w'.cell? ⟨b2, o2 + k * 2 + 1, none⟩ = some (.string y1) := fun w' hx => ((HX.out.trans ((Ext.refl wr).drew.trans hx)).cell hbC).trans he1
     have hSw : Ext wr.drew wr.drew := Ext.refl _
     refine wpS_begin (Ext wr.drew) (by kernel_rfl) ?_
     refine wpS_tk 0 ?_ hSw rfl (fun w' hin => ?_) ?_; rotate_left
     ·go_simp <;> with_reducible rfl
     try simp only [lyr]
     refine wpS_tk 1 ?_ hSw rfl (fun w' hin => ?_) ?_; rotate_left
     ·go_simp <;> with_reducible rfl
     try simp only [lyr]
     refine wpS_tk 2 ?_ hSw rfl (fun w' hin => ?_) ?_; rotate_left
     ·go_simp <;> with_reducible rfl
     try simp only [lyr]
     refine wpS_tk 3 ?_ hSw rfl (fun w' hin => ?_) ?_; rotate_left
     ·go_simp <;> with_reducible rfl
     try simp only [lyr]
     refine wpS_tk 4 ?_ hSw rfl (fun w' hin => ?_) ?_; rotate_left
     ·go_simp <;> with_reducible rfl
     try simp only [lyr]
     refine wpS_tk 5 ?_ hSw rfl (fun w' hin => ?_) ?_; rotate_left
     ·go_simp <;> with_reducible rfl
     try simp only [lyr]
     refine wpS_tk 6 ?_ hSw rfl (fun w' hin => ?_) ?_; rotate_left
     ·go_simp <;> with_reducible rfl
     try simp only [lyr]
     refine wpS_tk 7 ?_ hSw rfl (fun w' hin => ?_) ?_; rotate_left
     ·go_simp <;> with_reducible rfl
     try simp only [lyr]
     refine wpS_tk 8 ?_ hSw rfl (fun w' hin => ?_) ?_; rotate_left
     ·go_simp <;> with_reducible rfl
     try simp only [lyr]
     refine wpS_done (by kernel_rfl) ?_
     clear s0 p0 s1 p1
     have HX1 : Hid (Ext w wr.drew) := hid HX.out.drew
     have HS2 : Hid (l.take (k + 1) = l'.take (k + 1)) := hid (by rw [take_snoc_of HL1.out, take_snoc_of HL2.out, HS.out])
     go_wp2_with fail
     go_roundw
     case rel => exact ⟨k + 1, by omega, by go_num, HS2, HX1⟩
     case measure => simp [intOf]; omega
    ·have hq : ¬ y1.toList = z1.toList := fun e => hs (tx_inj (by rw [← tx_toList, ← tx_toList]; exact e))
     have HR : Hid (decide (l = l') = false) := hid (decide_eq_false fun e => by have h1 := HL1.out; rw [e, HL2.out] at h1; injection h1 with h1; injection h1 with h1 h2; exact hs h2.symm)
     go_wp2_with fail
     have s0 : ∀ w', Ext wr.drew w' → w'.cell? ⟨b, o + k * 2, none⟩ = some (.int .i64 y0) := fun w' hx => ((HX.out.trans ((Ext.refl wr).drew.trans hx)).cell hbB).trans hc0
     have p0 : ∀ w', Ext wr.drew w' → w'.cell? ⟨b2, o2 + k * 2, none⟩ = some (.int .i64 y0) := fun w' hx => ((HX.out.trans ((Ext.refl wr).drew.trans hx)).cell hbC).trans he0
     have s1 : ∀ w', Ext wr.drew w' → w'.cell? ⟨b, o + k * 2 + 1, none⟩ = some (.string y1) := fun w' hx => ((HX.out.trans ((Ext.refl wr).drew.trans hx)).cell hbB).trans hc1
     have p1 : ∀ w', Ext wr.drew w' → w'.cell? ⟨b2, o2 + k * 2 + 1, none⟩ = some (.string z1) := fun w' hx => ((HX.out.trans ((Ext.refl wr).drew.trans hx)).cell hbC).trans he1
     have hSw : Ext wr.drew wr.drew := Ext.refl _
     refine wpS_begin (Ext wr.drew) (by kernel_rfl) ?_
     refine wpS_tk 0 ?_ hSw rfl (fun w' hin => ?_) ?_; rotate_left
     ·go_simp <;> with_reducible rfl
     try simp only [lyr]
     refine wpS_tk 1 ?_ hSw rfl (fun w' hin => ?_) ?_; rotate_left
     ·go_simp <;> with_reducible rfl
     try simp only [lyr]
     refine wpS_tk 2 ?_ hSw rfl (fun w' hin => ?_) ?_; rotate_left
     ·go_simp <;> with_reducible rfl
     try simp only [lyr]
     refine wpS_tk 3 ?_ hSw rfl (fun w' hin => ?_) ?_; rotate_left
     ·go_simp <;> with_reducible rfl
     try simp only [lyr]
     refine wpS_tk 4 ?_ hSw rfl (fun w' hin => ?_) ?_; rotate_left
     ·go_simp <;> with_reducible rfl
     try simp only [lyr]
     refine wpS_tk 5 ?_ hSw rfl (fun w' hin => ?_) ?_; rotate_left
     ·go_simp <;> with_reducible rfl
     try simp only [lyr]
     refine wpS_tk 6 ?_ hSw rfl (fun w' hin => ?_) ?_; rotate_left
     ·go_simp <;> with_reducible rfl
     try simp only [lyr]
     refine wpS_tk 7 ?_ hSw rfl (fun w' hin => ?_) ?_; rotate_left
     ·go_simp <;> with_reducible rfl
     try simp only [lyr]
     refine wpS_tk 8 ?_ hSw rfl (fun w' hin => ?_) ?_; rotate_left
     ·go_simp <;> with_reducible rfl
     try simp only [lyr]
     refine wpS_done (by kernel_rfl) ?_
     clear s0 p0 s1 p1
     go_wp2_with fail
     go_ret
     exact ⟨ret_bool HR.out.symm, HX.out.drew⟩
   ·have HR : Hid (decide (l = l') = false) := hid (decide_eq_false fun e => by have h1 := HL1.out; rw [e, HL2.out] at h1; injection h1 with h1; injection h1 with h1 h2; exact hq0 h1.symm)
    go_wp2_with fail
    have s0 : ∀ w', Ext wr.drew w' → w'.cell? ⟨b, o + k * 2, none⟩ = some (.int .i64 y0) := fun w' hx => ((HX.out.trans ((Ext.refl wr).drew.trans hx)).cell hbB).trans hc0
    have p0 : ∀ w', Ext wr.drew w' → w'.cell? ⟨b2, o2 + k * 2, none⟩ = some (.int .i64 z0) := fun w' hx => ((HX.out.trans ((Ext.refl wr).drew.trans hx)).cell hbC).trans he0
    have s1 : ∀ w', Ext wr.drew w' → w'.cell? ⟨b, o + k * 2 + 1, none⟩ = some (.string y1) := fun w' hx => ((HX.out.trans ((Ext.refl wr).drew.trans hx)).cell hbB).trans hc1
    have p1 : ∀ w', Ext wr.drew w' → w'.cell? ⟨b2, o2 + k * 2 + 1, none⟩ = some (.string z1) := fun w' hx => ((HX.out.trans ((Ext.refl wr).drew.trans hx)).cell hbC).trans he1
    have hSw : Ext wr.drew wr.drew := Ext.refl _
    refine wpS_begin (Ext wr.drew) (by kernel_rfl) ?_
    refine wpS_tk 0 ?_ hSw rfl (fun w' hin => ?_) ?_; rotate_left
    ·go_simp <;> with_reducible rfl
    try simp only [lyr]
    refine wpS_tk 1 ?_ hSw rfl (fun w' hin => ?_) ?_; rotate_left
    ·go_simp <;> with_reducible rfl
    try simp only [lyr]
    refine wpS_tk 2 ?_ hSw rfl (fun w' hin => ?_) ?_; rotate_left
    ·go_simp <;> with_reducible rfl
    try simp only [lyr]
    refine wpS_tk 3 ?_ hSw rfl (fun w' hin => ?_) ?_; rotate_left
    ·go_simp <;> with_reducible rfl
    try simp only [lyr]
    refine wpS_tk 4 ?_ hSw rfl (fun w' hin => ?_) ?_; rotate_left
    ·go_simp <;> with_reducible rfl
    try simp only [lyr]
    refine wpS_tk 5 ?_ hSw rfl (fun w' hin => ?_) ?_; rotate_left
    ·go_simp <;> with_reducible rfl
    try simp only [lyr]
    refine wpS_tk 6 ?_ hSw rfl (fun w' hin => ?_) ?_; rotate_left
    ·go_simp <;> with_reducible rfl
    try simp only [lyr]
    refine wpS_tk 7 ?_ hSw rfl (fun w' hin => ?_) ?_; rotate_left
    ·go_simp <;> with_reducible rfl
    try simp only [lyr]
    refine wpS_tk 8 ?_ hSw rfl (fun w' hin => ?_) ?_; rotate_left
    ·go_simp <;> with_reducible rfl
    try simp only [lyr]
    refine wpS_done (by kernel_rfl) ?_
    clear s0 p0 s1 p1
    go_wp2_with fail
    go_ret
    exact ⟨ret_bool HR.out.symm, HX.out.drew⟩
  ·have HR : Hid (decide (l = l') = true) := hid (decide_eq_true (by have h1 := HS.out; rwa [List.take_of_length_le (by have := HA.out.len; omega), List.take_of_length_le (by have := HB.out.len; omega)] at h1))
   go_wp2_with fail
   go_ret
   exact ⟨ret_bool HR.out.symm, HX.out⟩
end Go.Proofs.YtfdjbnofcniodaaGreatDoor
