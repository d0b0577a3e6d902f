/- What the document's Alike and Same of layer 3 compute. -/
import Derived.Test.YtfdjbnofcniodaaGreatDoorQRefAll
namespace Go.Proofs.YtfdjbnofcniodaaGreatDoor
open Lib (hid)
set_option maxHeartbeats 8000000
set_option maxRecDepth 100000
set_option linter.unusedVariables false
open Go.RowKit
theorem take_eq_snoc {α : Type} {l l' : List α} {k : Nat} {x : α} (h : l.take k = l'.take k) (hx : l[k]? = some x) (hy : l'[k]? = some x) : l.take (k + 1) = l'.take (k + 1) := by rw [take_snoc_of hx, take_snoc_of hy, h]
theorem ne_of_at {α : Type} {l l' : List α} {k : Nat} {x y : α} (hx : l[k]? = some x) (hy : l'[k]? = some y) (h : x ≠ y) : l ≠ l' := fun e => h (by rw [e, hy] at hx; injection hx with hx; exact hx.symm)
theorem eq_of_take {α : Type} {l l' : List α} {k : Nat} (h : l.take k = l'.take k) (hl : l.length ≤ k) (hl' : l'.length ≤ k) : l = l' := by rwa [List.take_of_length_le hl, List.take_of_length_le hl'] at h
theorem str_ne {s t : ByteArray} (h : ¬ s.toList = t.toList) : s ≠ t := fun e => h (by rw [e])
theorem str_eq {s t : ByteArray} (h : s.toList = t.toList) : s = t := tx_inj (by unfold tx; rw [← Lib.toList_data, ← Lib.toList_data]; exact h)
theorem refRules_dec (S S' : Nat → Prop) (l l' : List Rl) (A B : Option Addr) (n n' c d : Nat) (w : World) (hn : n ≤ maxLen) (hn' : n' ≤ maxLen) (hA : ArrQ S w 3 (RlQ S w) A n l) (hB : ArrQ S' w 3 (RlQ S' w) B n' l') :
  Calls Tryz.prog 153 #[.slice A n c, .slice B n' d] w fun e w' => e = .returned (.bool (decide (l = l'))) ∧ Ext w w' := by
 unfold maxLen at hn hn'
 have HA := hid hA
 have HB := hid hB
 clear hA hB
 obtain ⟨Z, hZ⟩ : ∃ Z, Z = decide (l = l') := ⟨_, rfl⟩
 rw [← hZ]
 have HZ := hid hZ
 clear hZ
 go_enter Tryz.func153, Tryz.ntmps153
 by_cases hnn : n = n'; rotate_left
 ·have HF : Hid (Z = false) := hid (by rw [HZ.out]; exact decide_eq_false (fun e => hnn (by rw [← HA.out.len, ← HB.out.len, e])))
  have i0 : ((n : Int) != (n' : Int)) = true := by rw [bne_iff_ne]; omega
  go_wp2_with fail
  go_ret
  exact ⟨ret_bool HF.out.symm, Ext.refl _⟩
 subst hnn
 go_wp2_with fail
 go_loopw [5] (fun i wr => ∃ k : Nat, k ≤ n ∧ i = .int .i64 k ∧ Hid (l.take k = l'.take k) ∧ Hid (Ext w wr)) (fun i _ => n - (intOf i).toNat)
 case atStart => exact ⟨0, Nat.zero_le _, by go_num, hid rfl, hid (Ext.refl _)⟩
 case round =>
  obtain ⟨k, hk, rfl, HT, HX⟩ := hrel
  by_cases hlt : k < n
  ·obtain ⟨b, o, x, C, m, e, rfl, hbB, -, hlk, hv, hc0, hc1, hc2⟩ := RlL.at_ HA.out hlt
   obtain ⟨b', o', x', C', m', e', rfl, hbB', -, hlk', hv', hc0', hc1', hc2'⟩ := RlL.at_ HB.out hlt
   have hm : m ≤ 9223372036854775807 := by have h1 := hv.sl.1; have h2 := hv.sl.2.1; unfold maxLen at h2; omega
   have hm' : m' ≤ 9223372036854775807 := by have h1 := hv'.sl.1; have h2 := hv'.sl.2.1; unfold maxLen at h2; omega
   have HV := hid hv
   have HV' := hid hv'
   have HC := hid hc2
   have HC' := hid hc2'
   have HLK := hid hlk
   have HLK' := hid hlk'
   obtain ⟨d0, d1, d2⟩ := al3 (S := Ext w) (fun w' h => h) hbB hc0 hc1 hc2
   have d0' : ∀ w', Ext w w' → w'.cell? ⟨b', o' + k * 3, none⟩ = some (.string x'.host) := fun w' h => (h.cell hbB').trans hc0'
   have d1' : ∀ w', Ext w w' → w'.cell? ⟨b', o' + k * 3 + 1, none⟩ = some (.string x'.pre) := fun w' h => (h.cell hbB').trans hc1'
   have d2' : ∀ w', Ext w w' → w'.cell? ⟨b', o' + k * 3 + 2, none⟩ = some (.slice C' m' e') := fun w' h => (h.cell hbB').trans hc2'
   have i1 : (0 : Int) ≤ (k : Int) := by omega
   have i2 : (k : Int) < (n : Int) := by omega
   clear hc0 hc1 hc2 hc0' hc1' hc2' hlk hlk' hv hv'
   by_cases g1 : x.host.toList = x'.host.toList; rotate_left
   ·have HF : Hid (Z = false) := hid (by rw [HZ.out]; exact decide_eq_false (ne_of_at HLK.out HLK'.out (fun e => g1 (by rw [e]))))
    have g1b : (x.host.toList == x'.host.toList) = false := by rw [beq_eq_false_iff_ne]; exact g1
    go_wp2_with fail
    have hSw : Ext w wr.drew := HX.out.drew
    refine wpS_begin (Ext w) (by kernel_rfl) ?_
    refine wpS_tk 0 ?_ hSw rfl (fun w' hin => ?_) ?_; rotate_left
    ·go_simp <;> with_reducible rfl
    try simp only [lyr]
    refine wpS_tk 1 ?_ hSw rfl (fun w' hin => ?_) ?_; rotate_left
    ·go_simp <;> with_reducible rfl
    try simp only [lyr]
    refine wpS_tk 2 ?_ hSw rfl (fun w' hin => ?_) ?_; rotate_left
    ·go_simp <;> with_reducible rfl
    try simp only [lyr]
    refine wpS_tk 3 ?_ hSw rfl (fun w' hin => ?_) ?_; rotate_left
    ·go_simp <;> with_reducible rfl
    try simp only [lyr]
    refine wpS_tk 4 ?_ hSw rfl (fun w' hin => ?_) ?_; rotate_left
    ·go_simp <;> with_reducible rfl
    try simp only [lyr]
    refine wpS_tk 5 ?_ hSw rfl (fun w' hin => ?_) ?_; rotate_left
    ·go_simp <;> with_reducible rfl
    try simp only [lyr]
    refine wpS_tk 6 ?_ hSw rfl (fun w' hin => ?_) ?_; rotate_left
    ·go_simp <;> with_reducible rfl
    try simp only [lyr]
    refine wpS_tk 7 ?_ hSw rfl (fun w' hin => ?_) ?_; rotate_left
    ·go_simp <;> with_reducible rfl
    try simp only [lyr]
    refine wpS_tk 8 ?_ hSw rfl (fun w' hin => ?_) ?_; rotate_left
    ·go_simp <;> with_reducible rfl
    try simp only [lyr]
    refine wpS_tk 9 ?_ hSw rfl (fun w' hin => ?_) ?_; rotate_left
    ·go_simp <;> with_reducible rfl
    try simp only [lyr]
    refine wpS_tk 10 ?_ hSw rfl (fun w' hin => ?_) ?_; rotate_left
    ·go_simp <;> with_reducible rfl
    try simp only [lyr]
    refine wpS_tk 11 ?_ hSw rfl (fun w' hin => ?_) ?_; rotate_left
    ·go_simp <;> with_reducible rfl
    try simp only [lyr]
    refine wpS_sk 12 hSw rfl ?_
    try simp only [lyr]
    refine wpS_sk 13 hSw rfl ?_
    try simp only [lyr]
    refine wpS_sk 14 hSw rfl ?_
    try simp only [lyr]
    refine wpS_sk 15 hSw rfl ?_
    try simp only [lyr]
    refine wpS_sk 16 hSw rfl ?_
    try simp only [lyr]
    refine wpS_sk 17 hSw rfl ?_
    try simp only [lyr]
    refine wpS_sk 18 hSw rfl ?_
    try simp only [lyr]
    refine wpS_sk 19 hSw rfl ?_
    try simp only [lyr]
    refine wpS_sk 20 hSw rfl ?_
    try simp only [lyr]
    refine wpS_sk 21 hSw rfl ?_
    try simp only [lyr]
    refine wpS_sk 22 hSw rfl ?_
    try simp only [lyr]
    refine wpS_tk 23 ?_ hSw rfl (fun w' hin => ?_) ?_; rotate_left
    ·go_simp <;> with_reducible rfl
    try simp only [lyr]
    refine wpS_tk 24 ?_ hSw rfl (fun w' hin => ?_) ?_; rotate_left
    ·go_simp <;> with_reducible rfl
    try simp only [lyr]
    refine wpS_sk 25 hSw rfl ?_
    try simp only [lyr]
    refine wpS_sk 26 hSw rfl ?_
    try simp only [lyr]
    refine wpS_sk 27 hSw rfl ?_
    try simp only [lyr]
    refine wpS_sk 28 hSw rfl ?_
    try simp only [lyr]
    refine wpS_sk 29 hSw rfl ?_
    try simp only [lyr]
    refine wpS_sk 30 hSw rfl ?_
    try simp only [lyr]
    refine wpS_sk 31 hSw rfl ?_
    try simp only [lyr]
    refine wpS_sk 32 hSw rfl ?_
    try simp only [lyr]
    refine wpS_sk 33 hSw rfl ?_
    try simp only [lyr]
    refine wpS_sk 34 hSw rfl ?_
    try simp only [lyr]
    refine wpS_sk 35 hSw rfl ?_
    try simp only [lyr]
    refine wpS_sk 36 hSw rfl ?_
    try simp only [lyr]
    refine wpS_sk 37 hSw rfl ?_
    try simp only [lyr]
    refine wpS_tk 38 ?_ hSw rfl (fun w' hin => ?_) ?_; rotate_left
    ·go_simp <;> with_reducible rfl
    try simp only [lyr]
    refine wpS_done (by kernel_rfl) ?_
    have HX2 := hid hSw
    clear d0 d1 d0' d1' d2 d2' hSw
    go_wp2_with fail
    go_ret
    exact ⟨ret_bool HF.out.symm, HX2.out⟩
   by_cases g2 : x.pre.toList = x'.pre.toList; rotate_left
   ·have HF : Hid (Z = false) := hid (by rw [HZ.out]; exact decide_eq_false (ne_of_at HLK.out HLK'.out (fun e => g2 (by rw [e]))))
    have g2b : (x.pre.toList == x'.pre.toList) = false := by rw [beq_eq_false_iff_ne]; exact g2
    go_wp2_with fail
    have hSw : Ext w wr.drew := HX.out.drew
    refine wpS_begin (Ext w) (by kernel_rfl) ?_
    refine wpS_tk 0 ?_ hSw rfl (fun w' hin => ?_) ?_; rotate_left
    ·go_simp <;> with_reducible rfl
    try simp only [lyr]
    refine wpS_tk 1 ?_ hSw rfl (fun w' hin => ?_) ?_; rotate_left
    ·go_simp <;> with_reducible rfl
    try simp only [lyr]
    refine wpS_tk 2 ?_ hSw rfl (fun w' hin => ?_) ?_; rotate_left
    ·go_simp <;> with_reducible rfl
    try simp only [lyr]
    refine wpS_tk 3 ?_ hSw rfl (fun w' hin => ?_) ?_; rotate_left
    ·go_simp <;> with_reducible rfl
    try simp only [lyr]
    refine wpS_tk 4 ?_ hSw rfl (fun w' hin => ?_) ?_; rotate_left
    ·go_simp <;> with_reducible rfl
    try simp only [lyr]
    refine wpS_tk 5 ?_ hSw rfl (fun w' hin => ?_) ?_; rotate_left
    ·go_simp <;> with_reducible rfl
    try simp only [lyr]
    refine wpS_tk 6 ?_ hSw rfl (fun w' hin => ?_) ?_; rotate_left
    ·go_simp <;> with_reducible rfl
    try simp only [lyr]
    refine wpS_tk 7 ?_ hSw rfl (fun w' hin => ?_) ?_; rotate_left
    ·go_simp <;> with_reducible rfl
    try simp only [lyr]
    refine wpS_tk 8 ?_ hSw rfl (fun w' hin => ?_) ?_; rotate_left
    ·go_simp <;> with_reducible rfl
    try simp only [lyr]
    refine wpS_tk 9 ?_ hSw rfl (fun w' hin => ?_) ?_; rotate_left
    ·go_simp <;> with_reducible rfl
    try simp only [lyr]
    refine wpS_tk 10 ?_ hSw rfl (fun w' hin => ?_) ?_; rotate_left
    ·go_simp <;> with_reducible rfl
    try simp only [lyr]
    refine wpS_tk 11 ?_ hSw rfl (fun w' hin => ?_) ?_; rotate_left
    ·go_simp <;> with_reducible rfl
    try simp only [lyr]
    refine wpS_tk 12 ?_ hSw rfl (fun w' hin => ?_) ?_; rotate_left
    ·go_simp <;> with_reducible rfl
    try simp only [lyr]
    refine wpS_tk 13 ?_ hSw rfl (fun w' hin => ?_) ?_; rotate_left
    ·go_simp <;> with_reducible rfl
    try simp only [lyr]
    refine wpS_tk 14 ?_ hSw rfl (fun w' hin => ?_) ?_; rotate_left
    ·go_simp <;> with_reducible rfl
    try simp only [lyr]
    refine wpS_tk 15 ?_ hSw rfl (fun w' hin => ?_) ?_; rotate_left
    ·go_simp <;> with_reducible rfl
    try simp only [lyr]
    refine wpS_tk 16 ?_ hSw rfl (fun w' hin => ?_) ?_; rotate_left
    ·go_simp <;> with_reducible rfl
    try simp only [lyr]
    refine wpS_tk 17 ?_ hSw rfl (fun w' hin => ?_) ?_; rotate_left
    ·go_simp <;> with_reducible rfl
    try simp only [lyr]
    refine wpS_tk 18 ?_ hSw rfl (fun w' hin => ?_) ?_; rotate_left
    ·go_simp <;> with_reducible rfl
    try simp only [lyr]
    refine wpS_tk 19 ?_ hSw rfl (fun w' hin => ?_) ?_; rotate_left
    ·go_simp <;> with_reducible rfl
    try simp only [lyr]
    refine wpS_tk 20 ?_ hSw rfl (fun w' hin => ?_) ?_; rotate_left
    ·go_simp <;> with_reducible rfl
    try simp only [lyr]
    refine wpS_tk 21 ?_ hSw rfl (fun w' hin => ?_) ?_; rotate_left
    ·go_simp <;> with_reducible rfl
    try simp only [lyr]
    refine wpS_tk 22 ?_ hSw rfl (fun w' hin => ?_) ?_; rotate_left
    ·go_simp <;> with_reducible rfl
    try simp only [lyr]
    refine wpS_tk 23 ?_ hSw rfl (fun w' hin => ?_) ?_; rotate_left
    ·go_simp <;> with_reducible rfl
    try simp only [lyr]
    refine wpS_tk 24 ?_ hSw rfl (fun w' hin => ?_) ?_; rotate_left
    ·go_simp <;> with_reducible rfl
    try simp only [lyr]
    refine wpS_sk 25 hSw rfl ?_
    try simp only [lyr]
    refine wpS_sk 26 hSw rfl ?_
    try simp only [lyr]
    refine wpS_sk 27 hSw rfl ?_
    try simp only [lyr]
    refine wpS_sk 28 hSw rfl ?_
    try simp only [lyr]
    refine wpS_sk 29 hSw rfl ?_
    try simp only [lyr]
    refine wpS_sk 30 hSw rfl ?_
    try simp only [lyr]
    refine wpS_sk 31 hSw rfl ?_
    try simp only [lyr]
    refine wpS_sk 32 hSw rfl ?_
    try simp only [lyr]
    refine wpS_sk 33 hSw rfl ?_
    try simp only [lyr]
    refine wpS_sk 34 hSw rfl ?_
    try simp only [lyr]
    refine wpS_sk 35 hSw rfl ?_
    try simp only [lyr]
    refine wpS_sk 36 hSw rfl ?_
    try simp only [lyr]
    refine wpS_sk 37 hSw rfl ?_
    try simp only [lyr]
    refine wpS_tk 38 ?_ hSw rfl (fun w' hin => ?_) ?_; rotate_left
    ·go_simp <;> with_reducible rfl
    try simp only [lyr]
    refine wpS_done (by kernel_rfl) ?_
    have HX2 := hid hSw
    clear d0 d1 d0' d1' d2 d2' hSw
    go_wp2_with fail
    go_ret
    exact ⟨ret_bool HF.out.symm, HX2.out⟩
   by_cases g3 : m = m'; rotate_left
   ·have HF : Hid (Z = false) := hid (by rw [HZ.out]; exact decide_eq_false (ne_of_at HLK.out HLK'.out (fun e => g3 (by rw [← HV.out.arr.len, ← HV'.out.arr.len, e]))))
    have g3b : ((m : Int) != (m' : Int)) = true := by rw [bne_iff_ne]; omega
    go_wp2_with fail
    have hSw : Ext w wr.drew := HX.out.drew
    refine wpS_begin (Ext w) (by kernel_rfl) ?_
    refine wpS_tk 0 ?_ hSw rfl (fun w' hin => ?_) ?_; rotate_left
    ·go_simp <;> with_reducible rfl
    try simp only [lyr]
    refine wpS_tk 1 ?_ hSw rfl (fun w' hin => ?_) ?_; rotate_left
    ·go_simp <;> with_reducible rfl
    try simp only [lyr]
    refine wpS_tk 2 ?_ hSw rfl (fun w' hin => ?_) ?_; rotate_left
    ·go_simp <;> with_reducible rfl
    try simp only [lyr]
    refine wpS_tk 3 ?_ hSw rfl (fun w' hin => ?_) ?_; rotate_left
    ·go_simp <;> with_reducible rfl
    try simp only [lyr]
    refine wpS_tk 4 ?_ hSw rfl (fun w' hin => ?_) ?_; rotate_left
    ·go_simp <;> with_reducible rfl
    try simp only [lyr]
    refine wpS_tk 5 ?_ hSw rfl (fun w' hin => ?_) ?_; rotate_left
    ·go_simp <;> with_reducible rfl
    try simp only [lyr]
    refine wpS_tk 6 ?_ hSw rfl (fun w' hin => ?_) ?_; rotate_left
    ·go_simp <;> with_reducible rfl
    try simp only [lyr]
    refine wpS_tk 7 ?_ hSw rfl (fun w' hin => ?_) ?_; rotate_left
    ·go_simp <;> with_reducible rfl
    try simp only [lyr]
    refine wpS_tk 8 ?_ hSw rfl (fun w' hin => ?_) ?_; rotate_left
    ·go_simp <;> with_reducible rfl
    try simp only [lyr]
    refine wpS_tk 9 ?_ hSw rfl (fun w' hin => ?_) ?_; rotate_left
    ·go_simp <;> with_reducible rfl
    try simp only [lyr]
    refine wpS_tk 10 ?_ hSw rfl (fun w' hin => ?_) ?_; rotate_left
    ·go_simp <;> with_reducible rfl
    try simp only [lyr]
    refine wpS_tk 11 ?_ hSw rfl (fun w' hin => ?_) ?_; rotate_left
    ·go_simp <;> with_reducible rfl
    try simp only [lyr]
    refine wpS_tk 12 ?_ hSw rfl (fun w' hin => ?_) ?_; rotate_left
    ·go_simp <;> with_reducible rfl
    try simp only [lyr]
    refine wpS_tk 13 ?_ hSw rfl (fun w' hin => ?_) ?_; rotate_left
    ·go_simp <;> with_reducible rfl
    try simp only [lyr]
    refine wpS_tk 14 ?_ hSw rfl (fun w' hin => ?_) ?_; rotate_left
    ·go_simp <;> with_reducible rfl
    try simp only [lyr]
    refine wpS_tk 15 ?_ hSw rfl (fun w' hin => ?_) ?_; rotate_left
    ·go_simp <;> with_reducible rfl
    try simp only [lyr]
    refine wpS_tk 16 ?_ hSw rfl (fun w' hin => ?_) ?_; rotate_left
    ·go_simp <;> with_reducible rfl
    try simp only [lyr]
    refine wpS_tk 17 ?_ hSw rfl (fun w' hin => ?_) ?_; rotate_left
    ·go_simp <;> with_reducible rfl
    try simp only [lyr]
    refine wpS_tk 18 ?_ hSw rfl (fun w' hin => ?_) ?_; rotate_left
    ·go_simp <;> with_reducible rfl
    try simp only [lyr]
    refine wpS_tk 19 ?_ hSw rfl (fun w' hin => ?_) ?_; rotate_left
    ·go_simp <;> with_reducible rfl
    try simp only [lyr]
    refine wpS_tk 20 ?_ hSw rfl (fun w' hin => ?_) ?_; rotate_left
    ·go_simp <;> with_reducible rfl
    try simp only [lyr]
    refine wpS_tk 21 ?_ hSw rfl (fun w' hin => ?_) ?_; rotate_left
    ·go_simp <;> with_reducible rfl
    try simp only [lyr]
    refine wpS_tk 22 ?_ hSw rfl (fun w' hin => ?_) ?_; rotate_left
    ·go_simp <;> with_reducible rfl
    try simp only [lyr]
    refine wpS_tk 23 ?_ hSw rfl (fun w' hin => ?_) ?_; rotate_left
    ·go_simp <;> with_reducible rfl
    try simp only [lyr]
    refine wpS_tk 24 ?_ hSw rfl (fun w' hin => ?_) ?_; rotate_left
    ·go_simp <;> with_reducible rfl
    try simp only [lyr]
    refine wpS_tk 25 ?_ hSw rfl (fun w' hin => ?_) ?_; rotate_left
    ·go_simp <;> with_reducible rfl
    try simp only [lyr]
    refine wpS_tk 26 ?_ hSw rfl (fun w' hin => ?_) ?_; rotate_left
    ·go_simp <;> with_reducible rfl
    try simp only [lyr]
    refine wpS_tk 27 ?_ hSw rfl (fun w' hin => ?_) ?_; rotate_left
    ·go_simp <;> with_reducible rfl
    try simp only [lyr]
    refine wpS_tk 28 ?_ hSw rfl (fun w' hin => ?_) ?_; rotate_left
    ·go_simp <;> with_reducible rfl
    try simp only [lyr]
    refine wpS_tk 29 ?_ hSw rfl (fun w' hin => ?_) ?_; rotate_left
    ·go_simp <;> with_reducible rfl
    try simp only [lyr]
    refine wpS_tk 30 ?_ hSw rfl (fun w' hin => ?_) ?_; rotate_left
    ·go_simp <;> with_reducible rfl
    try simp only [lyr]
    refine wpS_tk 31 ?_ hSw rfl (fun w' hin => ?_) ?_; rotate_left
    ·go_simp <;> with_reducible rfl
    try simp only [lyr]
    refine wpS_tk 32 ?_ hSw rfl (fun w' hin => ?_) ?_; rotate_left
    ·go_simp <;> with_reducible rfl
    try simp only [lyr]
    refine wpS_tk 33 ?_ hSw rfl (fun w' hin => ?_) ?_; rotate_left
    ·go_simp <;> with_reducible rfl
    try simp only [lyr]
    refine wpS_tk 34 ?_ hSw rfl (fun w' hin => ?_) ?_; rotate_left
    ·go_simp <;> with_reducible rfl
    try simp only [lyr]
    refine wpS_tk 35 ?_ hSw rfl (fun w' hin => ?_) ?_; rotate_left
    ·go_simp <;> with_reducible rfl
    try simp only [lyr]
    refine wpS_tk 36 ?_ hSw rfl (fun w' hin => ?_) ?_; rotate_left
    ·go_simp <;> with_reducible rfl
    try simp only [lyr]
    refine wpS_tk 37 ?_ hSw rfl (fun w' hin => ?_) ?_; rotate_left
    ·go_simp <;> with_reducible rfl
    try simp only [lyr]
    refine wpS_tk 38 ?_ hSw rfl (fun w' hin => ?_) ?_; rotate_left
    ·go_simp <;> with_reducible rfl
    try simp only [lyr]
    refine wpS_done (by kernel_rfl) ?_
    have HX2 := hid hSw
    clear d0 d1 d0' d1' d2 d2' hSw
    go_wp2_with fail
    go_ret
    exact ⟨ret_bool HF.out.symm, HX2.out⟩
   subst g3
   have HG1 := hid g1
   have HG2 := hid g2
   go_wp2_with fail
   have hSw : Ext w wr.drew := HX.out.drew
   refine wpS_begin (Ext w) (by kernel_rfl) ?_
   refine wpS_tk 0 ?_ hSw rfl (fun w' hin => ?_) ?_; rotate_left
   ·go_simp <;> with_reducible rfl
   try simp only [lyr]
   refine wpS_tk 1 ?_ hSw rfl (fun w' hin => ?_) ?_; rotate_left
   ·go_simp <;> with_reducible rfl
   try simp only [lyr]
   refine wpS_tk 2 ?_ hSw rfl (fun w' hin => ?_) ?_; rotate_left
   ·go_simp <;> with_reducible rfl
   try simp only [lyr]
   refine wpS_tk 3 ?_ hSw rfl (fun w' hin => ?_) ?_; rotate_left
   ·go_simp <;> with_reducible rfl
   try simp only [lyr]
   refine wpS_tk 4 ?_ hSw rfl (fun w' hin => ?_) ?_; rotate_left
   ·go_simp <;> with_reducible rfl
   try simp only [lyr]
   refine wpS_tk 5 ?_ hSw rfl (fun w' hin => ?_) ?_; rotate_left
   ·go_simp <;> with_reducible rfl
   try simp only [lyr]
   refine wpS_tk 6 ?_ hSw rfl (fun w' hin => ?_) ?_; rotate_left
   ·go_simp <;> with_reducible rfl
   try simp only [lyr]
   refine wpS_tk 7 ?_ hSw rfl (fun w' hin => ?_) ?_; rotate_left
   ·go_simp <;> with_reducible rfl
   try simp only [lyr]
   refine wpS_tk 8 ?_ hSw rfl (fun w' hin => ?_) ?_; rotate_left
   ·go_simp <;> with_reducible rfl
   try simp only [lyr]
   refine wpS_tk 9 ?_ hSw rfl (fun w' hin => ?_) ?_; rotate_left
   ·go_simp <;> with_reducible rfl
   try simp only [lyr]
   refine wpS_tk 10 ?_ hSw rfl (fun w' hin => ?_) ?_; rotate_left
   ·go_simp <;> with_reducible rfl
   try simp only [lyr]
   refine wpS_tk 11 ?_ hSw rfl (fun w' hin => ?_) ?_; rotate_left
   ·go_simp <;> with_reducible rfl
   try simp only [lyr]
   refine wpS_tk 12 ?_ hSw rfl (fun w' hin => ?_) ?_; rotate_left
   ·go_simp <;> with_reducible rfl
   try simp only [lyr]
   refine wpS_tk 13 ?_ hSw rfl (fun w' hin => ?_) ?_; rotate_left
   ·go_simp <;> with_reducible rfl
   try simp only [lyr]
   refine wpS_tk 14 ?_ hSw rfl (fun w' hin => ?_) ?_; rotate_left
   ·go_simp <;> with_reducible rfl
   try simp only [lyr]
   refine wpS_tk 15 ?_ hSw rfl (fun w' hin => ?_) ?_; rotate_left
   ·go_simp <;> with_reducible rfl
   try simp only [lyr]
   refine wpS_tk 16 ?_ hSw rfl (fun w' hin => ?_) ?_; rotate_left
   ·go_simp <;> with_reducible rfl
   try simp only [lyr]
   refine wpS_tk 17 ?_ hSw rfl (fun w' hin => ?_) ?_; rotate_left
   ·go_simp <;> with_reducible rfl
   try simp only [lyr]
   refine wpS_tk 18 ?_ hSw rfl (fun w' hin => ?_) ?_; rotate_left
   ·go_simp <;> with_reducible rfl
   try simp only [lyr]
   refine wpS_tk 19 ?_ hSw rfl (fun w' hin => ?_) ?_; rotate_left
   ·go_simp <;> with_reducible rfl
   try simp only [lyr]
   refine wpS_tk 20 ?_ hSw rfl (fun w' hin => ?_) ?_; rotate_left
   ·go_simp <;> with_reducible rfl
   try simp only [lyr]
   refine wpS_tk 21 ?_ hSw rfl (fun w' hin => ?_) ?_; rotate_left
   ·go_simp <;> with_reducible rfl
   try simp only [lyr]
   refine wpS_tk 22 ?_ hSw rfl (fun w' hin => ?_) ?_; rotate_left
   ·go_simp <;> with_reducible rfl
   try simp only [lyr]
   refine wpS_tk 23 ?_ hSw rfl (fun w' hin => ?_) ?_; rotate_left
   ·go_simp <;> with_reducible rfl
   try simp only [lyr]
   refine wpS_tk 24 ?_ hSw rfl (fun w' hin => ?_) ?_; rotate_left
   ·go_simp <;> with_reducible rfl
   try simp only [lyr]
   refine wpS_tk 25 ?_ hSw rfl (fun w' hin => ?_) ?_; rotate_left
   ·go_simp <;> with_reducible rfl
   try simp only [lyr]
   refine wpS_tk 26 ?_ hSw rfl (fun w' hin => ?_) ?_; rotate_left
   ·go_simp <;> with_reducible rfl
   try simp only [lyr]
   refine wpS_tk 27 ?_ hSw rfl (fun w' hin => ?_) ?_; rotate_left
   ·go_simp <;> with_reducible rfl
   try simp only [lyr]
   refine wpS_tk 28 ?_ hSw rfl (fun w' hin => ?_) ?_; rotate_left
   ·go_simp <;> with_reducible rfl
   try simp only [lyr]
   refine wpS_tk 29 ?_ hSw rfl (fun w' hin => ?_) ?_; rotate_left
   ·go_simp <;> with_reducible rfl
   try simp only [lyr]
   refine wpS_tk 30 ?_ hSw rfl (fun w' hin => ?_) ?_; rotate_left
   ·go_simp <;> with_reducible rfl
   try simp only [lyr]
   refine wpS_tk 31 ?_ hSw rfl (fun w' hin => ?_) ?_; rotate_left
   ·go_simp <;> with_reducible rfl
   try simp only [lyr]
   refine wpS_tk 32 ?_ hSw rfl (fun w' hin => ?_) ?_; rotate_left
   ·go_simp <;> with_reducible rfl
   try simp only [lyr]
   refine wpS_tk 33 ?_ hSw rfl (fun w' hin => ?_) ?_; rotate_left
   ·go_simp <;> with_reducible rfl
   try simp only [lyr]
   refine wpS_tk 34 ?_ hSw rfl (fun w' hin => ?_) ?_; rotate_left
   ·go_simp <;> with_reducible rfl
   try simp only [lyr]
   refine wpS_tk 35 ?_ hSw rfl (fun w' hin => ?_) ?_; rotate_left
   ·go_simp <;> with_reducible rfl
   try simp only [lyr]
   refine wpS_tk 36 ?_ hSw rfl (fun w' hin => ?_) ?_; rotate_left
   ·go_simp <;> with_reducible rfl
   try simp only [lyr]
   refine wpS_tk 37 ?_ hSw rfl (fun w' hin => ?_) ?_; rotate_left
   ·go_simp <;> with_reducible rfl
   try simp only [lyr]
   refine wpS_tk 38 ?_ hSw rfl (fun w' hin => ?_) ?_; rotate_left
   ·go_simp <;> with_reducible rfl
   try simp only [lyr]
   refine wpS_done (by kernel_rfl) ?_
   have HX2 := hid hSw
   clear g1 g2 d0 d1 d0' d1' hSw
   go_wp2_with fail
   go_loopw [6] (fun j wj => ∃ q : Nat, q ≤ m ∧ j = .int .i64 q ∧ Hid (x.ws.take q = x'.ws.take q) ∧ Hid (Ext w wj)) (fun j _ => m - (intOf j).toNat)
   case atStart => exact ⟨0, Nat.zero_le _, by go_num, hid rfl, HX2⟩
   case round =>
    obtain ⟨q, hq, rfl, HQ, HY⟩ := hrel
    have t2 : wr.cell? ⟨b, o + k * 3 + 2, none⟩ = some (.slice C m e) := d2 wr HY.out
    by_cases hlq : q < m
    ·obtain ⟨b1, o1, s, y, rfl, hbB1, -, hl1, -, hd0, hd1⟩ := WtL.at_ HV.out.arr hlq
     obtain ⟨b2, o2, s', y', rfl, hbB2, -, hl2, -, hd0', hd1'⟩ := WtL.at_ HV'.out.arr hlq
     obtain ⟨f0, f1⟩ := al2 (S := Ext w) (fun w' h => h) hbB1 hd0 hd1
     have f0' : ∀ w', Ext w w' → w'.cell? ⟨b2, o2 + q * 2, none⟩ = some (.string s') := fun w' h => (h.cell hbB2).trans hd0'
     have f1' : ∀ w', Ext w w' → w'.cell? ⟨b2, o2 + q * 2 + 1, none⟩ = some (.int .i64 y') := fun w' h => (h.cell hbB2).trans hd1'
     have HL1 := hid hl1
     have HL2 := hid hl2
     have j1 : (0 : Int) ≤ (q : Int) := by omega
     have j2 : (q : Int) < (m : Int) := by omega
     clear hd0 hd1 hd0' hd1' hl1 hl2
     by_cases c1 : s.toList = s'.toList
     ·by_cases c2 : y = y'
      ·have HQ2 : Hid (x.ws.take (q + 1) = x'.ws.take (q + 1)) := hid (take_eq_snoc HQ.out HL1.out (by rw [HL2.out, str_eq c1, c2]))
       subst c2
       go_wp2_with fail
       have hSw : Ext w wr.drew := HY.out.drew
       refine wpS_begin (Ext w) (by kernel_rfl) ?_
       refine wpS_tk 0 ?_ hSw rfl (fun w' hin => ?_) ?_; rotate_left
       ·go_simp <;> with_reducible rfl
       try simp only [lyr]
       refine wpS_tk 1 ?_ hSw rfl (fun w' hin => ?_) ?_; rotate_left
       ·go_simp <;> with_reducible rfl
       try simp only [lyr]
       refine wpS_tk 2 ?_ hSw rfl (fun w' hin => ?_) ?_; rotate_left
       ·go_simp <;> with_reducible rfl
       try simp only [lyr]
       refine wpS_tk 3 ?_ hSw rfl (fun w' hin => ?_) ?_; rotate_left
       ·go_simp <;> with_reducible rfl
       try simp only [lyr]
       refine wpS_tk 4 ?_ hSw rfl (fun w' hin => ?_) ?_; rotate_left
       ·go_simp <;> with_reducible rfl
       try simp only [lyr]
       refine wpS_tk 5 ?_ hSw rfl (fun w' hin => ?_) ?_; rotate_left
       ·go_simp <;> with_reducible rfl
       try simp only [lyr]
       refine wpS_tk 6 ?_ hSw rfl (fun w' hin => ?_) ?_; rotate_left
       ·go_simp <;> with_reducible rfl
       try simp only [lyr]
       refine wpS_tk 7 ?_ hSw rfl (fun w' hin => ?_) ?_; rotate_left
       ·go_simp <;> with_reducible rfl
       try simp only [lyr]
       refine wpS_tk 8 ?_ hSw rfl (fun w' hin => ?_) ?_; rotate_left
       ·go_simp <;> with_reducible rfl
       try simp only [lyr]
       refine wpS_tk 9 ?_ hSw rfl (fun w' hin => ?_) ?_; rotate_left
       ·go_simp <;> with_reducible rfl
       try simp only [lyr]
       refine wpS_tk 10 ?_ hSw rfl (fun w' hin => ?_) ?_; rotate_left
       ·go_simp <;> with_reducible rfl
       try simp only [lyr]
       refine wpS_tk 11 ?_ hSw rfl (fun w' hin => ?_) ?_; rotate_left
       ·go_simp <;> with_reducible rfl
       try simp only [lyr]
       refine wpS_tk 12 ?_ hSw rfl (fun w' hin => ?_) ?_; rotate_left
       ·go_simp <;> with_reducible rfl
       try simp only [lyr]
       refine wpS_tk 13 ?_ hSw rfl (fun w' hin => ?_) ?_; rotate_left
       ·go_simp <;> with_reducible rfl
       try simp only [lyr]
       refine wpS_tk 14 ?_ hSw rfl (fun w' hin => ?_) ?_; rotate_left
       ·go_simp <;> with_reducible rfl
       try simp only [lyr]
       refine wpS_tk 15 ?_ hSw rfl (fun w' hin => ?_) ?_; rotate_left
       ·go_simp <;> with_reducible rfl
       try simp only [lyr]
       refine wpS_tk 16 ?_ hSw rfl (fun w' hin => ?_) ?_; rotate_left
       ·go_simp <;> with_reducible rfl
       try simp only [lyr]
       refine wpS_done (by kernel_rfl) ?_
       have HY2 := hid hSw
       clear f0 f1 f0' f1' hSw
       go_wp2_with fail
       go_roundw
       case rel => exact ⟨q + 1, by omega, by go_num, HQ2, HY2⟩
       case measure => simp [intOf]; omega
      ·have HF : Hid (Z = false) := hid (by rw [HZ.out]; exact decide_eq_false (ne_of_at HLK.out HLK'.out (fun e => (ne_of_at HL1.out HL2.out (fun e2 => c2 (by injection e2))) (by rw [e]))))
       go_wp2_with fail
       have hSw : Ext w wr.drew := HY.out.drew
       refine wpS_begin (Ext w) (by kernel_rfl) ?_
       refine wpS_tk 0 ?_ hSw rfl (fun w' hin => ?_) ?_; rotate_left
       ·go_simp <;> with_reducible rfl
       try simp only [lyr]
       refine wpS_tk 1 ?_ hSw rfl (fun w' hin => ?_) ?_; rotate_left
       ·go_simp <;> with_reducible rfl
       try simp only [lyr]
       refine wpS_tk 2 ?_ hSw rfl (fun w' hin => ?_) ?_; rotate_left
       ·go_simp <;> with_reducible rfl
       try simp only [lyr]
       refine wpS_tk 3 ?_ hSw rfl (fun w' hin => ?_) ?_; rotate_left
       ·go_simp <;> with_reducible rfl
       try simp only [lyr]
       refine wpS_tk 4 ?_ hSw rfl (fun w' hin => ?_) ?_; rotate_left
       ·go_simp <;> with_reducible rfl
       try simp only [lyr]
       refine wpS_tk 5 ?_ hSw rfl (fun w' hin => ?_) ?_; rotate_left
       ·go_simp <;> with_reducible rfl
       try simp only [lyr]
       refine wpS_tk 6 ?_ hSw rfl (fun w' hin => ?_) ?_; rotate_left
       ·go_simp <;> with_reducible rfl
       try simp only [lyr]
       refine wpS_tk 7 ?_ hSw rfl (fun w' hin => ?_) ?_; rotate_left
       ·go_simp <;> with_reducible rfl
       try simp only [lyr]
       refine wpS_tk 8 ?_ hSw rfl (fun w' hin => ?_) ?_; rotate_left
       ·go_simp <;> with_reducible rfl
       try simp only [lyr]
       refine wpS_tk 9 ?_ hSw rfl (fun w' hin => ?_) ?_; rotate_left
       ·go_simp <;> with_reducible rfl
       try simp only [lyr]
       refine wpS_tk 10 ?_ hSw rfl (fun w' hin => ?_) ?_; rotate_left
       ·go_simp <;> with_reducible rfl
       try simp only [lyr]
       refine wpS_tk 11 ?_ hSw rfl (fun w' hin => ?_) ?_; rotate_left
       ·go_simp <;> with_reducible rfl
       try simp only [lyr]
       refine wpS_tk 12 ?_ hSw rfl (fun w' hin => ?_) ?_; rotate_left
       ·go_simp <;> with_reducible rfl
       try simp only [lyr]
       refine wpS_tk 13 ?_ hSw rfl (fun w' hin => ?_) ?_; rotate_left
       ·go_simp <;> with_reducible rfl
       try simp only [lyr]
       refine wpS_tk 14 ?_ hSw rfl (fun w' hin => ?_) ?_; rotate_left
       ·go_simp <;> with_reducible rfl
       try simp only [lyr]
       refine wpS_tk 15 ?_ hSw rfl (fun w' hin => ?_) ?_; rotate_left
       ·go_simp <;> with_reducible rfl
       try simp only [lyr]
       refine wpS_tk 16 ?_ hSw rfl (fun w' hin => ?_) ?_; rotate_left
       ·go_simp <;> with_reducible rfl
       try simp only [lyr]
       refine wpS_done (by kernel_rfl) ?_
       have HY2 := hid hSw
       clear f0 f1 f0' f1' hSw
       go_wp2_with fail
       go_ret
       exact ⟨ret_bool HF.out.symm, HY2.out⟩
     ·have HF : Hid (Z = false) := hid (by rw [HZ.out]; exact decide_eq_false (ne_of_at HLK.out HLK'.out (fun e => (ne_of_at HL1.out HL2.out (fun e2 => str_ne c1 (by injection e2))) (by rw [e]))))
      go_wp2_with fail
      have hSw : Ext w wr.drew := HY.out.drew
      refine wpS_begin (Ext w) (by kernel_rfl) ?_
      refine wpS_tk 0 ?_ hSw rfl (fun w' hin => ?_) ?_; rotate_left
      ·go_simp <;> with_reducible rfl
      try simp only [lyr]
      refine wpS_tk 1 ?_ hSw rfl (fun w' hin => ?_) ?_; rotate_left
      ·go_simp <;> with_reducible rfl
      try simp only [lyr]
      refine wpS_tk 2 ?_ hSw rfl (fun w' hin => ?_) ?_; rotate_left
      ·go_simp <;> with_reducible rfl
      try simp only [lyr]
      refine wpS_tk 3 ?_ hSw rfl (fun w' hin => ?_) ?_; rotate_left
      ·go_simp <;> with_reducible rfl
      try simp only [lyr]
      refine wpS_tk 4 ?_ hSw rfl (fun w' hin => ?_) ?_; rotate_left
      ·go_simp <;> with_reducible rfl
      try simp only [lyr]
      refine wpS_tk 5 ?_ hSw rfl (fun w' hin => ?_) ?_; rotate_left
      ·go_simp <;> with_reducible rfl
      try simp only [lyr]
      refine wpS_tk 6 ?_ hSw rfl (fun w' hin => ?_) ?_; rotate_left
      ·go_simp <;> with_reducible rfl
      try simp only [lyr]
      refine wpS_tk 7 ?_ hSw rfl (fun w' hin => ?_) ?_; rotate_left
      ·go_simp <;> with_reducible rfl
      try simp only [lyr]
      refine wpS_tk 8 ?_ hSw rfl (fun w' hin => ?_) ?_; rotate_left
      ·go_simp <;> with_reducible rfl
      try simp only [lyr]
      refine wpS_tk 9 ?_ hSw rfl (fun w' hin => ?_) ?_; rotate_left
      ·go_simp <;> with_reducible rfl
      try simp only [lyr]
      refine wpS_tk 10 ?_ hSw rfl (fun w' hin => ?_) ?_; rotate_left
      ·go_simp <;> with_reducible rfl
      try simp only [lyr]
      refine wpS_tk 11 ?_ hSw rfl (fun w' hin => ?_) ?_; rotate_left
      ·go_simp <;> with_reducible rfl
      try simp only [lyr]
      refine wpS_tk 12 ?_ hSw rfl (fun w' hin => ?_) ?_; rotate_left
      ·go_simp <;> with_reducible rfl
      try simp only [lyr]
      refine wpS_tk 13 ?_ hSw rfl (fun w' hin => ?_) ?_; rotate_left
      ·go_simp <;> with_reducible rfl
      try simp only [lyr]
      refine wpS_tk 14 ?_ hSw rfl (fun w' hin => ?_) ?_; rotate_left
      ·go_simp <;> with_reducible rfl
      try simp only [lyr]
      refine wpS_tk 15 ?_ hSw rfl (fun w' hin => ?_) ?_; rotate_left
      ·go_simp <;> with_reducible rfl
      try simp only [lyr]
      refine wpS_tk 16 ?_ hSw rfl (fun w' hin => ?_) ?_; rotate_left
      ·go_simp <;> with_reducible rfl
      try simp only [lyr]
      refine wpS_done (by kernel_rfl) ?_
      have HY2 := hid hSw
      clear f0 f1 f0' f1' hSw
      go_wp2_with fail
      go_ret
      exact ⟨ret_bool HF.out.symm, HY2.out⟩
    ·have HT2 : Hid (l.take (k + 1) = l'.take (k + 1)) := hid (take_eq_snoc HT.out HLK.out (by
      rw [HLK'.out]
      have hw := eq_of_take HQ.out (by have := HV.out.arr.len; omega) (by have := HV'.out.arr.len; omega)
      cases x; cases x'
      simp only at hw HG1 HG2
      rw [hw, str_eq HG1.out, str_eq HG2.out]))
     go_wp2_with fail
     go_roundw
     case rel => exact ⟨k + 1, by omega, by go_num, HT2, HY⟩
     case measure => simp [intOf]; omega
  ·have HF : Hid (Z = true) := hid (by rw [HZ.out]; exact decide_eq_true (eq_of_take HT.out (by have := HA.out.len; omega) (by have := HB.out.len; omega)))
   have i2 : ¬ (k : Int) < (n : Int) := by omega
   go_wp2_with fail
   go_ret
   exact ⟨ret_bool HF.out.symm, HX.out⟩
set_option linter.unusedVariables false
open Go.RowKit
theorem refAlike_dec (S S' : Nat → Prop) (r q : Rs) (A A' : Option Addr) (n c n' c' : Nat) (B B' : Option Addr) (m d m' d' : Nat) (w : World) (hA : RsV S w r A n c A' n' c') (hB : RsV S' w q B m d B' m' d') :
  Calls Tryz.prog 74 #[rsVal r A n c A' n' c', rsVal q B m d B' m' d'] w fun e w' => e = .returned (.bool (alikeR r q)) ∧ Ext w w' := by
 have HA := hid hA
 have HB := hid hB
 have hm : n' ≤ 9223372036854775807 := by have h1 := hA.sl'.1; have h2 := hA.sl'.2.1; unfold maxLen at h2; omega
 have hm2 : m' ≤ 9223372036854775807 := by have h1 := hB.sl'.1; have h2 := hB.sl'.2.1; unfold maxLen at h2; omega
 clear hA hB
 have HZ0 : Hid (alikeR r q = (decide (r.kind = q.kind ∧ r.name = q.name) && decide (r.port = q.port) && decide (r.to = q.to) && decide (r.hosts = q.hosts) && decide (r.rules = q.rules))) := hid (by
  unfold alikeR Rs.key; congr 4; rw [Bool.eq_iff_iff]; simp)
 obtain ⟨Z, hZ⟩ : ∃ Z, Z = alikeR r q := ⟨_, rfl⟩
 rw [← hZ] at HZ0 ⊢
 clear hZ
 unfold rsVal
 go_enter Tryz.func74, Tryz.ntmps74
 by_cases g1 : r.kind = q.kind; rotate_left
 ·have HF : Hid (Z = false) := hid (by rw [HZ0.out]; simp [g1])
  go_wp2_with fail
  go_ret
  exact ⟨ret_bool HF.out.symm, (Ext.new w _).alloc _⟩
 have G1 := hid g1
 have b1 : (r.kind != q.kind) = false := by rw [bne_eq_false_iff_eq]; exact g1
 clear g1
 by_cases g2 : r.name.toList = q.name.toList; rotate_left
 ·have HF : Hid (Z = false) := hid (by rw [HZ0.out]; simp [str_ne g2])
  have b2 : (r.name.toList == q.name.toList) = false := by rw [beq_eq_false_iff_ne]; exact g2
  go_wp2_with fail
  go_ret
  exact ⟨ret_bool HF.out.symm, (Ext.new w _).alloc _⟩
 have G2 := hid (str_eq g2)
 have b2 : (r.name.toList == q.name.toList) = true := by rw [beq_iff_eq]; exact g2
 clear g2
 by_cases g3 : r.port = q.port; rotate_left
 ·have HF : Hid (Z = false) := hid (by rw [HZ0.out]; simp [g3])
  go_wp2_with fail
  go_ret
  exact ⟨ret_bool HF.out.symm, (Ext.new w _).alloc _⟩
 have G3 := hid g3
 have b3 : (r.port != q.port) = false := by rw [bne_eq_false_iff_eq]; exact g3
 clear g3
 by_cases g4 : r.to.toList = q.to.toList; rotate_left
 ·have HF : Hid (Z = false) := hid (by rw [HZ0.out]; simp [str_ne g4])
  have b4 : (r.to.toList == q.to.toList) = false := by rw [beq_eq_false_iff_ne]; exact g4
  go_wp2_with fail
  go_ret
  exact ⟨ret_bool HF.out.symm, (Ext.new w _).alloc _⟩
 have G4 := hid (str_eq g4)
 have b4 : (r.to.toList == q.to.toList) = true := by rw [beq_iff_eq]; exact g4
 clear g4
 by_cases g5 : n' = m'; rotate_left
 ·have HF : Hid (Z = false) := hid (by rw [HZ0.out, show decide (r.hosts = q.hosts) = false from decide_eq_false (fun e => g5 (by rw [← HA.out.arr'.len, ← HB.out.arr'.len, e]))]; simp)
  have b5 : ((n' : Int) != (m' : Int)) = true := by rw [bne_iff_ne]; omega
  go_wp2_with fail
  go_ret
  exact ⟨ret_bool HF.out.symm, (Ext.new w _).alloc _⟩
 subst g5
 have HZ1 : Hid (Z = (decide (r.hosts = q.hosts) && decide (r.rules = q.rules))) := hid (by rw [HZ0.out]; simp [G1.out, G2.out, G3.out, G4.out])
 go_wp2_with fail
 clear b1 b2 b3 b4
 have hk2 := two_blocks w (.cells #[.int .i64 r.kind, .string r.name, .int .i64 r.ver, .int .i64 r.port, .string r.to, .slice A n c, .slice A' n' c'] 34) (.cells #[.int .i64 q.kind, .string q.name, .int .i64 q.ver, .int .i64 q.port, .string q.to, .slice B m d, .slice B' n' d'] 34)
 have KA0 := hid hk2.1
 have KB0 := hid hk2.2
 have E0 := hid ((Ext.new w (.cells #[.int .i64 r.kind, .string r.name, .int .i64 r.ver, .int .i64 r.port, .string r.to, .slice A n c, .slice A' n' c'] 34)).alloc (.cells #[.int .i64 q.kind, .string q.name, .int .i64 q.ver, .int .i64 q.port, .string q.to, .slice B m d, .slice B' n' d'] 34))
 have hz0 : w.heap.size + 1 < ((w.alloc (.cells #[.int .i64 r.kind, .string r.name, .int .i64 r.ver, .int .i64 r.port, .string r.to, .slice A n c, .slice A' n' c'] 34)).alloc (.cells #[.int .i64 q.kind, .string q.name, .int .i64 q.ver, .int .i64 q.port, .string q.to, .slice B m d, .slice B' n' d'] 34)).heap.size := by simp
 generalize (w.alloc (.cells #[.int .i64 r.kind, .string r.name, .int .i64 r.ver, .int .i64 r.port, .string r.to, .slice A n c, .slice A' n' c'] 34)).alloc (.cells #[.int .i64 q.kind, .string q.name, .int .i64 q.ver, .int .i64 q.port, .string q.to, .slice B m d, .slice B' n' d'] 34) = w0 at KA0 KB0 E0 hz0 ⊢
 clear hk2
 go_loopw [5] (fun i wr => ∃ k : Nat, k ≤ n' ∧ i = .int .i64 k ∧ Hid (r.hosts.take k = q.hosts.take k) ∧ Hid (Ext w0 wr)) (fun i _ => n' - (intOf i).toNat)
 case atStart => exact ⟨0, Nat.zero_le _, by go_num, hid rfl, hid (Ext.refl _)⟩
 case round =>
  obtain ⟨k, hk, rfl, HT, HX⟩ := hrel
  have HE := hid (E0.out.trans HX.out)
  have KAr := hid ((HX.out.block (by omega)).trans KA0.out)
  have KBr := hid ((HX.out.block hz0).trans KB0.out)
  obtain ⟨a0, a1⟩ := blk_rules KAr.out
  by_cases hlt : k < n'
  ·obtain ⟨b, o, x, rfl, hbB, -, hlk, hc⟩ := HostL.at_ HA.out.arr' hlt
   obtain ⟨b', o', y, rfl, hbB', -, hlk', hc'⟩ := HostL.at_ HB.out.arr' hlt
   have HLK := hid hlk
   have HLK' := hid hlk'
   have i1 : (0 : Int) ≤ (k : Int) := by omega
   have i2 : (k : Int) < (n' : Int) := by omega
   have u6 : ∀ w', Ext w0 w' → w'.cell? ⟨w.heap.size, 6, none⟩ = some (.slice (some ⟨b, o, none⟩) n' c') := fun w' h => (blk_rules ((h.block (by omega)).trans KA0.out)).1 6
   have v6 : ∀ w', Ext w0 w' → w'.cell? ⟨w.heap.size + 1, 6, none⟩ = some (.slice (some ⟨b', o', none⟩) n' d') := fun w' h => (blk_rules ((h.block hz0).trans KB0.out)).1 6
   have d0 : ∀ w', Ext w0 w' → w'.cell? ⟨b, o + k, none⟩ = some (.int .i64 x) := fun w' h => ((E0.out.trans h).cell hbB).trans hc
   have d1 : ∀ w', Ext w0 w' → w'.cell? ⟨b', o' + k, none⟩ = some (.int .i64 y) := fun w' h => ((E0.out.trans h).cell hbB').trans hc'
   clear hlk hlk' hc hc'
   by_cases hxy : x = y
   ·have HT2 : Hid (r.hosts.take (k + 1) = q.hosts.take (k + 1)) := hid (take_eq_snoc HT.out HLK.out (by rw [HLK'.out, hxy]))
    subst hxy
    go_wp2_with fail
    have hSw : Ext w0 wr.drew := HX.out.drew
    refine wpS_begin (Ext w0) (by kernel_rfl) ?_
    refine wpS_tk 0 ?_ hSw rfl (fun w' hin => ?_) ?_; rotate_left
    ·go_simp <;> with_reducible rfl
    try simp only [lyr]
    refine wpS_tk 1 ?_ hSw rfl (fun w' hin => ?_) ?_; rotate_left
    ·go_simp <;> with_reducible rfl
    try simp only [lyr]
    refine wpS_tk 2 ?_ hSw rfl (fun w' hin => ?_) ?_; rotate_left
    ·go_simp <;> with_reducible rfl
    try simp only [lyr]
    refine wpS_tk 3 ?_ hSw rfl (fun w' hin => ?_) ?_; rotate_left
    ·go_simp <;> with_reducible rfl
    try simp only [lyr]
    refine wpS_tk 4 ?_ hSw rfl (fun w' hin => ?_) ?_; rotate_left
    ·go_simp <;> with_reducible rfl
    try simp only [lyr]
    refine wpS_tk 5 ?_ hSw rfl (fun w' hin => ?_) ?_; rotate_left
    ·go_simp <;> with_reducible rfl
    try simp only [lyr]
    refine wpS_tk 6 ?_ hSw rfl (fun w' hin => ?_) ?_; rotate_left
    ·go_simp <;> with_reducible rfl
    try simp only [lyr]
    refine wpS_tk 7 ?_ hSw rfl (fun w' hin => ?_) ?_; rotate_left
    ·go_simp <;> with_reducible rfl
    try simp only [lyr]
    refine wpS_tk 8 ?_ hSw rfl (fun w' hin => ?_) ?_; rotate_left
    ·go_simp <;> with_reducible rfl
    try simp only [lyr]
    refine wpS_tk 9 ?_ hSw rfl (fun w' hin => ?_) ?_; rotate_left
    ·go_simp <;> with_reducible rfl
    try simp only [lyr]
    refine wpS_tk 10 ?_ hSw rfl (fun w' hin => ?_) ?_; rotate_left
    ·go_simp <;> with_reducible rfl
    try simp only [lyr]
    refine wpS_done (by kernel_rfl) ?_
    have HX2 := hid hSw
    clear a0 a1 u6 v6 d0 d1 hSw
    go_wp2_with fail
    go_roundw
    case rel => exact ⟨k + 1, by omega, by go_num, HT2, HX2⟩
    case measure => simp [intOf]; omega
   ·have HF : Hid (Z = false) := hid (by rw [HZ1.out, decide_eq_false (ne_of_at HLK.out HLK'.out hxy)]; rfl)
    go_wp2_with fail
    have hSw : Ext w0 wr.drew := HX.out.drew
    refine wpS_begin (Ext w0) (by kernel_rfl) ?_
    refine wpS_tk 0 ?_ hSw rfl (fun w' hin => ?_) ?_; rotate_left
    ·go_simp <;> with_reducible rfl
    try simp only [lyr]
    refine wpS_tk 1 ?_ hSw rfl (fun w' hin => ?_) ?_; rotate_left
    ·go_simp <;> with_reducible rfl
    try simp only [lyr]
    refine wpS_tk 2 ?_ hSw rfl (fun w' hin => ?_) ?_; rotate_left
    ·go_simp <;> with_reducible rfl
    try simp only [lyr]
    refine wpS_tk 3 ?_ hSw rfl (fun w' hin => ?_) ?_; rotate_left
    ·go_simp <;> with_reducible rfl
    try simp only [lyr]
    refine wpS_tk 4 ?_ hSw rfl (fun w' hin => ?_) ?_; rotate_left
    ·go_simp <;> with_reducible rfl
    try simp only [lyr]
    refine wpS_tk 5 ?_ hSw rfl (fun w' hin => ?_) ?_; rotate_left
    ·go_simp <;> with_reducible rfl
    try simp only [lyr]
    refine wpS_tk 6 ?_ hSw rfl (fun w' hin => ?_) ?_; rotate_left
    ·go_simp <;> with_reducible rfl
    try simp only [lyr]
    refine wpS_tk 7 ?_ hSw rfl (fun w' hin => ?_) ?_; rotate_left
    ·go_simp <;> with_reducible rfl
    try simp only [lyr]
    refine wpS_tk 8 ?_ hSw rfl (fun w' hin => ?_) ?_; rotate_left
    ·go_simp <;> with_reducible rfl
    try simp only [lyr]
    refine wpS_tk 9 ?_ hSw rfl (fun w' hin => ?_) ?_; rotate_left
    ·go_simp <;> with_reducible rfl
    try simp only [lyr]
    refine wpS_tk 10 ?_ hSw rfl (fun w' hin => ?_) ?_; rotate_left
    ·go_simp <;> with_reducible rfl
    try simp only [lyr]
    refine wpS_done (by kernel_rfl) ?_
    have HX2 := hid (E0.out.trans hSw)
    clear a0 a1 u6 v6 d0 d1 hSw
    go_wp2_with fail
    go_ret
    exact ⟨ret_bool HF.out.symm, HX2.out⟩
  ·have HH : Hid (r.hosts = q.hosts) := hid (eq_of_take HT.out (by have := HA.out.arr'.len; omega) (by have := HB.out.arr'.len; omega))
   have HZ2 : Hid (Z = decide (r.rules = q.rules)) := hid (by rw [HZ1.out, decide_eq_true HH.out]; rfl)
   have i2 : ¬ (k : Int) < (n' : Int) := by omega
   obtain ⟨e0, e1⟩ := blk_rules KBr.out
   go_wp2_with fail
   refine (refRules_dec S S' r.rules q.rules A B n m c d _ (Nat.le_trans HA.out.sl.1 HA.out.sl.2.1) (Nat.le_trans HB.out.sl.1 HB.out.sl.2.1) (HA.out.up HE.out).arr (HB.out.up HE.out).arr).mono ?_
   rintro e w3 ⟨rfl, hb3⟩
   rw [← HZ2.out]
   have E3 := hid (HE.out.trans hb3)
   clear hb3 a0 a1 e0 e1
   go_wp2_with fail
   go_ret
   exact ⟨rfl, E3.out⟩
theorem refSame_dec (S S' : Nat → Prop) (r q : Rs) (A A' : Option Addr) (n c n' c' : Nat) (B B' : Option Addr) (m d m' d' : Nat) (w : World) (hA : RsV S w r A n c A' n' c') (hB : RsV S' w q B m d B' m' d') :
  Calls Tryz.prog 11 #[rsVal r A n c A' n' c', rsVal q B m d B' m' d'] w fun e w' => e = .returned (.bool (sameR r q)) ∧ Ext w w' := by
 have HA := hid hA
 have HB := hid hB
 clear hA hB
 have HZ0 : Hid (sameR r q = (decide (r.ver = q.ver) && alikeR r q)) := hid rfl
 obtain ⟨Z, hZ⟩ : ∃ Z, Z = sameR r q := ⟨_, rfl⟩
 rw [← hZ] at HZ0 ⊢
 clear hZ
 unfold rsVal
 go_enter Tryz.func11, Tryz.ntmps11
 go_wp2_with fail
 refine (refAlike_dec S S' r q A A' n c n' c' B B' m d m' d' _ (HA.out.up ((Ext.new w _).alloc _)) (HB.out.up ((Ext.new w _).alloc _))).mono ?_
 rintro e w1 ⟨rfl, hb1⟩
 obtain ⟨k1, k2, -⟩ := box2b hb1
 have E1 := hid (((Ext.new w _).alloc _).trans hb1)
 obtain ⟨a0, a1⟩ := blk_rules k1
 obtain ⟨b0, b1⟩ := blk_rules k2
 obtain ⟨Y, hY⟩ : ∃ Y, Y = alikeR r q := ⟨_, rfl⟩
 rw [← hY] at HZ0 ⊢
 clear hY hb1 k1 k2
 cases Y with
 | false =>
  have HF : Hid (Z = false) := hid (by rw [HZ0.out, Bool.and_false])
  go_wp2_with fail
  go_ret
  exact ⟨ret_bool HF.out.symm, E1.out⟩
 | true =>
  by_cases hv : r.ver = q.ver
  ·have HF : Hid (Z = true) := hid (by rw [HZ0.out, decide_eq_true hv]; rfl)
   have hb : (r.ver == q.ver) = true := by rw [beq_iff_eq]; exact hv
   clear hv
   go_wp2_with fail
   go_ret
   exact ⟨ret_bool (by rw [HF.out]), E1.out⟩
  ·have HF : Hid (Z = false) := hid (by rw [HZ0.out, decide_eq_false hv]; rfl)
   have hb : (r.ver == q.ver) = false := by rw [beq_eq_false_iff_ne]; exact hv
   clear hv
   go_wp2_with fail
   go_ret
   exact ⟨ret_bool (by rw [HF.out]), E1.out⟩
end Go.Proofs.YtfdjbnofcniodaaGreatDoor
