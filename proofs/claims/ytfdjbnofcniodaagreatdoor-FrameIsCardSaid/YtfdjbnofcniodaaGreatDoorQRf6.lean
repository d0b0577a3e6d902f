/- What the document's All of layer 4, Keys of layer 3, Same of layer 10 compute, at things that may differ. -/
import Derived.Test.YtfdjbnofcniodaaGreatDoorQRefD
import Derived.Test.YtfdjbnofcniodaaGreatDoorQFrA
namespace Go.Proofs.YtfdjbnofcniodaaGreatDoor
open Lib (hid)
set_option maxHeartbeats 16000000
set_option maxRecDepth 100000
set_option linter.unusedVariables false
open Go.RowKit
theorem refAll_dec (A B : Option Addr) (n c m d : Nat) (l l' : List Rs) (w : World) (hm : n ≤ maxLen) (hm' : m ≤ maxLen) (hA : ResL (fun _ => True) w A n l) (hB : ResL (fun _ => True) w B m l') :
  Calls Tryz.prog 16 #[.slice A n c, .slice B m d] w fun e w' => e = .returned (.bool (decide (l = l'))) ∧ Ext w w' := by
 unfold maxLen at hm hm'
 have HA := hid hA
 have HB := hid hB
 clear hA hB
 obtain ⟨Z, hZ⟩ : ∃ Z, Z = decide (l = l') := ⟨_, rfl⟩
 rw [← hZ]
 have HZ := hid hZ
 clear hZ
 go_enter Tryz.func16, Tryz.ntmps16
 by_cases hnn : n = m; rotate_left
 ·have HF : Hid (Z = false) := hid (by rw [HZ.out]; exact decide_eq_false (fun e => hnn (by rw [← HA.out.len, ← HB.out.len, e])))
  have i0 : ((n : Int) != (m : Int)) = true := by rw [bne_iff_ne]; omega
  go_wp2_with fail
  go_ret
  exact ⟨ret_bool HF.out.symm, Ext.refl _⟩
 subst hnn
 go_wp2_with fail
 go_loopw [5] (fun i wr => ∃ k : Nat, k ≤ n ∧ i = .int .i64 k ∧ Hid (l.take k = l'.take k) ∧ Hid (Ext w wr)) (fun i _ => n - (intOf i).toNat)
 case atStart => exact ⟨0, Nat.zero_le _, by go_num, hid rfl, hid (Ext.refl _)⟩
 case round =>
  obtain ⟨k, hk, rfl, HT, HX⟩ := hrel
  by_cases hlt : k < n
  ·obtain ⟨b, o, r, C, p, f, C', p', f', rfl, hbB, -, hlk, hv, hc0, hc1, hc2, hc3, hc4, hc5, hc6⟩ := ResL.at_ HA.out hlt
   obtain ⟨b', o', q, D, u, g, D', u', g', rfl, hbB', -, hlk', hv', kc0, kc1, kc2, kc3, kc4, kc5, kc6⟩ := ResL.at_ HB.out hlt
   have HLK := hid hlk
   have HLK' := hid hlk'
   have HV := hid hv
   have HV' := hid hv'
   have i1 : (0 : Int) ≤ (k : Int) := by omega
   have i2 : (k : Int) < (n : Int) := by omega
   have t0 : ∀ w', Ext w w' → w'.cell? ⟨b, o + k * 7, none⟩ = some (.int .i64 r.kind) := fun w' h => (h.cell hbB).trans hc0
   have s0 : ∀ w', Ext w w' → w'.cell? ⟨b', o' + k * 7, none⟩ = some (.int .i64 q.kind) := fun w' h => (h.cell hbB').trans kc0
   have t1 : ∀ w', Ext w w' → w'.cell? ⟨b, o + k * 7 + 1, none⟩ = some (.string r.name) := fun w' h => (h.cell hbB).trans hc1
   have s1 : ∀ w', Ext w w' → w'.cell? ⟨b', o' + k * 7 + 1, none⟩ = some (.string q.name) := fun w' h => (h.cell hbB').trans kc1
   have t2 : ∀ w', Ext w w' → w'.cell? ⟨b, o + k * 7 + 2, none⟩ = some (.int .i64 r.ver) := fun w' h => (h.cell hbB).trans hc2
   have s2 : ∀ w', Ext w w' → w'.cell? ⟨b', o' + k * 7 + 2, none⟩ = some (.int .i64 q.ver) := fun w' h => (h.cell hbB').trans kc2
   have t3 : ∀ w', Ext w w' → w'.cell? ⟨b, o + k * 7 + 3, none⟩ = some (.int .i64 r.port) := fun w' h => (h.cell hbB).trans hc3
   have s3 : ∀ w', Ext w w' → w'.cell? ⟨b', o' + k * 7 + 3, none⟩ = some (.int .i64 q.port) := fun w' h => (h.cell hbB').trans kc3
   have t4 : ∀ w', Ext w w' → w'.cell? ⟨b, o + k * 7 + 4, none⟩ = some (.string r.to) := fun w' h => (h.cell hbB).trans hc4
   have s4 : ∀ w', Ext w w' → w'.cell? ⟨b', o' + k * 7 + 4, none⟩ = some (.string q.to) := fun w' h => (h.cell hbB').trans kc4
   have t5 : ∀ w', Ext w w' → w'.cell? ⟨b, o + k * 7 + 5, none⟩ = some (.slice C p f) := fun w' h => (h.cell hbB).trans hc5
   have s5 : ∀ w', Ext w w' → w'.cell? ⟨b', o' + k * 7 + 5, none⟩ = some (.slice D u g) := fun w' h => (h.cell hbB').trans kc5
   have t6 : ∀ w', Ext w w' → w'.cell? ⟨b, o + k * 7 + 6, none⟩ = some (.slice C' p' f') := fun w' h => (h.cell hbB).trans hc6
   have s6 : ∀ w', Ext w w' → w'.cell? ⟨b', o' + k * 7 + 6, none⟩ = some (.slice D' u' g') := fun w' h => (h.cell hbB').trans kc6
   clear hlk hlk' hv hv' hc0 hc1 hc2 hc3 hc4 hc5 hc6 kc0 kc1 kc2 kc3 kc4 kc5 kc6
   obtain ⟨Y, hY⟩ : ∃ Y, Y = sameR r q := ⟨_, rfl⟩
   have HY := hid hY
   clear hY
   go_wp2_with fail
   cases Y with
   | true =>
    have HQ : Hid (r = q) := hid ((same_iff r q).1 HY.out.symm)
    have HT2 : Hid (l.take (k + 1) = l'.take (k + 1)) := hid (take_eq_snoc HT.out HLK.out (by rw [HLK'.out, HQ.out]))
    have hSw : Ext w wr.drew := HX.out.drew
    refine wpS_begin (Ext w) (by kernel_rfl) ?_
    refine wpS_tk 0 ?_ hSw rfl (fun w' hin => ?_) ?_; rotate_left
    ·go_simp <;> with_reducible rfl
    try simp only [lyr]
    refine wpS_tk 1 ?_ hSw rfl (fun w' hin => ?_) ?_; rotate_left
    ·go_simp <;> with_reducible rfl
    try simp only [lyr]
    refine wpS_tk 2 ?_ hSw rfl (fun w' hin => ?_) ?_; rotate_left
    ·go_simp <;> with_reducible rfl
    try simp only [lyr]
    refine wpS_tk 3 ?_ hSw rfl (fun w' hin => ?_) ?_; rotate_left
    ·go_simp <;> with_reducible rfl
    try simp only [lyr]
    refine wpS_tk 4 ?_ hSw rfl (fun w' hin => ?_) ?_; rotate_left
    ·go_simp <;> with_reducible rfl
    try simp only [lyr]
    refine wpS_tk 5 ?_ hSw rfl (fun w' hin => ?_) ?_; rotate_left
    ·go_simp <;> with_reducible rfl
    try simp only [lyr]
    refine wpS_tk 6 ?_ hSw rfl (fun w' hin => ?_) ?_; rotate_left
    ·go_simp <;> with_reducible rfl
    try simp only [lyr]
    refine wpS_tk 7 ?_ hSw rfl (fun w' hin => ?_) ?_; rotate_left
    ·go_simp <;> with_reducible rfl
    try simp only [lyr]
    refine wpS_on 8 rfl (fun K hK => ?_)
    go_simp
    refine (refSame_dec _ _ r q C C' p f p' f' D D' u g u' g' _ (HV.out.up hSw) (HV'.out.up hSw)).mono ?_
    rw [← HY.out]
    rintro e x1 ⟨rfl, hb1⟩
    simp only []
    refine hK.out _ _ (Ext w) (fun _ h => h) (hSw.trans hb1) (fun hSw => ?_)
    clear hK K
    try simp only [lyr]
    refine wpS_tk 9 ?_ hSw rfl (fun w' hin => ?_) ?_; rotate_left
    ·go_simp <;> with_reducible rfl
    try simp only [lyr]
    refine wpS_done (by kernel_rfl) ?_
    have HX2 := hid (HX.out.drew.trans hb1)
    clear t0 s0 t1 s1 t2 s2 t3 s3 t4 s4 t5 s5 t6 s6 hSw hb1
    go_wp2_with fail
    go_roundw
    case rel => exact ⟨k + 1, by omega, by go_num, HT2, HX2⟩
    case measure => simp [intOf]; omega
   | false =>
    have HF : Hid (Z = false) := hid (by rw [HZ.out]; exact decide_eq_false (ne_of_at HLK.out HLK'.out (fun e => by have h9 := HY.out; rw [(same_iff r q).2 e] at h9; cases h9)))
    have hSw : Ext w wr.drew := HX.out.drew
    refine wpS_begin (Ext w) (by kernel_rfl) ?_
    refine wpS_tk 0 ?_ hSw rfl (fun w' hin => ?_) ?_; rotate_left
    ·go_simp <;> with_reducible rfl
    try simp only [lyr]
    refine wpS_tk 1 ?_ hSw rfl (fun w' hin => ?_) ?_; rotate_left
    ·go_simp <;> with_reducible rfl
    try simp only [lyr]
    refine wpS_tk 2 ?_ hSw rfl (fun w' hin => ?_) ?_; rotate_left
    ·go_simp <;> with_reducible rfl
    try simp only [lyr]
    refine wpS_tk 3 ?_ hSw rfl (fun w' hin => ?_) ?_; rotate_left
    ·go_simp <;> with_reducible rfl
    try simp only [lyr]
    refine wpS_tk 4 ?_ hSw rfl (fun w' hin => ?_) ?_; rotate_left
    ·go_simp <;> with_reducible rfl
    try simp only [lyr]
    refine wpS_tk 5 ?_ hSw rfl (fun w' hin => ?_) ?_; rotate_left
    ·go_simp <;> with_reducible rfl
    try simp only [lyr]
    refine wpS_tk 6 ?_ hSw rfl (fun w' hin => ?_) ?_; rotate_left
    ·go_simp <;> with_reducible rfl
    try simp only [lyr]
    refine wpS_tk 7 ?_ hSw rfl (fun w' hin => ?_) ?_; rotate_left
    ·go_simp <;> with_reducible rfl
    try simp only [lyr]
    refine wpS_on 8 rfl (fun K hK => ?_)
    go_simp
    refine (refSame_dec _ _ r q C C' p f p' f' D D' u g u' g' _ (HV.out.up hSw) (HV'.out.up hSw)).mono ?_
    rw [← HY.out]
    rintro e x1 ⟨rfl, hb1⟩
    simp only []
    refine hK.out _ _ (Ext w) (fun _ h => h) (hSw.trans hb1) (fun hSw => ?_)
    clear hK K
    try simp only [lyr]
    refine wpS_tk 9 ?_ hSw rfl (fun w' hin => ?_) ?_; rotate_left
    ·go_simp <;> with_reducible rfl
    try simp only [lyr]
    refine wpS_done (by kernel_rfl) ?_
    have HX2 := hid (HX.out.drew.trans hb1)
    clear t0 s0 t1 s1 t2 s2 t3 s3 t4 s4 t5 s5 t6 s6 hSw hb1
    go_wp2_with fail
    go_ret
    exact ⟨ret_bool HF.out.symm, HX2.out⟩
  ·have HF : Hid (Z = true) := hid (by rw [HZ.out]; exact decide_eq_true (eq_of_take HT.out (by have := HA.out.len; omega) (by have := HB.out.len; omega)))
   have i2 : ¬ (k : Int) < (n : Int) := by omega
   go_wp2_with fail
   go_ret
   exact ⟨ret_bool HF.out.symm, HX.out⟩
theorem kyx {y z : Ky} (h1 : y.kind = z.kind) (h2 : y.name.toList = z.name.toList) : y = z := by
 cases y; cases z; simp only at h1 h2; subst h1; rw [str_eq h2]
theorem refKeys_dec (T T' : Nat → Prop) (l l' : List Ky) (A B : Option Addr) (n c m d : Nat) (w : World) (hm : n ≤ maxLen) (hm' : m ≤ maxLen) (hA : KeyL T w A n l) (hB : KeyL T' w B m l') :
  Calls Tryz.prog 19 #[.slice A n c, .slice B m d] w fun e w' => e = .returned (.bool (decide (l = l'))) ∧ Ext w w' := by
 unfold maxLen at hm hm'
 have HA := hid hA
 have HB := hid hB
 clear hA hB
 obtain ⟨Z, hZ⟩ : ∃ Z, Z = decide (l = l') := ⟨_, rfl⟩
 rw [← hZ]
 have HZ := hid hZ
 clear hZ
 go_enter Tryz.func19, Tryz.ntmps19
 by_cases hnn : n = m; rotate_left
 ·have HF : Hid (Z = false) := hid (by rw [HZ.out]; exact decide_eq_false (fun e => hnn (by rw [← HA.out.len, ← HB.out.len, e])))
  have i0 : ((n : Int) != (m : Int)) = true := by rw [bne_iff_ne]; omega
  go_wp2_with fail
  go_ret
  exact ⟨ret_bool HF.out.symm, Ext.refl _⟩
 subst hnn
 go_wp2_with fail
 go_loopw [5] (fun i wr => ∃ k : Nat, k ≤ n ∧ i = .int .i64 k ∧ Hid (l.take k = l'.take k) ∧ Hid (Ext w wr)) (fun i _ => n - (intOf i).toNat)
 case atStart => exact ⟨0, Nat.zero_le _, by go_num, hid rfl, hid (Ext.refl _)⟩
 case round =>
  obtain ⟨k, hk, rfl, HT, HX⟩ := hrel
  by_cases hlt : k < n
  ·obtain ⟨b, o, y, rfl, hbB, -, hlk, -, hc0, hc1⟩ := KeyL.at_ HA.out hlt
   obtain ⟨b', o', z, rfl, hbB', -, hlk', -, kc0, kc1⟩ := KeyL.at_ HB.out hlt
   have HLK := hid hlk
   have HLK' := hid hlk'
   have i1 : (0 : Int) ≤ (k : Int) := by omega
   have i2 : (k : Int) < (n : Int) := by omega
   obtain ⟨t0, t1⟩ := al2 (S := Ext wr.drew) (fun w' hx => ((HX.out.drew.trans hx))) hbB hc0 hc1
   obtain ⟨s0, s1⟩ := al2 (S := Ext wr.drew) (fun w' hx => ((HX.out.drew.trans hx))) hbB' kc0 kc1
   have x0 : Ext wr.drew wr.drew := Ext.refl _
   clear hlk hlk' hc0 hc1 kc0 kc1
   by_cases g1 : y.kind = z.kind
   ·by_cases g2 : y.name.toList = z.name.toList
    ·have HT2 : Hid (l.take (k + 1) = l'.take (k + 1)) := hid (take_eq_snoc HT.out HLK.out (by rw [HLK'.out, kyx g1 g2]))
     go_wp2_with fail
     have hSw : Ext wr.drew wr.drew := x0
     refine wpS_begin (Ext wr.drew) (by kernel_rfl) ?_
     refine wpS_tk 0 ?_ hSw rfl (fun w' hin => ?_) ?_; rotate_left
     ·go_simp <;> with_reducible rfl
     try simp only [lyr]
     refine wpS_tk 1 ?_ hSw rfl (fun w' hin => ?_) ?_; rotate_left
     ·go_simp <;> with_reducible rfl
     try simp only [lyr]
     refine wpS_tk 2 ?_ hSw rfl (fun w' hin => ?_) ?_; rotate_left
     ·go_simp <;> with_reducible rfl
     try simp only [lyr]
     refine wpS_tk 3 ?_ hSw rfl (fun w' hin => ?_) ?_; rotate_left
     ·go_simp <;> with_reducible rfl
     try simp only [lyr]
     refine wpS_tk 4 ?_ hSw rfl (fun w' hin => ?_) ?_; rotate_left
     ·go_simp <;> with_reducible rfl
     try simp only [lyr]
     refine wpS_tk 5 ?_ hSw rfl (fun w' hin => ?_) ?_; rotate_left
     ·go_simp <;> with_reducible rfl
     try simp only [lyr]
     refine wpS_tk 6 ?_ hSw rfl (fun w' hin => ?_) ?_; rotate_left
     ·go_simp <;> with_reducible rfl
     try simp only [lyr]
     refine wpS_tk 7 ?_ hSw rfl (fun w' hin => ?_) ?_; rotate_left
     ·go_simp <;> with_reducible rfl
     try simp only [lyr]
     refine wpS_tk 8 ?_ hSw rfl (fun w' hin => ?_) ?_; rotate_left
     ·go_simp <;> with_reducible rfl
     try simp only [lyr]
     refine wpS_done (by kernel_rfl) ?_
     have HX2 := hid (HX.out.drew.trans hSw)
     clear t0 t1 s0 s1 x0 hSw
     go_wp2_with fail
     go_roundw
     case rel => exact ⟨k + 1, by omega, by go_num, HT2, HX2⟩
     case measure => simp [intOf]; omega
    ·have HF : Hid (Z = false) := hid (by rw [HZ.out]; exact decide_eq_false (ne_of_at HLK.out HLK'.out (fun e => g2 (by rw [e]))))
     go_wp2_with fail
     have hSw : Ext wr.drew wr.drew := x0
     refine wpS_begin (Ext wr.drew) (by kernel_rfl) ?_
     refine wpS_tk 0 ?_ hSw rfl (fun w' hin => ?_) ?_; rotate_left
     ·go_simp <;> with_reducible rfl
     try simp only [lyr]
     refine wpS_tk 1 ?_ hSw rfl (fun w' hin => ?_) ?_; rotate_left
     ·go_simp <;> with_reducible rfl
     try simp only [lyr]
     refine wpS_tk 2 ?_ hSw rfl (fun w' hin => ?_) ?_; rotate_left
     ·go_simp <;> with_reducible rfl
     try simp only [lyr]
     refine wpS_tk 3 ?_ hSw rfl (fun w' hin => ?_) ?_; rotate_left
     ·go_simp <;> with_reducible rfl
     try simp only [lyr]
     refine wpS_tk 4 ?_ hSw rfl (fun w' hin => ?_) ?_; rotate_left
     ·go_simp <;> with_reducible rfl
     try simp only [lyr]
     refine wpS_tk 5 ?_ hSw rfl (fun w' hin => ?_) ?_; rotate_left
     ·go_simp <;> with_reducible rfl
     try simp only [lyr]
     refine wpS_tk 6 ?_ hSw rfl (fun w' hin => ?_) ?_; rotate_left
     ·go_simp <;> with_reducible rfl
     try simp only [lyr]
     refine wpS_tk 7 ?_ hSw rfl (fun w' hin => ?_) ?_; rotate_left
     ·go_simp <;> with_reducible rfl
     try simp only [lyr]
     refine wpS_tk 8 ?_ hSw rfl (fun w' hin => ?_) ?_; rotate_left
     ·go_simp <;> with_reducible rfl
     try simp only [lyr]
     refine wpS_done (by kernel_rfl) ?_
     have HX2 := hid (HX.out.drew.trans hSw)
     clear t0 t1 s0 s1 x0 hSw
     go_wp2_with fail
     go_ret
     exact ⟨ret_bool HF.out.symm, HX2.out⟩
   ·have HF : Hid (Z = false) := hid (by rw [HZ.out]; exact decide_eq_false (ne_of_at HLK.out HLK'.out (fun e => g1 (by rw [e]))))
    go_wp2_with fail
    have hSw : Ext wr.drew wr.drew := x0
    refine wpS_begin (Ext wr.drew) (by kernel_rfl) ?_
    refine wpS_tk 0 ?_ hSw rfl (fun w' hin => ?_) ?_; rotate_left
    ·go_simp <;> with_reducible rfl
    try simp only [lyr]
    refine wpS_tk 1 ?_ hSw rfl (fun w' hin => ?_) ?_; rotate_left
    ·go_simp <;> with_reducible rfl
    try simp only [lyr]
    refine wpS_tk 2 ?_ hSw rfl (fun w' hin => ?_) ?_; rotate_left
    ·go_simp <;> with_reducible rfl
    try simp only [lyr]
    refine wpS_tk 3 ?_ hSw rfl (fun w' hin => ?_) ?_; rotate_left
    ·go_simp <;> with_reducible rfl
    try simp only [lyr]
    refine wpS_tk 4 ?_ hSw rfl (fun w' hin => ?_) ?_; rotate_left
    ·go_simp <;> with_reducible rfl
    try simp only [lyr]
    refine wpS_tk 5 ?_ hSw rfl (fun w' hin => ?_) ?_; rotate_left
    ·go_simp <;> with_reducible rfl
    try simp only [lyr]
    refine wpS_tk 6 ?_ hSw rfl (fun w' hin => ?_) ?_; rotate_left
    ·go_simp <;> with_reducible rfl
    try simp only [lyr]
    refine wpS_tk 7 ?_ hSw rfl (fun w' hin => ?_) ?_; rotate_left
    ·go_simp <;> with_reducible rfl
    try simp only [lyr]
    refine wpS_tk 8 ?_ hSw rfl (fun w' hin => ?_) ?_; rotate_left
    ·go_simp <;> with_reducible rfl
    try simp only [lyr]
    refine wpS_done (by kernel_rfl) ?_
    have HX2 := hid (HX.out.drew.trans hSw)
    clear t0 t1 s0 s1 x0 hSw
    go_wp2_with fail
    go_ret
    exact ⟨ret_bool HF.out.symm, HX2.out⟩
  ·have HF : Hid (Z = true) := hid (by rw [HZ.out]; exact decide_eq_true (eq_of_take HT.out (by have := HA.out.len; omega) (by have := HB.out.len; omega)))
   have i2 : ¬ (k : Int) < (n : Int) := by omega
   go_wp2_with fail
   go_ret
   exact ⟨ret_bool HF.out.symm, HX.out⟩
theorem refSame10_dec (f f' : Fr) (s s' : FrS) (w : World) (hV : FrV (fun _ => True) w f s) (hW : FrV (fun _ => True) w f' s') :
  Calls Tryz.prog 70 #[frVal f s, frVal f' s'] w fun e w' => e = .returned (.bool (decide (f = f'))) ∧ Ext w w' := by
 have HV := hid hV
 have HW := hid hW
 clear hV hW
 obtain ⟨⟨A1, n1, c1⟩, ⟨A2, n2, c2⟩, ⟨A3, n3, c3⟩, ⟨A4, n4, c4⟩⟩ := s
 obtain ⟨⟨B1, m1, d1⟩, ⟨B2, m2, d2⟩, ⟨B3, m3, d3⟩, ⟨B4, m4, d4⟩⟩ := s'
 obtain ⟨at0, ae, ak, an0, au, aa, ag, ar, ah, al⟩ := f
 obtain ⟨bt, be, bk, bn0, bu, ba, bg, br, bh, bl⟩ := f'
 have h3m : n3 ≤ 9223372036854775807 := by have := HV.out.sh.len; unfold maxLen at this; exact this
 have h3m' : m3 ≤ 9223372036854775807 := by have := HW.out.sh.len; unfold maxLen at this; exact this
 unfold frVal
 simp only
 by_cases k0 : at0 = bt; rotate_left
 ·have hq : (at0 != bt) = true := by simpa using k0
  have HR : Hid (decide ((⟨at0, ae, ak, an0, au, aa, ag, ar, ah, al⟩ : Fr) = ⟨bt, be, bk, bn0, bu, ba, bg, br, bh, bl⟩) = false) := hid (decide_eq_false fun e => k0 (congrArg Fr.typ e))
  go_enter Tryz.func70, Tryz.ntmps70
  go_wp2_with fail
  go_ret
  exact ⟨ret_bool HR.out.symm, ((Ext.refl w).alloc _).alloc _⟩
 subst k0
 have e0 : (at0 != at0) = false := by simp
 by_cases k1 : ae = be; rotate_left
 ·have hq : (ae != be) = true := by simpa using k1
  have HR : Hid (decide ((⟨at0, ae, ak, an0, au, aa, ag, ar, ah, al⟩ : Fr) = ⟨at0, be, bk, bn0, bu, ba, bg, br, bh, bl⟩) = false) := hid (decide_eq_false fun e => k1 (congrArg Fr.epoch e))
  go_enter Tryz.func70, Tryz.ntmps70
  go_wp2_with fail
  go_ret
  exact ⟨ret_bool HR.out.symm, ((Ext.refl w).alloc _).alloc _⟩
 subst k1
 have e1 : (ae != ae) = false := by simp
 by_cases k2 : ak = bk; rotate_left
 ·have hq : (ak != bk) = true := by simpa using k2
  have HR : Hid (decide ((⟨at0, ae, ak, an0, au, aa, ag, ar, ah, al⟩ : Fr) = ⟨at0, ae, bk, bn0, bu, ba, bg, br, bh, bl⟩) = false) := hid (decide_eq_false fun e => k2 (congrArg Fr.kind e))
  go_enter Tryz.func70, Tryz.ntmps70
  go_wp2_with fail
  go_ret
  exact ⟨ret_bool HR.out.symm, ((Ext.refl w).alloc _).alloc _⟩
 subst k2
 have e2 : (ak != ak) = false := by simp
 by_cases k3 : an0 = bn0; rotate_left
 ·have hq : (an0 != bn0) = true := by simpa using k3
  have HR : Hid (decide ((⟨at0, ae, ak, an0, au, aa, ag, ar, ah, al⟩ : Fr) = ⟨at0, ae, ak, bn0, bu, ba, bg, br, bh, bl⟩) = false) := hid (decide_eq_false fun e => k3 (congrArg Fr.nonce e))
  go_enter Tryz.func70, Tryz.ntmps70
  go_wp2_with fail
  go_ret
  exact ⟨ret_bool HR.out.symm, ((Ext.refl w).alloc _).alloc _⟩
 subst k3
 have e3 : (an0 != an0) = false := by simp
 by_cases k4 : au = bu; rotate_left
 ·have hq : (au != bu) = true := by simpa using k4
  have HR : Hid (decide ((⟨at0, ae, ak, an0, au, aa, ag, ar, ah, al⟩ : Fr) = ⟨at0, ae, ak, an0, bu, ba, bg, br, bh, bl⟩) = false) := hid (decide_eq_false fun e => k4 (congrArg Fr.turn e))
  go_enter Tryz.func70, Tryz.ntmps70
  go_wp2_with fail
  go_ret
  exact ⟨ret_bool HR.out.symm, ((Ext.refl w).alloc _).alloc _⟩
 subst k4
 have e4 : (au != au) = false := by simp
 by_cases k7 : ar = br; rotate_left
 ·have hq : (ar != br) = true := by simpa using k7
  have HR : Hid (decide ((⟨at0, ae, ak, an0, au, aa, ag, ar, ah, al⟩ : Fr) = ⟨at0, ae, ak, an0, au, ba, bg, br, bh, bl⟩) = false) := hid (decide_eq_false fun e => k7 (congrArg Fr.err e))
  go_enter Tryz.func70, Tryz.ntmps70
  go_wp2_with fail
  go_ret
  exact ⟨ret_bool HR.out.symm, ((Ext.refl w).alloc _).alloc _⟩
 subst k7
 have e7 : (ar != ar) = false := by simp
 by_cases hnn : n3 = m3; rotate_left
 ·have hq : ((n3 : Int) != (m3 : Int)) = true := by rw [bne_iff_ne]; omega
  have HR : Hid (decide ((⟨at0, ae, ak, an0, au, aa, ag, ar, ah, al⟩ : Fr) = ⟨at0, ae, ak, an0, au, ba, bg, ar, bh, bl⟩) = false) := hid (decide_eq_false fun e => hnn (by
   have h1 : ah.length = n3 := HV.out.hav.len
   have h2 : bh.length = m3 := HW.out.hav.len
   rw [← h1, ← h2, show ah = bh from congrArg Fr.hav e]))
  go_enter Tryz.func70, Tryz.ntmps70
  go_wp2_with fail
  go_ret
  exact ⟨ret_bool HR.out.symm, ((Ext.refl w).alloc _).alloc _⟩
 subst hnn
 have e9 : ((n3 : Int) != (n3 : Int)) = false := by simp
 go_enter Tryz.func70, Tryz.ntmps70
 go_wp2_with fail
 have KA0 := hid (two_blocks w (.cells #[.int .i64 at0, .int .i64 ae, .int .i64 ak, .int .i64 an0, .int .i64 au, .slice A1 n1 c1, .slice A2 n2 c2, .int .i64 ar, .slice A3 n3 c3, .slice A4 n4 c4] 87) (.cells #[.int .i64 at0, .int .i64 ae, .int .i64 ak, .int .i64 an0, .int .i64 au, .slice B1 m1 d1, .slice B2 m2 d2, .int .i64 ar, .slice B3 n3 d3, .slice B4 m4 d4] 87)).1
 have KB0 := hid (two_blocks w (.cells #[.int .i64 at0, .int .i64 ae, .int .i64 ak, .int .i64 an0, .int .i64 au, .slice A1 n1 c1, .slice A2 n2 c2, .int .i64 ar, .slice A3 n3 c3, .slice A4 n4 c4] 87) (.cells #[.int .i64 at0, .int .i64 ae, .int .i64 ak, .int .i64 an0, .int .i64 au, .slice B1 m1 d1, .slice B2 m2 d2, .int .i64 ar, .slice B3 n3 d3, .slice B4 m4 d4] 87)).2
 have E0 := hid ((Ext.new w (.cells #[.int .i64 at0, .int .i64 ae, .int .i64 ak, .int .i64 an0, .int .i64 au, .slice A1 n1 c1, .slice A2 n2 c2, .int .i64 ar, .slice A3 n3 c3, .slice A4 n4 c4] 87)).alloc (.cells #[.int .i64 at0, .int .i64 ae, .int .i64 ak, .int .i64 an0, .int .i64 au, .slice B1 m1 d1, .slice B2 m2 d2, .int .i64 ar, .slice B3 n3 d3, .slice B4 m4 d4] 87))
 generalize (w.alloc (.cells #[.int .i64 at0, .int .i64 ae, .int .i64 ak, .int .i64 an0, .int .i64 au, .slice A1 n1 c1, .slice A2 n2 c2, .int .i64 ar, .slice A3 n3 c3, .slice A4 n4 c4] 87)).alloc (.cells #[.int .i64 at0, .int .i64 ae, .int .i64 ak, .int .i64 an0, .int .i64 au, .slice B1 m1 d1, .slice B2 m2 d2, .int .i64 ar, .slice B3 n3 d3, .slice B4 m4 d4] 87) = W at KA0 KB0 E0 ⊢
 have hzB : w.heap.size + 1 < W.heap.size := (Array.getElem?_eq_some_iff.1 KB0.out).1
 have hzA : w.heap.size < W.heap.size := by omega
 go_loopw [5] (fun i wr => ∃ k : Nat, k ≤ n3 ∧ i = .int .i64 k ∧ Hid (ah.take k = bh.take k) ∧ Hid (Ext W wr)) (fun i _ => n3 - (intOf i).toNat)
 case atStart => exact ⟨0, Nat.zero_le _, by go_num, hid rfl, hid (Ext.refl _)⟩
 case round =>
  obtain ⟨k, hk, rfl, HT, HX⟩ := hrel
  obtain ⟨q0, -⟩ := blk_rules ((HX.out.block hzA).trans KA0.out)
  obtain ⟨p0, -⟩ := blk_rules ((HX.out.block hzB).trans KB0.out)
  by_cases hlt : k < n3
  ·obtain ⟨b, o, y, v, hA3, hbB, -, hlk, -, hc0, hc1, hc2⟩ := MkL.at_ HV.out.hav hlt
   obtain ⟨b', o', z, u, hB3, hbB', -, hlk', -, kc0, kc1, kc2⟩ := MkL.at_ HW.out.hav hlt
   simp only at hA3 hB3
   subst hA3 hB3
   have HLK := hid hlk
   have HLK' := hid hlk'
   have i1 : (0 : Int) ≤ (k : Int) := by omega
   have i2 : (k : Int) < (n3 : Int) := by omega
   have f8 : ∀ w', Ext wr.drew w' → w'.cell? ⟨w.heap.size, 8, none⟩ = some (.slice (some ⟨b, o, none⟩) n3 c3) := fun w' h => (blk_rules (((HX.out.drew.trans h).block hzA).trans KA0.out)).1 8
   have g8 : ∀ w', Ext wr.drew w' → w'.cell? ⟨w.heap.size + 1, 8, none⟩ = some (.slice (some ⟨b', o', none⟩) n3 d3) := fun w' h => (blk_rules (((HX.out.drew.trans h).block hzB).trans KB0.out)).1 8
   have t0 : ∀ w', Ext wr.drew w' → w'.cell? ⟨b, o + k * 3, none⟩ = some (.int .i64 y.kind) := fun w' hx => ((E0.out.trans (HX.out.drew.trans hx)).cell hbB).trans hc0
   have s0 : ∀ w', Ext wr.drew w' → w'.cell? ⟨b', o' + k * 3, none⟩ = some (.int .i64 z.kind) := fun w' hx => ((E0.out.trans (HX.out.drew.trans hx)).cell hbB').trans kc0
   have t1 : ∀ w', Ext wr.drew w' → w'.cell? ⟨b, o + k * 3 + 1, none⟩ = some (.string y.name) := fun w' hx => ((E0.out.trans (HX.out.drew.trans hx)).cell hbB).trans hc1
   have s1 : ∀ w', Ext wr.drew w' → w'.cell? ⟨b', o' + k * 3 + 1, none⟩ = some (.string z.name) := fun w' hx => ((E0.out.trans (HX.out.drew.trans hx)).cell hbB').trans kc1
   have t2 : ∀ w', Ext wr.drew w' → w'.cell? ⟨b, o + k * 3 + 2, none⟩ = some (.int .i64 v) := fun w' hx => ((E0.out.trans (HX.out.drew.trans hx)).cell hbB).trans hc2
   have s2 : ∀ w', Ext wr.drew w' → w'.cell? ⟨b', o' + k * 3 + 2, none⟩ = some (.int .i64 u) := fun w' hx => ((E0.out.trans (HX.out.drew.trans hx)).cell hbB').trans kc2
   have x0 : Ext wr.drew wr.drew := Ext.refl _
   clear hlk hlk' hc0 hc1 hc2 kc0 kc1 kc2 p0
   by_cases g1 : y.kind = z.kind; rotate_left
   ·clear e0 e1 e2 e3 e4 e7 e9
    have HR : Hid (decide ((⟨at0, ae, ak, an0, au, aa, ag, ar, ah, al⟩ : Fr) = ⟨at0, ae, ak, an0, au, ba, bg, ar, bh, bl⟩) = false) := hid (decide_eq_false fun e => ne_of_at HLK.out HLK'.out (fun e' => g1 (by rw [show y = z from congrArg Prod.fst e'])) (congrArg Fr.hav e))
    go_wp2_with fail
    have hSw : Ext wr.drew wr.drew := x0
    refine wpS_begin (Ext wr.drew) (by kernel_rfl) ?_
    refine wpS_tk 0 ?_ hSw rfl (fun w' hin => ?_) ?_; rotate_left
    ·go_simp <;> with_reducible rfl
    try simp only [lyr]
    refine wpS_tk 1 ?_ hSw rfl (fun w' hin => ?_) ?_; rotate_left
    ·go_simp <;> with_reducible rfl
    try simp only [lyr]
    refine wpS_tk 2 ?_ hSw rfl (fun w' hin => ?_) ?_; rotate_left
    ·go_simp <;> with_reducible rfl
    try simp only [lyr]
    refine wpS_tk 3 ?_ hSw rfl (fun w' hin => ?_) ?_; rotate_left
    ·go_simp <;> with_reducible rfl
    try simp only [lyr]
    refine wpS_tk 4 ?_ hSw rfl (fun w' hin => ?_) ?_; rotate_left
    ·go_simp <;> with_reducible rfl
    try simp only [lyr]
    refine wpS_tk 5 ?_ hSw rfl (fun w' hin => ?_) ?_; rotate_left
    ·go_simp <;> with_reducible rfl
    try simp only [lyr]
    refine wpS_tk 6 ?_ hSw rfl (fun w' hin => ?_) ?_; rotate_left
    ·go_simp <;> with_reducible rfl
    try simp only [lyr]
    refine wpS_tk 7 ?_ hSw rfl (fun w' hin => ?_) ?_; rotate_left
    ·go_simp <;> with_reducible rfl
    try simp only [lyr]
    refine wpS_tk 8 ?_ hSw rfl (fun w' hin => ?_) ?_; rotate_left
    ·go_simp <;> with_reducible rfl
    try simp only [lyr]
    refine wpS_tk 9 ?_ hSw rfl (fun w' hin => ?_) ?_; rotate_left
    ·go_simp <;> with_reducible rfl
    try simp only [lyr]
    refine wpS_tk 10 ?_ hSw rfl (fun w' hin => ?_) ?_; rotate_left
    ·go_simp <;> with_reducible rfl
    try simp only [lyr]
    refine wpS_done (by kernel_rfl) ?_
    have HX2 := hid (HX.out.drew.trans hSw)
    clear t0 t1 t2 s0 s1 s2 f8 g8 x0 hSw q0
    go_wp2_with fail
    go_ret
    exact ⟨ret_bool HR.out.symm, E0.out.trans HX2.out⟩
   by_cases g2 : y.name.toList = z.name.toList; rotate_left
   ·clear e0 e1 e2 e3 e4 e7 e9
    have HR : Hid (decide ((⟨at0, ae, ak, an0, au, aa, ag, ar, ah, al⟩ : Fr) = ⟨at0, ae, ak, an0, au, ba, bg, ar, bh, bl⟩) = false) := hid (decide_eq_false fun e => ne_of_at HLK.out HLK'.out (fun e' => g2 (by rw [show y = z from congrArg Prod.fst e'])) (congrArg Fr.hav e))
    go_wp2_with fail
    have hSw : Ext wr.drew wr.drew := x0
    refine wpS_begin (Ext wr.drew) (by kernel_rfl) ?_
    refine wpS_tk 0 ?_ hSw rfl (fun w' hin => ?_) ?_; rotate_left
    ·go_simp <;> with_reducible rfl
    try simp only [lyr]
    refine wpS_tk 1 ?_ hSw rfl (fun w' hin => ?_) ?_; rotate_left
    ·go_simp <;> with_reducible rfl
    try simp only [lyr]
    refine wpS_tk 2 ?_ hSw rfl (fun w' hin => ?_) ?_; rotate_left
    ·go_simp <;> with_reducible rfl
    try simp only [lyr]
    refine wpS_tk 3 ?_ hSw rfl (fun w' hin => ?_) ?_; rotate_left
    ·go_simp <;> with_reducible rfl
    try simp only [lyr]
    refine wpS_tk 4 ?_ hSw rfl (fun w' hin => ?_) ?_; rotate_left
    ·go_simp <;> with_reducible rfl
    try simp only [lyr]
    refine wpS_tk 5 ?_ hSw rfl (fun w' hin => ?_) ?_; rotate_left
    ·go_simp <;> with_reducible rfl
    try simp only [lyr]
    refine wpS_tk 6 ?_ hSw rfl (fun w' hin => ?_) ?_; rotate_left
    ·go_simp <;> with_reducible rfl
    try simp only [lyr]
    refine wpS_tk 7 ?_ hSw rfl (fun w' hin => ?_) ?_; rotate_left
    ·go_simp <;> with_reducible rfl
    try simp only [lyr]
    refine wpS_tk 8 ?_ hSw rfl (fun w' hin => ?_) ?_; rotate_left
    ·go_simp <;> with_reducible rfl
    try simp only [lyr]
    refine wpS_tk 9 ?_ hSw rfl (fun w' hin => ?_) ?_; rotate_left
    ·go_simp <;> with_reducible rfl
    try simp only [lyr]
    refine wpS_tk 10 ?_ hSw rfl (fun w' hin => ?_) ?_; rotate_left
    ·go_simp <;> with_reducible rfl
    try simp only [lyr]
    refine wpS_done (by kernel_rfl) ?_
    have HX2 := hid (HX.out.drew.trans hSw)
    clear t0 t1 t2 s0 s1 s2 f8 g8 x0 hSw q0
    go_wp2_with fail
    go_ret
    exact ⟨ret_bool HR.out.symm, E0.out.trans HX2.out⟩
   by_cases g3 : v = u; rotate_left
   ·clear e0 e1 e2 e3 e4 e7 e9
    have HR : Hid (decide ((⟨at0, ae, ak, an0, au, aa, ag, ar, ah, al⟩ : Fr) = ⟨at0, ae, ak, an0, au, ba, bg, ar, bh, bl⟩) = false) := hid (decide_eq_false fun e => ne_of_at HLK.out HLK'.out (fun e' => g3 (congrArg Prod.snd e')) (congrArg Fr.hav e))
    go_wp2_with fail
    have hSw : Ext wr.drew wr.drew := x0
    refine wpS_begin (Ext wr.drew) (by kernel_rfl) ?_
    refine wpS_tk 0 ?_ hSw rfl (fun w' hin => ?_) ?_; rotate_left
    ·go_simp <;> with_reducible rfl
    try simp only [lyr]
    refine wpS_tk 1 ?_ hSw rfl (fun w' hin => ?_) ?_; rotate_left
    ·go_simp <;> with_reducible rfl
    try simp only [lyr]
    refine wpS_tk 2 ?_ hSw rfl (fun w' hin => ?_) ?_; rotate_left
    ·go_simp <;> with_reducible rfl
    try simp only [lyr]
    refine wpS_tk 3 ?_ hSw rfl (fun w' hin => ?_) ?_; rotate_left
    ·go_simp <;> with_reducible rfl
    try simp only [lyr]
    refine wpS_tk 4 ?_ hSw rfl (fun w' hin => ?_) ?_; rotate_left
    ·go_simp <;> with_reducible rfl
    try simp only [lyr]
    refine wpS_tk 5 ?_ hSw rfl (fun w' hin => ?_) ?_; rotate_left
    ·go_simp <;> with_reducible rfl
    try simp only [lyr]
    refine wpS_tk 6 ?_ hSw rfl (fun w' hin => ?_) ?_; rotate_left
    ·go_simp <;> with_reducible rfl
    try simp only [lyr]
    refine wpS_tk 7 ?_ hSw rfl (fun w' hin => ?_) ?_; rotate_left
    ·go_simp <;> with_reducible rfl
    try simp only [lyr]
    refine wpS_tk 8 ?_ hSw rfl (fun w' hin => ?_) ?_; rotate_left
    ·go_simp <;> with_reducible rfl
    try simp only [lyr]
    refine wpS_tk 9 ?_ hSw rfl (fun w' hin => ?_) ?_; rotate_left
    ·go_simp <;> with_reducible rfl
    try simp only [lyr]
    refine wpS_tk 10 ?_ hSw rfl (fun w' hin => ?_) ?_; rotate_left
    ·go_simp <;> with_reducible rfl
    try simp only [lyr]
    refine wpS_done (by kernel_rfl) ?_
    have HX2 := hid (HX.out.drew.trans hSw)
    clear t0 t1 t2 s0 s1 s2 f8 g8 x0 hSw q0
    go_wp2_with fail
    go_ret
    exact ⟨ret_bool HR.out.symm, E0.out.trans HX2.out⟩
   have HT2 : Hid (ah.take (k + 1) = bh.take (k + 1)) := hid (take_eq_snoc HT.out HLK.out (by rw [HLK'.out, kyx g1 g2, g3]))
   go_wp2_with fail
   have hSw : Ext wr.drew wr.drew := x0
   refine wpS_begin (Ext wr.drew) (by kernel_rfl) ?_
   refine wpS_tk 0 ?_ hSw rfl (fun w' hin => ?_) ?_; rotate_left
   ·go_simp <;> with_reducible rfl
   try simp only [lyr]
   refine wpS_tk 1 ?_ hSw rfl (fun w' hin => ?_) ?_; rotate_left
   ·go_simp <;> with_reducible rfl
   try simp only [lyr]
   refine wpS_tk 2 ?_ hSw rfl (fun w' hin => ?_) ?_; rotate_left
   ·go_simp <;> with_reducible rfl
   try simp only [lyr]
   refine wpS_tk 3 ?_ hSw rfl (fun w' hin => ?_) ?_; rotate_left
   ·go_simp <;> with_reducible rfl
   try simp only [lyr]
   refine wpS_tk 4 ?_ hSw rfl (fun w' hin => ?_) ?_; rotate_left
   ·go_simp <;> with_reducible rfl
   try simp only [lyr]
   refine wpS_tk 5 ?_ hSw rfl (fun w' hin => ?_) ?_; rotate_left
   ·go_simp <;> with_reducible rfl
   try simp only [lyr]
   refine wpS_tk 6 ?_ hSw rfl (fun w' hin => ?_) ?_; rotate_left
   ·go_simp <;> with_reducible rfl
   try simp only [lyr]
   refine wpS_tk 7 ?_ hSw rfl (fun w' hin => ?_) ?_; rotate_left
   ·go_simp <;> with_reducible rfl
   try simp only [lyr]
   refine wpS_tk 8 ?_ hSw rfl (fun w' hin => ?_) ?_; rotate_left
   ·go_simp <;> with_reducible rfl
   try simp only [lyr]
   refine wpS_tk 9 ?_ hSw rfl (fun w' hin => ?_) ?_; rotate_left
   ·go_simp <;> with_reducible rfl
   try simp only [lyr]
   refine wpS_tk 10 ?_ hSw rfl (fun w' hin => ?_) ?_; rotate_left
   ·go_simp <;> with_reducible rfl
   try simp only [lyr]
   refine wpS_done (by kernel_rfl) ?_
   have HX2 := hid (HX.out.drew.trans hSw)
   clear t0 t1 t2 s0 s1 s2 f8 g8 x0 hSw q0
   go_wp2_with fail
   go_roundw
   case rel => exact ⟨k + 1, by omega, by go_num, HT2, HX2⟩
   case measure => simp [intOf]; omega
  ·obtain rfl : k = n3 := by omega
   have hab : ah = bh := eq_of_take HT.out (Nat.le_of_eq HV.out.hav.len) (Nat.le_of_eq HW.out.hav.len)
   subst hab
   have i2 : ¬ (k : Int) < (k : Int) := by omega
   clear e0 e1 e2 e3 e4 e7 e9
   go_wp2_with fail
   have E_0 := hid (E0.out.trans HX.out)
   have F_0 := HX
   refine (refAll_dec A1 B1 n1 c1 m1 d1 aa ba _ HV.out.sa.len HW.out.sa.len (ResL.keep HV.out.adds E_0.out.keep) (ResL.keep HW.out.adds E_0.out.keep)).mono ?_
   rintro e w1 ⟨rfl, hb⟩
   have E_w1 := hid (E_0.out.trans hb)
   have F_w1 := hid (F_0.out.trans hb)
   clear hb q0 p0
   obtain ⟨q0, -⟩ := blk_rules ((F_w1.out.block hzA).trans KA0.out)
   obtain ⟨p0, -⟩ := blk_rules ((F_w1.out.block hzB).trans KB0.out)
   by_cases k5 : aa = ba; rotate_left
   ·rw [decide_eq_false k5]
    have HR : Hid (decide ((⟨at0, ae, ak, an0, au, aa, ag, ar, ah, al⟩ : Fr) = ⟨at0, ae, ak, an0, au, ba, bg, ar, ah, bl⟩) = false) := hid (decide_eq_false fun e => k5 (congrArg Fr.adds e))
    go_wp2_with fail
    go_ret
    exact ⟨ret_bool HR.out.symm, E_w1.out⟩
   subst k5
   rw [decide_eq_true rfl]
   go_wp2_with fail
   refine (refKeys_dec _ _ ag bg A2 B2 n2 c2 m2 d2 _ HV.out.sg.len HW.out.sg.len (KeyL.keep HV.out.gone E_w1.out.keep) (KeyL.keep HW.out.gone E_w1.out.keep)).mono ?_
   rintro e w2 ⟨rfl, hb⟩
   have E_w2 := hid (E_w1.out.trans hb)
   have F_w2 := hid (F_w1.out.trans hb)
   clear hb q0 p0
   obtain ⟨q0, -⟩ := blk_rules ((F_w2.out.block hzA).trans KA0.out)
   obtain ⟨p0, -⟩ := blk_rules ((F_w2.out.block hzB).trans KB0.out)
   by_cases k6 : ag = bg; rotate_left
   ·rw [decide_eq_false k6]
    have HR : Hid (decide ((⟨at0, ae, ak, an0, au, aa, ag, ar, ah, al⟩ : Fr) = ⟨at0, ae, ak, an0, au, aa, bg, ar, ah, bl⟩) = false) := hid (decide_eq_false fun e => k6 (congrArg Fr.gone e))
    go_wp2_with fail
    go_ret
    exact ⟨ret_bool HR.out.symm, E_w2.out⟩
   subst k6
   rw [decide_eq_true rfl]
   go_wp2_with fail
   refine (refKeys_dec _ _ al bl A4 B4 n4 c4 m4 d4 _ HV.out.sk.len HW.out.sk.len (KeyL.keep HV.out.held E_w2.out.keep) (KeyL.keep HW.out.held E_w2.out.keep)).mono ?_
   rintro e w3 ⟨rfl, hb⟩
   have E_w3 := hid (E_w2.out.trans hb)
   have F_w3 := hid (F_w2.out.trans hb)
   clear hb q0 p0
   obtain ⟨q0, -⟩ := blk_rules ((F_w3.out.block hzA).trans KA0.out)
   obtain ⟨p0, -⟩ := blk_rules ((F_w3.out.block hzB).trans KB0.out)
   have HR : Hid (decide ((⟨at0, ae, ak, an0, au, aa, ag, ar, ah, al⟩ : Fr) = ⟨at0, ae, ak, an0, au, aa, ag, ar, ah, bl⟩) = decide (al = bl)) := hid (by simp)
   go_wp2_with fail
   go_ret
   exact ⟨ret_bool HR.out.symm, E_w3.out⟩
end Go.Proofs.YtfdjbnofcniodaaGreatDoor
