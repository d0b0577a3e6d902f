/- The laws CodeOnce, CodeBack, CodeIs: their walks. -/
import Derived.Test.YtjomoannlpadnaaCodeLaw
import Derived.Outline
import Derived.Deep.RegionHeld3
import Derived.Deep.DrawnRows
import Derived.Deep.RegionLaw
import Derived.Test.YtjomoannlpadnaaRegion
namespace Go.Proofs.Ytjomoannlpadnaa
open Go.RowKit
attribute [local go_sem ↓] run_max2 run_min2
attribute [local go_sem ↓] Go.wp_at_zero Go.wp_at_succ

theorem conv_at {w : World} {A : Option Addr} {n : Nat} {bs : List UInt8} (h : Byts w A n bs) (c : Nat) : (convert 42 9 (.slice A n c)).run Try.prog w = .ok (.string (bstr bs)) w :=
  run_conv Try.underlying42 Try.underlying5 Try.underlying9 h c

set_option maxRecDepth 100000 in
set_option maxHeartbeats 400000 in
theorem codeOnce_long (A : Option Addr) (n c : Nat) (w : World) (h : 500 < n) : Calls Try.prog 11 #[.slice A n c] w fun e w' => e = .returned (.bool true) ∧ Ext w w' := by
  go_enter Try.func11, Try.ntmps11
  go_wp2_with fail
  refine (awake02 _).mono ?_
  rintro e w1 ⟨rfl, hb1⟩
  go_wp2_with fail
  go_ret
  exact ⟨rfl, hb1⟩

set_option maxRecDepth 100000 in
set_option maxHeartbeats 4000000 in
theorem codeOnce_any (A : Option Addr) (n c : Nat) (bs : List UInt8) (w : World) (hB : Byts w A n bs) (hA : A = none → c = 0) (hnc : n ≤ c) (hcm : c ≤ 9223372036854775807) (hn : n ≤ 500) :
    Calls Try.prog 11 #[.slice A n c] w fun e w' => e = .returned (.bool true) ∧ Ext w w' := by
  have HB := Lib.hid hB
  clear hB
  have hn' : ¬ 500 < n := by omega
  go_enter Try.func11, Try.ntmps11
  go_wp2_with fail
  refine (awake02 _).mono ?_
  rintro e w1 ⟨rfl, hb1⟩
  have HE := Lib.hid hb1
  clear hb1
  go_wp2_with fail
  refine (num_any w1.heap.size ⟨bs, 0⟩ 2147483647 _ (RdAt.box 0 (ArrR.up HB.out HE.out) hA hnc hcm)).mono ?_
  rintro e w2 ⟨rfl, hr2, ho2⟩
  have HX2 := Lib.hid (HE.out.trans (Only.ext (Ext.new w1 _) ho2 (Nat.le_refl _)))
  by_cases hp : (parse bs).2.2 = 0
  · by_cases hb : bnd 2147483647 < (parse bs).1
    · rw [Rd.num_big rfl hp hb] at hr2 ⊢
      obtain ⟨A2, n2, c2, q0, q1, -, -, -, hB2⟩ := hr2.cells
      obtain rfl : n2 = n := by have h1 := hB2.len; have h2 := HB.out.len; simp only [] at h1; omega
      clear hr2 ho2 hB2 hp hb
      go_wp2_with fail
      go_ret
      exact ⟨rfl, HX2.out⟩
    · rw [Rd.num_ok rfl hp hb] at hr2 ⊢
      obtain ⟨x, k, z, hxyz⟩ : ∃ x y z, parse bs = (x, y, z) := ⟨_, _, _, rfl⟩
      obtain rfl : z = 0 := by rw [hxyz] at hp; exact hp
      have ho := parse_once hxyz
      rw [hxyz] at hb
      have hx : x ≤ 2147483647 := by have := bnd_le 2147483647; simp only [] at hb; have h2 : bnd 2147483647 = 2147483647 := by decide
                                     omega
      simp only [hxyz] at hr2 ⊢
      obtain ⟨h1, h2, h3, h4⟩ := ho
      rw [HB.out.len] at h3
      obtain ⟨A2, n2, c2, q0, q1, -, -, -, hB2⟩ := hr2.cells
      obtain rfl : n2 = n - k := by have h1 := hB2.len; have h2 := HB.out.len; simp only [List.length_drop] at h1; omega
      have HBW := Lib.hid (byts_take (ArrR.up HB.out HX2.out) h3)
      have H4 := Lib.hid h4
      have hkk : (n : Int) - ((n - k : Nat) : Int) = (k : Int) := by omega
      clear hr2 hB2 ho2 hp hb hxyz h4
      go_wp2_with fail
      have i0 : (0 : Int) ≤ (k : Int) := by omega
      have i1 : (1 : Int) ≤ (k : Int) := by omega
      have i2 : (k : Int) ≤ 5 := by omega
      have i3 : (k : Int) ≤ (n : Int) := by omega
      have i4 : (k : Int) ≤ (c : Int) := by omega
      have i5 : (n : Int) ≤ (c : Int) := by omega
      clear q0 q1
      clear hkk
      have kb : ∀ w4, Ext w2.drew w4 → (convert 42 9 (.slice A k c)).run Try.prog w4 = .ok (.string (bstr (bs.take k))) w4 := fun w4 hin => conv_at (ArrR.up HBW.out ((Ext.refl w2).drew.trans hin)) c
      refine wpE_begin (by kernel_rfl) ?_
      refine wpE_take 0 (v := ?_) rfl (by kernel_rfl) (by kernel_rfl) (by kernel_rfl) (by rfl) (fun w' hin => ?_) ?_
      rotate_left
      · go_simp <;> with_reducible rfl
      try simp only [Act.put, List.setIfInBounds_toArray, List.set_cons_zero, List.set_cons_succ]
      refine wpE_take 1 (v := ?_) rfl (by kernel_rfl) (by kernel_rfl) (by kernel_rfl) (by rfl) (fun w' hin => ?_) ?_
      rotate_left
      · go_simp <;> with_reducible rfl
      try simp only [Act.put, List.setIfInBounds_toArray, List.set_cons_zero, List.set_cons_succ]
      refine wpE_take 2 (v := ?_) rfl (by kernel_rfl) (by kernel_rfl) (by kernel_rfl) (by rfl) (fun w' hin => ?_) ?_
      rotate_left
      · go_simp <;> with_reducible rfl
      try simp only [Act.put, List.setIfInBounds_toArray, List.set_cons_zero, List.set_cons_succ]
      refine wpE_take 3 (v := ?_) rfl (by kernel_rfl) (by kernel_rfl) (by kernel_rfl) (by rfl) (fun w' hin => ?_) ?_
      rotate_left
      · go_simp <;> with_reducible rfl
      try simp only [Act.put, List.setIfInBounds_toArray, List.set_cons_zero, List.set_cons_succ]
      refine wpE_take 4 (v := ?_) rfl (by kernel_rfl) (by kernel_rfl) (by kernel_rfl) (by rfl) (fun w' hin => ?_) ?_
      rotate_left
      · go_simp <;> with_reducible rfl
      try simp only [Act.put, List.setIfInBounds_toArray, List.set_cons_zero, List.set_cons_succ]
      refine wpE_take 5 (v := ?_) rfl (by kernel_rfl) (by kernel_rfl) (by kernel_rfl) (by rfl) (fun w' hin => ?_) ?_
      rotate_left
      · go_simp <;> with_reducible rfl
      try simp only [Act.put, List.setIfInBounds_toArray, List.set_cons_zero, List.set_cons_succ]
      refine wpE_take 6 (v := ?_) rfl (by kernel_rfl) (by kernel_rfl) (by kernel_rfl) (by rfl) (fun w' hin => ?_) ?_
      rotate_left
      · go_simp <;> with_reducible rfl
      try simp only [Act.put, List.setIfInBounds_toArray, List.set_cons_zero, List.set_cons_succ]
      refine wpE_take 7 (v := ?_) rfl (by kernel_rfl) (by kernel_rfl) (by kernel_rfl) (by rfl) (fun w' hin => ?_) ?_
      rotate_left
      · go_simp <;> with_reducible rfl
      try simp only [Act.put, List.setIfInBounds_toArray, List.set_cons_zero, List.set_cons_succ]
      refine wpE_take 8 (v := ?_) rfl (by kernel_rfl) (by kernel_rfl) (by kernel_rfl) (by rfl) (fun w' hin => ?_) ?_
      rotate_left
      · go_simp <;> with_reducible rfl
      try simp only [Act.put, List.setIfInBounds_toArray, List.set_cons_zero, List.set_cons_succ]
      refine wpE_take 9 (v := ?_) rfl (by kernel_rfl) (by kernel_rfl) (by kernel_rfl) (by rfl) (fun w' hin => ?_) ?_
      rotate_left
      · go_simp <;> with_reducible rfl
      try simp only [Act.put, List.setIfInBounds_toArray, List.set_cons_zero, List.set_cons_succ]
      refine wpE_take 10 (v := ?_) rfl (by kernel_rfl) (by kernel_rfl) (by kernel_rfl) (by rfl) (fun w' hin => ?_) ?_
      rotate_left
      · go_simp <;> with_reducible rfl
      try simp only [Act.put, List.setIfInBounds_toArray, List.set_cons_zero, List.set_cons_succ]
      refine wpE_take 13 (v := ?_) rfl (by kernel_rfl) (by kernel_rfl) (by kernel_rfl) (by rfl) (fun w' hin => ?_) ?_
      rotate_left
      · go_simp <;> with_reducible rfl
      try simp only [Act.put, List.setIfInBounds_toArray, List.set_cons_zero, List.set_cons_succ]
      refine wpE_take 14 (v := ?_) rfl (by kernel_rfl) (by kernel_rfl) (by kernel_rfl) (by rfl) (fun w' hin => ?_) ?_
      rotate_left
      · go_simp <;> with_reducible rfl
      try simp only [Act.put, List.setIfInBounds_toArray, List.set_cons_zero, List.set_cons_succ]
      refine wpE_take 15 (v := ?_) rfl (by kernel_rfl) (by kernel_rfl) (by kernel_rfl) (by rfl) (fun w' hin => ?_) ?_
      rotate_left
      · go_simp <;> with_reducible rfl
      try simp only [Act.put, List.setIfInBounds_toArray, List.set_cons_zero, List.set_cons_succ]
      refine wpE_take 16 (v := ?_) rfl (by kernel_rfl) (by kernel_rfl) (by kernel_rfl) (by rfl) (fun w' hin => ?_) ?_
      rotate_left
      · go_simp <;> with_reducible rfl
      try simp only [Act.put, List.setIfInBounds_toArray, List.set_cons_zero, List.set_cons_succ]
      refine wpE_one 11 rfl (by kernel_rfl) (by rfl) (fun K hK => ?_)
      go_simp
      refine (number_any none 0 0 [] x _ ArrR.nil_ (fun _ => rfl) (by omega)).mono ?_
      rintro e w3 ⟨v3, rfl, hown3, hb3⟩
      obtain ⟨A3, c3, rfl, hn3, hm3, hA3, hB3, -⟩ := own_byts hown3
      rw [List.nil_append, Nat.zero_add, bnd_of hx] at hB3
      rw [Nat.zero_add, bnd_of hx]
      have kn : ∀ w4, Ext w3 w4 → (convert 42 9 (.slice A3 (enc x).length c3)).run Try.prog w4 = .ok (.string (bstr (bs.take k))) w4 := fun w4 hin => by rw [← H4.out]; exact conv_at (ArrR.up hB3 hin) c3
      clear kb hown3 hn3 hm3 hA3
      refine hK.out _ _ (hb3) ?_
      clear hK K
      try simp only [Act.put, List.setIfInBounds_toArray, List.set_cons_zero, List.set_cons_succ]
      refine wpE_take 12 (v := ?_) rfl (by kernel_rfl) (by kernel_rfl) (by kernel_rfl) (by rfl) (fun w' hin => ?_) ?_
      rotate_left
      · go_simp <;> with_reducible rfl
      try simp only [Act.put, List.setIfInBounds_toArray, List.set_cons_zero, List.set_cons_succ]
      refine wpE_take 17 (v := ?_) rfl (by kernel_rfl) (by kernel_rfl) (by kernel_rfl) (by rfl) (fun w' hin => ?_) ?_
      rotate_left
      · go_simp <;> with_reducible rfl
      try simp only [Act.put, List.setIfInBounds_toArray, List.set_cons_zero, List.set_cons_succ]
      refine wpE_take 18 (v := ?_) rfl (by kernel_rfl) (by kernel_rfl) (by kernel_rfl) (by rfl) (fun w' hin => ?_) ?_
      rotate_left
      · go_simp <;> with_reducible rfl
      try simp only [Act.put, List.setIfInBounds_toArray, List.set_cons_zero, List.set_cons_succ]
      refine wpE_take 19 (v := ?_) rfl (by kernel_rfl) (by kernel_rfl) (by kernel_rfl) (by rfl) (fun w' hin => ?_) ?_
      rotate_left
      · go_simp <;> with_reducible rfl
      try simp only [Act.put, List.setIfInBounds_toArray, List.set_cons_zero, List.set_cons_succ]
      refine wpE_done (by kernel_rfl) ?_
      go_wp2_with fail
      go_ret
      exact ⟨rfl, (HX2.out.drew).trans hb3⟩
  · rw [Rd.num_bad rfl _ hp] at hr2 ⊢
    obtain ⟨z, hz⟩ : ∃ z, z = (parse bs).2.2 := ⟨_, rfl⟩
    simp only [] at hr2 ⊢
    rw [← hz] at hp hr2
    have hz' : (z != 0) = true := by simpa using hp
    obtain ⟨A2, n2, c2, q0, q1, -, -, -, hB2⟩ := hr2.cells
    obtain rfl : n2 = n := by have h1 := hB2.len; have h2 := HB.out.len; simp only [] at h1; omega
    clear hr2 hB2 ho2 hp hz
    go_wp2_with fail
    go_ret
    exact ⟨rfl, HX2.out⟩

set_option maxRecDepth 100000 in
set_option maxHeartbeats 400000 in
theorem codeIs_long (A : Option Addr) (n c : Nat) (k : Int) (s : ByteArray) (w : World) (h : 500 < n ∨ 500 < s.size) : Calls Try.prog 8 #[.slice A n c, .int .i64 k, .string s] w fun e w' => e = .returned (.bool true) ∧ Ext w w' := by
  by_cases h1 : 500 < n
  · go_enter Try.func8, Try.ntmps8
    go_wp2_with fail
    refine (awake02 _).mono ?_
    rintro e w1 ⟨rfl, hb1⟩
    go_wp2_with fail
    go_ret
    exact ⟨rfl, hb1⟩
  · have h2 : 500 < s.size := by omega
    clear h
    go_enter Try.func8, Try.ntmps8
    go_wp2_with fail
    refine (awake02 _).mono ?_
    rintro e w1 ⟨rfl, hb1⟩
    go_wp2_with fail
    go_ret
    exact ⟨rfl, hb1⟩

set_option maxRecDepth 100000 in
set_option maxHeartbeats 4000000 in
theorem codeIs_any (A : Option Addr) (n c : Nat) (bs : List UInt8) (k : Int) (s : ByteArray) (w : World) (hB : Byts w A n bs) (hA : A = none → c = 0) (hn : n ≤ 500) (hs : s.size ≤ 500) :
    Calls Try.prog 8 #[.slice A n c, .int .i64 k, .string s] w fun e w' => e = .returned (.bool true) ∧ Ext w w' := by
  have HB := Lib.hid hB
  clear hB
  have hn' : ¬ 500 < n := by omega
  have hs' : ¬ 500 < s.size := by omega
  go_enter Try.func8, Try.ntmps8
  go_wp2_with fail
  refine (awake02 _).mono ?_
  rintro e w1 ⟨rfl, hb1⟩
  have HBW := Lib.hid (ArrR.up HB.out hb1)
  have HE := Lib.hid hb1
  clear hb1
  go_wp2_with fail
  refine wpE_begin (by kernel_rfl) ?_
  refine wpE_take 0 (v := ?_) rfl (by kernel_rfl) (by kernel_rfl) (by kernel_rfl) (by rfl) (fun w' hin => ?_) ?_
  rotate_left
  · go_simp <;> with_reducible rfl
  try simp only [Act.put, List.setIfInBounds_toArray, List.set_cons_zero, List.set_cons_succ]
  refine wpE_take 1 (v := ?_) rfl (by kernel_rfl) (by kernel_rfl) (by kernel_rfl) (by rfl) (fun w' hin => ?_) ?_
  rotate_left
  · go_simp <;> with_reducible rfl
  try simp only [Act.put, List.setIfInBounds_toArray, List.set_cons_zero, List.set_cons_succ]
  refine wpE_take 2 (v := ?_) rfl (by kernel_rfl) (by kernel_rfl) (by kernel_rfl) (by rfl) (fun w' hin => ?_) ?_
  rotate_left
  · go_simp <;> with_reducible rfl
  try simp only [Act.put, List.setIfInBounds_toArray, List.set_cons_zero, List.set_cons_succ]
  refine wpE_take 3 (v := ?_) rfl (by kernel_rfl) (by kernel_rfl) (by kernel_rfl) (by rfl) (fun w' hin => ?_) ?_
  rotate_left
  · go_simp <;> with_reducible rfl
  try simp only [Act.put, List.setIfInBounds_toArray, List.set_cons_zero, List.set_cons_succ]
  refine wpE_take 6 (v := ?_) rfl (by kernel_rfl) (by kernel_rfl) (by kernel_rfl) (by rfl) (fun w' hin => ?_) ?_
  rotate_left
  · go_simp <;> with_reducible rfl
  try simp only [Act.put, List.setIfInBounds_toArray, List.set_cons_zero, List.set_cons_succ]
  refine wpE_take 7 (v := ?_) rfl (by kernel_rfl) (by kernel_rfl) (by kernel_rfl) (by rfl) (fun w' hin => ?_) ?_
  rotate_left
  · go_simp <;> with_reducible rfl
  try simp only [Act.put, List.setIfInBounds_toArray, List.set_cons_zero, List.set_cons_succ]
  refine wpE_one 4 rfl (by kernel_rfl) (by rfl) (fun K hK => ?_)
  go_simp
  refine (number_any A n c bs k _ (ArrR.up HBW.out (Ext.refl w1).drew) hA (by omega)).mono ?_
  rintro e w2 ⟨v2, rfl, hown2, hb2⟩
  obtain ⟨A2, c2, rfl, -, -, -, hB2, -⟩ := own_byts hown2
  have kv2 : ∀ w4, Ext w2 w4 → (convert 42 9 (.slice A2 (n + (enc (bnd k)).length) c2)).run Try.prog w4 = .ok (.string (bstr (bs ++ enc (bnd k)))) w4 := fun w4 hin => conv_at (ArrR.up hB2 hin) c2
  clear hown2 hB2
  refine hK.out _ _ (hb2) ?_
  clear hK K
  try simp only [Act.put, List.setIfInBounds_toArray, List.set_cons_zero, List.set_cons_succ]
  refine wpE_take 5 (v := ?_) rfl (by kernel_rfl) (by kernel_rfl) (by kernel_rfl) (by rfl) (fun w' hin => ?_) ?_
  rotate_left
  · go_simp <;> with_reducible rfl
  try simp only [Act.put, List.setIfInBounds_toArray, List.set_cons_zero, List.set_cons_succ]
  refine wpE_one 8 rfl (by kernel_rfl) (by rfl) (fun K hK => ?_)
  go_simp
  refine (refNumber_any A n c bs k _ (ArrR.up HBW.out ((Ext.refl w1).drew.trans hb2)) hA (by omega)).mono ?_
  rintro e w3 ⟨v3, rfl, hown3, hb3⟩
  obtain ⟨A3, c3, rfl, -, -, -, hB3, -⟩ := own_byts hown3
  have kv3 : ∀ w4, Ext w3 w4 → (convert 42 9 (.slice A3 (n + (enc (bnd k)).length) c3)).run Try.prog w4 = .ok (.string (bstr (bs ++ enc (bnd k)))) w4 := fun w4 hin => conv_at (ArrR.up hB3 hin) c3
  clear hown3 hB3 kv2
  refine hK.out _ _ (hb3) ?_
  clear hK K
  try simp only [Act.put, List.setIfInBounds_toArray, List.set_cons_zero, List.set_cons_succ]
  refine wpE_take 9 (v := ?_) rfl (by kernel_rfl) (by kernel_rfl) (by kernel_rfl) (by rfl) (fun w' hin => ?_) ?_
  rotate_left
  · go_simp <;> with_reducible rfl
  try simp only [Act.put, List.setIfInBounds_toArray, List.set_cons_zero, List.set_cons_succ]
  refine wpE_take 10 (v := ?_) rfl (by kernel_rfl) (by kernel_rfl) (by kernel_rfl) (by rfl) (fun w' hin => ?_) ?_
  rotate_left
  · go_simp <;> with_reducible rfl
  try simp only [Act.put, List.setIfInBounds_toArray, List.set_cons_zero, List.set_cons_succ]
  refine wpE_take 11 (v := ?_) rfl (by kernel_rfl) (by kernel_rfl) (by kernel_rfl) (by rfl) (fun w' hin => ?_) ?_
  rotate_left
  · go_simp <;> with_reducible rfl
  try simp only [Act.put, List.setIfInBounds_toArray, List.set_cons_zero, List.set_cons_succ]
  refine wpE_take 12 (v := ?_) rfl (by kernel_rfl) (by kernel_rfl) (by kernel_rfl) (by rfl) (fun w' hin => ?_) ?_
  rotate_left
  · go_simp <;> with_reducible rfl
  try simp only [Act.put, List.setIfInBounds_toArray, List.set_cons_zero, List.set_cons_succ]
  refine wpE_take 13 (v := ?_) rfl (by kernel_rfl) (by kernel_rfl) (by kernel_rfl) (by rfl) (fun w' hin => ?_) ?_
  rotate_left
  · go_simp <;> with_reducible rfl
  try simp only [Act.put, List.setIfInBounds_toArray, List.set_cons_zero, List.set_cons_succ]
  refine wpE_take 14 (v := ?_) rfl (by kernel_rfl) (by kernel_rfl) (by kernel_rfl) (by rfl) (fun w' hin => ?_) ?_
  rotate_left
  · go_simp <;> with_reducible rfl
  try simp only [Act.put, List.setIfInBounds_toArray, List.set_cons_zero, List.set_cons_succ]
  refine wpE_take 17 (v := ?_) rfl (by kernel_rfl) (by kernel_rfl) (by kernel_rfl) (by rfl) (fun w' hin => ?_) ?_
  rotate_left
  · go_simp <;> with_reducible rfl
  try simp only [Act.put, List.setIfInBounds_toArray, List.set_cons_zero, List.set_cons_succ]
  refine wpE_take 18 (v := ?_) rfl (by kernel_rfl) (by kernel_rfl) (by kernel_rfl) (by rfl) (fun w' hin => ?_) ?_
  rotate_left
  · go_simp <;> with_reducible rfl
  try simp only [Act.put, List.setIfInBounds_toArray, List.set_cons_zero, List.set_cons_succ]
  refine wpE_one 15 rfl (by kernel_rfl) (by rfl) (fun K hK => ?_)
  go_simp
  refine (text_any A n c bs s _ (ArrR.up HBW.out (((Ext.refl w1).drew.trans hb2).trans hb3)) hA (by omega) (by omega)).mono ?_
  rintro e w5 ⟨v5, rfl, hown5, hb5⟩
  obtain ⟨A5, c5, rfl, -, -, -, hB5, -⟩ := own_byts hown5
  have kv5 : ∀ w4, Ext w5 w4 → (convert 42 9 (.slice A5 (n + (encT s.data.toList).length) c5)).run Try.prog w4 = .ok (.string (bstr (bs ++ encT s.data.toList))) w4 := fun w4 hin => conv_at (ArrR.up hB5 hin) c5
  clear hown5 hB5 kv3
  refine hK.out _ _ (hb5) ?_
  clear hK K
  try simp only [Act.put, List.setIfInBounds_toArray, List.set_cons_zero, List.set_cons_succ]
  refine wpE_take 16 (v := ?_) rfl (by kernel_rfl) (by kernel_rfl) (by kernel_rfl) (by rfl) (fun w' hin => ?_) ?_
  rotate_left
  · go_simp <;> with_reducible rfl
  try simp only [Act.put, List.setIfInBounds_toArray, List.set_cons_zero, List.set_cons_succ]
  refine wpE_one 19 rfl (by kernel_rfl) (by rfl) (fun K hK => ?_)
  go_simp
  refine (refText_any A n c bs s _ (ArrR.up HBW.out ((((Ext.refl w1).drew.trans hb2).trans hb3).trans hb5)) hA (by omega) (by omega)).mono ?_
  rintro e w6 ⟨v6, rfl, hown6, hb6⟩
  obtain ⟨A6, c6, rfl, -, -, -, hB6, -⟩ := own_byts hown6
  have kv6 : ∀ w4, Ext w6 w4 → (convert 42 9 (.slice A6 (n + (encT s.data.toList).length) c6)).run Try.prog w4 = .ok (.string (bstr (bs ++ encT s.data.toList))) w4 := fun w4 hin => conv_at (ArrR.up hB6 hin) c6
  clear hown6 hB6 kv5
  refine hK.out _ _ (hb6) ?_
  clear hK K
  try simp only [Act.put, List.setIfInBounds_toArray, List.set_cons_zero, List.set_cons_succ]
  refine wpE_take 20 (v := ?_) rfl (by kernel_rfl) (by kernel_rfl) (by kernel_rfl) (by rfl) (fun w' hin => ?_) ?_
  rotate_left
  · go_simp <;> with_reducible rfl
  try simp only [Act.put, List.setIfInBounds_toArray, List.set_cons_zero, List.set_cons_succ]
  refine wpE_take 21 (v := ?_) rfl (by kernel_rfl) (by kernel_rfl) (by kernel_rfl) (by rfl) (fun w' hin => ?_) ?_
  rotate_left
  · go_simp <;> with_reducible rfl
  try simp only [Act.put, List.setIfInBounds_toArray, List.set_cons_zero, List.set_cons_succ]
  refine wpE_take 22 (v := ?_) rfl (by kernel_rfl) (by kernel_rfl) (by kernel_rfl) (by rfl) (fun w' hin => ?_) ?_
  rotate_left
  · go_simp <;> with_reducible rfl
  try simp only [Act.put, List.setIfInBounds_toArray, List.set_cons_zero, List.set_cons_succ]
  refine wpE_take 23 (v := ?_) rfl (by kernel_rfl) (by kernel_rfl) (by kernel_rfl) (by rfl) (fun w' hin => ?_) ?_
  rotate_left
  · go_simp <;> with_reducible rfl
  try simp only [Act.put, List.setIfInBounds_toArray, List.set_cons_zero, List.set_cons_succ]
  refine wpE_take 24 (v := ?_) rfl (by kernel_rfl) (by kernel_rfl) (by kernel_rfl) (by rfl) (fun w' hin => ?_) ?_
  rotate_left
  · go_simp <;> with_reducible rfl
  try simp only [Act.put, List.setIfInBounds_toArray, List.set_cons_zero, List.set_cons_succ]
  refine wpE_take 26 (v := ?_) rfl (by kernel_rfl) (by kernel_rfl) (by kernel_rfl) (by rfl) (fun w' hin => ?_) ?_
  rotate_left
  · go_simp <;> with_reducible rfl
  try simp only [Act.put, List.setIfInBounds_toArray, List.set_cons_zero, List.set_cons_succ]
  refine wpE_one 25 rfl (by kernel_rfl) (by rfl) (fun K hK => ?_)
  go_simp
  refine (size_any k _).mono ?_
  rintro e w7 ⟨rfl, rfl⟩
  refine hK.out _ _ (Ext.refl _) ?_
  clear hK K
  try simp only [Act.put, List.setIfInBounds_toArray, List.set_cons_zero, List.set_cons_succ]
  refine wpE_one 27 rfl (by kernel_rfl) (by rfl) (fun K hK => ?_)
  go_simp
  refine (refSize_any k _).mono ?_
  rintro e w8 ⟨rfl, hb8⟩
  refine hK.out _ _ (hb8) ?_
  clear hK K
  try simp only [Act.put, List.setIfInBounds_toArray, List.set_cons_zero, List.set_cons_succ]
  refine wpE_take 28 (v := ?_) rfl (by kernel_rfl) (by kernel_rfl) (by kernel_rfl) (by rfl) (fun w' hin => ?_) ?_
  rotate_left
  · go_simp <;> with_reducible rfl
  try simp only [Act.put, List.setIfInBounds_toArray, List.set_cons_zero, List.set_cons_succ]
  refine wpE_take 29 (v := ?_) rfl (by kernel_rfl) (by kernel_rfl) (by kernel_rfl) (by rfl) (fun w' hin => ?_) ?_
  rotate_left
  · go_simp <;> with_reducible rfl
  try simp only [Act.put, List.setIfInBounds_toArray, List.set_cons_zero, List.set_cons_succ]
  refine wpE_take 30 (v := ?_) rfl (by kernel_rfl) (by kernel_rfl) (by kernel_rfl) (by rfl) (fun w' hin => ?_) ?_
  rotate_left
  · go_simp <;> with_reducible rfl
  try simp only [Act.put, List.setIfInBounds_toArray, List.set_cons_zero, List.set_cons_succ]
  refine wpE_done (by kernel_rfl) ?_

  go_wp2_with fail
  go_ret
  exact ⟨rfl, HE.out.trans ((((((Ext.refl w1).drew.trans hb2).trans hb3).trans hb5).trans hb6).trans hb8)⟩
end Go.Proofs.Ytjomoannlpadnaa
