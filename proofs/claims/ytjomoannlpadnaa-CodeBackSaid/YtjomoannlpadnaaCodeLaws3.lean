/- The law CodeBack: its walk. -/
import Derived.Test.YtjomoannlpadnaaCodeLaw
import Derived.Test.YtjomoannlpadnaaRegion
import Derived.Outline
import Derived.Deep.DrawnRows
namespace Go.Proofs.Ytjomoannlpadnaa
open Go.RowKit
attribute [local go_sem ↓] run_max2 run_min2
attribute [local go_sem ↓] Go.wp_at_zero Go.wp_at_succ

theorem conv_of {w : World} {A : Option Addr} {n : Nat} {bs : List UInt8} (h : Byts w A n bs) (c : Nat) : (convert 42 9 (.slice A n c)).run Try.prog w = .ok (.string (bstr bs)) w :=
  run_conv Try.underlying42 Try.underlying5 Try.underlying9 h c
theorem Byts.lt {w : World} {A : Option Addr} {n : Nat} {bs : List UInt8} (h : Byts w A n bs) {g : Nat} (hg : w.heap.size ≤ g) : OffG g A n := by
  intro hn b o e
  obtain ⟨b', o', e', hb, _⟩ := h.2 hn
  rw [e] at e'
  injection e' with e'
  injection e' with e1 e2
  omega

set_option maxRecDepth 100000 in
set_option maxHeartbeats 400000 in
theorem codeBack_long (n : Int) (s : ByteArray) (A : Option Addr) (nb c : Nat) (w : World) (h : 500 < s.size ∨ 500 < nb) : Calls Try.prog 10 #[.int .i64 n, .string s, .slice A nb c] w fun e w' => e = .returned (.bool true) ∧ Ext w w' := by
  by_cases h1 : 500 < s.size
  · go_enter Try.func10, Try.ntmps10
    go_wp2_with fail
    refine (awake02 _).mono ?_
    rintro e w1 ⟨rfl, hb1⟩
    go_wp2_with fail
    go_ret
    exact ⟨rfl, hb1⟩
  · have h2 : 500 < nb := by omega
    clear h
    go_enter Try.func10, Try.ntmps10
    go_wp2_with fail
    refine (awake02 _).mono ?_
    rintro e w1 ⟨rfl, hb1⟩
    go_wp2_with fail
    go_ret
    exact ⟨rfl, hb1⟩

set_option maxRecDepth 100000 in
set_option maxHeartbeats 4000000 in
theorem codeBack_any (n : Int) (s : ByteArray) (A : Option Addr) (nb c : Nat) (bs : List UInt8) (w : World) (hB : Byts w A nb bs) (hA : A = none → c = 0) (hnb : nb ≤ 500) (hs : s.size ≤ 500) :
    Calls Try.prog 10 #[.int .i64 n, .string s, .slice A nb c] w fun e w' => e = .returned (.bool true) ∧ Ext w w' := by
  have HB := Lib.hid hB
  clear hB
  have hn' : ¬ 500 < nb := by omega
  have hs' : ¬ 500 < s.size := by omega
  have hcast := bnd_cast n
  have hml := bnd_le n
  obtain ⟨m, hm⟩ : ∃ m, m = bnd n := ⟨_, rfl⟩
  rw [← hm] at hcast hml
  have HM := Lib.hid hm
  clear hm
  have hL1 := enc_pos m
  have hL5 := enc_len m
  go_enter Try.func10, Try.ntmps10
  go_wp2_with fail
  refine (awake02 _).mono ?_
  rintro e w1 ⟨rfl, hb1⟩
  have E1 := Lib.hid hb1
  clear hb1
  go_wp2_with fail
  refine (number_any none 0 0 [] n _ ArrR.nil_ (fun _ => rfl) (by omega)).mono ?_
  rintro e w2 ⟨v2, rfl, hown2, hb2⟩
  rw [← HM.out, Nat.zero_add, List.nil_append] at hown2
  obtain ⟨Ap, cp, rfl, hpc, hpm, hpA, hpB, -⟩ := own_byts hown2
  have HP := Lib.hid hpB
  have E2 := Lib.hid (E1.out.trans hb2)
  obtain ⟨L, hL⟩ : ∃ L, L = (enc m).length := ⟨_, rfl⟩
  rw [← hL] at hpc hL1 hL5 HP ⊢
  have HL := Lib.hid hL
  unfold maxLen at hpm
  clear hown2 hb2 hpB hL hcast
  go_wp2_with fail
  refine (text_any Ap L cp (enc m) s _ HP.out hpA (by omega) (by omega)).mono ?_
  rintro e w3 ⟨v3, rfl, hown3, hb3⟩
  have HO := Lib.hid hown3
  have E3 := Lib.hid hb3
  have HT : Hid ((encT s.data.toList).length ≤ 1000) := Lib.hid (by
    unfold encT
    have := enc_len s.data.toList.length
    rw [List.length_append, size_toList] at *
    omega)
  have HZ3 : Hid (w2.heap.size ≤ w3.heap.size) := Lib.hid hb3.size
  clear hown3 hb3
  go_wp2_with (at_builtin
               obtain ⟨v4, w4, hrun, hown4, hg4, _⟩ := run_append_flat elem_byte 42 HO.out c (ArrR.flat (f := byteV) (ArrR.up HB.out (E2.out.trans E3.out))) (byteV_one bs) (by have := HT.out; omega) (by have := HT.out; omega) HZ3.out hA
               have E4' := Lib.hid (E3.out.grown hg4 HO.out (Nat.le_refl _))
               rw [← List.map_append, List.append_assoc] at hown4
               obtain ⟨A4, c4, rfl, h4c, h4m, h4A, h4B, -⟩ := own_byts hown4
               refine Lib.wpList_append_run _ rfl _ _ _ _ rfl _ _ rfl rfl _ w4 hrun ?_
               clear hown4 hg4 hrun)
  unfold maxLen at h4m
  have HR0 := Lib.hid ((RdAt.box 0 h4B h4A h4c h4m).up ((Ext.refl _).drew))
  have E4 := Lib.hid (E2.out.trans E4'.out)
  have HTP : Hid ((Rd.mk (encT s.data.toList ++ bs) 0).txt s.size = (⟨bs, 0⟩, s.data.toList)) := Lib.hid (by
    have h := Rd.txt_put (s := s.data.toList) (by rw [size_toList]; omega) bs (i := (s.size : Int)) (by rw [size_toList, bnd_of (by omega)]; exact Nat.le_refl _)
    rw [← List.append_assoc] at h
    exact h)
  clear h4B h4A h4c h4m
  have hSw : True := trivial
  refine wpS_begin (fun _ => True) (by kernel_rfl) ?_
  refine wpS_take 0 (v := ?_) hSw rfl (by kernel_rfl) (by kernel_rfl) (by kernel_rfl) (by rfl) (fun w' hin => ?_) ?_
  rotate_left
  · (try simp only [] at hin); go_simp <;> with_reducible rfl
  try simp only [Act.put, List.setIfInBounds_toArray, List.set_cons_zero, List.set_cons_succ]
  refine wpS_take 1 (v := ?_) hSw rfl (by kernel_rfl) (by kernel_rfl) (by kernel_rfl) (by rfl) (fun w' hin => ?_) ?_
  rotate_left
  · (try simp only [] at hin); go_simp <;> with_reducible rfl
  try simp only [Act.put, List.setIfInBounds_toArray, List.set_cons_zero, List.set_cons_succ]
  refine wpS_take 3 (v := ?_) hSw rfl (by kernel_rfl) (by kernel_rfl) (by kernel_rfl) (by rfl) (fun w' hin => ?_) ?_
  rotate_left
  · (try simp only [] at hin); go_simp <;> with_reducible rfl
  try simp only [Act.put, List.setIfInBounds_toArray, List.set_cons_zero, List.set_cons_succ]
  refine wpS_one 2 rfl (by kernel_rfl) (by rfl) (fun K hK => ?_)
  go_simp
  refine (num_any w4.heap.size ⟨enc m ++ (encT s.data.toList ++ bs), 0⟩ m _ HR0.out).mono ?_
  rintro e w6 ⟨rfl, hr6, ho6⟩
  rw [Rd.num_put hml _ (by rw [bnd_of hml]; exact Nat.le_refl _)] at hr6 ⊢
  have HR6 := Lib.hid hr6
  have HO6 := Lib.hid ho6
  clear hr6 ho6
  simp only []
  refine hK.out _ _ (fun _ => True) (fun _ _ => trivial) (trivial) (fun hSw => ?_)
  clear hK K
  try simp only [Act.put, List.setIfInBounds_toArray, List.set_cons_zero, List.set_cons_succ]
  refine wpS_take 4 (v := ?_) hSw rfl (by kernel_rfl) (by kernel_rfl) (by kernel_rfl) (by rfl) (fun w' hin => ?_) ?_
  rotate_left
  · (try simp only [] at hin); go_simp <;> with_reducible rfl
  try simp only [Act.put, List.setIfInBounds_toArray, List.set_cons_zero, List.set_cons_succ]
  refine wpS_take 5 (v := ?_) hSw rfl (by kernel_rfl) (by kernel_rfl) (by kernel_rfl) (by rfl) (fun w' hin => ?_) ?_
  rotate_left
  · (try simp only [] at hin); go_simp <;> with_reducible rfl
  try simp only [Act.put, List.setIfInBounds_toArray, List.set_cons_zero, List.set_cons_succ]
  refine wpS_take 6 (v := ?_) hSw rfl (by kernel_rfl) (by kernel_rfl) (by kernel_rfl) (by rfl) (fun w' hin => ?_) ?_
  rotate_left
  · (try simp only [] at hin); go_simp <;> with_reducible rfl
  try simp only [Act.put, List.setIfInBounds_toArray, List.set_cons_zero, List.set_cons_succ]
  refine wpS_take 7 (v := ?_) hSw rfl (by kernel_rfl) (by kernel_rfl) (by kernel_rfl) (by rfl) (fun w' hin => ?_) ?_
  rotate_left
  · (try simp only [] at hin); go_simp <;> with_reducible rfl
  try simp only [Act.put, List.setIfInBounds_toArray, List.set_cons_zero, List.set_cons_succ]
  refine wpS_take 8 (v := ?_) hSw rfl (by kernel_rfl) (by kernel_rfl) (by kernel_rfl) (by rfl) (fun w' hin => ?_) ?_
  rotate_left
  · (try simp only [] at hin); go_simp <;> with_reducible rfl
  try simp only [Act.put, List.setIfInBounds_toArray, List.set_cons_zero, List.set_cons_succ]
  refine wpS_take 10 (v := ?_) hSw rfl (by kernel_rfl) (by kernel_rfl) (by kernel_rfl) (by rfl) (fun w' hin => ?_) ?_
  rotate_left
  · (try simp only [] at hin); go_simp <;> with_reducible rfl
  try simp only [Act.put, List.setIfInBounds_toArray, List.set_cons_zero, List.set_cons_succ]
  refine wpS_one 9 rfl (by kernel_rfl) (by rfl) (fun K hK => ?_)
  go_simp
  refine (txt_any w4.heap.size ⟨encT s.data.toList ++ bs, 0⟩ s.size _ HR6.out).mono ?_
  rintro e w7 ⟨rfl, hr7, ho7⟩
  rw [HTP.out] at hr7 ⊢
  have HR7 := Lib.hid hr7
  have HO7 := Lib.hid ho7
  obtain ⟨A7, n7, c7, q0, q1, hA7, hn7, hc7, hB7⟩ := hr7.cells
  have HX7 := Lib.hid (Only.ext (Ext.new w4 _) ((((Only.refl w4.heap.size _).drew).trans HO6.out).trans HO7.out) (Nat.le_refl _))
  have l0 : ∀ w', Ext w7 w' → w'.cell? ⟨w4.heap.size, 0, none⟩ = some (.slice A7 n7 c7) := fun w' hx => (hx.cell hr7.lt).trans (q0 0)
  have l1 : ∀ w', Ext w7 w' → w'.cell? ⟨w4.heap.size, 1, none⟩ = some (.int .i64 0) := fun w' hx => (hx.cell hr7.lt).trans (q0 1)
  have kb : ∀ w', Ext w7 w' → (convert 42 9 (.slice A nb c)).run Try.prog w' = .ok (.string (bstr bs)) w' := fun w' hx => conv_of (ArrR.up HB.out ((E4.out.trans HX7.out).trans hx)) c
  have kr : ∀ w', Ext w7 w' → (convert 42 9 (.slice A7 n7 c7)).run Try.prog w' = .ok (.string (bstr bs)) w' := fun w' hx => conv_of (ArrR.up hB7 hx) c7
  clear hr7 ho7 hB7 q0 q1 hA7 hn7 hc7
  rw [show bstr s.data.toList = s from rfl]
  refine hK.out _ _ (Ext w7) (fun _ _ => trivial) (Ext.refl w7) (fun hSw => ?_)
  clear hK K
  try simp only [Act.put, List.setIfInBounds_toArray, List.set_cons_zero, List.set_cons_succ]
  refine wpS_take 11 (v := ?_) hSw rfl (by kernel_rfl) (by kernel_rfl) (by kernel_rfl) (by rfl) (fun w' hin => ?_) ?_
  rotate_left
  · (try simp only [] at hin); go_simp <;> with_reducible rfl
  try simp only [Act.put, List.setIfInBounds_toArray, List.set_cons_zero, List.set_cons_succ]
  refine wpS_take 12 (v := ?_) hSw rfl (by kernel_rfl) (by kernel_rfl) (by kernel_rfl) (by rfl) (fun w' hin => ?_) ?_
  rotate_left
  · (try simp only [] at hin); go_simp <;> with_reducible rfl
  try simp only [Act.put, List.setIfInBounds_toArray, List.set_cons_zero, List.set_cons_succ]
  refine wpS_take 13 (v := ?_) hSw rfl (by kernel_rfl) (by kernel_rfl) (by kernel_rfl) (by rfl) (fun w' hin => ?_) ?_
  rotate_left
  · (try simp only [] at hin); go_simp <;> with_reducible rfl
  try simp only [Act.put, List.setIfInBounds_toArray, List.set_cons_zero, List.set_cons_succ]
  refine wpS_take 14 (v := ?_) hSw rfl (by kernel_rfl) (by kernel_rfl) (by kernel_rfl) (by rfl) (fun w' hin => ?_) ?_
  rotate_left
  · (try simp only [] at hin); go_simp <;> with_reducible rfl
  try simp only [Act.put, List.setIfInBounds_toArray, List.set_cons_zero, List.set_cons_succ]
  refine wpS_take 15 (v := ?_) hSw rfl (by kernel_rfl) (by kernel_rfl) (by kernel_rfl) (by rfl) (fun w' hin => ?_) ?_
  rotate_left
  · (try simp only [] at hin); go_simp <;> with_reducible rfl
  try simp only [Act.put, List.setIfInBounds_toArray, List.set_cons_zero, List.set_cons_succ]
  refine wpS_take 16 (v := ?_) hSw rfl (by kernel_rfl) (by kernel_rfl) (by kernel_rfl) (by rfl) (fun w' hin => ?_) ?_
  rotate_left
  · (try simp only [] at hin); go_simp <;> with_reducible rfl
  try simp only [Act.put, List.setIfInBounds_toArray, List.set_cons_zero, List.set_cons_succ]
  refine wpS_take 17 (v := ?_) hSw rfl (by kernel_rfl) (by kernel_rfl) (by kernel_rfl) (by rfl) (fun w' hin => ?_) ?_
  rotate_left
  · (try simp only [] at hin); go_simp <;> with_reducible rfl
  try simp only [Act.put, List.setIfInBounds_toArray, List.set_cons_zero, List.set_cons_succ]
  refine wpS_take 18 (v := ?_) hSw rfl (by kernel_rfl) (by kernel_rfl) (by kernel_rfl) (by rfl) (fun w' hin => ?_) ?_
  rotate_left
  · (try simp only [] at hin); go_simp <;> with_reducible rfl
  try simp only [Act.put, List.setIfInBounds_toArray, List.set_cons_zero, List.set_cons_succ]
  refine wpS_take 19 (v := ?_) hSw rfl (by kernel_rfl) (by kernel_rfl) (by kernel_rfl) (by rfl) (fun w' hin => ?_) ?_
  rotate_left
  · (try simp only [] at hin); go_simp <;> with_reducible rfl
  try simp only [Act.put, List.setIfInBounds_toArray, List.set_cons_zero, List.set_cons_succ]
  refine wpS_take 20 (v := ?_) hSw rfl (by kernel_rfl) (by kernel_rfl) (by kernel_rfl) (by rfl) (fun w' hin => ?_) ?_
  rotate_left
  · (try simp only [] at hin); go_simp <;> with_reducible rfl
  try simp only [Act.put, List.setIfInBounds_toArray, List.set_cons_zero, List.set_cons_succ]
  refine wpS_take 21 (v := ?_) hSw rfl (by kernel_rfl) (by kernel_rfl) (by kernel_rfl) (by rfl) (fun w' hin => ?_) ?_
  rotate_left
  · (try simp only [] at hin); go_simp <;> with_reducible rfl
  try simp only [Act.put, List.setIfInBounds_toArray, List.set_cons_zero, List.set_cons_succ]
  refine wpS_take 22 (v := ?_) hSw rfl (by kernel_rfl) (by kernel_rfl) (by kernel_rfl) (by rfl) (fun w' hin => ?_) ?_
  rotate_left
  · (try simp only [] at hin); go_simp <;> with_reducible rfl
  try simp only [Act.put, List.setIfInBounds_toArray, List.set_cons_zero, List.set_cons_succ]
  refine wpS_take 23 (v := ?_) hSw rfl (by kernel_rfl) (by kernel_rfl) (by kernel_rfl) (by rfl) (fun w' hin => ?_) ?_
  rotate_left
  · (try simp only [] at hin); go_simp <;> with_reducible rfl
  try simp only [Act.put, List.setIfInBounds_toArray, List.set_cons_zero, List.set_cons_succ]
  refine wpS_take 24 (v := ?_) hSw rfl (by kernel_rfl) (by kernel_rfl) (by kernel_rfl) (by rfl) (fun w' hin => ?_) ?_
  rotate_left
  · (try simp only [] at hin); go_simp <;> with_reducible rfl
  try simp only [Act.put, List.setIfInBounds_toArray, List.set_cons_zero, List.set_cons_succ]
  refine wpS_take 25 (v := ?_) hSw rfl (by kernel_rfl) (by kernel_rfl) (by kernel_rfl) (by rfl) (fun w' hin => ?_) ?_
  rotate_left
  · (try simp only [] at hin); go_simp <;> with_reducible rfl
  try simp only [Act.put, List.setIfInBounds_toArray, List.set_cons_zero, List.set_cons_succ]
  refine wpS_take 26 (v := ?_) hSw rfl (by kernel_rfl) (by kernel_rfl) (by kernel_rfl) (by rfl) (fun w' hin => ?_) ?_
  rotate_left
  · (try simp only [] at hin); go_simp <;> with_reducible rfl
  try simp only [Act.put, List.setIfInBounds_toArray, List.set_cons_zero, List.set_cons_succ]
  refine wpS_take 27 (v := ?_) hSw rfl (by kernel_rfl) (by kernel_rfl) (by kernel_rfl) (by rfl) (fun w' hin => ?_) ?_
  rotate_left
  · (try simp only [] at hin); go_simp <;> with_reducible rfl
  try simp only [Act.put, List.setIfInBounds_toArray, List.set_cons_zero, List.set_cons_succ]
  refine wpS_take 28 (v := ?_) hSw rfl (by kernel_rfl) (by kernel_rfl) (by kernel_rfl) (by rfl) (fun w' hin => ?_) ?_
  rotate_left
  · (try simp only [] at hin); go_simp <;> with_reducible rfl
  try simp only [Act.put, List.setIfInBounds_toArray, List.set_cons_zero, List.set_cons_succ]
  refine wpS_take 29 (v := ?_) hSw rfl (by kernel_rfl) (by kernel_rfl) (by kernel_rfl) (by rfl) (fun w' hin => ?_) ?_
  rotate_left
  · (try simp only [] at hin); go_simp <;> with_reducible rfl
  try simp only [Act.put, List.setIfInBounds_toArray, List.set_cons_zero, List.set_cons_succ]
  refine wpS_take 30 (v := ?_) hSw rfl (by kernel_rfl) (by kernel_rfl) (by kernel_rfl) (by rfl) (fun w' hin => ?_) ?_
  rotate_left
  · (try simp only [] at hin); go_simp <;> with_reducible rfl
  try simp only [Act.put, List.setIfInBounds_toArray, List.set_cons_zero, List.set_cons_succ]
  refine wpS_take 31 (v := ?_) hSw rfl (by kernel_rfl) (by kernel_rfl) (by kernel_rfl) (by rfl) (fun w' hin => ?_) ?_
  rotate_left
  · (try simp only [] at hin); go_simp <;> with_reducible rfl
  try simp only [Act.put, List.setIfInBounds_toArray, List.set_cons_zero, List.set_cons_succ]
  refine wpS_take 32 (v := ?_) hSw rfl (by kernel_rfl) (by kernel_rfl) (by kernel_rfl) (by rfl) (fun w' hin => ?_) ?_
  rotate_left
  · (try simp only [] at hin); go_simp <;> with_reducible rfl
  try simp only [Act.put, List.setIfInBounds_toArray, List.set_cons_zero, List.set_cons_succ]
  refine wpS_take 33 (v := ?_) hSw rfl (by kernel_rfl) (by kernel_rfl) (by kernel_rfl) (by rfl) (fun w' hin => ?_) ?_
  rotate_left
  · (try simp only [] at hin); go_simp <;> with_reducible rfl
  try simp only [Act.put, List.setIfInBounds_toArray, List.set_cons_zero, List.set_cons_succ]
  refine wpS_one 34 rfl (by kernel_rfl) (by rfl) (fun K hK => ?_)
  go_simp
  refine (size_any n _).mono ?_
  rintro e w8 ⟨rfl, rfl⟩
  rw [← HM.out, ← HL.out]
  refine hK.out _ _ (Ext w7) (fun _ h => h) (Ext.refl w7) (fun hSw => ?_)
  clear hK K
  try simp only [Act.put, List.setIfInBounds_toArray, List.set_cons_zero, List.set_cons_succ]
  refine wpS_take 35 (v := ?_) hSw rfl (by kernel_rfl) (by kernel_rfl) (by kernel_rfl) (by rfl) (fun w' hin => ?_) ?_
  rotate_left
  · (try simp only [] at hin); go_simp <;> with_reducible rfl
  try simp only [Act.put, List.setIfInBounds_toArray, List.set_cons_zero, List.set_cons_succ]
  refine wpS_take 36 (v := ?_) hSw rfl (by kernel_rfl) (by kernel_rfl) (by kernel_rfl) (by rfl) (fun w' hin => ?_) ?_
  rotate_left
  · (try simp only [] at hin); go_simp <;> with_reducible rfl
  try simp only [Act.put, List.setIfInBounds_toArray, List.set_cons_zero, List.set_cons_succ]
  refine wpS_done (by kernel_rfl) ?_

  have HP7 := Lib.hid (ArrR.up HP.out (E4'.out.trans HX7.out))
  clear l0 l1 kb kr hSw
  go_wp2_with fail
  refine (num_any w7.heap.size ⟨enc m, 0⟩ _ _ (RdAt.box 0 HP7.out hpA hpc hpm)).mono ?_
  rintro e w8 ⟨rfl, hr8, ho8⟩
  have HX8 := Lib.hid (Only.ext (Ext.new w7 _) ho8 (Nat.le_refl _))
  have HP8 := Lib.hid (ArrR.up HP7.out HX8.out)
  have HR8 := Lib.hid hr8
  have i1 : (0 : Int) ≤ (L : Int) - 1 := by omega
  have i2 : (L : Int) - 1 ≤ (cp : Int) := by omega
  have i3 : max 0 ((L : Int) - 1) = ((L - 1 : Nat) : Int) := by omega
  have i4 : L - 1 ≤ cp := by omega
  clear hr8 ho8
  go_wp2_with fail
  refine (num_any w8.heap.size ⟨(enc m).take (L - 1), 0⟩ _ _ (RdAt.box 0 (byts_take HP8.out (by omega)) hpA i4 hpm)).mono ?_
  rintro e w9 ⟨rfl, hr9, ho9⟩
  rw [Rd.num_short (by rw [← HL.out]; omega)] at hr9 ⊢
  obtain ⟨A9, n9, c9, q0, -, -, -, -, -⟩ := hr9.cells
  have HX9 := Lib.hid (Only.ext (Ext.new w8 _) ho9 (Nat.le_refl _))
  have k1 := q0 1
  have kp : ∀ nq, (convert 42 9 (.slice Ap L cp)).run Try.prog (w9.drewN nq) = .ok (.string (bstr (enc m))) (w9.drewN nq) := fun nq => conv_of (ArrR.up HP8.out (HX9.out.drewN nq)) cp
  clear hr9 ho9 q0 i1 i2 i3 i4
  by_cases h0 : m = 0
  · subst h0
    go_wp2_with fail
    go_quiet (fail)
    go_wp2_with fail
    go_ret
    exact ⟨rfl, E4.out.trans (HX7.out.trans (HX8.out.trans (HX9.out.drewN _)))⟩
  · have hb0 : ((m : Int) == 0) = false := by simp; omega
    have hr8 := HR8.out
    have hbig : (Rd.mk (enc m) 0).num ((m : Int) - 1) = (⟨enc m, 3⟩, 0) := by
      have := Rd.num_put_big hml [] (i := (m : Int) - 1) (by unfold bnd; omega)
      rw [List.append_nil] at this
      exact this
    rw [hbig] at hr8
    obtain ⟨A8, n8, c8, q0, -, -, -, -, hB8⟩ := hr8.cells
    have l0 := (HX9.out.cell (o := 0) hr8.lt).trans (q0 0)
    have l1 := (HX9.out.cell (o := 1) hr8.lt).trans (q0 1)
    have kq : ∀ nq, (convert 42 9 (.slice A8 n8 c8)).run Try.prog (w9.drewN nq) = .ok (.string (bstr (enc m))) (w9.drewN nq) := fun nq => conv_of (ArrR.up hB8 (HX9.out.drewN nq)) c8
    clear hr8 hbig hB8 q0 h0
    go_wp2_with fail
    go_quiet (fail)
    go_wp2_with fail
    go_ret
    exact ⟨rfl, E4.out.trans (HX7.out.trans (HX8.out.trans (HX9.out.drewN _)))⟩
end Go.Proofs.Ytjomoannlpadnaa
