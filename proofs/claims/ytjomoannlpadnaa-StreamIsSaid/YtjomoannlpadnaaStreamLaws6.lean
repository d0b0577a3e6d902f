/- The law StreamIs: its walk. -/
import Derived.Test.YtjomoannlpadnaaStreamRef3
import Derived.Test.YtjomoannlpadnaaRegion
import Derived.Outline
import Derived.Deep.DrawnRows
namespace Go.Proofs.Ytjomoannlpadnaa
set_option linter.unusedVariables false
open Go.RowKit
attribute [local go_sem ↓] run_max2 run_min2
attribute [local go_sem ↓] Go.wp_at_zero Go.wp_at_succ

set_option maxRecDepth 100000 in
set_option maxHeartbeats 400000 in
theorem streamIs_long (A Ab : Option Addr) (n c nb cb : Nat) (k : Int) (w : World) (h : 1000 < n ∨ 1000 < nb) : Calls Try.prog 17 #[.slice A n c, .agg #[.slice Ab nb cb, .int .i64 k]] w fun e w' => e = .returned (.bool true) ∧ Ext w w' := by
  by_cases h1 : 1000 < n
  · go_enter Try.func17, Try.ntmps17
    go_wp2_with fail
    refine (awake11 _).mono ?_
    rintro e w1 ⟨rfl, hb1⟩
    obtain ⟨q0, qf⟩ := blk_rules (box1b hb1).1
    have E1 := Lib.hid ((Ext.new _ _).trans hb1)
    clear hb1
    go_wp2_with fail
    go_ret
    exact ⟨rfl, E1.out⟩
  · have h2 : 1000 < nb := by omega
    clear h
    go_enter Try.func17, Try.ntmps17
    go_wp2_with fail
    refine (awake11 _).mono ?_
    rintro e w1 ⟨rfl, hb1⟩
    obtain ⟨q0, qf⟩ := blk_rules (box1b hb1).1
    have E1 := Lib.hid ((Ext.new _ _).trans hb1)
    clear hb1
    go_wp2_with fail
    go_ret
    exact ⟨rfl, E1.out⟩

theorem feed_count {x : Bf} {bs : List UInt8} {D : Bf × List (List UInt8)} {n nb : Nat} (h1 : x.rest.length = nb) (h2 : bs.length = n) (hn : n ≤ 1000) (hnb : nb ≤ 1000) (hD : D = x.feed bs) : D.2.length ≤ 2000000 := by
  rw [hD]
  cases hs : x.sane with
  | true =>
    have := (feed_rest hs bs).2
    omega
  | false =>
    have h : x.feed bs = B0.feed bs := by
      have hx : x.norm = B0 := by unfold Bf.norm; rw [if_neg (by rw [hs]; decide)]; rfl
      unfold Bf.feed
      rw [hx, Bf.norm_sane B0_sane]
    have h3 := (feed_rest B0_sane bs).2
    rw [h]
    rw [show B0.rest.length = 0 from rfl] at h3
    omega

set_option maxRecDepth 100000 in
set_option maxHeartbeats 4000000 in
theorem streamIs_any (A Ab : Option Addr) (n c nb cb : Nat) (bs : List UInt8) (x : Bf) (w : World) (hA : Byts w A n bs) (hc : A = none → c = 0) (hnc : n ≤ c) (hcm : c ≤ 9223372036854775807) (hB : Byts w Ab nb x.rest) (hcb : Ab = none → cb = 0) (hncb : nb ≤ cb) (hcmb : cb ≤ 9223372036854775807) (hn : n ≤ 1000) (hnb : nb ≤ 1000) :
    Calls Try.prog 17 #[.slice A n c, .agg #[.slice Ab nb cb, .int .i64 x.bad]] w fun e w' => e = .returned (.bool true) ∧ Ext w w' := by
  have HA := Lib.hid hA
  have HB := Lib.hid hB
  clear hA hB
  have hn' : ¬ 1000 < n := by omega
  have hnb' : ¬ 1000 < nb := by omega
  go_enter Try.func17, Try.ntmps17
  go_wp2_with fail
  refine (awake11 _).mono ?_
  rintro e w1 ⟨rfl, hb1⟩
  have K1 := Lib.hid (box1b hb1).1
  have hz1 := (box1b hb1).2
  obtain ⟨q0, qf⟩ := blk_rules K1.out
  have E1 := Lib.hid ((Ext.new _ _).trans hb1)
  clear hb1
  go_wp2_with fail
  refine (wrap_any A n c bs _ (ArrR.up HA.out E1.out) hc).mono ?_
  rintro e w2 ⟨A2, n2, c2, rfl, h2, hb2⟩
  have H2 := Lib.hid h2.2.2.2.1
  have E2 := Lib.hid (E1.out.trans hb2)
  have K2 := Lib.hid ((hb2.block hz1).trans K1.out)
  have hz2 := Nat.lt_of_lt_of_le hz1 hb2.size
  clear h2 hb2 q0 qf
  go_wp2_with fail
  refine (refWrap_any A n c bs _ (ArrR.up HA.out E2.out) hc).mono ?_
  rintro e w3 ⟨A3, n3, c3, rfl, h3, hb3⟩
  have H3 := Lib.hid h3.2.2.2.1
  have E3 := Lib.hid (E2.out.trans hb3)
  have X3 := Lib.hid hb3
  have K3 := Lib.hid ((hb3.block hz2).trans K2.out)
  have hz3 := Nat.lt_of_lt_of_le hz2 hb3.size
  clear h3 hb3
  go_wp2_with fail
  refine (next_any A n c bs _ (ArrR.up HA.out E3.out) hc hnc hcm).mono ?_
  rintro e w4 ⟨A4, n4, c4, rfl, h4, hb4⟩
  have H4 := Lib.hid h4.2.2.2.1
  have E4 := Lib.hid (E3.out.trans hb4)
  have X4 := Lib.hid hb4
  have K4 := Lib.hid ((hb4.block hz3).trans K3.out)
  have hz4 := Nat.lt_of_lt_of_le hz3 hb4.size
  clear h4 hb4
  go_wp2_with fail
  refine (refNext_any A n c bs _ (ArrR.up HA.out E4.out) hc hnc hcm).mono ?_
  rintro e w5 ⟨A5, n5, c5, rfl, h5, hb5⟩
  have H5 := Lib.hid h5.2.2.2.1
  have E5 := Lib.hid (E4.out.trans hb5)
  have X5 := Lib.hid hb5
  have K5 := Lib.hid ((hb5.block hz4).trans K4.out)
  have hz5 := Nat.lt_of_lt_of_le hz4 hb5.size
  obtain ⟨q0, qf⟩ := blk_rules K5.out
  clear h5 hb5
  obtain ⟨⟨p, N, er⟩, hnx⟩ : ∃ r, r = next bs := ⟨_, rfl⟩
  rw [← hnx] at H4 H5 ⊢
  have HNX := Lib.hid hnx
  clear hnx
  go_wp2_with fail
  refine (ours11 _ _ ⟨Ab, nb, cb, rfl⟩ ⟨x.bad, rfl⟩ _).mono ?_
  rintro e w6 ⟨rfl, hb6⟩
  have E6 := Lib.hid (E5.out.trans hb6)
  have X6 := Lib.hid hb6
  have K6 := Lib.hid ((hb6.block hz5).trans K5.out)
  have hz6 := Nat.lt_of_lt_of_le hz5 hb6.size
  clear hb6 q0 qf
  go_wp2_with fail
  refine (feed_any Ab A nb cb n c x bs _ (ArrR.up HB.out E6.out) hcb hncb hcmb (ArrR.up HA.out E6.out) hc (by omega)).mono ?_
  rintro e w7 ⟨A7, n7, c7, v7, rfl, he7, ⟨base, F, hbase, -, ho7⟩, hb7⟩
  obtain ⟨D, hD⟩ : ∃ D, D = x.feed bs := ⟨_, rfl⟩
  rw [← hD] at he7 ho7 ⊢
  have HD := Lib.hid hD
  obtain ⟨h71, h72, h73, h74⟩ := he7.byts
  obtain ⟨Aq, cq, rfl, -, -, -, gq⟩ := ho7.read
  have H7 := Lib.hid h74
  have Q7 := Lib.hid gq
  have E7 := Lib.hid (E6.out.trans hb7)
  have X7 := Lib.hid hb7
  have K7 := Lib.hid ((hb7.block hz6).trans K6.out)
  have hz7 := Nat.lt_of_lt_of_le hz6 hb7.size
  clear he7 ho7 h74 gq hb7 hbase hD
  have KA := Lib.hid (heap_alloc_new w7 (.cells #[.slice A7 n7 c7, .int .i64 D.1.bad] 86))
  have HDL : Hid (D.2.length ≤ 2000000) := Lib.hid (by have := feed_count HB.out.len HA.out.len hn hnb HD.out; exact this)
  have K7a := Lib.hid (((Ext.new w7 (.cells #[.slice A7 n7 c7, .int .i64 D.1.bad] 86)).block hz7).trans K7.out)
  obtain ⟨q0, qf⟩ := blk_rules K7a.out
  go_wp2_with fail
  refine (refFeed_any Ab A nb cb n c x bs _ (ArrR.up HB.out (E7.out.alloc _)) hcb hncb hcmb (ArrR.up HA.out (E7.out.alloc _)) hc (by omega)).mono ?_
  rintro e w8 ⟨A8, n8, c8, Aq8, cq8, rfl, h8, g8, hb8⟩
  rw [← HD.out] at h8 g8 ⊢
  obtain ⟨W, hW⟩ : ∃ W, W = w8.alloc (.cells #[.slice A8 n8 c8, .int .i64 D.1.bad] 81) := ⟨_, rfl⟩
  have xW : Ext w8 W := by rw [hW]; exact Ext.new _ _
  have x7 : Ext w7 W := ((Ext.new w7 _).trans hb8).trans xW
  have KB8 : Hid (W.heap[w8.heap.size]? = some (.cells #[.slice A8 n8 c8, .int .i64 D.1.bad] 81 (0, 0))) := Lib.hid (by rw [hW]; exact heap_alloc_new _ _)
  have KB7 : Hid (W.heap[w7.heap.size]? = some (.cells #[.slice A7 n7 c7, .int .i64 D.1.bad] 86 (0, 0))) := Lib.hid (((hb8.trans xW).block (by simp)).trans KA.out)
  have KX : Hid (W.heap[w.heap.size]? = some (.cells #[.slice Ab nb cb, .int .i64 x.bad] 81 (0, 0))) := Lib.hid ((x7.block hz7).trans K7.out)
  have G2 := Lib.hid (ArrR.up H2.out (((((X3.out.trans X4.out).trans X5.out).trans X6.out).trans X7.out).trans x7))
  have G3 := Lib.hid (ArrR.up H3.out ((((X4.out.trans X5.out).trans X6.out).trans X7.out).trans x7))
  have G4 := Lib.hid (ArrR.up H4.out (((X5.out.trans X6.out).trans X7.out).trans x7))
  have G5 := Lib.hid (ArrR.up H5.out ((X6.out.trans X7.out).trans x7))
  have G7 := Lib.hid (ArrR.up H7.out x7)
  have G8 := Lib.hid (ArrR.up h8 xW)
  have GQ7 := Lib.hid (Q7.out.up x7)
  have GQ8 := Lib.hid (g8.up xW)
  have GB := Lib.hid (ArrR.up HB.out (E7.out.trans x7))
  have EW := Lib.hid (E7.out.trans x7)
  have la : ∀ w', Ext W.drew w' → w'.cell? ⟨w.heap.size, 0, none⟩ = some (.slice Ab nb cb) := fun w' hx => (((Ext.refl W).drew.trans hx).cell (Array.getElem?_eq_some_iff.1 KX.out).1).trans ((blk_rules KX.out).1 0)
  have mla : ∀ w', Ext W.drew w' → w'.cell? ⟨w.heap.size, 1, none⟩ = some (.int .i64 x.bad) := fun w' hx => (((Ext.refl W).drew.trans hx).cell (Array.getElem?_eq_some_iff.1 KX.out).1).trans ((blk_rules KX.out).1 1)
  have lb : ∀ w', Ext W.drew w' → w'.cell? ⟨w7.heap.size, 0, none⟩ = some (.slice A7 n7 c7) := fun w' hx => (((Ext.refl W).drew.trans hx).cell (Array.getElem?_eq_some_iff.1 KB7.out).1).trans ((blk_rules KB7.out).1 0)
  have mlb : ∀ w', Ext W.drew w' → w'.cell? ⟨w7.heap.size, 1, none⟩ = some (.int .i64 D.1.bad) := fun w' hx => (((Ext.refl W).drew.trans hx).cell (Array.getElem?_eq_some_iff.1 KB7.out).1).trans ((blk_rules KB7.out).1 1)
  have lc : ∀ w', Ext W.drew w' → w'.cell? ⟨w8.heap.size, 0, none⟩ = some (.slice A8 n8 c8) := fun w' hx => (((Ext.refl W).drew.trans hx).cell (Array.getElem?_eq_some_iff.1 KB8.out).1).trans ((blk_rules KB8.out).1 0)
  have mlc : ∀ w', Ext W.drew w' → w'.cell? ⟨w8.heap.size, 1, none⟩ = some (.int .i64 D.1.bad) := fun w' hx => (((Ext.refl W).drew.trans hx).cell (Array.getElem?_eq_some_iff.1 KB8.out).1).trans ((blk_rules KB8.out).1 1)
  have ca : ∀ w', Ext W.drew w' → (convert 42 9 (.slice A2 n2 c2)).run Try.prog w' = .ok (.string (bstr (wrap8 bs).1)) w' := fun w' hx => conv11 (ArrR.up G2.out ((Ext.refl W).drew.trans hx)) c2
  have cb_ : ∀ w', Ext W.drew w' → (convert 42 9 (.slice A3 n3 c3)).run Try.prog w' = .ok (.string (bstr (wrap8 bs).1)) w' := fun w' hx => conv11 (ArrR.up G3.out ((Ext.refl W).drew.trans hx)) c3
  have cc : ∀ w', Ext W.drew w' → (convert 42 9 (.slice A4 n4 c4)).run Try.prog w' = .ok (.string (bstr p)) w' := fun w' hx => conv11 (ArrR.up G4.out ((Ext.refl W).drew.trans hx)) c4
  have cd : ∀ w', Ext W.drew w' → (convert 42 9 (.slice A5 n5 c5)).run Try.prog w' = .ok (.string (bstr p)) w' := fun w' hx => conv11 (ArrR.up G5.out ((Ext.refl W).drew.trans hx)) c5
  clear q0 qf K7a h8 g8 hb8 xW x7 KA
  go_wp2_with fail
  rw [← hW]
  clear hW
  have hSw : Ext W.drew W.drew := Ext.refl _
  refine wpS_begin (Ext W.drew) (by kernel_rfl) ?_
  refine wpS_take 0 (v := ?_) hSw rfl (by kernel_rfl) (by kernel_rfl) (by kernel_rfl) (by rfl) (fun w' hin => ?_) ?_
  rotate_left
  · (try simp only [] at hin); go_simp <;> with_reducible rfl
  try simp only [Act.put, List.setIfInBounds_toArray, List.set_cons_zero, List.set_cons_succ]
  refine wpS_take 1 (v := ?_) hSw rfl (by kernel_rfl) (by kernel_rfl) (by kernel_rfl) (by rfl) (fun w' hin => ?_) ?_
  rotate_left
  · (try simp only [] at hin); go_simp <;> with_reducible rfl
  try simp only [Act.put, List.setIfInBounds_toArray, List.set_cons_zero, List.set_cons_succ]
  refine wpS_take 2 (v := ?_) hSw rfl (by kernel_rfl) (by kernel_rfl) (by kernel_rfl) (by rfl) (fun w' hin => ?_) ?_
  rotate_left
  · (try simp only [] at hin); go_simp <;> with_reducible rfl
  try simp only [Act.put, List.setIfInBounds_toArray, List.set_cons_zero, List.set_cons_succ]
  refine wpS_take 3 (v := ?_) hSw rfl (by kernel_rfl) (by kernel_rfl) (by kernel_rfl) (by rfl) (fun w' hin => ?_) ?_
  rotate_left
  · (try simp only [] at hin); go_simp <;> with_reducible rfl
  try simp only [Act.put, List.setIfInBounds_toArray, List.set_cons_zero, List.set_cons_succ]
  refine wpS_take 4 (v := ?_) hSw rfl (by kernel_rfl) (by kernel_rfl) (by kernel_rfl) (by rfl) (fun w' hin => ?_) ?_
  rotate_left
  · (try simp only [] at hin); go_simp <;> with_reducible rfl
  try simp only [Act.put, List.setIfInBounds_toArray, List.set_cons_zero, List.set_cons_succ]
  refine wpS_take 5 (v := ?_) hSw rfl (by kernel_rfl) (by kernel_rfl) (by kernel_rfl) (by rfl) (fun w' hin => ?_) ?_
  rotate_left
  · (try simp only [] at hin); go_simp <;> with_reducible rfl
  try simp only [Act.put, List.setIfInBounds_toArray, List.set_cons_zero, List.set_cons_succ]
  refine wpS_take 6 (v := ?_) hSw rfl (by kernel_rfl) (by kernel_rfl) (by kernel_rfl) (by rfl) (fun w' hin => ?_) ?_
  rotate_left
  · (try simp only [] at hin); go_simp <;> with_reducible rfl
  try simp only [Act.put, List.setIfInBounds_toArray, List.set_cons_zero, List.set_cons_succ]
  refine wpS_take 7 (v := ?_) hSw rfl (by kernel_rfl) (by kernel_rfl) (by kernel_rfl) (by rfl) (fun w' hin => ?_) ?_
  rotate_left
  · (try simp only [] at hin); go_simp <;> with_reducible rfl
  try simp only [Act.put, List.setIfInBounds_toArray, List.set_cons_zero, List.set_cons_succ]
  refine wpS_take 8 (v := ?_) hSw rfl (by kernel_rfl) (by kernel_rfl) (by kernel_rfl) (by rfl) (fun w' hin => ?_) ?_
  rotate_left
  · (try simp only [] at hin); go_simp <;> with_reducible rfl
  try simp only [Act.put, List.setIfInBounds_toArray, List.set_cons_zero, List.set_cons_succ]
  refine wpS_take 9 (v := ?_) hSw rfl (by kernel_rfl) (by kernel_rfl) (by kernel_rfl) (by rfl) (fun w' hin => ?_) ?_
  rotate_left
  · (try simp only [] at hin); go_simp <;> with_reducible rfl
  try simp only [Act.put, List.setIfInBounds_toArray, List.set_cons_zero, List.set_cons_succ]
  refine wpS_take 10 (v := ?_) hSw rfl (by kernel_rfl) (by kernel_rfl) (by kernel_rfl) (by rfl) (fun w' hin => ?_) ?_
  rotate_left
  · (try simp only [] at hin); go_simp <;> with_reducible rfl
  try simp only [Act.put, List.setIfInBounds_toArray, List.set_cons_zero, List.set_cons_succ]
  refine wpS_take 11 (v := ?_) hSw rfl (by kernel_rfl) (by kernel_rfl) (by kernel_rfl) (by rfl) (fun w' hin => ?_) ?_
  rotate_left
  · (try simp only [] at hin); go_simp <;> with_reducible rfl
  try simp only [Act.put, List.setIfInBounds_toArray, List.set_cons_zero, List.set_cons_succ]
  refine wpS_take 12 (v := ?_) hSw rfl (by kernel_rfl) (by kernel_rfl) (by kernel_rfl) (by rfl) (fun w' hin => ?_) ?_
  rotate_left
  · (try simp only [] at hin); go_simp <;> with_reducible rfl
  try simp only [Act.put, List.setIfInBounds_toArray, List.set_cons_zero, List.set_cons_succ]
  refine wpS_take 13 (v := ?_) hSw rfl (by kernel_rfl) (by kernel_rfl) (by kernel_rfl) (by rfl) (fun w' hin => ?_) ?_
  rotate_left
  · (try simp only [] at hin); go_simp <;> with_reducible rfl
  try simp only [Act.put, List.setIfInBounds_toArray, List.set_cons_zero, List.set_cons_succ]
  refine wpS_take 14 (v := ?_) hSw rfl (by kernel_rfl) (by kernel_rfl) (by kernel_rfl) (by rfl) (fun w' hin => ?_) ?_
  rotate_left
  · (try simp only [] at hin); go_simp <;> with_reducible rfl
  try simp only [Act.put, List.setIfInBounds_toArray, List.set_cons_zero, List.set_cons_succ]
  refine wpS_take 15 (v := ?_) hSw rfl (by kernel_rfl) (by kernel_rfl) (by kernel_rfl) (by rfl) (fun w' hin => ?_) ?_
  rotate_left
  · (try simp only [] at hin); go_simp <;> with_reducible rfl
  try simp only [Act.put, List.setIfInBounds_toArray, List.set_cons_zero, List.set_cons_succ]
  refine wpS_take 16 (v := ?_) hSw rfl (by kernel_rfl) (by kernel_rfl) (by kernel_rfl) (by rfl) (fun w' hin => ?_) ?_
  rotate_left
  · (try simp only [] at hin); go_simp <;> with_reducible rfl
  try simp only [Act.put, List.setIfInBounds_toArray, List.set_cons_zero, List.set_cons_succ]
  refine wpS_take 17 (v := ?_) hSw rfl (by kernel_rfl) (by kernel_rfl) (by kernel_rfl) (by rfl) (fun w' hin => ?_) ?_
  rotate_left
  · (try simp only [] at hin); go_simp <;> with_reducible rfl
  try simp only [Act.put, List.setIfInBounds_toArray, List.set_cons_zero, List.set_cons_succ]
  refine wpS_take 18 (v := ?_) hSw rfl (by kernel_rfl) (by kernel_rfl) (by kernel_rfl) (by rfl) (fun w' hin => ?_) ?_
  rotate_left
  · (try simp only [] at hin); go_simp <;> with_reducible rfl
  try simp only [Act.put, List.setIfInBounds_toArray, List.set_cons_zero, List.set_cons_succ]
  refine wpS_take 19 (v := ?_) hSw rfl (by kernel_rfl) (by kernel_rfl) (by kernel_rfl) (by rfl) (fun w' hin => ?_) ?_
  rotate_left
  · (try simp only [] at hin); go_simp <;> with_reducible rfl
  try simp only [Act.put, List.setIfInBounds_toArray, List.set_cons_zero, List.set_cons_succ]
  refine wpS_take 20 (v := ?_) hSw rfl (by kernel_rfl) (by kernel_rfl) (by kernel_rfl) (by rfl) (fun w' hin => ?_) ?_
  rotate_left
  · (try simp only [] at hin); go_simp <;> with_reducible rfl
  try simp only [Act.put, List.setIfInBounds_toArray, List.set_cons_zero, List.set_cons_succ]
  refine wpS_take 21 (v := ?_) hSw rfl (by kernel_rfl) (by kernel_rfl) (by kernel_rfl) (by rfl) (fun w' hin => ?_) ?_
  rotate_left
  · (try simp only [] at hin); go_simp <;> with_reducible rfl
  try simp only [Act.put, List.setIfInBounds_toArray, List.set_cons_zero, List.set_cons_succ]
  refine wpS_take 22 (v := ?_) hSw rfl (by kernel_rfl) (by kernel_rfl) (by kernel_rfl) (by rfl) (fun w' hin => ?_) ?_
  rotate_left
  · (try simp only [] at hin); go_simp <;> with_reducible rfl
  try simp only [Act.put, List.setIfInBounds_toArray, List.set_cons_zero, List.set_cons_succ]
  refine wpS_take 23 (v := ?_) hSw rfl (by kernel_rfl) (by kernel_rfl) (by kernel_rfl) (by rfl) (fun w' hin => ?_) ?_
  rotate_left
  · (try simp only [] at hin); go_simp <;> with_reducible rfl
  try simp only [Act.put, List.setIfInBounds_toArray, List.set_cons_zero, List.set_cons_succ]
  refine wpS_take 24 (v := ?_) hSw rfl (by kernel_rfl) (by kernel_rfl) (by kernel_rfl) (by rfl) (fun w' hin => ?_) ?_
  rotate_left
  · (try simp only [] at hin); go_simp <;> with_reducible rfl
  try simp only [Act.put, List.setIfInBounds_toArray, List.set_cons_zero, List.set_cons_succ]
  refine wpS_take 25 (v := ?_) hSw rfl (by kernel_rfl) (by kernel_rfl) (by kernel_rfl) (by rfl) (fun w' hin => ?_) ?_
  rotate_left
  · (try simp only [] at hin); go_simp <;> with_reducible rfl
  try simp only [Act.put, List.setIfInBounds_toArray, List.set_cons_zero, List.set_cons_succ]
  refine wpS_take 26 (v := ?_) hSw rfl (by kernel_rfl) (by kernel_rfl) (by kernel_rfl) (by rfl) (fun w' hin => ?_) ?_
  rotate_left
  · (try simp only [] at hin); go_simp <;> with_reducible rfl
  try simp only [Act.put, List.setIfInBounds_toArray, List.set_cons_zero, List.set_cons_succ]
  refine wpS_take 27 (v := ?_) hSw rfl (by kernel_rfl) (by kernel_rfl) (by kernel_rfl) (by rfl) (fun w' hin => ?_) ?_
  rotate_left
  · (try simp only [] at hin); go_simp <;> with_reducible rfl
  try simp only [Act.put, List.setIfInBounds_toArray, List.set_cons_zero, List.set_cons_succ]
  refine wpS_take 28 (v := ?_) hSw rfl (by kernel_rfl) (by kernel_rfl) (by kernel_rfl) (by rfl) (fun w' hin => ?_) ?_
  rotate_left
  · (try simp only [] at hin); go_simp <;> with_reducible rfl
  try simp only [Act.put, List.setIfInBounds_toArray, List.set_cons_zero, List.set_cons_succ]
  refine wpS_take 29 (v := ?_) hSw rfl (by kernel_rfl) (by kernel_rfl) (by kernel_rfl) (by rfl) (fun w' hin => ?_) ?_
  rotate_left
  · (try simp only [] at hin); go_simp <;> with_reducible rfl
  try simp only [Act.put, List.setIfInBounds_toArray, List.set_cons_zero, List.set_cons_succ]
  refine wpS_take 30 (v := ?_) hSw rfl (by kernel_rfl) (by kernel_rfl) (by kernel_rfl) (by rfl) (fun w' hin => ?_) ?_
  rotate_left
  · (try simp only [] at hin); go_simp <;> with_reducible rfl
  try simp only [Act.put, List.setIfInBounds_toArray, List.set_cons_zero, List.set_cons_succ]
  refine wpS_take 31 (v := ?_) hSw rfl (by kernel_rfl) (by kernel_rfl) (by kernel_rfl) (by rfl) (fun w' hin => ?_) ?_
  rotate_left
  · (try simp only [] at hin); go_simp <;> with_reducible rfl
  try simp only [Act.put, List.setIfInBounds_toArray, List.set_cons_zero, List.set_cons_succ]
  refine wpS_take 33 (v := ?_) hSw rfl (by kernel_rfl) (by kernel_rfl) (by kernel_rfl) (by rfl) (fun w' hin => ?_) ?_
  rotate_left
  · (try simp only [] at hin); go_simp <;> with_reducible rfl
  try simp only [Act.put, List.setIfInBounds_toArray, List.set_cons_zero, List.set_cons_succ]
  refine wpS_one 32 rfl (by kernel_rfl) (by rfl) (fun K hK => ?_)
  go_simp
  refine (theirs11 A7 n7 c7 D.1.bad _).mono ?_
  rintro e w12 ⟨rfl, hb12⟩
  simp only []
  refine hK.out _ _ (Ext W.drew) (fun _ h => h) (hb12) (fun hSw => ?_)
  clear hK K
  try simp only [Act.put, List.setIfInBounds_toArray, List.set_cons_zero, List.set_cons_succ]
  refine wpS_one 34 rfl (by kernel_rfl) (by rfl) (fun K hK => ?_)
  go_simp
  refine (same11 A7 A8 n7 n8 c7 c8 D.1 _ (ArrR.up G7.out ((Ext.refl W).drew.trans hb12)) (ArrR.up G8.out ((Ext.refl W).drew.trans hb12))).mono ?_
  rintro e w13 ⟨rfl, hb13⟩
  simp only []
  refine hK.out _ _ (Ext W.drew) (fun _ h => h) ((hb12.trans hb13)) (fun hSw => ?_)
  clear hK K
  try simp only [Act.put, List.setIfInBounds_toArray, List.set_cons_zero, List.set_cons_succ]
  refine wpS_take 35 (v := ?_) hSw rfl (by kernel_rfl) (by kernel_rfl) (by kernel_rfl) (by rfl) (fun w' hin => ?_) ?_
  rotate_left
  · (try simp only [] at hin); go_simp <;> with_reducible rfl
  try simp only [Act.put, List.setIfInBounds_toArray, List.set_cons_zero, List.set_cons_succ]
  refine wpS_take 36 (v := ?_) hSw rfl (by kernel_rfl) (by kernel_rfl) (by kernel_rfl) (by rfl) (fun w' hin => ?_) ?_
  rotate_left
  · (try simp only [] at hin); go_simp <;> with_reducible rfl
  try simp only [Act.put, List.setIfInBounds_toArray, List.set_cons_zero, List.set_cons_succ]
  refine wpS_take 37 (v := ?_) hSw rfl (by kernel_rfl) (by kernel_rfl) (by kernel_rfl) (by rfl) (fun w' hin => ?_) ?_
  rotate_left
  · (try simp only [] at hin); go_simp <;> with_reducible rfl
  try simp only [Act.put, List.setIfInBounds_toArray, List.set_cons_zero, List.set_cons_succ]
  refine wpS_take 38 (v := ?_) hSw rfl (by kernel_rfl) (by kernel_rfl) (by kernel_rfl) (by rfl) (fun w' hin => ?_) ?_
  rotate_left
  · (try simp only [] at hin); go_simp <;> with_reducible rfl
  try simp only [Act.put, List.setIfInBounds_toArray, List.set_cons_zero, List.set_cons_succ]
  refine wpS_one 39 rfl (by kernel_rfl) (by rfl) (fun K hK => ?_)
  go_simp
  refine (texts11 Aq Aq8 _ _ cq cq8 D.2 _ (GQ7.out.up (((Ext.refl W).drew.trans hb12).trans hb13)) (GQ8.out.up (((Ext.refl W).drew.trans hb12).trans hb13)) (by have := HDL.out; omega)).mono ?_
  rintro e w14 ⟨rfl, hb14⟩
  simp only []
  refine hK.out _ _ (Ext W.drew) (fun _ h => h) (((hb12.trans hb13).trans hb14)) (fun hSw => ?_)
  clear hK K
  try simp only [Act.put, List.setIfInBounds_toArray, List.set_cons_zero, List.set_cons_succ]
  refine wpS_take 40 (v := ?_) hSw rfl (by kernel_rfl) (by kernel_rfl) (by kernel_rfl) (by rfl) (fun w' hin => ?_) ?_
  rotate_left
  · (try simp only [] at hin); go_simp <;> with_reducible rfl
  try simp only [Act.put, List.setIfInBounds_toArray, List.set_cons_zero, List.set_cons_succ]
  refine wpS_take 41 (v := ?_) hSw rfl (by kernel_rfl) (by kernel_rfl) (by kernel_rfl) (by rfl) (fun w' hin => ?_) ?_
  rotate_left
  · (try simp only [] at hin); go_simp <;> with_reducible rfl
  try simp only [Act.put, List.setIfInBounds_toArray, List.set_cons_zero, List.set_cons_succ]
  refine wpS_take 42 (v := ?_) hSw rfl (by kernel_rfl) (by kernel_rfl) (by kernel_rfl) (by rfl) (fun w' hin => ?_) ?_
  rotate_left
  · (try simp only [] at hin); go_simp <;> with_reducible rfl
  try simp only [Act.put, List.setIfInBounds_toArray, List.set_cons_zero, List.set_cons_succ]
  refine wpS_take 45 (v := ?_) hSw rfl (by kernel_rfl) (by kernel_rfl) (by kernel_rfl) (by rfl) (fun w' hin => ?_) ?_
  rotate_left
  · (try simp only [] at hin); go_simp <;> with_reducible rfl
  try simp only [Act.put, List.setIfInBounds_toArray, List.set_cons_zero, List.set_cons_succ]
  refine wpS_one 43 rfl (by kernel_rfl) (by rfl) (fun K hK => ?_)
  go_simp
  refine (ours11 _ _ ⟨Ab, nb, cb, rfl⟩ ⟨x.bad, rfl⟩ _).mono ?_
  rintro e w15 ⟨rfl, hb15⟩
  simp only []
  refine hK.out _ _ (Ext W.drew) (fun _ h => h) ((((hb12.trans hb13).trans hb14).trans hb15)) (fun hSw => ?_)
  clear hK K
  try simp only [Act.put, List.setIfInBounds_toArray, List.set_cons_zero, List.set_cons_succ]
  refine wpS_one 44 rfl (by kernel_rfl) (by rfl) (fun K hK => ?_)
  go_simp
  refine (streamSane_any Ab nb cb x _ (ArrR.up GB.out (((((Ext.refl W).drew.trans hb12).trans hb13).trans hb14).trans hb15)) hcb hncb hcmb).mono ?_
  rintro e w16 ⟨rfl, hb16⟩
  simp only []
  refine hK.out _ _ (Ext W.drew) (fun _ h => h) (((((hb12.trans hb13).trans hb14).trans hb15).trans hb16)) (fun hSw => ?_)
  clear hK K
  try simp only [Act.put, List.setIfInBounds_toArray, List.set_cons_zero, List.set_cons_succ]
  refine wpS_one 46 rfl (by kernel_rfl) (by rfl) (fun K hK => ?_)
  go_simp
  refine (refSane_any Ab nb cb x _ (ArrR.up GB.out ((((((Ext.refl W).drew.trans hb12).trans hb13).trans hb14).trans hb15).trans hb16)) hcb hncb hcmb).mono ?_
  rintro e w17 ⟨rfl, hb17⟩
  simp only []
  refine hK.out _ _ (Ext W.drew) (fun _ h => h) ((((((hb12.trans hb13).trans hb14).trans hb15).trans hb16).trans hb17)) (fun hSw => ?_)
  clear hK K
  try simp only [Act.put, List.setIfInBounds_toArray, List.set_cons_zero, List.set_cons_succ]
  refine wpS_take 47 (v := ?_) hSw rfl (by kernel_rfl) (by kernel_rfl) (by kernel_rfl) (by rfl) (fun w' hin => ?_) ?_
  rotate_left
  · (try simp only [] at hin); go_simp <;> with_reducible rfl
  try simp only [Act.put, List.setIfInBounds_toArray, List.set_cons_zero, List.set_cons_succ]
  refine wpS_take 48 (v := ?_) hSw rfl (by kernel_rfl) (by kernel_rfl) (by kernel_rfl) (by rfl) (fun w' hin => ?_) ?_
  rotate_left
  · (try simp only [] at hin); go_simp <;> with_reducible rfl
  try simp only [Act.put, List.setIfInBounds_toArray, List.set_cons_zero, List.set_cons_succ]
  refine wpS_take 49 (v := ?_) hSw rfl (by kernel_rfl) (by kernel_rfl) (by kernel_rfl) (by rfl) (fun w' hin => ?_) ?_
  rotate_left
  · (try simp only [] at hin); go_simp <;> with_reducible rfl
  try simp only [Act.put, List.setIfInBounds_toArray, List.set_cons_zero, List.set_cons_succ]
  refine wpS_done (by kernel_rfl) ?_
  go_wp2_with fail
  go_ret
  exact ⟨rfl, EW.out.drew.trans (((((hb12.trans hb13).trans hb14).trans hb15).trans hb16).trans hb17)⟩
end Go.Proofs.Ytjomoannlpadnaa
