/- What the reference of package stream computes: TakeNumber, Next, Sane. -/
import Derived.Test.YtjomoannlpadnaaStreamRef
namespace Go.Proofs.Ytjomoannlpadnaa
set_option linter.unusedVariables false
open Go.RowKit
attribute [local go_sem ↓] run_max2 run_min2
attribute [local go_sem ↓] Go.wp_at_zero Go.wp_at_succ

theorem numR_cases (bs : List UInt8) (i : Int) : (∃ er, (er = 1 ∨ er = 2 ∨ er = 3) ∧ numR bs i = (0, 0, er) ∧ (Rd.mk bs 0).num i = (⟨bs, er⟩, 0)) ∨
    (∃ m j, numR bs i = (m, j, 0) ∧ 0 < j ∧ j ≤ bs.length ∧ (Rd.mk bs 0).num i = (⟨bs.drop j, 0⟩, m)) := by
  by_cases hp : (parse bs).2.2 = 0
  · by_cases hb : bnd i < (parse bs).1
    · left
      exact ⟨3, .inr (.inr rfl), by unfold numR; rw [if_neg (by simpa using hp), if_pos hb], Rd.num_big (r := ⟨bs, 0⟩) rfl hp hb⟩
    · right
      have h := Rd.num_ok (r := ⟨bs, 0⟩) rfl hp hb
      obtain ⟨m, k, z, hx⟩ : ∃ m k z, parse bs = (m, k, z) := ⟨_, _, _, rfl⟩
      obtain rfl : z = 0 := by rw [hx] at hp; exact hp
      have ho := parse_once hx
      simp only [hx] at h
      exact ⟨m, k, by unfold numR; rw [if_neg (by simpa using hp), if_neg hb, hx], ho.1, ho.2.2.1, h⟩
  · left
    refine ⟨(parse bs).2.2, ?_, by unfold numR; rw [if_pos hp], Rd.num_bad (r := ⟨bs, 0⟩) rfl i hp⟩
    rcases parse_err bs with h0 | h0 | h0
    · exact absurd h0 hp
    · rw [h0]; exact .inl rfl
    · rw [h0]; exact .inr (.inl rfl)

def TakePost (w : World) (r : Rd × Nat) (e : Ending) (w' : World) : Prop :=
  ∃ A n c, e = .returned (.tuple #[.agg #[.slice A n c, .int .i64 r.1.e], .int .i64 (r.2 : Nat)]) ∧ Byts w' A n r.1.b ∧ (A = none → c = 0) ∧ n ≤ c ∧ c ≤ 9223372036854775807 ∧ Ext w w'

set_option maxRecDepth 100000 in
set_option maxHeartbeats 400000 in
theorem refTake_any (A : Option Addr) (n c : Nat) (bs : List UInt8) (i : Int) (w : World) (hA : Byts w A n bs) (hc : A = none → c = 0) (hnc : n ≤ c) (hcm : c ≤ 9223372036854775807) :
    Calls Try.prog 80 #[.agg #[.slice A n c, .int .i64 0], .int .i64 i] w (TakePost w ((Rd.mk bs 0).num i)) := by
  have HL := Lib.hid hA.len
  have HA := Lib.hid hA
  have HAc := Lib.hid hc
  clear hA hc
  have EX : Hid (Ext w ((w.alloc (.cells #[.slice A n c, .int .i64 0] 116)).alloc (.cells #[.slice none 0 0, .int .i64 0] 116))) := Lib.hid ((Ext.new _ _).alloc _)
  go_enter Try.func80, Try.ntmps80
  go_wp2_with fail
  refine (refNum_any A n c bs i _ (ArrR.up HA.out EX.out)).mono ?_
  rintro e w1 ⟨rfl, rfl⟩
  rcases numR_cases bs i with ⟨er, he, hR, hN⟩ | ⟨m, j, hR, hj0, hjl, hN⟩
  · rw [hR]
    have hb : (er != 0) = true := by rcases he with rfl | rfl | rfl <;> decide
    have HN := Lib.hid hN
    clear hR hN he
    go_wp2_with fail
    exact bodyPost_ret (v := .tuple #[.agg #[.slice A n c, .int .i64 er], .int .i64 0]) (by simp [results, Try.results80, go_sem]) rfl ⟨A, n, c, by rw [HN.out]; rfl, by rw [HN.out]; exact ArrR.up HA.out ((Ext.new _ _).alloc _), HAc.out, hnc, hcm, (Ext.new _ _).alloc _⟩
  · rw [hR]
    have HN := Lib.hid hN
    obtain ⟨b, o, rfl, -⟩ := HA.out.2 (by have := HL.out; omega)
    have j1 : (j : Int) ≤ (n : Int) := by have := HL.out; omega
    clear hR hN
    go_wp2_with fail
    · exact bodyPost_ret (v := .tuple #[.agg #[.slice (some ⟨b, o, none⟩) (n - j) 0, .int .i64 0], .int .i64 m]) (by simp [results, Try.results80, go_sem]) rfl ⟨_, n - j, 0, by rw [HN.out], by rw [HN.out]; exact ⟨by rw [List.length_drop, HL.out], fun h => absurd h (by omega)⟩, (fun h => by cases h), by omega, by omega, (Ext.new _ _).alloc _⟩
    · exact bodyPost_ret (v := .tuple #[.agg #[.slice (some ⟨b, o + j, none⟩) (n - j) (c - j), .int .i64 0], .int .i64 m]) (by simp [results, Try.results80, go_sem]) rfl ⟨_, n - j, c - j, by rw [HN.out], by rw [HN.out]; exact ArrR.up (byts_drop HA.out j) ((Ext.new _ _).alloc _), (fun h => by cases h), by omega, by omega, (Ext.new _ _).alloc _⟩

set_option maxRecDepth 100000 in
set_option maxHeartbeats 1000000 in
theorem refNext_any (A : Option Addr) (n c : Nat) (bs : List UInt8) (w : World) (hA : Byts w A n bs) (hc : A = none → c = 0) (hnc : n ≤ c) (hcm : c ≤ 9223372036854775807) :
    Calls Try.prog 56 #[.slice A n c] w (NextPost w bs) := by
  have HL := Lib.hid hA.len
  have HT := Lib.hid (refTake_any A n c bs 100000 w hA hc hnc hcm)
  have hn63 : n ≤ 9223372036854775807 := by omega
  clear hA
  go_enter Try.func56, Try.ntmps56
  go_wp2_with fail
  refine HT.out.mono ?_
  rintro e w1 ⟨A1, n1, c1, rfl, hB1, hA1, hn1, hc1, hb1⟩
  rcases next_cases bs with ⟨er, he, hnum, hN⟩ | ⟨m, k, hp, hm, hk0, hkl, henc, hnum, hor⟩
  · rw [hnum] at hB1 ⊢
    have hb : (er != 0) = true := by rcases he with rfl | rfl | rfl <;> decide
    have HN := Lib.hid hN
    clear hB1 he hnum hN
    go_wp2_with fail
    go_quiet (fail)
    go_wp2_with fail
    go_ret3
    exact ⟨none, 0, 0, by rw [HN.out]; rfl, by rw [HN.out]; exact Own8.nil_, (hb1.alloc _).drewN _⟩
  · rw [hnum] at hB1 ⊢
    rw [HL.out] at hkl
    obtain rfl : n1 = n - k := by have := hB1.len; simp only [List.length_drop] at this; have := HL.out; omega
    have HB1 := Lib.hid hB1
    rcases hor with ⟨hl, hN⟩ | ⟨hl, hN⟩
    · rw [HL.out] at hl
      have hlt : n - k < m := by omega
      have HN := Lib.hid hN
      clear hnum hN hp henc hB1
      go_wp2_with fail
      go_ret3
      exact ⟨none, 0, 0, by rw [HN.out]; rfl, by rw [HN.out]; exact Own8.nil_, hb1.trans (Ext.new _ _)⟩
    · rw [HL.out] at hl
      have hlt : ¬ n - k < m := by omega
      have HN := Lib.hid hN
      have HX := Lib.hid hb1
      clear hnum hN hp henc hB1 hb1
      have i0 : (0 : Int) ≤ (m : Int) := by omega
      have i1 : (m : Int) ≤ ((n - k : Nat) : Int) := by omega
      have i2 : ((n - k : Nat) : Int) ≤ (c1 : Int) := by omega
      have i3 : (m : Int) ≤ (c1 : Int) := by omega
      have i4 : (n : Int) - ((n - k : Nat) : Int) = (k : Int) := by omega
      have i5 : IntKind.i64.wrap ((n : Int) - ((n - k : Nat) : Int)) = (k : Int) := by rw [IntKind.wrap_i64]; omega
      have i7 : IntKind.i64.wrap (k : Int) = (k : Int) := by rw [IntKind.wrap_i64]; omega
      have i6 : IntKind.i64.wrap ((k : Int) + (m : Int)) = (k : Int) + (m : Int) := by rw [IntKind.wrap_i64]; omega
      go_wp2_with fail
      obtain ⟨W, hW⟩ : ∃ W, W = w1.alloc (.cells #[.slice A1 (n - k) c1, .int .i64 0] 116) := ⟨_, rfl⟩
      have xW : Ext w1 W := by rw [hW]; exact Ext.new _ _
      have hbx : W.heap[w1.heap.size]? = some (.cells #[.slice A1 (n - k) c1, .int .i64 0] 116 (0, 0)) := by rw [hW]; exact heap_alloc_new _ _
      have l0 : ∀ w', Ext W.drew w' → w'.cell? ⟨w1.heap.size, 0, none⟩ = some (.slice A1 (n - k) c1) := fun w' hx => (((Ext.refl W).drew.trans hx).cell (Array.getElem?_eq_some_iff.1 hbx).1).trans ((blk_rules hbx).1 0)
      have XW := Lib.hid (HX.out.trans xW)
      have HE := Lib.hid (own_up (own_empty_lit W W.heap.size 5 1 (Nat.le_refl _)) (Ext.refl _).drew)
      have HF := Lib.hid ((byts_take (ArrR.up HB1.out xW) (k := m) (by omega)).flat)
      have HZ : Hid (W.heap.size ≤ (W.alloc (.cells #[] 5)).drew.heap.size) := Lib.hid (Ext.new W (.cells #[] 5)).drew.size
      rw [← hW]
      clear hW xW hbx
      have hSw : Ext W.drew W.drew := Ext.refl _
      refine wpS_begin (Ext W.drew) (by kernel_rfl) ?_
      refine wpS_take 1 (v := ?_) hSw rfl (by kernel_rfl) (by kernel_rfl) (by kernel_rfl) (by rfl) (fun w' hin => ?_) ?_
      rotate_left
      · (try simp only [] at hin); go_simp <;> with_reducible rfl
      try simp only [Act.put, List.setIfInBounds_toArray, List.set_cons_zero, List.set_cons_succ]
      refine wpS_take 2 (v := ?_) hSw rfl (by kernel_rfl) (by kernel_rfl) (by kernel_rfl) (by rfl) (fun w' hin => ?_) ?_
      rotate_left
      · (try simp only [] at hin); go_simp <;> with_reducible rfl
      try simp only [Act.put, List.setIfInBounds_toArray, List.set_cons_zero, List.set_cons_succ]
      refine wpS_take 3 (v := ?_) hSw rfl (by kernel_rfl) (by kernel_rfl) (by kernel_rfl) (by rfl) (fun w' hin => ?_) ?_
      rotate_left
      · (try simp only [] at hin); go_simp <;> with_reducible rfl
      try simp only [Act.put, List.setIfInBounds_toArray, List.set_cons_zero, List.set_cons_succ]
      refine wpS_take 4 (v := ?_) hSw rfl (by kernel_rfl) (by kernel_rfl) (by kernel_rfl) (by rfl) (fun w' hin => ?_) ?_
      rotate_left
      · (try simp only [] at hin); go_simp <;> with_reducible rfl
      try simp only [Act.put, List.setIfInBounds_toArray, List.set_cons_zero, List.set_cons_succ]
      refine wpS_take 6 (v := ?_) hSw rfl (by kernel_rfl) (by kernel_rfl) (by kernel_rfl) (by rfl) (fun w' hin => ?_) ?_
      rotate_left
      · (try simp only [] at hin); go_simp <;> with_reducible rfl
      try simp only [Act.put, List.setIfInBounds_toArray, List.set_cons_zero, List.set_cons_succ]
      refine wpS_take 7 (v := ?_) hSw rfl (by kernel_rfl) (by kernel_rfl) (by kernel_rfl) (by rfl) (fun w' hin => ?_) ?_
      rotate_left
      · (try simp only [] at hin); go_simp <;> with_reducible rfl
      try simp only [Act.put, List.setIfInBounds_toArray, List.set_cons_zero, List.set_cons_succ]
      refine wpS_take 8 (v := ?_) hSw rfl (by kernel_rfl) (by kernel_rfl) (by kernel_rfl) (by rfl) (fun w' hin => ?_) ?_
      rotate_left
      · (try simp only [] at hin); go_simp <;> with_reducible rfl
      try simp only [Act.put, List.setIfInBounds_toArray, List.set_cons_zero, List.set_cons_succ]
      refine wpS_take 9 (v := ?_) hSw rfl (by kernel_rfl) (by kernel_rfl) (by kernel_rfl) (by rfl) (fun w' hin => ?_) ?_
      rotate_left
      · (try simp only [] at hin); go_simp <;> with_reducible rfl
      try simp only [Act.put, List.setIfInBounds_toArray, List.set_cons_zero, List.set_cons_succ]
      refine wpS_take 10 (v := ?_) hSw rfl (by kernel_rfl) (by kernel_rfl) (by kernel_rfl) (by rfl) (fun w' hin => ?_) ?_
      rotate_left
      · (try simp only [] at hin); go_simp <;> with_reducible rfl
      try simp only [Act.put, List.setIfInBounds_toArray, List.set_cons_zero, List.set_cons_succ]
      refine wpS_take 11 (v := ?_) hSw rfl (by kernel_rfl) (by kernel_rfl) (by kernel_rfl) (by rfl) (fun w' hin => ?_) ?_
      rotate_left
      · (try simp only [] at hin); go_simp <;> with_reducible rfl
      try simp only [Act.put, List.setIfInBounds_toArray, List.set_cons_zero, List.set_cons_succ]
      refine wpS_take 12 (v := ?_) hSw rfl (by kernel_rfl) (by kernel_rfl) (by kernel_rfl) (by rfl) (fun w' hin => ?_) ?_
      rotate_left
      · (try simp only [] at hin); go_simp <;> with_reducible rfl
      try simp only [Act.put, List.setIfInBounds_toArray, List.set_cons_zero, List.set_cons_succ]
      refine wpS_take 13 (v := ?_) hSw rfl (by kernel_rfl) (by kernel_rfl) (by kernel_rfl) (by rfl) (fun w' hin => ?_) ?_
      rotate_left
      · (try simp only [] at hin); go_simp <;> with_reducible rfl
      try simp only [Act.put, List.setIfInBounds_toArray, List.set_cons_zero, List.set_cons_succ]
      refine wpS_one 0 rfl (by kernel_rfl) (by rfl) (fun K hK => ?_)
      go_simp
      skip
      refine hK.out _ _ (Ext W.drew) (fun _ h => h) ((Ext.refl W.drew).alloc _) (fun hSw => ?_)
      clear hK K
      try simp only [Act.put, List.setIfInBounds_toArray, List.set_cons_zero, List.set_cons_succ]
      refine wpS_one 5 rfl (by kernel_rfl) (by rfl) (fun K hK => ?_)
      obtain ⟨v', w2, hrun, hown2, hg2, _⟩ := run_append_flat elem_byte 42 HE.out c1 (HF.out.up (((Ext.new W (.cells #[] 5))).drew)) (byteV_one ((bs.drop k).take m)) (by omega) (by omega) HZ.out hA1
      rw [Nat.zero_add, List.nil_append] at hown2
      obtain ⟨A2, c2, rfl, h8⟩ := Own8.of_own hown2
      have hb1 : Ext W w2 := ((Ext.new W (.cells #[] 5)).drew).grown hg2 HE.out (Nat.le_refl _)
      have hb2 : Ext W.drew w2 := ⟨hb1.os, hb1.tape, hb1.output, hb1.size, fun _ hk => Ext.block hb1 hk⟩
      refine Lib.wp_append_run _ _ _ _ _ rfl _ _ rfl rfl _ w2 hrun ?_
      clear hrun hown2 hg2 hb1
      refine hK.out _ _ (Ext W.drew) (fun _ h => h) (hb2) (fun hSw => ?_)
      clear hK K
      try simp only [Act.put, List.setIfInBounds_toArray, List.set_cons_zero, List.set_cons_succ]
      refine wpS_take 14 (v := ?_) hSw rfl (by kernel_rfl) (by kernel_rfl) (by kernel_rfl) (by rfl) (fun w' hin => ?_) ?_
      rotate_left
      · (try simp only [] at hin); go_simp <;> with_reducible rfl
      try simp only [Act.put, List.setIfInBounds_toArray, List.set_cons_zero, List.set_cons_succ]
      refine wpS_take 15 (v := ?_) hSw rfl (by kernel_rfl) (by kernel_rfl) (by kernel_rfl) (by rfl) (fun w' hin => ?_) ?_
      rotate_left
      · (try simp only [] at hin); go_simp <;> with_reducible rfl
      try simp only [Act.put, List.setIfInBounds_toArray, List.set_cons_zero, List.set_cons_succ]
      refine wpS_take 16 (v := ?_) hSw rfl (by kernel_rfl) (by kernel_rfl) (by kernel_rfl) (by rfl) (fun w' hin => ?_) ?_
      rotate_left
      · (try simp only [] at hin); go_simp <;> with_reducible rfl
      try simp only [Act.put, List.setIfInBounds_toArray, List.set_cons_zero, List.set_cons_succ]
      refine wpS_done (by kernel_rfl) ?_
      clear i0 i1 i2 i3 i4 i5 i6 i7
      go_wp2_with fail
      go_ret3
      refine ⟨A2, m, c2, by rw [HN.out]; go_num, ?_, (XW.out.drew).trans hb2⟩
      rw [HN.out]
      exact ⟨h8.1, h8.2.1, h8.2.2.1, h8.2.2.2.1, fun b o e => Nat.le_trans XW.out.size (h8.2.2.2.2 b o e)⟩

set_option maxRecDepth 100000 in
set_option maxHeartbeats 400000 in
theorem refSane_any (A : Option Addr) (n c : Nat) (x : Bf) (w : World) (hA : Byts w A n x.rest) (hc : A = none → c = 0) (hnc : n ≤ c) (hcm : c ≤ 9223372036854775807) :
    Calls Try.prog 64 #[.agg #[.slice A n c, .int .i64 x.bad]] w fun e w' => e = .returned (.bool x.sane) ∧ Ext w w' := by
  have HL := Lib.hid hA.len
  have HA := Lib.hid (ArrR.up hA (Ext.new w (.cells #[.slice A n c, .int .i64 x.bad] 81)))
  clear hA
  by_cases he : x.bad = 0
  · have hb : (x.bad != 0) = false := by simpa using he
    have HS : Hid (x.sane = decide ((next x.rest).2.2 = 1)) := Lib.hid (by unfold Bf.sane; rw [if_pos he])
    clear he
    go_enter Try.func64, Try.ntmps64
    go_wp2_with fail
    refine (refNext_any A n c x.rest _ HA.out hc hnc hcm).mono ?_
    rintro e w1 ⟨A1, n1, c1, rfl, -, hb1⟩
    go_wp2_with fail
    go_ret
    refine ⟨?_, (Ext.new w _).trans hb1⟩
    rw [HS.out]
    exact ret_bool (by by_cases h : (next x.rest).2.2 = 1 <;> simp [h])
  · have hb : (x.bad != 0) = true := by simpa using he
    have HS : Hid (x.sane = decide (n = 0)) := Lib.hid (by unfold Bf.sane; rw [if_neg he, HL.out])
    clear he
    go_enter Try.func64, Try.ntmps64
    go_wp2_with fail
    go_ret
    refine ⟨?_, Ext.new w _⟩
    rw [HS.out]
    exact ret_bool (by by_cases h : n = 0 <;> simp [h])

end Go.Proofs.Ytjomoannlpadnaa
