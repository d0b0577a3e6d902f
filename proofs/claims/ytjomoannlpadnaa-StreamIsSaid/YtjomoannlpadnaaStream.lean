/- What Wrap, Next, Sane of package stream compute. -/
import Derived.Test.YtjomoannlpadnaaStreamPlain
import Derived.Test.YtjomoannlpadnaaCodeLaw
import Derived.Test.YtjomoannlpadnaaRegion
import Derived.Outline
import Derived.Deep.DrawnRows
namespace Go.Proofs.Ytjomoannlpadnaa
set_option linter.unusedVariables false
open Go.RowKit
attribute [local go_sem ↓] run_max2 run_min2
attribute [local go_sem ↓] Go.wp_at_zero Go.wp_at_succ

/-- a slice of bytes of the call's own -/
def Own8 (B : Nat) (w : World) (A : Option Addr) (n c : Nat) (bs : List UInt8) : Prop := (A = none → c = 0) ∧ n ≤ c ∧ c ≤ 9223372036854775807 ∧ Byts w A n bs ∧ (∀ b o, A = some ⟨b, o, none⟩ → B ≤ b)
theorem Own8.of_own {w : World} {B n : Nat} {e : TypeId} {v : Value} {bs : List UInt8} (h : w.ownsRow B e 1 v n (bs.map byteV)) : ∃ A c, v = .slice A n c ∧ Own8 B w A n c bs := by
  obtain ⟨A, c, rfl, h1, h2, h3, h4, h5⟩ := own_byts h
  unfold maxLen at h2
  exact ⟨A, c, rfl, h3, h1, by omega, h4, h5⟩
theorem Own8.nil_ {B : Nat} {w : World} : Own8 B w none 0 0 [] := ⟨fun _ => rfl, Nat.le_refl _, by omega, ArrR.nil_, fun _ _ h => by cases h⟩
theorem Own8.up {B : Nat} {w w' : World} {A : Option Addr} {n c : Nat} {bs : List UInt8} (h : Own8 B w A n c bs) (hx : Ext w w') : Own8 B w' A n c bs := ⟨h.1, h.2.1, h.2.2.1, ArrR.up h.2.2.2.1 hx, h.2.2.2.2⟩

/-- what Wrap gives -/
def wrap8 (bs : List UInt8) : List UInt8 × Int := if 100000 < bs.length then ([], 3) else (encT bs, 0)
def WrapPost (w : World) (bs : List UInt8) (e : Ending) (w' : World) : Prop := ∃ A n c, e = .returned (.tuple #[.slice A n c, .int .i64 (wrap8 bs).2]) ∧ Own8 w.heap.size w' A n c (wrap8 bs).1 ∧ Ext w w'

set_option maxRecDepth 100000 in
set_option maxHeartbeats 400000 in
theorem wrap_any (A : Option Addr) (n c : Nat) (bs : List UInt8) (w : World) (hA : Byts w A n bs) (hc : A = none → c = 0) :
    Calls Try.prog 53 #[.slice A n c] w (WrapPost w bs) := by
  have HL := Lib.hid hA.len
  have HA := Lib.hid hA
  clear hA
  by_cases hb : 100000 < n
  · have HW : Hid (wrap8 bs = ([], 3)) := Lib.hid (by unfold wrap8; rw [if_pos (by rw [HL.out]; exact hb)])
    go_enter Try.func53, Try.ntmps53
    go_wp2_with fail
    go_ret2
    exact ⟨none, 0, 0, by rw [HW.out]; rfl, by rw [HW.out]; exact Own8.nil_, Ext.refl _⟩
  · have HW : Hid (wrap8 bs = (encT bs, 0)) := Lib.hid (by unfold wrap8; rw [if_neg (by rw [HL.out]; exact hb)])
    go_enter Try.func53, Try.ntmps53
    go_wp2_with fail
    refine (number_any none 0 0 [] n _ ArrR.nil_ (fun _ => rfl) (by omega)).mono ?_
    rintro e w1 ⟨v1, rfl, hown1, hb1⟩
    rw [bnd_of (by omega), Nat.zero_add, List.nil_append] at hown1
    have hl := enc_len n
    have hz1 : w.heap.size ≤ w1.heap.size := hb1.size
    have HO := Lib.hid hown1
    clear hown1
    go_wp2_with (at_builtin
                 obtain ⟨v', w2, hrun, hown2, hg2, _⟩ := run_append_flat elem_byte 42 HO.out c (ArrR.flat (f := byteV) (ArrR.up HA.out hb1)) (byteV_one bs) (by omega) (by omega) hz1 hc
                 rw [← List.map_append] at hown2
                 obtain ⟨A2, c2, rfl, h8⟩ := Own8.of_own hown2
                 refine Lib.wpList_append_run _ rfl _ _ _ _ rfl _ _ rfl rfl _ w2 hrun ?_)
    go_ret2
    refine ⟨A2, _, c2, by rw [HW.out]; rfl, ?_, hb1.grown hg2 HO.out (Nat.le_refl _)⟩
    rw [HW.out]
    unfold encT
    rw [HL.out]
    exact h8

/-- what Next gives -/
def NextPost (w : World) (bs : List UInt8) (e : Ending) (w' : World) : Prop := ∃ A n c, e = .returned (.tuple #[.slice A n c, .int .i64 ((next bs).2.1 : Nat), .int .i64 (next bs).2.2]) ∧ Own8 w.heap.size w' A n c (next bs).1 ∧ Ext w w'

set_option maxRecDepth 100000 in
set_option maxHeartbeats 1000000 in
theorem next_any (A : Option Addr) (n c : Nat) (bs : List UInt8) (w : World) (hA : Byts w A n bs) (hc : A = none → c = 0) (hnc : n ≤ c) (hcm : c ≤ 9223372036854775807) :
    Calls Try.prog 55 #[.slice A n c] w (NextPost w bs) := by
  have HL := Lib.hid hA.len
  have hR := Lib.hid (RdAt.box 0 hA hc hnc hcm)
  clear hA
  go_enter Try.func55, Try.ntmps55
  go_wp2_with fail
  refine (num_any w.heap.size ⟨bs, 0⟩ 100000 _ hR.out).mono ?_
  rintro e w1 ⟨rfl, hr1, ho1⟩
  have HX := Lib.hid (Only.ext (Ext.new w _) ho1 (Nat.le_refl _))
  have hzw : w.heap.size < w1.heap.size := hr1.lt
  rcases next_cases bs with ⟨er, he, hnum, hN⟩ | ⟨m, k, hp, hm, hk0, hkl, henc, hnum, hor⟩
  · rw [hnum] at hr1 ⊢
    have hb : (er != 0) = true := by rcases he with rfl | rfl | rfl <;> decide
    have HN := Lib.hid hN
    obtain ⟨A1, n1, c1, q0, q1, -, -, -, -⟩ := hr1.cells
    clear hr1 ho1 he hnum hN
    go_wp2_with fail
    go_quiet (fail)
    go_wp2_with fail
    go_ret3
    exact ⟨none, 0, 0, by rw [HN.out]; rfl, by rw [HN.out]; exact Own8.nil_, HX.out.drewN _⟩
  · rw [hnum] at hr1 ⊢
    rw [HL.out] at hkl
    obtain ⟨A1, n1, c1, q0, q1, hA1, hn1, hc1, hB1⟩ := hr1.cells
    obtain rfl : n1 = n - k := by have := hB1.len; simp only [List.length_drop] at this; have := HL.out; omega
    have HB1 := Lib.hid hB1
    rcases hor with ⟨hl, hN⟩ | ⟨hl, hN⟩
    · rw [HL.out] at hl
      have hlt : n - k < m := by omega
      have HN := Lib.hid hN
      clear hr1 ho1 hnum hN hp henc hB1
      go_wp2_with fail
      go_ret3
      exact ⟨none, 0, 0, by rw [HN.out]; rfl, by rw [HN.out]; exact Own8.nil_, HX.out⟩
    · rw [HL.out] at hl
      have hlt : ¬ n - k < m := by omega
      have HN := Lib.hid hN
      have l0 : ∀ w', Ext w1.drew w' → w'.cell? ⟨w.heap.size, 0, none⟩ = some (.slice A1 (n - k) c1) := fun w' hx => (((Ext.refl w1).drew.trans hx).cell hzw).trans (q0 0)
      clear hr1 ho1 hnum hN hp henc hB1
      go_wp2_with fail
      have i0 : (0 : Int) ≤ (m : Int) := by omega
      have i1 : (m : Int) ≤ ((n - k : Nat) : Int) := by omega
      have i2 : ((n - k : Nat) : Int) ≤ (c1 : Int) := by omega
      have i3 : (m : Int) ≤ (c1 : Int) := by omega
      have i4 : (n : Int) - ((n - k : Nat) : Int) = (k : Int) := by omega
      have i5 : IntKind.i64.wrap ((n : Int) - ((n - k : Nat) : Int)) = (k : Int) := by rw [IntKind.wrap_i64]; omega
      have i7 : IntKind.i64.wrap (k : Int) = (k : Int) := by rw [IntKind.wrap_i64]; omega
      have i6 : IntKind.i64.wrap ((k : Int) + (m : Int)) = (k : Int) + (m : Int) := by rw [IntKind.wrap_i64]; omega
      refine wpE_begin (by kernel_rfl) ?_
      refine wpE_take 0 (v := ?_) rfl (by kernel_rfl) (by kernel_rfl) (by kernel_rfl) (by rfl) (fun w' hin => ?_) ?_
      rotate_left
      · go_simp <;> with_reducible rfl
      try simp only [Act.put, List.setIfInBounds_toArray, List.set_cons_zero, List.set_cons_succ]
      refine wpE_take 1 (v := ?_) rfl (by kernel_rfl) (by kernel_rfl) (by kernel_rfl) (by rfl) (fun w' hin => ?_) ?_
      rotate_left
      · go_simp <;> with_reducible rfl
      try simp only [Act.put, List.setIfInBounds_toArray, List.set_cons_zero, List.set_cons_succ]
      refine wpE_take 2 (v := ?_) rfl (by kernel_rfl) (by kernel_rfl) (by kernel_rfl) (by rfl) (fun w' hin => ?_) ?_
      rotate_left
      · go_simp <;> with_reducible rfl
      try simp only [Act.put, List.setIfInBounds_toArray, List.set_cons_zero, List.set_cons_succ]
      refine wpE_take 3 (v := ?_) rfl (by kernel_rfl) (by kernel_rfl) (by kernel_rfl) (by rfl) (fun w' hin => ?_) ?_
      rotate_left
      · go_simp <;> with_reducible rfl
      try simp only [Act.put, List.setIfInBounds_toArray, List.set_cons_zero, List.set_cons_succ]
      refine wpE_take 4 (v := ?_) rfl (by kernel_rfl) (by kernel_rfl) (by kernel_rfl) (by rfl) (fun w' hin => ?_) ?_
      rotate_left
      · go_simp <;> with_reducible rfl
      try simp only [Act.put, List.setIfInBounds_toArray, List.set_cons_zero, List.set_cons_succ]
      refine wpE_take 5 (v := ?_) rfl (by kernel_rfl) (by kernel_rfl) (by kernel_rfl) (by rfl) (fun w' hin => ?_) ?_
      rotate_left
      · go_simp <;> with_reducible rfl
      try simp only [Act.put, List.setIfInBounds_toArray, List.set_cons_zero, List.set_cons_succ]
      refine wpE_take 7 (v := ?_) rfl (by kernel_rfl) (by kernel_rfl) (by kernel_rfl) (by rfl) (fun w' hin => ?_) ?_
      rotate_left
      · go_simp <;> with_reducible rfl
      try simp only [Act.put, List.setIfInBounds_toArray, List.set_cons_zero, List.set_cons_succ]
      refine wpE_take 8 (v := ?_) rfl (by kernel_rfl) (by kernel_rfl) (by kernel_rfl) (by rfl) (fun w' hin => ?_) ?_
      rotate_left
      · go_simp <;> with_reducible rfl
      try simp only [Act.put, List.setIfInBounds_toArray, List.set_cons_zero, List.set_cons_succ]
      refine wpE_take 9 (v := ?_) rfl (by kernel_rfl) (by kernel_rfl) (by kernel_rfl) (by rfl) (fun w' hin => ?_) ?_
      rotate_left
      · go_simp <;> with_reducible rfl
      try simp only [Act.put, List.setIfInBounds_toArray, List.set_cons_zero, List.set_cons_succ]
      refine wpE_take 10 (v := ?_) rfl (by kernel_rfl) (by kernel_rfl) (by kernel_rfl) (by rfl) (fun w' hin => ?_) ?_
      rotate_left
      · go_simp <;> with_reducible rfl
      try simp only [Act.put, List.setIfInBounds_toArray, List.set_cons_zero, List.set_cons_succ]
      refine wpE_take 11 (v := ?_) rfl (by kernel_rfl) (by kernel_rfl) (by kernel_rfl) (by rfl) (fun w' hin => ?_) ?_
      rotate_left
      · go_simp <;> with_reducible rfl
      try simp only [Act.put, List.setIfInBounds_toArray, List.set_cons_zero, List.set_cons_succ]
      refine wpE_take 12 (v := ?_) rfl (by kernel_rfl) (by kernel_rfl) (by kernel_rfl) (by rfl) (fun w' hin => ?_) ?_
      rotate_left
      · go_simp <;> with_reducible rfl
      try simp only [Act.put, List.setIfInBounds_toArray, List.set_cons_zero, List.set_cons_succ]
      refine wpE_take 13 (v := ?_) rfl (by kernel_rfl) (by kernel_rfl) (by kernel_rfl) (by rfl) (fun w' hin => ?_) ?_
      rotate_left
      · go_simp <;> with_reducible rfl
      try simp only [Act.put, List.setIfInBounds_toArray, List.set_cons_zero, List.set_cons_succ]
      refine wpE_take 14 (v := ?_) rfl (by kernel_rfl) (by kernel_rfl) (by kernel_rfl) (by rfl) (fun w' hin => ?_) ?_
      rotate_left
      · go_simp <;> with_reducible rfl
      try simp only [Act.put, List.setIfInBounds_toArray, List.set_cons_zero, List.set_cons_succ]
      refine wpE_take 15 (v := ?_) rfl (by kernel_rfl) (by kernel_rfl) (by kernel_rfl) (by rfl) (fun w' hin => ?_) ?_
      rotate_left
      · go_simp <;> with_reducible rfl
      try simp only [Act.put, List.setIfInBounds_toArray, List.set_cons_zero, List.set_cons_succ]
      refine wpE_take 16 (v := ?_) rfl (by kernel_rfl) (by kernel_rfl) (by kernel_rfl) (by rfl) (fun w' hin => ?_) ?_
      rotate_left
      · go_simp <;> with_reducible rfl
      try simp only [Act.put, List.setIfInBounds_toArray, List.set_cons_zero, List.set_cons_succ]
      refine wpE_one 6 rfl (by kernel_rfl) (by rfl) (fun K hK => ?_)
      go_simp
      refine (clone_any A1 m c1 ((bs.drop k).take m) _ (byts_take (ArrR.up HB1.out (Ext.refl w1).drew) (by omega)) hA1 (by omega)).mono ?_
      rintro e w2 ⟨v2, rfl, hown2, hb2⟩
      obtain ⟨A2, c2, rfl, h8⟩ := Own8.of_own hown2
      clear hown2
      refine hK.out _ _ (hb2) ?_
      clear hK K
      try simp only [Act.put, List.setIfInBounds_toArray, List.set_cons_zero, List.set_cons_succ]
      refine wpE_take 17 (v := ?_) rfl (by kernel_rfl) (by kernel_rfl) (by kernel_rfl) (by rfl) (fun w' hin => ?_) ?_
      rotate_left
      · go_simp <;> with_reducible rfl
      try simp only [Act.put, List.setIfInBounds_toArray, List.set_cons_zero, List.set_cons_succ]
      refine wpE_take 18 (v := ?_) rfl (by kernel_rfl) (by kernel_rfl) (by kernel_rfl) (by rfl) (fun w' hin => ?_) ?_
      rotate_left
      · go_simp <;> with_reducible rfl
      try simp only [Act.put, List.setIfInBounds_toArray, List.set_cons_zero, List.set_cons_succ]
      refine wpE_take 19 (v := ?_) rfl (by kernel_rfl) (by kernel_rfl) (by kernel_rfl) (by rfl) (fun w' hin => ?_) ?_
      rotate_left
      · go_simp <;> with_reducible rfl
      try simp only [Act.put, List.setIfInBounds_toArray, List.set_cons_zero, List.set_cons_succ]
      refine wpE_done (by kernel_rfl) ?_

      clear i0 i1 i2 i3 i4 i5 i6 i7
      go_wp2_with fail
      go_ret3
      refine ⟨A2, m, c2, by rw [HN.out]; go_num, ?_, (HX.out.drew).trans hb2⟩
      rw [HN.out]
      exact ⟨h8.1, h8.2.1, h8.2.2.1, h8.2.2.2.1, fun b o e => by have := h8.2.2.2.2 b o e; have h1 := HX.out.size; simp at this; omega⟩

set_option maxRecDepth 100000 in
set_option maxHeartbeats 400000 in
theorem streamSane_any (A : Option Addr) (n c : Nat) (x : Bf) (w : World) (hA : Byts w A n x.rest) (hc : A = none → c = 0) (hnc : n ≤ c) (hcm : c ≤ 9223372036854775807) :
    Calls Try.prog 63 #[.agg #[.slice A n c, .int .i64 x.bad]] w fun e w' => e = .returned (.bool x.sane) ∧ Ext w w' := by
  have HL := Lib.hid hA.len
  have HA := Lib.hid (ArrR.up hA (Ext.new w (.cells #[.slice A n c, .int .i64 x.bad] 86)))
  clear hA
  by_cases he : x.bad = 0
  · have hb : (x.bad != 0) = false := by simpa using he
    have HS : Hid (x.sane = decide ((next x.rest).2.2 = 1)) := Lib.hid (by unfold Bf.sane; rw [if_pos he])
    clear he
    go_enter Try.func63, Try.ntmps63
    go_wp2_with fail
    refine (next_any A n c x.rest _ HA.out hc hnc hcm).mono ?_
    rintro e w1 ⟨A1, n1, c1, rfl, -, hb1⟩
    go_wp2_with fail
    go_ret
    refine ⟨?_, (Ext.new w _).trans hb1⟩
    rw [HS.out]
    exact ret_bool (by by_cases h : (next x.rest).2.2 = 1 <;> simp [h])
  · have hb : (x.bad != 0) = true := by simpa using he
    have HS : Hid (x.sane = decide (n = 0)) := Lib.hid (by unfold Bf.sane; rw [if_neg he, HL.out])
    clear he
    go_enter Try.func63, Try.ntmps63
    go_wp2_with fail
    go_ret
    refine ⟨?_, Ext.new w _⟩
    rw [HS.out]
    exact ret_bool (by by_cases h : n = 0 <;> simp [h])

set_option maxRecDepth 100000 in
set_option maxHeartbeats 400000 in
theorem come_any (g : Nat) (w : World) :
    Calls Try.prog 82 #[.pointer (some ⟨g, 0, none⟩)] w fun e w' => e = .returned (.func (.func 87) #[] #[.pointer (some ⟨w.heap.size, 0, none⟩)]) ∧ w' = w.alloc (.cells #[.pointer (some ⟨g, 0, none⟩)] 127) := by
  have hmf : ∀ (fn : Fn) (first cap : Array Value) (w : World), (Instr.makeFunc fn first cap).run Try.prog w = .ok (.func fn first cap) w := fun _ _ _ _ => rfl
  go_enter Try.func82, Try.ntmps82
  go_wp2_with fail
  go_ret
  exact ⟨rfl, rfl⟩
end Go.Proofs.Ytjomoannlpadnaa
