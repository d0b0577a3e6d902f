/- What layer 23 needs of the document's layer 4: a key that is put, and keys that are the same. -/
import Derived.Test.YtfdjbnofcniodaaGreatDoorRef02
import Derived.Test.YtfdjbnofcniodaaGreatDoorRef01
import Derived.Test.YtfdjbnofcniodaaGreatDoorFirstAll
import Derived.Test.YtfdjbnofcniodaaGreatDoorGround
namespace Go.Proofs.YtfdjbnofcniodaaGreatDoor
set_option linter.unusedVariables false
open Go.RowKit

theorem boxZ_at {w w1 : World} {cs : Array Value} {t : TypeId} (h : Ext (w.alloc (.cells cs t)) w1) : w1.heap[w.heap.size]? = some (.cells cs t (0, 0)) := (box1b h).1
/-- what has been laid so far, in a row of the call's own -/
structure LaidAt (w wr : World) (n : Nat) (bs out : List UInt8) (A : Option Addr) (N c : Nat) : Prop where
  len : N = n + out.length
  nil : A = none → c = 0
  byts : Byts wr A N (bs ++ out)
  own : wr.ownsRow w.heap.size 5 1 (.slice A N c) N ((bs ++ out).map byteV)
  ext : Ext w wr
theorem LaidAt.of {w wr : World} {n : Nat} {bs out : List UInt8} {e : Ending} (h : LayN w n bs out e wr) : ∃ A N c, e = .returned (.slice A N c) ∧ LaidAt w wr n bs out A N c ∧ N = n + out.length ∧ Ext w wr := by
  obtain ⟨A, N, c, rfl, h1, h2, h3, h4, h5⟩ := h
  exact ⟨A, N, c, rfl, ⟨h1.out, h2.out, h3.out, h4.out, h5⟩, h1.out, h5⟩
/-- first a world that extends w, then what is laid -/
theorem LaidAt.of' {w w1 wr : World} {n : Nat} {bs out : List UInt8} {e : Ending} (hx : Ext w w1) (h : LayN w1 n bs out e wr) : ∃ A N c, e = .returned (.slice A N c) ∧ LaidAt w wr n bs out A N c ∧ N = n + out.length ∧ Ext w1 wr := by
  obtain ⟨A, N, c, rfl, h1, h2, h3, h4, h5⟩ := h
  exact ⟨A, N, c, rfl, ⟨h1.out, h2.out, h3.out, own_base h4.out hx.size, hx.trans h5⟩, h1.out, h5⟩
theorem LaidAt.next {w wr w2 : World} {n N c : Nat} {bs out o2 : List UInt8} {A : Option Addr} {e : Ending} (h : LaidAt w wr n bs out A N c) (k : LayN wr N (bs ++ out) o2 e w2) :
    ∃ A' N' c', e = .returned (.slice A' N' c') ∧ LaidAt w w2 n bs (out ++ o2) A' N' c' ∧ N' = N + o2.length ∧ Ext wr w2 := by
  obtain ⟨A', N', c', rfl, h1, h2, h3, h4, h5⟩ := k
  refine ⟨A', N', c', rfl, ⟨by rw [h1.out, h.len, List.length_append]; omega, h2.out, by rw [← List.append_assoc]; exact h3.out, by rw [← List.append_assoc]; exact own_base h4.out h.ext.size, h.ext.trans h5⟩, h1.out, h5⟩
theorem LaidAt.post {w wr : World} {n N c : Nat} {bs out out' : List UInt8} {A : Option Addr} (h : LaidAt w wr n bs out A N c) (ho : out = out') : LayPost w n bs out' (.returned (.slice A N c)) wr := by
  subst ho; exact LayPost.mk h.len rfl h.own h.ext
theorem LaidAt.as {w wr : World} {n N c : Nat} {bs out out' : List UInt8} {A : Option Addr} (h : LaidAt w wr n bs out A N c) (ho : out = out') : LaidAt w wr n bs out' A N c := by subst ho; exact h
theorem encT_len_tx {s : ByteArray} {k : Nat} (h : (tx s).length ≤ k) : (encT (tx s)).length ≤ k + 5 := by have := encT_len (tx s); omega
theorem take_flat {α : Type} (f : α → List UInt8) {l : List α} {k : Nat} {x : α} (h : l[k]? = some x) : (l.take (k + 1)).flatMap f = (l.take k).flatMap f ++ f x := by
  rw [take_snoc_of h, List.flatMap_append]; simp
theorem take_all {α : Type} {l : List α} {k : Nat} (h : l.length ≤ k) : l.take k = l := List.take_of_length_le h

set_option maxRecDepth 100000 in
set_option maxHeartbeats 1000000 in
theorem refGood_any (k : Ky) (w : World) (hs : k.name.size ≤ maxLen) :
    Calls Tryz.prog 88 #[.agg #[.int .i64 k.kind, .string k.name]] w fun e w' => e = .returned (.bool (goodK k)) ∧ Ext w w' := by
  have HS := Lib.hid hs
  by_cases g0 : 0 ≤ k.kind
  rotate_left
  · have H : Hid (goodK k = false) := Lib.hid (by unfold goodK inB; simp [g0])
    go_enter Tryz.func88, Tryz.ntmps88
    go_wp2_with fail
    go_ret
    exact ⟨ret_bool H.out.symm, Ext.new _ _⟩
  by_cases g1 : k.kind ≤ 3
  rotate_left
  · have H : Hid (goodK k = false) := Lib.hid (by unfold goodK inB; simp [g1])
    go_enter Tryz.func88, Tryz.ntmps88
    go_wp2_with fail
    go_ret
    exact ⟨ret_bool H.out.symm, Ext.new _ _⟩
  have H : Hid (goodK k = saneN (tx k.name)) := Lib.hid (by unfold goodK inB; simp [g0, g1])
  go_enter Tryz.func88, Tryz.ntmps88
  go_wp2_with fail
  refine (refSaneN_any k.name _ HS.out).mono ?_
  rintro e w1 ⟨rfl, rfl⟩
  go_wp2_with fail
  go_ret
  exact ⟨ret_bool H.out.symm, Ext.new _ _⟩

set_option maxRecDepth 100000 in
set_option maxHeartbeats 2000000 in
theorem refPutKey_lay (A : Option Addr) (n c : Nat) (bs : List UInt8) (k : Ky) (w : World) (hB : Byts w A n bs) (hc : A = none → c = 0) (hn : n ≤ 900000000) (hs : k.name.size ≤ maxLen) :
    Calls Tryz.prog 27 #[.slice A n c, .agg #[.int .i64 k.kind, .string k.name]] w (LayPost w n bs (putK k)) := by
  have HB := Lib.hid hB
  have HC := Lib.hid hc
  have HS := Lib.hid hs
  clear hB hc
  go_enter Tryz.func27, Tryz.ntmps27
  go_wp2_with fail
  refine (refGood_any k _ HS.out).mono ?_
  rintro e W ⟨rfl, hb⟩
  have HK := Lib.hid (boxZ_at hb)
  have EX := Lib.hid ((Ext.new w _).trans hb)
  have hzW : w.heap.size < W.heap.size := (Array.getElem?_eq_some_iff.1 HK.out).1
  clear hb
  cases hok : goodK k with
  | false =>
    have HP := Lib.hid (putK_not hok)
    clear hok
    go_wp2_with (at_builtin
                 obtain ⟨v1, w9, hrun, hown1, hg1, _⟩ := run_append_flat elem_byte 22 (own_empty_lit W w.heap.size 5 1 EX.out.size) c (HB.out.flat.up (EX.out.trans (Ext.new W (.cells #[] 5)))) (byteV_one bs) (by omega) (by omega) (by have := EX.out.size; simp; omega) HC.out
                 refine Lib.wpList_append_run _ rfl _ _ _ _ rfl _ _ rfl rfl v1 w9 hrun ?_)
    have E9 := (EX.out.alloc (.cells #[] 5)).grown hg1 (own_empty_lit W w.heap.size 5 1 EX.out.size) (Nat.le_refl _)
    rw [Nat.zero_add, List.nil_append] at hown1
    go_ret
    exact ⟨_, rfl, by rw [HP.out]; simpa using hown1, E9⟩
  | true =>
  have HP := Lib.hid (putK_is hok)
  have hs1 : k.name.size ≤ 12 := by have := (sane_len ((good_iff k).1 hok).2).2; rwa [tx_len] at this
  have Q := Lib.hid (blk_rules HK.out).1
  have r0 : W.cell? ⟨w.heap.size, 0, none⟩ = some (.int .i64 k.kind) := Q.out 0
  clear hok
  go_wp2_with fail
  refine (((refNumber_lay A n c bs k.kind _ (ArrR.up HB.out EX.out) HC.out (by omega)).mono fun _ _ h => LaidAt.of' EX.out h)).mono ?_
  rintro e w2 ⟨A2, N2, c2, rfl, hl, hN, hx⟩
  have hN2 : N2 ≤ n + 5 := by have := enc_len (bnd k.kind); omega
  have HL2 := Lib.hid hl
  have r1 : w2.cell? ⟨w.heap.size, 1, none⟩ = some (.string k.name) := (hx.cell hzW).trans (Q.out 1)
  clear hl hN r0 hx
  go_wp2_with fail
  refine (((refText_lay A2 N2 c2 _ k.name _ HL2.out.byts HL2.out.nil (by omega) (by omega)).mono fun _ _ h => HL2.out.next h)).mono ?_
  rintro e w3 ⟨A3, N3, c3, rfl, hl, -, -⟩
  go_wp2_with fail
  go_ret
  exact hl.post (by rw [HP.out])

set_option maxRecDepth 100000 in
set_option maxHeartbeats 2000000 in
theorem refKeys_eq (T T' : Nat → Prop) (l : List Ky) (A B : Option Addr) (n c d : Nat) (w : World) (hm : n ≤ maxLen) (hA : KeyL T w A n l) (hB : KeyL T' w B n l) :
    Calls Tryz.prog 19 #[.slice A n c, .slice B n d] w fun e w' => e = .returned (.bool true) ∧ Ext w w' := by
  unfold maxLen at hm
  have HA := Lib.hid hA
  have HB := Lib.hid hB
  clear hA hB
  go_enter Tryz.func19, Tryz.ntmps19
  go_wp2_with fail
  go_loopw [5] (fun i wr => ∃ k : Nat, k ≤ n ∧ i = .int .i64 k ∧ Hid (Ext w wr)) (fun i _ => n - (intOf i).toNat)
  case atStart => exact ⟨0, Nat.zero_le _, rfl, Lib.hid (Ext.refl _)⟩
  case round =>
    obtain ⟨k, hk, rfl, HX⟩ := hrel
    by_cases hlt : k < n
    · obtain ⟨b, o, r, rfl, hbB, -, hlk, -, hc0, hc1⟩ := KeyL.at_ HA.out hlt
      obtain ⟨b', o', r', rfl, hbB', -, hlk', -, hc0', hc1'⟩ := KeyL.at_ HB.out hlt
      obtain rfl : r = r' := by rw [hlk] at hlk'; injection hlk'
      have i1 : (0 : Int) ≤ (k : Int) := by omega
      have i2 : (k : Int) < (n : Int) := by omega
      have t0 : ∀ w', Ext wr.drew w' → w'.cell? ⟨b, o + k * 2, none⟩ = some (.int .i64 r.kind) := fun w' hx => (((HX.out.drew.trans hx)).cell hbB).trans hc0
      have t1 : ∀ w', Ext wr.drew w' → w'.cell? ⟨b, o + k * 2 + 1, none⟩ = some (.string r.name) := fun w' hx => (((HX.out.drew.trans hx)).cell hbB).trans hc1
      have s0 : ∀ w', Ext wr.drew w' → w'.cell? ⟨b', o' + k * 2, none⟩ = some (.int .i64 r.kind) := fun w' hx => (((HX.out.drew.trans hx)).cell hbB').trans hc0'
      have s1 : ∀ w', Ext wr.drew w' → w'.cell? ⟨b', o' + k * 2 + 1, none⟩ = some (.string r.name) := fun w' hx => (((HX.out.drew.trans hx)).cell hbB').trans hc1'
      clear hlk hlk'
      go_wp2_with fail
      have hSw : Ext wr.drew wr.drew := Ext.refl _
      refine wpS_begin (Ext wr.drew) (by kernel_rfl) ?_
      refine wpS_take 0 (v := ?_) hSw rfl (by kernel_rfl) (by kernel_rfl) (by kernel_rfl) (by rfl) (fun w' hin => ?_) ?_
      rotate_left
      · (try simp only [] at hin); go_simp <;> with_reducible rfl
      try simp only [Act.put, List.setIfInBounds_toArray, List.set_cons_zero, List.set_cons_succ]
      refine wpS_take 1 (v := ?_) hSw rfl (by kernel_rfl) (by kernel_rfl) (by kernel_rfl) (by rfl) (fun w' hin => ?_) ?_
      rotate_left
      · (try simp only [] at hin); go_simp <;> with_reducible rfl
      try simp only [Act.put, List.setIfInBounds_toArray, List.set_cons_zero, List.set_cons_succ]
      refine wpS_take 2 (v := ?_) hSw rfl (by kernel_rfl) (by kernel_rfl) (by kernel_rfl) (by rfl) (fun w' hin => ?_) ?_
      rotate_left
      · (try simp only [] at hin); go_simp <;> with_reducible rfl
      try simp only [Act.put, List.setIfInBounds_toArray, List.set_cons_zero, List.set_cons_succ]
      refine wpS_take 3 (v := ?_) hSw rfl (by kernel_rfl) (by kernel_rfl) (by kernel_rfl) (by rfl) (fun w' hin => ?_) ?_
      rotate_left
      · (try simp only [] at hin); go_simp <;> with_reducible rfl
      try simp only [Act.put, List.setIfInBounds_toArray, List.set_cons_zero, List.set_cons_succ]
      refine wpS_take 4 (v := ?_) hSw rfl (by kernel_rfl) (by kernel_rfl) (by kernel_rfl) (by rfl) (fun w' hin => ?_) ?_
      rotate_left
      · (try simp only [] at hin); go_simp <;> with_reducible rfl
      try simp only [Act.put, List.setIfInBounds_toArray, List.set_cons_zero, List.set_cons_succ]
      refine wpS_take 5 (v := ?_) hSw rfl (by kernel_rfl) (by kernel_rfl) (by kernel_rfl) (by rfl) (fun w' hin => ?_) ?_
      rotate_left
      · (try simp only [] at hin); go_simp <;> with_reducible rfl
      try simp only [Act.put, List.setIfInBounds_toArray, List.set_cons_zero, List.set_cons_succ]
      refine wpS_take 6 (v := ?_) hSw rfl (by kernel_rfl) (by kernel_rfl) (by kernel_rfl) (by rfl) (fun w' hin => ?_) ?_
      rotate_left
      · (try simp only [] at hin); go_simp <;> with_reducible rfl
      try simp only [Act.put, List.setIfInBounds_toArray, List.set_cons_zero, List.set_cons_succ]
      refine wpS_take 7 (v := ?_) hSw rfl (by kernel_rfl) (by kernel_rfl) (by kernel_rfl) (by rfl) (fun w' hin => ?_) ?_
      rotate_left
      · (try simp only [] at hin); go_simp <;> with_reducible rfl
      try simp only [Act.put, List.setIfInBounds_toArray, List.set_cons_zero, List.set_cons_succ]
      refine wpS_take 8 (v := ?_) hSw rfl (by kernel_rfl) (by kernel_rfl) (by kernel_rfl) (by rfl) (fun w' hin => ?_) ?_
      rotate_left
      · (try simp only [] at hin); go_simp <;> with_reducible rfl
      try simp only [Act.put, List.setIfInBounds_toArray, List.set_cons_zero, List.set_cons_succ]
      refine wpS_done (by kernel_rfl) ?_
      have HX2 := Lib.hid (HX.out.drew.trans hSw)
      clear t0 t1 s0 s1 hSw
      go_wp2_with fail
      go_roundw
      case rel => exact ⟨k + 1, by omega, by go_num, HX2⟩
      case measure => simp [intOf]; omega
    · go_wp2_with fail
      go_ret
      exact ⟨rfl, HX.out⟩
end Go.Proofs.YtfdjbnofcniodaaGreatDoor
