/- What groynelaw10's frame1 makes: the document's frame as a frame. -/
import Derived.Test.YtfdjbnofcniodaaGreatDoorQFrGetA
import Derived.Test.YtfdjbnofcniodaaGreatDoorQGround
import Derived.Lib.AppendZeros
namespace Go.Proofs.YtfdjbnofcniodaaGreatDoor
open Lib (hid)
set_option maxHeartbeats 8000000
set_option maxRecDepth 100000
set_option linter.unusedVariables false
open Go.RowKit
section
theorem wpS_two {P : Program} {Q : Exit → Act → World → Prop} {md : Region.Mode} (i j : Nat) {S : World → Prop} {l : List Oper} {oi oj : Oper} {fuel : Nat} {listed : Array Bool} {a : Act} {w : World} (hi : l[i]? = some oi) (hj : l[j]? = some oj)
  (hr : Region.ready md l.toArray listed = [i, j]) (hwi : Region.wanted oi (yielded l.toArray a.tmps) = true) (hwj : Region.wanted oj (yielded l.toArray a.tmps) = true)
  (h1 : ∀ K : Act → World → Prop, Shut (∀ a w' (S' : World → Prop), (∀ x, S' x → S x) → S' w' → (S' w' → wpS P md l.toArray Q S' fuel (listed.setIfInBounds i true) a w') → K a w') → Oper.wp P oi a w K Q)
  (h2 : ∀ K : Act → World → Prop, Shut (∀ a w' (S' : World → Prop), (∀ x, S' x → S x) → S' w' → (S' w' → wpS P md l.toArray Q S' fuel (listed.setIfInBounds j true) a w') → K a w') → Oper.wp P oj a w K Q) : wpS P md l.toArray Q S (fuel + 1) listed a w := by
 refine wpAnyH_all hr (by simp) fun k hk => ?_
 rcases (by simpa using hk : k = i ∨ k = j) with rfl | rfl
 ·refine wpOp_step (o := oi) (by simpa using hi) fun K hK => ?_
  rw [if_pos hwi]
  exact h1 K fun a w' S' hSS hS hh => hK a w' ⟨hSS _ hS, wpAnyH_stronger hSS _ _ _ _ (hh hS)⟩
 ·refine wpOp_step (o := oj) (by simpa using hj) fun K hK => ?_
  rw [if_pos hwj]
  exact h2 K fun a w' S' hSS hS hh => hK a w' ⟨hSS _ hS, wpAnyH_stronger hSS _ _ _ _ (hh hS)⟩
end
def Und (N : Nat) (w w' : World) : Prop := ∀ q, q ≤ N → w'.heap[q]? = w.heap[q]?
section
variable {N : Nat} {w w1 w2 : World}
theorem Und.refl (N : Nat) (w : World) : Und N w w := fun _ _ => rfl
theorem Und.trans (h : Und N w w1) (k : Und N w1 w2) : Und N w w2 := fun q hq => (k q hq).trans (h q hq)
theorem Und.ext (h : Ext w w1) (hN : N < w.heap.size) : Und N w w1 := fun q hq => h.block (by omega)
theorem Und.set {p i : Nat} (h : Und N w w1) (hp : N < p) (u : Value) : Und N w (w1.setCell ⟨p, i, none⟩ u) := fun q hq => (blk_far (by omega) u).trans (h q hq)
theorem Und.grown {v : Value} {base size n : Nat} {e : TypeId} {xs : List Value} (h : w1.grownBy w2 v.ownBlock) (hown : w1.ownsRow base e size v n xs) (hN : N < base) (hb : base ≤ w1.heap.size) : Und N w1 w2 := fun q hq => h.block q (by omega) (fun e' => by have := (hown.lt q e'.symm).1; omega)
theorem Und.cell {b o : Nat} {u : Value} (h : Und N w w1) (hb : b ≤ N) (hc : w.cell? ⟨b, o, none⟩ = some u) : w1.cell? ⟨b, o, none⟩ = some u := (World.cell?_of_block (h b hb)).trans hc
end
theorem mk_next {l : List (Ky × Int)} {k : Nat} {us : List Value} {y : Ky} {v : Int} (h : RowsOf MkQ 3 us (l.take k)) (hl : l[k]? = some (y, v)) (hs : y.name.size ≤ maxLen) : RowsOf MkQ 3 (us ++ [.int .i64 y.kind, .string y.name, .int .i64 v]) (l.take (k + 1)) := by
 rw [take_snoc_of hl]
 exact RowsOf.snoc (R := MkQ) (cs := [.int .i64 y.kind, .string y.name, .int .i64 v]) rfl (show MkQ _ (y, v) from ⟨rfl, hs⟩) h
def FOne (w : World) (f : Fr) (e : Ending) (w' : World) : Prop := ∃ s, e = .returned (frVal f s) ∧ FrV (fun _ => True) w' f s ∧ Ext w w'
theorem frame1_any (f : Fr) (s : FrS) (w : World) (hV : FrV (fun _ => True) w f s) (hn80 : s.h.n ≤ 80) :
  Calls Tryz.prog 64 #[frVal f s] w (FOne w f) := by
 have HV := hid hV
 obtain ⟨⟨A1, n1, c1⟩, ⟨A2, n2, c2⟩, ⟨A3, n3, c3⟩, ⟨A4, n4, c4⟩⟩ := s
 clear hV
 simp only at hn80
 have h3m : n3 ≤ 9223372036854775807 := by have := HV.out.sh.len; unfold maxLen at this; exact this
 rw [show frVal f ⟨⟨A1, n1, c1⟩, ⟨A2, n2, c2⟩, ⟨A3, n3, c3⟩, ⟨A4, n4, c4⟩⟩ = .agg #[.int .i64 f.typ, .int .i64 f.epoch, .int .i64 f.kind, .int .i64 f.nonce, .int .i64 f.turn, .slice A1 n1 c1, .slice A2 n2 c2, .int .i64 f.err, .slice A3 n3 c3, .slice A4 n4 c4] from rfl]
 go_enter Tryz.func64, Tryz.ntmps64
 go_wp2_with fail
 have hs2 : ((w.alloc (.cells #[.int .i64 f.typ, .int .i64 f.epoch, .int .i64 f.kind, .int .i64 f.nonce, .int .i64 f.turn, .slice A1 n1 c1, .slice A2 n2 c2, .int .i64 f.err, .slice A3 n3 c3, .slice A4 n4 c4] 87)).alloc (.cells #[.int .i64 0, .int .i64 0, .int .i64 0, .int .i64 0, .int .i64 0, .slice none 0 0, .slice none 0 0, .int .i64 0, .slice none 0 0, .slice none 0 0] 93)).heap.size = w.heap.size + 2 := by simp only [World.size_alloc]
 have KO0 : Hid ((((w.alloc (.cells #[.int .i64 f.typ, .int .i64 f.epoch, .int .i64 f.kind, .int .i64 f.nonce, .int .i64 f.turn, .slice A1 n1 c1, .slice A2 n2 c2, .int .i64 f.err, .slice A3 n3 c3, .slice A4 n4 c4] 87)).alloc (.cells #[.int .i64 0, .int .i64 0, .int .i64 0, .int .i64 0, .int .i64 0, .slice none 0 0, .slice none 0 0, .int .i64 0, .slice none 0 0, .slice none 0 0] 93)).alloc (.cells #[.int .i64 f.typ, .int .i64 f.epoch, .int .i64 f.kind, .int .i64 f.nonce, .int .i64 f.turn, .slice A1 n1 c1, .slice A2 n2 c2, .int .i64 f.err, .slice none 0 0, .slice A4 n4 c4] 93)).heap[w.heap.size + 2]? = some (.cells #[.int .i64 f.typ, .int .i64 f.epoch, .int .i64 f.kind, .int .i64 f.nonce, .int .i64 f.turn, .slice A1 n1 c1, .slice A2 n2 c2, .int .i64 f.err, .slice none 0 0, .slice A4 n4 c4] 93 (0, 0))) := hid (by
  have h1 := heap_alloc_new ((w.alloc (.cells #[.int .i64 f.typ, .int .i64 f.epoch, .int .i64 f.kind, .int .i64 f.nonce, .int .i64 f.turn, .slice A1 n1 c1, .slice A2 n2 c2, .int .i64 f.err, .slice A3 n3 c3, .slice A4 n4 c4] 87)).alloc (.cells #[.int .i64 0, .int .i64 0, .int .i64 0, .int .i64 0, .int .i64 0, .slice none 0 0, .slice none 0 0, .int .i64 0, .slice none 0 0, .slice none 0 0] 93)) (.cells #[.int .i64 f.typ, .int .i64 f.epoch, .int .i64 f.kind, .int .i64 f.nonce, .int .i64 f.turn, .slice A1 n1 c1, .slice A2 n2 c2, .int .i64 f.err, .slice none 0 0, .slice A4 n4 c4] 93)
  rw [hs2] at h1; exact h1)
 have E0 : Hid (Ext w (((w.alloc (.cells #[.int .i64 f.typ, .int .i64 f.epoch, .int .i64 f.kind, .int .i64 f.nonce, .int .i64 f.turn, .slice A1 n1 c1, .slice A2 n2 c2, .int .i64 f.err, .slice A3 n3 c3, .slice A4 n4 c4] 87)).alloc (.cells #[.int .i64 0, .int .i64 0, .int .i64 0, .int .i64 0, .int .i64 0, .slice none 0 0, .slice none 0 0, .int .i64 0, .slice none 0 0, .slice none 0 0] 93)).alloc (.cells #[.int .i64 f.typ, .int .i64 f.epoch, .int .i64 f.kind, .int .i64 f.nonce, .int .i64 f.turn, .slice A1 n1 c1, .slice A2 n2 c2, .int .i64 f.err, .slice none 0 0, .slice A4 n4 c4] 93))) := hid (((Ext.new w _).alloc _).alloc _)
 have KF0 : Hid ((((w.alloc (.cells #[.int .i64 f.typ, .int .i64 f.epoch, .int .i64 f.kind, .int .i64 f.nonce, .int .i64 f.turn, .slice A1 n1 c1, .slice A2 n2 c2, .int .i64 f.err, .slice A3 n3 c3, .slice A4 n4 c4] 87)).alloc (.cells #[.int .i64 0, .int .i64 0, .int .i64 0, .int .i64 0, .int .i64 0, .slice none 0 0, .slice none 0 0, .int .i64 0, .slice none 0 0, .slice none 0 0] 93)).alloc (.cells #[.int .i64 f.typ, .int .i64 f.epoch, .int .i64 f.kind, .int .i64 f.nonce, .int .i64 f.turn, .slice A1 n1 c1, .slice A2 n2 c2, .int .i64 f.err, .slice none 0 0, .slice A4 n4 c4] 93)).heap[w.heap.size]? = some (.cells #[.int .i64 f.typ, .int .i64 f.epoch, .int .i64 f.kind, .int .i64 f.nonce, .int .i64 f.turn, .slice A1 n1 c1, .slice A2 n2 c2, .int .i64 f.err, .slice A3 n3 c3, .slice A4 n4 c4] 87 (0, 0))) := hid (((Ext.new _ _).block (by rw [hs2]; omega)).trans (two_blocks w _ _).1)
 have KR0 : Hid ((((w.alloc (.cells #[.int .i64 f.typ, .int .i64 f.epoch, .int .i64 f.kind, .int .i64 f.nonce, .int .i64 f.turn, .slice A1 n1 c1, .slice A2 n2 c2, .int .i64 f.err, .slice A3 n3 c3, .slice A4 n4 c4] 87)).alloc (.cells #[.int .i64 0, .int .i64 0, .int .i64 0, .int .i64 0, .int .i64 0, .slice none 0 0, .slice none 0 0, .int .i64 0, .slice none 0 0, .slice none 0 0] 93)).alloc (.cells #[.int .i64 f.typ, .int .i64 f.epoch, .int .i64 f.kind, .int .i64 f.nonce, .int .i64 f.turn, .slice A1 n1 c1, .slice A2 n2 c2, .int .i64 f.err, .slice none 0 0, .slice A4 n4 c4] 93)).heap[w.heap.size + 1]? = some (.cells #[.int .i64 0, .int .i64 0, .int .i64 0, .int .i64 0, .int .i64 0, .slice none 0 0, .slice none 0 0, .int .i64 0, .slice none 0 0, .slice none 0 0] 93 (0, 0))) := hid (((Ext.new _ _).block (by rw [hs2]; omega)).trans (two_blocks w _ _).2)
 generalize ((w.alloc (.cells #[.int .i64 f.typ, .int .i64 f.epoch, .int .i64 f.kind, .int .i64 f.nonce, .int .i64 f.turn, .slice A1 n1 c1, .slice A2 n2 c2, .int .i64 f.err, .slice A3 n3 c3, .slice A4 n4 c4] 87)).alloc (.cells #[.int .i64 0, .int .i64 0, .int .i64 0, .int .i64 0, .int .i64 0, .slice none 0 0, .slice none 0 0, .int .i64 0, .slice none 0 0, .slice none 0 0] 93)).alloc (.cells #[.int .i64 f.typ, .int .i64 f.epoch, .int .i64 f.kind, .int .i64 f.nonce, .int .i64 f.turn, .slice A1 n1 c1, .slice A2 n2 c2, .int .i64 f.err, .slice none 0 0, .slice A4 n4 c4] 93) = V at KO0 E0 KF0 KR0 ⊢
 clear hs2
 go_loopw [4] (fun i wr => ∃ (k : Nat) (v : Value) (us : List Value), k ≤ n3 ∧ i = .int .i64 k ∧ Hid (wr.heap[w.heap.size]? = some (.cells #[.int .i64 f.typ, .int .i64 f.epoch, .int .i64 f.kind, .int .i64 f.nonce, .int .i64 f.turn, .slice A1 n1 c1, .slice A2 n2 c2, .int .i64 f.err, .slice A3 n3 c3, .slice A4 n4 c4] 87 (0, 0))) ∧ Hid (wr.heap[w.heap.size + 1]? = some (.cells #[.int .i64 0, .int .i64 0, .int .i64 0, .int .i64 0, .int .i64 0, .slice none 0 0, .slice none 0 0, .int .i64 0, .slice none 0 0, .slice none 0 0] 93 (0, 0))) ∧ Hid (wr.heap[w.heap.size + 2]? = some (.cells #[.int .i64 f.typ, .int .i64 f.epoch, .int .i64 f.kind, .int .i64 f.nonce, .int .i64 f.turn, .slice A1 n1 c1, .slice A2 n2 c2, .int .i64 f.err, v, .slice A4 n4 c4] 93 (0, 0))) ∧ Hid (wr.ownsRow (w.heap.size + 3) 152 3 v k us) ∧ Hid (RowsOf MkQ 3 us (f.hav.take k)) ∧ Hid (Ext w wr)) (fun i _ => n3 - (intOf i).toNat)
 case atStart => exact ⟨0, .slice none 0 0, [], Nat.zero_le _, by go_num, KF0, KR0, KO0, hid own_nil, hid rfl, E0⟩
 case round =>
  obtain ⟨k, v, us, hk, rfl, KF, KR, KO, HW, HU, HE⟩ := hrel
  obtain ⟨q0, -⟩ := blk_rules KF.out
  obtain ⟨o0, o1⟩ := blk_rules KO.out
  have hzO : w.heap.size + 2 < wr.heap.size := (Array.getElem?_eq_some_iff.1 KO.out).1
  by_cases hlt : k < n3
  ·obtain ⟨b, o, y, v3, rfl, hbB, -, hlk, hsz, hc0, hc1, hc2⟩ := MkL.at_ HV.out.hav hlt
   have HU2 := hid (mk_next HU.out hlk hsz)
   have i1 : (0 : Int) ≤ (k : Int) := by omega
   have i2 : (k : Int) < (n3 : Int) := by omega
   have UB : Und w.heap.size wr wr.drew := fun _ _ => rfl
   have f8 : ∀ w', Und w.heap.size wr.drew w' → w'.cell? ⟨w.heap.size, 8, none⟩ = some (.slice (some ⟨b, o, none⟩) n3 c3) := fun w' h => h.cell (Nat.le_refl _) (q0 8)
   have d0 : ∀ w', Und w.heap.size wr.drew w' → w'.cell? ⟨b, o + k * 3, none⟩ = some (.int .i64 y.kind) := fun w' h => h.cell (by omega) ((HE.out.cell hbB).trans hc0)
   have d1 : ∀ w', Und w.heap.size wr.drew w' → w'.cell? ⟨b, o + k * 3 + 1, none⟩ = some (.string y.name) := fun w' h => h.cell (by omega) ((HE.out.cell hbB).trans hc1)
   have d2 : ∀ w', Und w.heap.size wr.drew w' → w'.cell? ⟨b, o + k * 3 + 2, none⟩ = some (.int .i64 v3) := fun w' h => h.cell (by omega) ((HE.out.cell hbB).trans hc2)
   have hbl : b < wr.heap.size := by have := HE.out.size; omega
   have hFk := flat_k wr.drew [.int .i64 y.kind, .string y.name, .int .i64 v3] 152 rfl
   rw [show wr.drew.heap.size = wr.heap.size from rfl] at hFk
   have hOW : (wr.drew.alloc (.cells #[.int .i64 y.kind, .string y.name, .int .i64 v3] 152)).ownsRow (w.heap.size + 3) 152 3 v k us := own_up HW.out ((Ext.refl wr).drew.trans (Ext.new _ _))
   obtain ⟨v', w5, hrun, hown5, hg5, hnw⟩ := run_append_flat elem_mark 91 hOW 1 hFk (by simp [Value.oneCell']) (by omega) (by omega) (by rw [World.size_alloc]; show _ ≤ wr.heap.size + 1; omega) (fun h => by cases h)
   obtain ⟨A', c', rfl, -, -, -, -⟩ := own_flat hown5
   have HRUN := hid hrun
   have XA : Ext wr.drew (wr.drew.alloc (.cells #[.int .i64 y.kind, .string y.name, .int .i64 v3] 152)) := Ext.new _ _
   have GA : ∀ q, q < w.heap.size + 3 → w5.heap[q]? = wr.heap[q]? := fun q hq => (hg5.block q (by rw [World.size_alloc]; show q < wr.heap.size + 1; omega) (fun e' => by have := (hOW.lt q e'.symm).1; omega)).trans (XA.block (show q < wr.heap.size by omega))
   have UA : Und w.heap.size wr.drew (wr.drew.alloc (.cells #[.int .i64 y.kind, .string y.name, .int .i64 v3] 152)) := Und.ext XA (show w.heap.size < wr.heap.size by omega)
   have UG : Und w.heap.size wr.drew w5 := fun q hq => GA q (by omega)
   have KF5 := hid ((GA w.heap.size (by omega)).trans KF.out)
   have KR5 := hid ((GA (w.heap.size + 1) (by omega)).trans KR.out)
   have KO5 := hid ((GA (w.heap.size + 2) (by omega)).trans KO.out)
   have EG : Hid (Ext w w5) := hid ((HE.out.drew.trans XA).grown hg5 hOW (by omega))
   have HW5 := hid hown5
   obtain ⟨z0, z1⟩ := blk_rules KO5.out
   have hzW : w.heap.size + 2 < w5.heap.size := (Array.getElem?_eq_some_iff.1 KO5.out).1
   clear hlk hc0 hc1 hc2 hFk hrun hown5 hg5 hnw q0
   have q8 : wr.cell? ⟨w.heap.size, 8, none⟩ = some (.slice (some ⟨b, o, none⟩) n3 c3) := f8 wr UB
   go_wp2_with fail
   have hSw : Und w.heap.size wr.drew wr.drew := Und.refl _ _
   refine wpS_begin (Und w.heap.size wr.drew) (by kernel_rfl) ?_
   refine wpS_tk 0 ?_ hSw rfl (fun w' hin => ?_) ?_; rotate_left
   ·go_simp <;> with_reducible rfl
   try simp only [lyr]
   refine wpS_tk 2 ?_ hSw rfl (fun w' hin => ?_) ?_; rotate_left
   ·go_simp <;> with_reducible rfl
   try simp only [lyr]
   refine wpS_tk 3 ?_ hSw rfl (fun w' hin => ?_) ?_; rotate_left
   ·go_simp <;> with_reducible rfl
   try simp only [lyr]
   refine wpS_tk 4 ?_ hSw rfl (fun w' hin => ?_) ?_; rotate_left
   ·go_simp <;> with_reducible rfl
   try simp only [lyr]
   refine wpS_tk 5 ?_ hSw rfl (fun w' hin => ?_) ?_; rotate_left
   ·go_simp <;> with_reducible rfl
   try simp only [lyr]
   refine wpS_tk 6 ?_ hSw rfl (fun w' hin => ?_) ?_; rotate_left
   ·go_simp <;> with_reducible rfl
   try simp only [lyr]
   refine wpS_tk 7 ?_ hSw rfl (fun w' hin => ?_) ?_; rotate_left
   ·go_simp <;> with_reducible rfl
   try simp only [lyr]
   refine wpS_tk 8 ?_ hSw rfl (fun w' hin => ?_) ?_; rotate_left
   ·go_simp <;> with_reducible rfl
   try simp only [lyr]
   refine wpS_tk 9 ?_ hSw rfl (fun w' hin => ?_) ?_; rotate_left
   ·go_simp <;> with_reducible rfl
   try simp only [lyr]
   refine wpS_tk 10 ?_ hSw rfl (fun w' hin => ?_) ?_; rotate_left
   ·go_simp <;> with_reducible rfl
   try simp only [lyr]
   refine wpS_tk 11 ?_ hSw rfl (fun w' hin => ?_) ?_; rotate_left
   ·go_simp <;> with_reducible rfl
   try simp only [lyr]
   refine wpS_tk 12 ?_ hSw rfl (fun w' hin => ?_) ?_; rotate_left
   ·go_simp <;> with_reducible rfl
   try simp only [lyr]
   refine wpS_tk 13 ?_ hSw rfl (fun w' hin => ?_) ?_; rotate_left
   ·go_simp <;> with_reducible rfl
   try simp only [lyr]
   refine wpS_tk 14 ?_ hSw rfl (fun w' hin => ?_) ?_; rotate_left
   ·go_simp <;> with_reducible rfl
   try simp only [lyr]
   refine wpS_two 1 15 rfl rfl (by kernel_rfl) (by rfl) (by rfl) (fun K hK => ?_) (fun K hK => ?_)
   ·go_simp
    refine hK.out _ _ (Und w.heap.size wr.drew) (fun _ h => h) hSw (fun hSw => ?_)
    clear hK K
    try simp only [lyr]
    refine wpS_on 15 rfl (fun K hK => ?_)
    go_simp
    refine hK.out _ _ (Und w.heap.size wr.drew) (fun _ h => h) UA (fun hSw => ?_)
    clear hK K
    try simp only [lyr]
    refine wpS_on 16 rfl (fun K hK => ?_)
    refine Lib.wp_append_run _ _ _ _ _ rfl _ _ rfl rfl (.slice A' (k + 1) c') w5 HRUN.out ?_
    refine hK.out _ _ (Und w.heap.size wr.drew) (fun _ h => h) UG (fun hSw => ?_)
    clear hK K
    try simp only [lyr]
    refine wpS_tk 17 ?_ hSw rfl (fun w' hin => ?_) ?_; rotate_left
    ·go_simp <;> with_reducible rfl
    try simp only [lyr]
    refine wpS_on 18 rfl (fun K hK => ?_)
    go_simp
    refine hK.out _ _ (Und w.heap.size wr.drew) (fun _ h => h) (Und.set (p := w.heap.size + 2) UG (by omega) _) (fun hSw => ?_)
    clear hK K
    try simp only [lyr]
    refine wpS_done (by kernel_rfl) ?_
    clear f8 d0 d1 d2 q8 o0 o1 z0 z1 hSw
    have KO6 := hid (blk_set (i := 8) KO5.out (.slice A' (k + 1) c'))
    have KF6 := hid ((blk_far (g := w.heap.size) (g' := w.heap.size + 2) (i := 8) (by omega) (.slice A' (k + 1) c')).trans KF5.out)
    have KR6 := hid ((blk_far (g := w.heap.size + 1) (g' := w.heap.size + 2) (i := 8) (by omega) (.slice A' (k + 1) c')).trans KR5.out)
    have HW6 := hid (own_set (p := w.heap.size + 2) (i := 8) (u := (.slice A' (k + 1) c')) HW5.out (fun b hb => by have := (HW5.out.lt b hb).1; omega))
    have E6 : Hid (Ext w (w5.setCell ⟨w.heap.size + 2, 8, none⟩ (.slice A' (k + 1) c'))) := hid (Only.ext (Ext.refl w) ((Only.of_ext (g := w.heap.size + 2) EG.out).setNew (p := w.heap.size + 2) (i := 8) (by omega) (.slice A' (k + 1) c')) (by omega))
    generalize w5.setCell ⟨w.heap.size + 2, 8, none⟩ (.slice A' (k + 1) c') = w6 at KO6 KF6 KR6 HW6 E6 ⊢
    go_wp2_with fail
    go_roundw
    case rel => exact ⟨k + 1, (.slice A' (k + 1) c'), _, by omega, by go_num, KF6, KR6, KO6, HW6, HU2, E6⟩
    case measure => simp [intOf]; omega
   ·go_simp
    refine hK.out _ _ (Und w.heap.size wr.drew) (fun _ h => h) UA (fun hSw => ?_)
    clear hK K
    try simp only [lyr]
    refine wpS_on 1 rfl (fun K hK => ?_)
    go_simp
    refine hK.out _ _ (Und w.heap.size wr.drew) (fun _ h => h) UA (fun hSw => ?_)
    clear hK K
    try simp only [lyr]
    refine wpS_on 16 rfl (fun K hK => ?_)
    refine Lib.wp_append_run _ _ _ _ _ rfl _ _ rfl rfl (.slice A' (k + 1) c') w5 HRUN.out ?_
    refine hK.out _ _ (Und w.heap.size wr.drew) (fun _ h => h) UG (fun hSw => ?_)
    clear hK K
    try simp only [lyr]
    refine wpS_tk 17 ?_ hSw rfl (fun w' hin => ?_) ?_; rotate_left
    ·go_simp <;> with_reducible rfl
    try simp only [lyr]
    refine wpS_on 18 rfl (fun K hK => ?_)
    go_simp
    refine hK.out _ _ (Und w.heap.size wr.drew) (fun _ h => h) (Und.set (p := w.heap.size + 2) UG (by omega) _) (fun hSw => ?_)
    clear hK K
    try simp only [lyr]
    refine wpS_done (by kernel_rfl) ?_
    clear f8 d0 d1 d2 q8 o0 o1 z0 z1 hSw
    have KO6 := hid (blk_set (i := 8) KO5.out (.slice A' (k + 1) c'))
    have KF6 := hid ((blk_far (g := w.heap.size) (g' := w.heap.size + 2) (i := 8) (by omega) (.slice A' (k + 1) c')).trans KF5.out)
    have KR6 := hid ((blk_far (g := w.heap.size + 1) (g' := w.heap.size + 2) (i := 8) (by omega) (.slice A' (k + 1) c')).trans KR5.out)
    have HW6 := hid (own_set (p := w.heap.size + 2) (i := 8) (u := (.slice A' (k + 1) c')) HW5.out (fun b hb => by have := (HW5.out.lt b hb).1; omega))
    have E6 : Hid (Ext w (w5.setCell ⟨w.heap.size + 2, 8, none⟩ (.slice A' (k + 1) c'))) := hid (Only.ext (Ext.refl w) ((Only.of_ext (g := w.heap.size + 2) EG.out).setNew (p := w.heap.size + 2) (i := 8) (by omega) (.slice A' (k + 1) c')) (by omega))
    generalize w5.setCell ⟨w.heap.size + 2, 8, none⟩ (.slice A' (k + 1) c') = w6 at KO6 KF6 KR6 HW6 E6 ⊢
    go_wp2_with fail
    go_roundw
    case rel => exact ⟨k + 1, (.slice A' (k + 1) c'), _, by omega, by go_num, KF6, KR6, KO6, HW6, HU2, E6⟩
    case measure => simp [intOf]; omega
  ·obtain rfl : n3 = k := by omega
   have HT : Hid (f.hav.take n3 = f.hav) := hid (List.take_of_length_le (Nat.le_of_eq HV.out.hav.len))
   obtain ⟨A, c, rfl, h1, h2, h3, hF⟩ := own_flat HW.out
   have HFl := hid hF
   have HSl : Hid (SlW A n3 c) := hid ⟨h1, h2, h3⟩
   obtain ⟨r0, r1⟩ := blk_rules KR.out
   clear hF h1 h2 h3
   go_wp2_with fail
   clear q0 o0 o1 r0 r1
   generalize hVV : (((((((((wr.setCell ⟨w.heap.size + 1, 0, none⟩ (.int .i64 f.typ)).setCell ⟨w.heap.size + 1, 1, none⟩ (.int .i64 f.epoch)).setCell ⟨w.heap.size + 1, 2, none⟩ (.int .i64 f.kind)).setCell ⟨w.heap.size + 1, 3, none⟩ (.int .i64 f.nonce)).setCell ⟨w.heap.size + 1, 4, none⟩ (.int .i64 f.turn)).setCell ⟨w.heap.size + 1, 5, none⟩ (.slice A1 n1 c1)).setCell ⟨w.heap.size + 1, 6, none⟩ (.slice A2 n2 c2)).setCell ⟨w.heap.size + 1, 7, none⟩ (.int .i64 f.err)).setCell ⟨w.heap.size + 1, 8, none⟩ (.slice A n3 c)).setCell ⟨w.heap.size + 1, 9, none⟩ (.slice A4 n4 c4) = V1
   obtain ⟨bV, oV, kV⟩ := set10 KR.out (.int .i64 f.typ) (.int .i64 f.epoch) (.int .i64 f.kind) (.int .i64 f.nonce) (.int .i64 f.turn) (.slice A1 n1 c1) (.slice A2 n2 c2) (.int .i64 f.err) (.slice A n3 c) (.slice A4 n4 c4) hVV
   have OV := Only.ext (Ext.refl w) (oV (g := w.heap.size + 1) (Only.of_ext HE.out) (by omega)) (by omega)
   have KV : Keep (fun b => b ≠ w.heap.size + 1) wr V1 := kV _ (fun b hb => hb)
   clear hVV oV
   obtain ⟨z0, -⟩ := blk_rules bV
   refine bodyPost_ret (v := .agg #[.int .i64 f.typ, .int .i64 f.epoch, .int .i64 f.kind, .int .i64 f.nonce, .int .i64 f.turn, .slice A1 n1 c1, .slice A2 n2 c2, .int .i64 f.err, .slice A n3 c, .slice A4 n4 c4]) (by simp [results, Tryz.results64, go_sem, z0]) rfl ?_
   refine ⟨⟨⟨A1, n1, c1⟩, ⟨A2, n2, c2⟩, ⟨A, n3, c⟩, ⟨A4, n4, c4⟩⟩, rfl, ?_, OV⟩
   have hk0 := HV.out.up OV
   have hm : MkL (fun b => b ≠ w.heap.size + 1) wr A n3 f.hav := by
    have h9 := HFl.out.arrQ (S := fun b => b ≠ w.heap.size + 1) HU.out (by omega) (fun b o e hb => by subst e; have := (HW.out.lt b rfl).1; omega)
    rwa [HT.out] at h9
   exact ⟨hk0.sa, hk0.sg, HSl.out, hk0.sk, hk0.adds, hk0.gone, ArrQ.weak (MkL.keep hm KV) (fun _ _ h => h) (fun _ _ _ => trivial), hk0.held⟩
end Go.Proofs.YtfdjbnofcniodaaGreatDoor
