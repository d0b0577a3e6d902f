/- General lemmas over whatever program: how a slice in memory reads as a list, small facts on worlds and endings. -/
import Derived.WalkKit
import Derived.WalkSpells
import Derived.WalkLawsBesides
import Derived.BigQuiet
import Derived.Deep.QuietTactic
import Derived.Lib.Hide
import Derived.IntWalk
namespace Go.Proofs.YtepifkmileilfaaDoor
open Go.RowKit

theorem ret_int {k : IntKind} {a b : Int} (h : a = b) : Ending.returned (.int k a) = .returned (.int k b) := by rw [h]
theorem ret_bool {a b : Bool} (h : a = b) : Ending.returned (.bool a) = .returned (.bool b) := by rw [h]

/-- W is w with new blocks; what was there is as it was. -/
def Ext (w W : World) : Prop := Below w.heap.size w W
section
variable {w W w1 : World}
theorem Ext.refl (w : World) : Ext w w := Below.refl _ _
theorem Ext.trans (h : Ext w W) (h1 : Ext W w1) : Ext w w1 := Below.trans h (Below.mono h1 (Below.size h))
theorem Ext.alloc (h : Ext w W) (o : Obj) : Ext w (W.alloc o) := Below.alloc h (Below.size h) o
theorem Ext.new (w : World) (o : Obj) : Ext w (w.alloc o) := (Ext.refl w).alloc o
theorem Ext.drew (h : Ext w W) : Ext w W.drew := Below.drew h
theorem Ext.drewN (h : Ext w W) (n : Nat) : Ext w (W.drewN n) := ⟨h.os, h.tape, h.output, h.size, h.block⟩
theorem Ext.set (h : Ext w W) {p : Addr} (hp : w.heap.size ≤ p.block) (u : Value) : Ext w (W.setCell p u) := Below.setCell h hp u
theorem Ext.size (h : Ext w W) : w.heap.size ≤ W.heap.size := Below.size h
theorem Ext.cell (h : Ext w W) {b o : Nat} (hb : b < w.heap.size) : W.cell? ⟨b, o, none⟩ = w.cell? ⟨b, o, none⟩ := Below.cell h (p := ⟨b, o, none⟩) hb
theorem Ext.frozen (h : Ext w W) {b o : Nat} (hb : b < w.heap.size) : W.frozen? ⟨b, o, none⟩ = w.frozen? ⟨b, o, none⟩ := Below.frozen h (p := ⟨b, o, none⟩) hb
theorem Ext.block (h : Ext w W) {b : Nat} (hb : b < w.heap.size) : W.heap[b]? = w.heap[b]? := Below.block h b hb
/-- the two rules that the walk takes out of the context -/
theorem bcell (h : Ext W w1) : (∀ b o, b < W.heap.size → w1.cell? ⟨b, o, none⟩ = W.cell? ⟨b, o, none⟩) ∧ (∀ b o, b < W.heap.size → w1.frozen? ⟨b, o, none⟩ = W.frozen? ⟨b, o, none⟩) :=
  ⟨fun _ _ hb => h.cell hb, fun _ _ hb => h.frozen hb⟩
end

/-- a block that is known whole: its cells, as rules -/
theorem blk_rules {w : World} {g : Nat} {cs : Array Value} {t : TypeId} (h : w.heap[g]? = some (.cells cs t (0, 0))) : (∀ i, w.cell? ⟨g, i, none⟩ = cs[i]?) ∧ (∀ i, w.frozen? ⟨g, i, none⟩ = false) :=
  ⟨fun i => cell_of_row w g i cs t (0, 0) h, fun i => by simp [World.frozen?, h]⟩
theorem two_blocks (w : World) (o1 o2 : Obj) : ((w.alloc o1).alloc o2).heap[w.heap.size]? = some o1 ∧ ((w.alloc o1).alloc o2).heap[w.heap.size + 1]? = some o2 := by
  refine ⟨?_, ?_⟩
  · rw [Below.heap_alloc (w.alloc o1) o2 w.heap.size (by simp)]; exact heap_alloc_new w o1
  · have := heap_alloc_new (w.alloc o1) o2
    simpa using this
/-- one box, behind a call -/
theorem box1 {w w1 : World} {c1 : Array Value} {t1 : TypeId} (h : Ext (w.alloc (.cells c1 t1)) w1) :
    (∀ i, w1.cell? ⟨w.heap.size, i, none⟩ = c1[i]?) ∧ (∀ i, w1.frozen? ⟨w.heap.size, i, none⟩ = false) ∧ w.heap.size < w1.heap.size := by
  have h1 := blk_rules ((h.block (b := w.heap.size) (by simp)).trans (heap_alloc_new w _))
  have h2 := h.size
  simp only [World.size_alloc] at h2
  exact ⟨h1.1, h1.2, h2⟩
/-- two boxes, behind a call -/
theorem box2 {w w1 : World} {c1 c2 : Array Value} {t1 t2 : TypeId} (h : Ext ((w.alloc (.cells c1 t1)).alloc (.cells c2 t2)) w1) :
    (∀ i, w1.cell? ⟨w.heap.size, i, none⟩ = c1[i]?) ∧ (∀ i, w1.frozen? ⟨w.heap.size, i, none⟩ = false) ∧ (∀ i, w1.cell? ⟨w.heap.size + 1, i, none⟩ = c2[i]?) ∧ (∀ i, w1.frozen? ⟨w.heap.size + 1, i, none⟩ = false) ∧ w.heap.size + 1 < w1.heap.size := by
  have h1 := blk_rules ((h.block (b := w.heap.size) (by simp; omega)).trans (two_blocks w _ _).1)
  have h2 := blk_rules ((h.block (b := w.heap.size + 1) (by simp)).trans (two_blocks w _ _).2)
  have h3 := h.size
  simp only [World.size_alloc] at h3
  exact ⟨h1.1, h1.2, h2.1, h2.2, h3⟩

/-- the same as blocks -/
theorem box1b {w w1 : World} {c1 : Array Value} {t1 : TypeId} (h : Ext (w.alloc (.cells c1 t1)) w1) : w1.heap[w.heap.size]? = some (.cells c1 t1 (0, 0)) ∧ w.heap.size < w1.heap.size := by
  have h3 := h.size
  simp only [World.size_alloc] at h3
  exact ⟨(h.block (b := w.heap.size) (by simp)).trans (heap_alloc_new w _), h3⟩
theorem box2b {w w1 : World} {c1 c2 : Array Value} {t1 t2 : TypeId} (h : Ext ((w.alloc (.cells c1 t1)).alloc (.cells c2 t2)) w1) :
    w1.heap[w.heap.size]? = some (.cells c1 t1 (0, 0)) ∧ w1.heap[w.heap.size + 1]? = some (.cells c2 t2 (0, 0)) ∧ w.heap.size + 1 < w1.heap.size := by
  have h3 := h.size
  simp only [World.size_alloc] at h3
  exact ⟨(h.block (b := w.heap.size) (by simp; omega)).trans (two_blocks w _ _).1, (h.block (b := w.heap.size + 1) (by simp)).trans (two_blocks w _ _).2, h3⟩
/-- a store into a block -/
theorem blk_set {w : World} {g i : Nat} {cs : Array Value} {t : TypeId} {m : Nat × Nat} (h : w.heap[g]? = some (.cells cs t m)) (u : Value) : (w.setCell ⟨g, i, none⟩ u).heap[g]? = some (.cells (cs.setIfInBounds i u) t m) := by
  simp [World.setCell, Array.getElem?_modify, h]
theorem blk_far {w : World} {g g' i : Nat} (hne : g ≠ g') (u : Value) : (w.setCell ⟨g', i, none⟩ u).heap[g]? = w.heap[g]? := Below.heap_setCell w ⟨g', i, none⟩ u g hne

/-- A slice (address A, length n) reads as the list xs: elements of 'size' cells, each related by R to its cells. -/
def ArrR {α : Type} (w : World) (size : Nat) (R : List Value → α → Prop) (A : Option Addr) (n : Nat) (xs : List α) : Prop :=
  xs.length = n ∧ (0 < n → ∃ b o, A = some ⟨b, o, none⟩ ∧ b < w.heap.size ∧ ∀ k x, xs[k]? = some x → ∃ cs, cs.length = size ∧ R cs x ∧ ∀ j u, cs[j]? = some u → w.cell? ⟨b, o + k * size + j, none⟩ = some u)

section
variable {α : Type} {w w' : World} {size n : Nat} {R R' : List Value → α → Prop} {A : Option Addr} {xs : List α}
theorem ArrR.keep (h : ArrR w size R A n xs) (hR : ∀ cs x, R cs x → R' cs x) (hs : w.heap.size ≤ w'.heap.size) (hk : ∀ b o, b < w.heap.size → w'.cell? ⟨b, o, none⟩ = w.cell? ⟨b, o, none⟩) : ArrR w' size R' A n xs :=
  ⟨h.1, fun hn => by
    obtain ⟨b, o, e, hb, hc⟩ := h.2 hn
    refine ⟨b, o, e, by omega, fun k x hx => ?_⟩
    obtain ⟨cs, hl, hr, hcs⟩ := hc k x hx
    exact ⟨cs, hl, hR _ _ hr, fun j u hu => (hk _ _ hb).trans (hcs j u hu)⟩⟩
theorem ArrR.up (h : ArrR w size R A n xs) (hb : Ext w w') : ArrR w' size R A n xs :=
  h.keep (fun _ _ h => h) hb.size fun _ _ hlt => hb.cell hlt
theorem ArrR.nil_ : ArrR w size R A 0 [] := ⟨rfl, fun h => absurd h (by omega)⟩
theorem ArrR.len (h : ArrR w size R A n xs) : xs.length = n := h.1
/-- the k-th element -/
theorem ArrR.at_ {k : Nat} (h : ArrR w size R A n xs) (hk : k < n) :
    ∃ b o x cs, A = some ⟨b, o, none⟩ ∧ b < w.heap.size ∧ xs[k]? = some x ∧ cs.length = size ∧ R cs x ∧ ∀ j u, cs[j]? = some u → w.cell? ⟨b, o + k * size + j, none⟩ = some u := by
  obtain ⟨b, o, rfl, hb, hc⟩ := h.2 (by omega)
  have hl : xs[k]? = some (xs[k]'(by rw [h.1]; exact hk)) := List.getElem?_eq_getElem _
  obtain ⟨cs, h1, hR, hcs⟩ := hc k _ hl
  exact ⟨b, o, _, cs, rfl, hb, hl, h1, hR, hcs⟩
theorem ArrR.of_block {g : Nat} {cs : Array Value} {t : TypeId} {m : Nat × Nat} (hg : w.heap[g]? = some (.cells cs t m)) (hn : xs.length = n)
    (h : ∀ k x, xs[k]? = some x → ∃ c : List Value, c.length = size ∧ R c x ∧ ∀ j u, c[j]? = some u → cs[k * size + j]? = some u) : ArrR w size R (some ⟨g, 0, none⟩) n xs := by
  refine ⟨hn, fun _ => ⟨g, 0, rfl, ?_, fun k x hx => ?_⟩⟩
  · rcases Nat.lt_or_ge g w.heap.size with hlt | hge
    · exact hlt
    · rw [Array.getElem?_eq_none hge] at hg; cases hg
  obtain ⟨c, h1, h2, h3⟩ := h k x hx
  refine ⟨c, h1, h2, fun j u hu => ?_⟩
  rw [cell_of_row w g _ cs t m hg, Nat.zero_add]
  exact h3 j u hu
end

/-- elements that are integers of one kind -/
def IntR (k : IntKind) (cs : List Value) (x : Int) : Prop := cs = [.int k x]
theorem IntR.at_ {w : World} {n i : Nat} {k : IntKind} {A : Option Addr} {xs : List Int} (h : ArrR w 1 (IntR k) A n xs) (hi : i < n) :
    ∃ b o x, A = some ⟨b, o, none⟩ ∧ b < w.heap.size ∧ xs[i]? = some x ∧ w.cell? ⟨b, o + i, none⟩ = some (.int k x) := by
  obtain ⟨b, o, x, cs, hA, hb, hx, _, hR, hc⟩ := h.at_ hi
  unfold IntR at hR
  subst hR
  refine ⟨b, o, x, hA, hb, hx, ?_⟩
  have := hc 0 _ rfl
  simpa using this

/-- max and min of two integers, without parting: to be laid as 'attribute [local go_sem ↓] run_max2 run_min2' -/
theorem run_max2 {P : Program} {w : World} (ts : Array TypeId) (t : TypeId) (k k' : IntKind) (x y : Int) : (Builtin.max_ ts t #[.int k x, .int k' y]).run P w = .ok (.int k (max x y)) w := by
  rw [run_max_int2]
  congr 2
  split <;> omega
theorem run_min2 {P : Program} {w : World} (ts : Array TypeId) (t : TypeId) (k k' : IntKind) (x y : Int) : (Builtin.min_ ts t #[.int k x, .int k' y]).run P w = .ok (.int k (min x y)) w := by
  rw [run_min_int2]
  congr 2
  split <;> omega

theorem ofInt_i64_lt (m : Nat) (hm : m < 9223372036854775808) : (BitVec.ofInt 64 (m : Int)).toNat = m := by
  rw [BitVec.ofInt_natCast, BitVec.toNat_ofNat]; exact Nat.mod_eq_of_lt (by omega)
/-- a mask: what comes is not below 0 and not above the mask -/
theorem and_mask (x : Int) (m : Nat) (hm : m < 9223372036854775808) : ∃ r : Nat, r ≤ m ∧ bits .and .i64 x (m : Int) = (r : Int) := by
  refine ⟨(BitVec.ofInt 64 x).toNat &&& m, Nat.and_le_right, ?_⟩
  have h : (BitVec.ofInt 64 x).toNat &&& m ≤ m := Nat.and_le_right
  show IntKind.i64.wrap ((BitVec.ofInt 64 x &&& BitVec.ofInt 64 (m : Int)).toNat : Int) = _
  rw [BitVec.toNat_and, ofInt_i64_lt m hm, IntKind.wrap_i64]
  omega

theorem take_snoc_of {α : Type} {l : List α} {k : Nat} {x : α} (h : l[k]? = some x) : l.take (k + 1) = l.take k ++ [x] := by
  rw [List.take_add_one, h]; rfl
theorem drop_of {α : Type} {l : List α} {k : Nat} {x : α} (h : l[k]? = some x) : l.drop k = x :: l.drop (k + 1) := by
  obtain ⟨hk, rfl⟩ := List.getElem?_eq_some_iff.1 h
  exact List.drop_eq_getElem_cons hk
theorem getElem?_lt_some {α : Type} {l : List α} {k : Nat} (h : k < l.length) : ∃ x, l[k]? = some x := ⟨l[k], List.getElem?_eq_getElem h⟩

end Go.Proofs.YtepifkmileilfaaDoor
