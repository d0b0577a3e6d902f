/- General lemmas over whatever program: how a slice in memory reads as a list, small facts on worlds and endings. -/
import Derived.WalkKit
import Derived.WalkSpells
import Derived.WalkLawsBesides
import Derived.BigQuiet
import Derived.Deep.QuietTactic
import Derived.Lib.Hide
import Derived.IntWalk
import Derived.Lib.AppendZeros
import Derived.Deep.AppendLies
import Derived.Deep.RegionLawGrows
import Derived.Maps.AppendAt
import Derived.Laws.BytesArg
import Derived.Lib.Bytes
import Derived.Deep.RegionHeld3
namespace Go.Proofs.YtfdjbnofcniodaaGreatDoor
open Lib (hid)
open Go.RowKit
theorem ret_int {k : IntKind} {a b : Int} (h : a = b) : Ending.returned (.int k a) = .returned (.int k b) := by rw [h]
theorem ret_bool {a b : Bool} (h : a = b) : Ending.returned (.bool a) = .returned (.bool b) := by rw [h]
def Ext (w W : World) : Prop := Below w.heap.size w W
section
variable {w W w1 : World}
theorem Ext.refl (w : World) : Ext w w := Below.refl _ _
theorem Ext.trans (h : Ext w W) (h1 : Ext W w1) : Ext w w1 := Below.trans h (Below.mono h1 (Below.size h))
theorem Ext.alloc (h : Ext w W) (o : Obj) : Ext w (W.alloc o) := Below.alloc h (Below.size h) o
theorem Ext.new (w : World) (o : Obj) : Ext w (w.alloc o) := (Ext.refl w).alloc o
theorem Ext.drew (h : Ext w W) : Ext w W.drew := Below.drew h
theorem Ext.drewN (h : Ext w W) (n : Nat) : Ext w (W.drewN n) := ⟨h.os, h.tape, h.output, h.size, h.block⟩
theorem Ext.set (h : Ext w W) {p : Addr} (hp : w.heap.size ≤ p.block) (u : Value) : Ext w (W.setCell p u) := Below.setCell h hp u
theorem Ext.size (h : Ext w W) : w.heap.size ≤ W.heap.size := Below.size h
theorem Ext.cell (h : Ext w W) {b o : Nat} (hb : b < w.heap.size) : W.cell? ⟨b, o, none⟩ = w.cell? ⟨b, o, none⟩ := Below.cell h (p := ⟨b, o, none⟩) hb
theorem Ext.frozen (h : Ext w W) {b o : Nat} (hb : b < w.heap.size) : W.frozen? ⟨b, o, none⟩ = w.frozen? ⟨b, o, none⟩ := Below.frozen h (p := ⟨b, o, none⟩) hb
theorem Ext.block (h : Ext w W) {b : Nat} (hb : b < w.heap.size) : W.heap[b]? = w.heap[b]? := Below.block h b hb
end
theorem blk_rules {w : World} {g : Nat} {cs : Array Value} {t : TypeId} (h : w.heap[g]? = some (.cells cs t (0, 0))) : (∀ i, w.cell? ⟨g, i, none⟩ = cs[i]?) ∧ (∀ i, w.frozen? ⟨g, i, none⟩ = false) :=
 ⟨fun i => cell_of_row w g i cs t (0, 0) h, fun i => by simp [World.frozen?, h]⟩
theorem two_blocks (w : World) (o1 o2 : Obj) : ((w.alloc o1).alloc o2).heap[w.heap.size]? = some o1 ∧ ((w.alloc o1).alloc o2).heap[w.heap.size + 1]? = some o2 := by
 refine ⟨?_, ?_⟩
 ·rw [Below.heap_alloc (w.alloc o1) o2 w.heap.size (by simp)]; exact heap_alloc_new w o1
 ·have := heap_alloc_new (w.alloc o1) o2
  simpa using this
theorem box1 {w w1 : World} {c1 : Array Value} {t1 : TypeId} (h : Ext (w.alloc (.cells c1 t1)) w1) :
  (∀ i, w1.cell? ⟨w.heap.size, i, none⟩ = c1[i]?) ∧ (∀ i, w1.frozen? ⟨w.heap.size, i, none⟩ = false) ∧ w.heap.size < w1.heap.size := by
 have h1 := blk_rules ((h.block (b := w.heap.size) (by simp)).trans (heap_alloc_new w _))
 have h2 := h.size
 simp only [World.size_alloc] at h2
 exact ⟨h1.1, h1.2, h2⟩
theorem box2 {w w1 : World} {c1 c2 : Array Value} {t1 t2 : TypeId} (h : Ext ((w.alloc (.cells c1 t1)).alloc (.cells c2 t2)) w1) :
  (∀ i, w1.cell? ⟨w.heap.size, i, none⟩ = c1[i]?) ∧ (∀ i, w1.frozen? ⟨w.heap.size, i, none⟩ = false) ∧ (∀ i, w1.cell? ⟨w.heap.size + 1, i, none⟩ = c2[i]?) ∧ (∀ i, w1.frozen? ⟨w.heap.size + 1, i, none⟩ = false) ∧ w.heap.size + 1 < w1.heap.size := by
 have h1 := blk_rules ((h.block (b := w.heap.size) (by simp; omega)).trans (two_blocks w _ _).1)
 have h2 := blk_rules ((h.block (b := w.heap.size + 1) (by simp)).trans (two_blocks w _ _).2)
 have h3 := h.size
 simp only [World.size_alloc] at h3
 exact ⟨h1.1, h1.2, h2.1, h2.2, h3⟩
theorem box1b {w w1 : World} {c1 : Array Value} {t1 : TypeId} (h : Ext (w.alloc (.cells c1 t1)) w1) : w1.heap[w.heap.size]? = some (.cells c1 t1 (0, 0)) ∧ w.heap.size < w1.heap.size := by
 have h3 := h.size
 simp only [World.size_alloc] at h3
 exact ⟨(h.block (b := w.heap.size) (by simp)).trans (heap_alloc_new w _), h3⟩
theorem box2b {w w1 : World} {c1 c2 : Array Value} {t1 t2 : TypeId} (h : Ext ((w.alloc (.cells c1 t1)).alloc (.cells c2 t2)) w1) :
  w1.heap[w.heap.size]? = some (.cells c1 t1 (0, 0)) ∧ w1.heap[w.heap.size + 1]? = some (.cells c2 t2 (0, 0)) ∧ w.heap.size + 1 < w1.heap.size := by
 have h3 := h.size
 simp only [World.size_alloc] at h3
 exact ⟨(h.block (b := w.heap.size) (by simp; omega)).trans (two_blocks w _ _).1, (h.block (b := w.heap.size + 1) (by simp)).trans (two_blocks w _ _).2, h3⟩
theorem blk_set {w : World} {g i : Nat} {cs : Array Value} {t : TypeId} {m : Nat × Nat} (h : w.heap[g]? = some (.cells cs t m)) (u : Value) : (w.setCell ⟨g, i, none⟩ u).heap[g]? = some (.cells (cs.setIfInBounds i u) t m) := by
 simp [World.setCell, Array.getElem?_modify, h]
theorem blk_far {w : World} {g g' i : Nat} (hne : g ≠ g') (u : Value) : (w.setCell ⟨g', i, none⟩ u).heap[g]? = w.heap[g]? := Below.heap_setCell w ⟨g', i, none⟩ u g hne
def ArrR {α : Type} (w : World) (size : Nat) (R : List Value → α → Prop) (A : Option Addr) (n : Nat) (xs : List α) : Prop :=
 xs.length = n ∧ (0 < n → ∃ b o, A = some ⟨b, o, none⟩ ∧ b < w.heap.size ∧ ∀ k x, xs[k]? = some x → ∃ cs, cs.length = size ∧ R cs x ∧ ∀ j u, cs[j]? = some u → w.cell? ⟨b, o + k * size + j, none⟩ = some u)
section
variable {α : Type} {w w' : World} {size n : Nat} {R R' : List Value → α → Prop} {A : Option Addr} {xs : List α}
theorem ArrR.keep (h : ArrR w size R A n xs) (hR : ∀ cs x, R cs x → R' cs x) (hs : w.heap.size ≤ w'.heap.size) (hk : ∀ b o, b < w.heap.size → w'.cell? ⟨b, o, none⟩ = w.cell? ⟨b, o, none⟩) : ArrR w' size R' A n xs :=
 ⟨h.1, fun hn => by
  obtain ⟨b, o, e, hb, hc⟩ := h.2 hn
  refine ⟨b, o, e, by omega, fun k x hx => ?_⟩
  obtain ⟨cs, hl, hr, hcs⟩ := hc k x hx
  exact ⟨cs, hl, hR _ _ hr, fun j u hu => (hk _ _ hb).trans (hcs j u hu)⟩⟩
theorem ArrR.up (h : ArrR w size R A n xs) (hb : Ext w w') : ArrR w' size R A n xs :=
 h.keep (fun _ _ h => h) hb.size fun _ _ hlt => hb.cell hlt
theorem ArrR.nil_ : ArrR w size R A 0 [] := ⟨rfl, fun h => absurd h (by omega)⟩
theorem ArrR.len (h : ArrR w size R A n xs) : xs.length = n := h.1
theorem ArrR.at_ {k : Nat} (h : ArrR w size R A n xs) (hk : k < n) :
  ∃ b o x cs, A = some ⟨b, o, none⟩ ∧ b < w.heap.size ∧ xs[k]? = some x ∧ cs.length = size ∧ R cs x ∧ ∀ j u, cs[j]? = some u → w.cell? ⟨b, o + k * size + j, none⟩ = some u := by
 obtain ⟨b, o, rfl, hb, hc⟩ := h.2 (by omega)
 have hl : xs[k]? = some (xs[k]'(by rw [h.1]; exact hk)) := List.getElem?_eq_getElem _
 obtain ⟨cs, h1, hR, hcs⟩ := hc k _ hl
 exact ⟨b, o, _, cs, rfl, hb, hl, h1, hR, hcs⟩
theorem ArrR.of_block {g : Nat} {cs : Array Value} {t : TypeId} {m : Nat × Nat} (hg : w.heap[g]? = some (.cells cs t m)) (hn : xs.length = n)
  (h : ∀ k x, xs[k]? = some x → ∃ c : List Value, c.length = size ∧ R c x ∧ ∀ j u, c[j]? = some u → cs[k * size + j]? = some u) : ArrR w size R (some ⟨g, 0, none⟩) n xs := by
 refine ⟨hn, fun _ => ⟨g, 0, rfl, ?_, fun k x hx => ?_⟩⟩
 ·rcases Nat.lt_or_ge g w.heap.size with hlt | hge
  ·exact hlt
  ·rw [Array.getElem?_eq_none hge] at hg; cases hg
 obtain ⟨c, h1, h2, h3⟩ := h k x hx
 refine ⟨c, h1, h2, fun j u hu => ?_⟩
 rw [cell_of_row w g _ cs t m hg, Nat.zero_add]
 exact h3 j u hu
end
def IntR (k : IntKind) (cs : List Value) (x : Int) : Prop := cs = [.int k x]
theorem IntR.at_ {w : World} {n i : Nat} {k : IntKind} {A : Option Addr} {xs : List Int} (h : ArrR w 1 (IntR k) A n xs) (hi : i < n) :
  ∃ b o x, A = some ⟨b, o, none⟩ ∧ b < w.heap.size ∧ xs[i]? = some x ∧ w.cell? ⟨b, o + i, none⟩ = some (.int k x) := by
 obtain ⟨b, o, x, cs, hA, hb, hx, _, hR, hc⟩ := h.at_ hi
 unfold IntR at hR
 subst hR
 refine ⟨b, o, x, hA, hb, hx, ?_⟩
 have := hc 0 _ rfl
 simpa using this
theorem run_max2 {P : Program} {w : World} (ts : Array TypeId) (t : TypeId) (k k' : IntKind) (x y : Int) : (Builtin.max_ ts t #[.int k x, .int k' y]).run P w = .ok (.int k (max x y)) w := by
 rw [run_max_int2]
 congr 2
 split <;> omega
theorem run_min2 {P : Program} {w : World} (ts : Array TypeId) (t : TypeId) (k k' : IntKind) (x y : Int) : (Builtin.min_ ts t #[.int k x, .int k' y]).run P w = .ok (.int k (min x y)) w := by
 rw [run_min_int2]
 congr 2
 split <;> omega
theorem ofInt_i64_lt (m : Nat) (hm : m < 9223372036854775808) : (BitVec.ofInt 64 (m : Int)).toNat = m := by
 rw [BitVec.ofInt_natCast, BitVec.toNat_ofNat]; exact Nat.mod_eq_of_lt (by omega)
theorem take_snoc_of {α : Type} {l : List α} {k : Nat} {x : α} (h : l[k]? = some x) : l.take (k + 1) = l.take k ++ [x] := by
 rw [List.take_add_one, h]; rfl
theorem drop_of {α : Type} {l : List α} {k : Nat} {x : α} (h : l[k]? = some x) : l.drop k = x :: l.drop (k + 1) := by
 obtain ⟨hk, rfl⟩ := List.getElem?_eq_some_iff.1 h
 exact List.drop_eq_getElem_cons hk
theorem getElem?_lt_some {α : Type} {l : List α} {k : Nat} (h : k < l.length) : ∃ x, l[k]? = some x := ⟨l[k], List.getElem?_eq_getElem h⟩
open Go.RowKit
def Flat (w : World) (size : Nat) (A : Option Addr) (n : Nat) (xs : List Value) : Prop :=
 xs.length = n * size ∧ (0 < n → ∃ b o, A = some ⟨b, o, none⟩ ∧ b < w.heap.size ∧ ∀ j u, xs[j]? = some u → w.cell? ⟨b, o + j, none⟩ = some u)
section
variable {w w' : World} {size n : Nat} {A : Option Addr} {xs : List Value}
theorem Flat.up (h : Flat w size A n xs) (hb : Ext w w') : Flat w' size A n xs :=
 ⟨h.1, fun hn => by
  obtain ⟨b, o, e, hlt, hc⟩ := h.2 hn
  exact ⟨b, o, e, Nat.lt_of_lt_of_le hlt hb.size, fun j u hu => (hb.cell hlt).trans (hc j u hu)⟩⟩
theorem Flat.nil_ : Flat w size A 0 [] := ⟨by simp, fun h => absurd h (by omega)⟩
theorem Flat.add (h : Flat w size A n xs) {a : Addr} (hA : A = some a) : ∀ j u, xs[j]? = some u → w.cell? (a.add j) = some u := by
 intro j u hu
 rcases Nat.eq_zero_or_pos n with h0 | hn
 ·subst h0
  have : xs = [] := List.eq_nil_of_length_eq_zero (by simpa using h.1)
  subst this
  simp at hu
 ·obtain ⟨b, o, e, _, hc⟩ := h.2 hn
  rw [hA] at e
  injection e with e
  subst e
  have := hc j u hu
  rw [← this]
  congr 1
  unfold Addr.add
  split <;> simp_all
theorem ArrR.flat {α : Type} {f : α → Value} {ys : List α} (h : ArrR w 1 (fun cs y => cs = [f y]) A n ys) : Flat w 1 A n (ys.map f) := by
 refine ⟨by simpa using h.1, fun hn => ?_⟩
 obtain ⟨b, o, e, hb, hc⟩ := h.2 hn
 refine ⟨b, o, e, hb, fun j u hu => ?_⟩
 rw [List.getElem?_map] at hu
 obtain ⟨y, hy, rfl⟩ := Option.map_eq_some_iff.1 hu
 obtain ⟨cs, _, rfl, hcs⟩ := hc j y hy
 simpa using hcs 0 _ rfl
theorem Flat.arr {α : Type} {f : α → Value} {ys : List α} (h : Flat w 1 A n (ys.map f)) : ArrR w 1 (fun cs y => cs = [f y]) A n ys := by
 refine ⟨by simpa using h.1, fun hn => ?_⟩
 obtain ⟨b, o, e, hb, hc⟩ := h.2 hn
 refine ⟨b, o, e, hb, fun k y hy => ⟨[f y], rfl, rfl, fun j u hu => ?_⟩⟩
 match j, hu with
 | 0, hu =>
  injection hu with hu
  subst hu
  simpa using hc k (f y) (by rw [List.getElem?_map, hy]; rfl)
end
theorem own_flat {w : World} {base size n : Nat} {e : TypeId} {v : Value} {xs : List Value} (h : w.ownsRow base e size v n xs) : ∃ A c, v = .slice A n c ∧ n ≤ c ∧ c ≤ maxLen ∧ (A = none → c = 0) ∧ Flat w size A n xs := by
 rcases h.2 with ⟨rfl, rfl⟩ | ⟨g, cap, cur, rfl, _, hg, hn, hm, hsz, ht⟩
 ·have : xs = [] := List.eq_nil_of_length_eq_zero (by simpa using h.1)
  subst this
  exact ⟨none, 0, rfl, Nat.le_refl _, Nat.zero_le _, fun _ => rfl, Flat.nil_⟩
 ·refine ⟨some ⟨g, 0, none⟩, cap, rfl, hn, hm, (fun h => by cases h), h.1, fun _ => ⟨g, 0, rfl, (Array.getElem?_eq_some_iff.1 hg).1, fun j u hu => ?_⟩⟩
  rw [cell_of_row w g _ cur e (0, 0) hg, Nat.zero_add]
  rw [← ht] at hu
  have hj : j < n * size := by
   have := (List.getElem?_eq_some_iff.1 hu).1
   rw [List.length_take] at this
   omega
  rw [List.getElem?_take_of_lt hj] at hu
  simpa using hu
theorem own_up {w w' : World} {base size n : Nat} {e : TypeId} {v : Value} {xs : List Value} (h : w.ownsRow base e size v n xs) (hb : Ext w w') : w'.ownsRow base e size v n xs := by
 refine ⟨h.1, ?_⟩
 rcases h.2 with hn | ⟨g, cap, cur, rfl, hg, hh, rest⟩
 ·exact .inl hn
 ·exact .inr ⟨g, cap, cur, rfl, hg, (hb.block (Array.getElem?_eq_some_iff.1 hh).1).trans hh, rest⟩
theorem own_base {w : World} {base base' size n : Nat} {e : TypeId} {v : Value} {xs : List Value} (h : w.ownsRow base e size v n xs) (hb : base' ≤ base) : w.ownsRow base' e size v n xs := by
 refine ⟨h.1, ?_⟩
 rcases h.2 with hn | ⟨g, cap, cur, rfl, hg, rest⟩
 ·exact .inl hn
 ·exact .inr ⟨g, cap, cur, rfl, Nat.le_trans hb hg, rest⟩
theorem own_nil {w : World} {base size : Nat} {e : TypeId} : w.ownsRow base e size (.slice none 0 0) 0 [] := ⟨by simp, .inl ⟨rfl, rfl⟩⟩
theorem Ext.grown {w W W' : World} {v : Value} {base size n : Nat} {e : TypeId} {xs : List Value} (h : Ext w W) (hg : W.grownBy W' v.ownBlock) (hown : W.ownsRow base e size v n xs) (hb : w.heap.size ≤ base) : Ext w W' :=
 Below.grown h hg h.size fun _ hk => Nat.le_trans hb (hown.lt _ hk).1
theorem own_empty_lit (w : World) (base : Nat) (e : TypeId) (size : Nat) (hb : base ≤ w.heap.size) : (w.alloc (.cells #[] e)).ownsRow base e size (.slice (some ⟨w.heap.size, 0, none⟩) 0 0) 0 [] :=
 ⟨by simp, .inr ⟨w.heap.size, 0, #[], rfl, hb, heap_alloc_new w _, Nat.le_refl _, Nat.zero_le _, by simp, by simp⟩⟩
def ElemOk (P : Program) (t e : TypeId) (z : Value) (size bytes : Nat) : Prop :=
 P.underlying t = some (.slice e) ∧ (∃ i, P.info? e = some i ∧ i.zero = some z ∧ i.size = size ∧ i.bytes = bytes) ∧ z.cells.size = size ∧ 0 < size
theorem ElemOk.mk {P : Program} {t e : TypeId} {z : Value} {size bytes : Nat} (ht : P.underlying t = some (.slice e)) (h : (P.info? e).map (fun i => (i.zero, i.size, i.bytes)) = some (some z, size, bytes)) (hz : z.cells.size = size) (hs : 0 < size) : ElemOk P t e z size bytes :=
 ⟨ht, info_parts h, hz, hs⟩
section
variable {P : Program} {w : World}
theorem run_append_flat {t e : TypeId} {z : Value} {size bytes : Nat} (E : ElemOk P t e z size bytes) (ty : TypeId) {base : Nat} {v : Value} {n : Nat} {xs : List Value} (hown : w.ownsRow base e size v n xs)
  {A : Option Addr} {m : Nat} (c : Nat) {news : List Value} (hf : Flat w size A m news) (h1 : ∀ u ∈ news, u.oneCell' = true) (h63 : n + m ≤ 4611686018427387904) (hbytes : (n + m) * bytes ≤ 140737488355328) (hbase : base ≤ w.heap.size) (hA : A = none → c = 0) :
  ∃ v' w', (Builtin.append_ #[t, t] ty #[v, .slice A m c]).run P w = .ok v' w' ∧ w'.ownsRow base e size v' (n + m) (xs ++ news) ∧ w.grownBy w' v.ownBlock ∧ (v'.ownBlock = v.ownBlock ∨ v'.ownBlock = some w.heap.size) := by
 obtain ⟨ht, ⟨i, hi, hz, hsize, hby⟩, hzs, hsz⟩ := E
 rcases A with _ | ad
 ·have hm : m = 0 := by
   rcases Nat.eq_zero_or_pos m with h0 | h0
   ·exact h0
   ·obtain ⟨_, _, h, _⟩ := hf.2 h0
    cases h
  subst hm
  have hn : news = [] := List.eq_nil_of_length_eq_zero (by simpa using hf.1)
  subst hn
  obtain rfl := hA rfl
  exact ⟨v, w, run_append_owned_none (w := w) base t ty e i size ht hi v n xs hown, by simpa using hown, ⟨rfl, rfl, rfl, Nat.le_refl _, fun _ _ _ => rfl⟩, .inl rfl⟩
 ·obtain ⟨v', w', hrun, h2, h3, _, h5⟩ := run_append_own_at (P := P) w base t ty e i z size bytes ht hi hz hsize hby hzs hsz v n xs hown ad m c news hf.1 (hf.add rfl) h1 (by simp only [maxLen]; omega) hbytes hbase
  exact ⟨v', w', hrun, h2, h3, h5⟩
end
def byteV (u : UInt8) : Value := .int .u8 (u.toNat : Int)
def ByteR (cs : List Value) (u : UInt8) : Prop := cs = [byteV u]
abbrev Byts (w : World) (A : Option Addr) (n : Nat) (bs : List UInt8) : Prop := ArrR w 1 ByteR A n bs
theorem byteV_one (bs : List UInt8) : ∀ u ∈ bs.map byteV, u.oneCell' = true := by
 intro u hu
 obtain ⟨x, _, rfl⟩ := List.mem_map.1 hu
 rfl
theorem Byts.at_ {w : World} {n k : Nat} {A : Option Addr} {bs : List UInt8} (h : Byts w A n bs) (hk : k < n) : ∃ b o u, A = some ⟨b, o, none⟩ ∧ b < w.heap.size ∧ bs[k]? = some u ∧ w.cell? ⟨b, o + k, none⟩ = some (.int .u8 (u.toNat : Int)) := by
 obtain ⟨b, o, x, cs, hA, hb, hx, _, hR, hc⟩ := ArrR.at_ h hk
 unfold ByteR byteV at hR
 subst hR
 refine ⟨b, o, x, hA, hb, hx, ?_⟩
 have := hc 0 _ rfl
 simpa using this
theorem Byts.flat {w : World} {n : Nat} {A : Option Addr} {bs : List UInt8} (h : Byts w A n bs) : Flat w 1 A n (bs.map byteV) := ArrR.flat (f := byteV) h
theorem Flat.byts {w : World} {n : Nat} {A : Option Addr} {bs : List UInt8} (h : Flat w 1 A n (bs.map byteV)) : Byts w A n bs := Flat.arr (f := byteV) h
theorem open_byteR {H : Type} {enc : TypeId × Value → H} {P : Program} {w : World} {base : Nat} {spare : Nat → Bool} {held : Bool} {e : TypeId} (he : P.underlying e = some (.int .u8)) (n : Nat) (cs : List Value) (x : DataW H × List MemPlace) (_ : cs.length = 1) (h : DataW.trod enc P w base spare held n e cs = some x) : ∃ y, ByteR cs y := by
 obtain ⟨m, rfl, _, hw⟩ := DataW.trod_int he h
 have h0 : 0 ≤ m ∧ m ≤ 255 := by simpa [Lit.wf, IntKind.min, IntKind.max, IntKind.bits, IntKind.signed] using hw
 refine ⟨UInt8.ofNat m.toNat, ?_⟩
 unfold ByteR byteV
 congr 2
 rw [UInt8.toNat_ofNat']
 omega
def bstr (bs : List UInt8) : ByteArray := ⟨bs.toArray⟩
theorem bstr_toList (bs : List UInt8) : (bstr bs).toList = bs := by unfold bstr; rw [Lib.toList_data]
theorem bstr_size (bs : List UInt8) : (bstr bs).size = bs.length := rfl
theorem strOfNums_bytes (bs : List UInt8) : strOfNums (bs.map fun u => (u.toNat : Int)) = bstr bs := by
 apply ByteArray.ext
 apply Array.toList_inj.1
 have h1 := Lib.strOfNums_toList (bs.map fun u => (u.toNat : Int))
 have h2 := bstr_toList bs
 rw [Lib.toList_data] at h1 h2
 rw [h1, h2]
 unfold Lib.bytesOf
 simp [Function.comp_def]
theorem run_conv {P : Program} {w : World} {src e dst : TypeId} (hs : P.underlying src = some (.slice e)) (he : P.underlying e = some (.int .u8)) (hd : P.underlying dst = some .string) {A : Option Addr} {n : Nat} {bs : List UInt8} (h : Byts w A n bs) (c : Nat) :
  (convert src dst (.slice A n c)).run P w = .ok (.string (bstr bs)) w := by
 rcases Nat.eq_zero_or_pos n with h0 | hn
 ·subst h0
  have : bs = [] := List.eq_nil_of_length_eq_zero h.1
  subst this
  rw [run_convert_bytes_string w src dst e A 0 c hs he hd]
  cases A with
  | none => simp [Conv.bytesToString, bstr, Sem.run_pure]; rfl
  | some a =>
   have hl : (loadCells a 0).run P w = .ok (([] : List Int).map (Value.int .u8)).toArray w := by simp [loadCells, loadCellsFrom, Sem.run_pure]
   rw [run_bytesToString w a 0 c [] hl]
   rfl
 ·obtain ⟨b, o, rfl, _, hc⟩ := h.2 hn
  rw [← strOfNums_bytes]
  refine run_convert_bytes_arg w src e hs he b o n c _ (by simpa using h.1) (fun i hi => ?_) dst hd
  obtain ⟨u, hu⟩ := getElem?_lt_some (l := bs) (k := i) (by rw [h.1]; exact hi)
  obtain ⟨cs, _, hR, hcs⟩ := hc i u hu
  unfold ByteR byteV at hR
  subst hR
  have h1 := hcs 0 _ rfl
  simp only [Nat.mul_one, Nat.add_zero] at h1
  rw [h1]
  congr 2
  rw [List.getD_eq_getElem?_getD, List.getElem?_map, hu]
  rfl
open Go.RowKit
theorem flat_one (w : World) (v : Value) (t : TypeId) : Flat (w.alloc (.cells #[v] t)) 1 (some ⟨w.heap.size, 0, none⟩) 1 [v] :=
 ⟨rfl, fun _ => ⟨w.heap.size, 0, rfl, by simp, fun j u hu => by
  have := cell_one_new w v t j u hu
  rw [← this]
  congr 1
  unfold Addr.add
  split <;> simp_all⟩⟩
theorem own_byts {w : World} {base n : Nat} {e : TypeId} {v : Value} {bs : List UInt8} (h : w.ownsRow base e 1 v n (bs.map byteV)) : ∃ A c, v = .slice A n c ∧ n ≤ c ∧ c ≤ maxLen ∧ (A = none → c = 0) ∧ Byts w A n bs ∧ (∀ b o, A = some ⟨b, o, none⟩ → base ≤ b) := by
 have hlt := h.lt
 obtain ⟨A, c, rfl, hn, hm, hA, hf⟩ := own_flat h
 exact ⟨A, c, rfl, hn, hm, hA, hf.byts, fun b o e => by subst e; exact (hlt b rfl).1⟩
set_option linter.unusedVariables false
open Go.RowKit
def Keep (S : Nat → Prop) (w w' : World) : Prop := w.heap.size ≤ w'.heap.size ∧ ∀ b o, b < w.heap.size → S b → w'.cell? ⟨b, o, none⟩ = w.cell? ⟨b, o, none⟩
section
variable {S T : Nat → Prop} {w w1 w2 : World}
theorem Ext.keep (h : Ext w w1) : Keep S w w1 := ⟨h.size, fun _ _ hb _ => h.cell hb⟩
theorem Keep.refl (S : Nat → Prop) (w : World) : Keep S w w := ⟨Nat.le_refl _, fun _ _ _ _ => rfl⟩
theorem Keep.trans (h : Keep S w w1) (k : Keep S w1 w2) : Keep S w w2 := ⟨Nat.le_trans h.1 k.1, fun b o hb hS => (k.2 b o (Nat.lt_of_lt_of_le hb h.1) hS).trans (h.2 b o hb hS)⟩
end
def ArrQ {α : Type} (S : Nat → Prop) (w : World) (size : Nat) (R : List Value → α → Prop) (A : Option Addr) (n : Nat) (xs : List α) : Prop :=
 xs.length = n ∧ (0 < n → ∃ b o, A = some ⟨b, o, none⟩ ∧ S b ∧ b < w.heap.size ∧ ∀ k x, xs[k]? = some x → ∃ cs, cs.length = size ∧ R cs x ∧ ∀ j u, cs[j]? = some u → w.cell? ⟨b, o + k * size + j, none⟩ = some u)
section
variable {α : Type} {S T : Nat → Prop} {w w' : World} {size n : Nat} {R R' : List Value → α → Prop} {A : Option Addr} {xs : List α}
theorem ArrQ.keep (h : ArrQ S w size R A n xs) (hR : ∀ cs x, x ∈ xs → R cs x → R' cs x) (hk : Keep S w w') : ArrQ S w' size R' A n xs :=
 ⟨h.1, fun hn => by
  obtain ⟨b, o, e, hS, hb, hc⟩ := h.2 hn
  refine ⟨b, o, e, hS, Nat.lt_of_lt_of_le hb hk.1, fun k x hx => ?_⟩
  obtain ⟨cs, hl, hr, hcs⟩ := hc k x hx
  exact ⟨cs, hl, hR _ _ (List.mem_of_getElem? hx) hr, fun j u hu => (hk.2 _ _ hb hS).trans (hcs j u hu)⟩⟩
theorem ArrQ.weak (h : ArrQ S w size R A n xs) (hR : ∀ cs x, R cs x → R' cs x) (hST : ∀ b, b < w.heap.size → S b → T b) : ArrQ T w size R' A n xs :=
 ⟨h.1, fun hn => by
  obtain ⟨b, o, e, hS, hb, hc⟩ := h.2 hn
  refine ⟨b, o, e, hST _ hb hS, hb, fun k x hx => ?_⟩
  obtain ⟨cs, hl, hr, hcs⟩ := hc k x hx
  exact ⟨cs, hl, hR _ _ hr, hcs⟩⟩
theorem ArrQ.arr (h : ArrQ S w size R A n xs) : ArrR w size R A n xs :=
 ⟨h.1, fun hn => by
  obtain ⟨b, o, e, _, hb, hc⟩ := h.2 hn
  exact ⟨b, o, e, hb, hc⟩⟩
theorem ArrR.q (h : ArrR w size R A n xs) : ArrQ (fun b => b < w.heap.size) w size R A n xs :=
 ⟨h.1, fun hn => by
  obtain ⟨b, o, e, hb, hc⟩ := h.2 hn
  exact ⟨b, o, e, hb, hb, hc⟩⟩
theorem ArrQ.nil_ : ArrQ S w size R A 0 [] := ⟨rfl, fun h => absurd h (by omega)⟩
theorem ArrQ.len (h : ArrQ S w size R A n xs) : xs.length = n := h.1
theorem ArrQ.at_ {k : Nat} (h : ArrQ S w size R A n xs) (hk : k < n) :
  ∃ b o x cs, A = some ⟨b, o, none⟩ ∧ S b ∧ b < w.heap.size ∧ xs[k]? = some x ∧ cs.length = size ∧ R cs x ∧ ∀ j u, cs[j]? = some u → w.cell? ⟨b, o + k * size + j, none⟩ = some u := by
 obtain ⟨b, o, rfl, hS, hb, hc⟩ := h.2 (by omega)
 have hl : xs[k]? = some (xs[k]'(by rw [h.1]; exact hk)) := List.getElem?_eq_getElem _
 obtain ⟨cs, h1, hR, hcs⟩ := hc k _ hl
 exact ⟨b, o, _, cs, rfl, hS, hb, hl, h1, hR, hcs⟩
theorem ArrQ.take (h : ArrQ S w size R A n xs) {k : Nat} (hk : k ≤ n) : ArrQ S w size R A k (xs.take k) := by
 refine ⟨by rw [List.length_take, h.1]; omega, fun hp => ?_⟩
 obtain ⟨b, o, e, hS, hb, hc⟩ := h.2 (by omega)
 refine ⟨b, o, e, hS, hb, fun i x hx => ?_⟩
 have hi : i < k := by have := (List.getElem?_eq_some_iff.1 hx).1; rw [List.length_take] at this; omega
 rw [List.getElem?_take_of_lt hi] at hx
 exact hc i x hx
end
def RowsOf {α : Type} (R : List Value → α → Prop) (size : Nat) : List Value → List α → Prop
 | us, [] => us = []
 | us, x :: xs => ∃ cs r, us = cs ++ r ∧ cs.length = size ∧ R cs x ∧ RowsOf R size r xs
section
variable {α : Type} {R R' : List Value → α → Prop} {size : Nat}
theorem RowsOf.mono (hR : ∀ cs x, R cs x → R' cs x) : ∀ {us : List Value} {xs : List α}, RowsOf R size us xs → RowsOf R' size us xs
 | _, [], h => h
 | _, x :: xs, ⟨cs, r, e, hl, h1, h2⟩ => ⟨cs, r, e, hl, hR _ _ h1, h2.mono hR⟩
theorem RowsOf.len : ∀ {us : List Value} {xs : List α}, RowsOf R size us xs → us.length = xs.length * size
 | _, [], h => by rw [show _ = [] from h]; simp
 | _, x :: xs, ⟨cs, r, e, hl, h1, h2⟩ => by rw [e, List.length_append, hl, h2.len, List.length_cons, Nat.succ_mul, Nat.add_comm]
theorem RowsOf.snoc {cs : List Value} {x : α} (hl : cs.length = size) (hR : R cs x) : ∀ {us : List Value} {xs : List α}, RowsOf R size us xs → RowsOf R size (us ++ cs) (xs ++ [x])
 | _, [], h => by rw [show _ = [] from h]; exact ⟨cs, [], by simp, hl, hR, rfl⟩
 | _, y :: xs, ⟨c, r, e, h0, h1, h2⟩ => ⟨c, r ++ cs, by rw [e, List.append_assoc], h0, h1, h2.snoc hl hR⟩
theorem RowsOf.at_ : ∀ {us : List Value} {xs : List α}, RowsOf R size us xs → ∀ {k : Nat} {x : α}, xs[k]? = some x → ∃ cs, cs.length = size ∧ R cs x ∧ ∀ j u, cs[j]? = some u → us[k * size + j]? = some u
 | _, [], _, k, x, hx => by simp at hx
 | _, y :: xs, ⟨c, r, e, h0, h1, h2⟩, 0, x, hx => by
  simp at hx; subst hx
  refine ⟨c, h0, h1, fun j u hu => ?_⟩
  rw [e, Nat.zero_mul, Nat.zero_add, List.getElem?_append_left (List.getElem?_eq_some_iff.1 hu).1]; exact hu
 | _, y :: xs, ⟨c, r, e, h0, h1, h2⟩, k + 1, x, hx => by
  rw [List.getElem?_cons_succ] at hx
  obtain ⟨cs, a, b, d⟩ := h2.at_ hx
  refine ⟨cs, a, b, fun j u hu => ?_⟩
  have := d j u hu
  rw [e, List.getElem?_append_right (by rw [h0, Nat.succ_mul]; omega), h0, Nat.succ_mul, show k * size + size + j - size = k * size + j by omega]
  exact this
end
theorem Flat.arrQ {α : Type} {S : Nat → Prop} {R : List Value → α → Prop} {w : World} {size n : Nat} {A : Option Addr} {us : List Value} {xs : List α} (h : Flat w size A n us) (hr : RowsOf R size us xs) (hs : 0 < size) (hS : ∀ b o, A = some ⟨b, o, none⟩ → b < w.heap.size → S b) : ArrQ S w size R A n xs := by
 have hl : xs.length = n := by
  have h1 := h.1
  rw [hr.len] at h1
  exact Nat.eq_of_mul_eq_mul_right hs h1
 refine ⟨hl, fun hn => ?_⟩
 obtain ⟨b, o, e, hb, hc⟩ := h.2 hn
 refine ⟨b, o, e, hS b o e hb, hb, fun k x hx => ?_⟩
 obtain ⟨cs, h1, h2, h3⟩ := hr.at_ hx
 refine ⟨cs, h1, h2, fun j u hu => ?_⟩
 rw [Nat.add_assoc]
 exact hc _ _ (h3 j u hu)
theorem ArrR.rows {α : Type} {R : List Value → α → Prop} {w : World} {size : Nat} {A : Option Addr} : ∀ {n : Nat} {xs : List α}, ArrR w size R A n xs → 0 < size → ∃ us, Flat w size A n us ∧ RowsOf R size us xs := by
 intro n xs h hs
 have key : ∀ k, k ≤ n → ∃ us, us.length = k * size ∧ RowsOf R size us (xs.take k) ∧ (0 < n → ∀ b o, A = some ⟨b, o, none⟩ → ∀ j u, us[j]? = some u → w.cell? ⟨b, o + j, none⟩ = some u) := by
  intro k
  induction k with
  | zero => intro _; exact ⟨[], by simp, rfl, fun _ b o _ j u hu => by simp at hu⟩
  | succ k ih =>
   intro hk
   obtain ⟨us, h1, h2, h3⟩ := ih (by omega)
   obtain ⟨b, o, x, cs, rfl, hb, hx, hl, hR, hc⟩ := h.at_ (k := k) (by omega)
   refine ⟨us ++ cs, by rw [List.length_append, h1, hl, Nat.succ_mul], ?_, ?_⟩
   ·rw [take_snoc_of hx]; exact h2.snoc hl hR
   ·intro hn b' o' e j u hu
    injection e with e; injection e with e1 e2; subst e1 e2
    rcases Nat.lt_or_ge j us.length with hj | hj
    ·rw [List.getElem?_append_left hj] at hu; exact h3 hn b o rfl j u hu
    ·rw [List.getElem?_append_right hj] at hu
     have := hc _ _ hu
     rw [show o + k * size + (j - us.length) = o + j by rw [h1] at hj ⊢; omega] at this
     exact this
 obtain ⟨us, h1, h2, h3⟩ := key n (Nat.le_refl _)
 rw [List.take_of_length_le (by rw [h.1]; exact Nat.le_refl _)] at h2
 refine ⟨us, ⟨h1, fun hn => ?_⟩, h2⟩
 obtain ⟨b, o, e, hb, _⟩ := h.2 hn
 exact ⟨b, o, e, hb, h3 hn b o e⟩
def SlW (A : Option Addr) (n c : Nat) : Prop := n ≤ c ∧ c ≤ maxLen ∧ (A = none → c = 0)
theorem SlW.nil_ : SlW none 0 0 := ⟨Nat.le_refl _, Nat.zero_le _, fun _ => rfl⟩
structure Rl where
 host : ByteArray
 pre : ByteArray
 ws : List (ByteArray × Int)
deriving DecidableEq
structure Rs where
 kind : Int
 name : ByteArray
 ver : Int
 port : Int
 to : ByteArray
 rules : List Rl
 hosts : List Int
deriving DecidableEq
structure Ky where
 kind : Int
 name : ByteArray
deriving DecidableEq
def Rs.key (r : Rs) : Ky := ⟨r.kind, r.name⟩
def rl0 : Rl := ⟨⟨#[]⟩, ⟨#[]⟩, []⟩
def rs0 : Rs := ⟨0, ⟨#[]⟩, 0, 0, ⟨#[]⟩, [], []⟩
def ky0 : Ky := ⟨0, ⟨#[]⟩⟩
def WtQ (cs : List Value) (p : ByteArray × Int) : Prop := cs = [.string p.1, .int .i64 p.2] ∧ p.1.size ≤ maxLen
def KyQ (cs : List Value) (k : Ky) : Prop := cs = [.int .i64 k.kind, .string k.name] ∧ k.name.size ≤ maxLen
structure RlV (S : Nat → Prop) (w : World) (r : Rl) (A : Option Addr) (n c : Nat) : Prop where
 h : r.host.size ≤ maxLen
 p : r.pre.size ≤ maxLen
 sl : SlW A n c
 arr : ArrQ S w 2 WtQ A n r.ws
def RlQ (S : Nat → Prop) (w : World) (cs : List Value) (r : Rl) : Prop := ∃ A n c, cs = [.string r.host, .string r.pre, .slice A n c] ∧ RlV S w r A n c
structure RsV (S : Nat → Prop) (w : World) (r : Rs) (A : Option Addr) (n c : Nat) (A' : Option Addr) (n' c' : Nat) : Prop where
 nm : r.name.size ≤ maxLen
 to : r.to.size ≤ maxLen
 sl : SlW A n c
 sl' : SlW A' n' c'
 arr : ArrQ S w 3 (RlQ S w) A n r.rules
 arr' : ArrQ S w 1 (IntR .i64) A' n' r.hosts
def RsQ (S : Nat → Prop) (w : World) (cs : List Value) (r : Rs) : Prop := ∃ A n c A' n' c', cs = [.int .i64 r.kind, .string r.name, .int .i64 r.ver, .int .i64 r.port, .string r.to, .slice A n c, .slice A' n' c'] ∧ RsV S w r A n c A' n' c'
section
variable {S T : Nat → Prop} {w w' : World} {n c n' c' : Nat} {A A' : Option Addr}
theorem RlV.keep {r : Rl} (h : RlV S w r A n c) (hk : Keep S w w') : RlV S w' r A n c := ⟨h.h, h.p, h.sl, h.arr.keep (fun _ _ _ h => h) hk⟩
theorem RlQ.keep {r : Rl} {cs : List Value} (h : RlQ S w cs r) (hk : Keep S w w') : RlQ S w' cs r := by obtain ⟨A, n, c, e, h⟩ := h; exact ⟨A, n, c, e, h.keep hk⟩
theorem RsV.keep {r : Rs} (h : RsV S w r A n c A' n' c') (hk : Keep S w w') : RsV S w' r A n c A' n' c' := ⟨h.nm, h.to, h.sl, h.sl', h.arr.keep (fun _ _ _ h => h.keep hk) hk, h.arr'.keep (fun _ _ _ h => h) hk⟩
theorem RsQ.keep {r : Rs} {cs : List Value} (h : RsQ S w cs r) (hk : Keep S w w') : RsQ S w' cs r := by obtain ⟨A, n, c, A', n', c', e, h⟩ := h; exact ⟨A, n, c, A', n', c', e, h.keep hk⟩
theorem RlV.weak {r : Rl} (h : RlV S w r A n c) (hST : ∀ b, b < w.heap.size → S b → T b) : RlV T w r A n c := ⟨h.h, h.p, h.sl, h.arr.weak (fun _ _ h => h) hST⟩
theorem RlQ.weak {r : Rl} {cs : List Value} (h : RlQ S w cs r) (hST : ∀ b, b < w.heap.size → S b → T b) : RlQ T w cs r := by obtain ⟨A, n, c, e, h⟩ := h; exact ⟨A, n, c, e, h.weak hST⟩
theorem RsV.weak {r : Rs} (h : RsV S w r A n c A' n' c') (hST : ∀ b, b < w.heap.size → S b → T b) : RsV T w r A n c A' n' c' := ⟨h.nm, h.to, h.sl, h.sl', h.arr.weak (fun _ _ h => h.weak hST) hST, h.arr'.weak (fun _ _ h => h) hST⟩
theorem RsQ.weak {r : Rs} {cs : List Value} (h : RsQ S w cs r) (hST : ∀ b, b < w.heap.size → S b → T b) : RsQ T w cs r := by obtain ⟨A, n, c, A', n', c', e, h⟩ := h; exact ⟨A, n, c, A', n', c', e, h.weak hST⟩
theorem RsV.up {r : Rs} (h : RsV S w r A n c A' n' c') (he : Ext w w') : RsV S w' r A n c A' n' c' := h.keep he.keep
theorem RlV.up {r : Rl} (h : RlV S w r A n c) (he : Ext w w') : RlV S w' r A n c := h.keep he.keep
abbrev ResL (S : Nat → Prop) (w : World) (A : Option Addr) (n : Nat) (l : List Rs) : Prop := ArrQ S w 7 (RsQ S w) A n l
abbrev KeyL (S : Nat → Prop) (w : World) (A : Option Addr) (n : Nat) (l : List Ky) : Prop := ArrQ S w 2 KyQ A n l
theorem ResL.keep {l : List Rs} (h : ResL S w A n l) (hk : Keep S w w') : ResL S w' A n l := ArrQ.keep h (fun _ _ _ h => h.keep hk) hk
theorem KeyL.keep {l : List Ky} (h : KeyL S w A n l) (hk : Keep S w w') : KeyL S w' A n l := ArrQ.keep h (fun _ _ _ h => h) hk
theorem ResL.weak {l : List Rs} (h : ResL S w A n l) (hST : ∀ b, b < w.heap.size → S b → T b) : ResL T w A n l := ArrQ.weak h (fun _ _ h => h.weak hST) hST
theorem ResL.at_ {w0 : World} {l : List Rs} {k : Nat} (h : ArrQ T w 7 (RsQ S w0) A n l) (hk : k < n) :
  ∃ b o r B m d B' m' d', A = some ⟨b, o, none⟩ ∧ b < w.heap.size ∧ T b ∧ l[k]? = some r ∧ RsV S w0 r B m d B' m' d' ∧
   w.cell? ⟨b, o + k * 7, none⟩ = some (.int .i64 r.kind) ∧ w.cell? ⟨b, o + k * 7 + 1, none⟩ = some (.string r.name) ∧ w.cell? ⟨b, o + k * 7 + 2, none⟩ = some (.int .i64 r.ver) ∧ w.cell? ⟨b, o + k * 7 + 3, none⟩ = some (.int .i64 r.port) ∧
   w.cell? ⟨b, o + k * 7 + 4, none⟩ = some (.string r.to) ∧ w.cell? ⟨b, o + k * 7 + 5, none⟩ = some (.slice B m d) ∧ w.cell? ⟨b, o + k * 7 + 6, none⟩ = some (.slice B' m' d') := by
 obtain ⟨b, o, r, cs, hA, hS, hb, hl, _, hR, hcs⟩ := ArrQ.at_ h hk
 obtain ⟨B, m, d, B', m', d', rfl, hv⟩ := hR
 exact ⟨b, o, r, B, m, d, B', m', d', hA, hb, hS, hl, hv, hcs 0 _ rfl, hcs 1 _ rfl, hcs 2 _ rfl, hcs 3 _ rfl, hcs 4 _ rfl, hcs 5 _ rfl, hcs 6 _ rfl⟩
theorem RlL.at_ {w0 : World} {l : List Rl} {k : Nat} (h : ArrQ T w 3 (RlQ S w0) A n l) (hk : k < n) :
  ∃ b o r B m d, A = some ⟨b, o, none⟩ ∧ b < w.heap.size ∧ T b ∧ l[k]? = some r ∧ RlV S w0 r B m d ∧ w.cell? ⟨b, o + k * 3, none⟩ = some (.string r.host) ∧ w.cell? ⟨b, o + k * 3 + 1, none⟩ = some (.string r.pre) ∧ w.cell? ⟨b, o + k * 3 + 2, none⟩ = some (.slice B m d) := by
 obtain ⟨b, o, r, cs, hA, hS, hb, hl, _, hR, hcs⟩ := ArrQ.at_ h hk
 obtain ⟨B, m, d, rfl, hv⟩ := hR
 exact ⟨b, o, r, B, m, d, hA, hb, hS, hl, hv, hcs 0 _ rfl, hcs 1 _ rfl, hcs 2 _ rfl⟩
theorem WtL.at_ {l : List (ByteArray × Int)} {k : Nat} (h : ArrQ S w 2 WtQ A n l) (hk : k < n) :
  ∃ b o s x, A = some ⟨b, o, none⟩ ∧ b < w.heap.size ∧ S b ∧ l[k]? = some (s, x) ∧ s.size ≤ maxLen ∧ w.cell? ⟨b, o + k * 2, none⟩ = some (.string s) ∧ w.cell? ⟨b, o + k * 2 + 1, none⟩ = some (.int .i64 x) := by
 obtain ⟨b, o, ⟨s, x⟩, cs, hA, hS, hb, hl, _, hR, hcs⟩ := ArrQ.at_ h hk
 obtain ⟨rfl, hm⟩ := hR
 exact ⟨b, o, s, x, hA, hb, hS, hl, hm, hcs 0 _ rfl, hcs 1 _ rfl⟩
theorem KeyL.at_ {l : List Ky} {k : Nat} (h : KeyL S w A n l) (hk : k < n) :
  ∃ b o y, A = some ⟨b, o, none⟩ ∧ b < w.heap.size ∧ S b ∧ l[k]? = some y ∧ y.name.size ≤ maxLen ∧ w.cell? ⟨b, o + k * 2, none⟩ = some (.int .i64 y.kind) ∧ w.cell? ⟨b, o + k * 2 + 1, none⟩ = some (.string y.name) := by
 obtain ⟨b, o, y, cs, hA, hS, hb, hl, _, hR, hcs⟩ := ArrQ.at_ h hk
 obtain ⟨rfl, hm⟩ := hR
 exact ⟨b, o, y, hA, hb, hS, hl, hm, hcs 0 _ rfl, hcs 1 _ rfl⟩
theorem HostL.at_ {l : List Int} {k : Nat} (h : ArrQ S w 1 (IntR .i64) A n l) (hk : k < n) :
  ∃ b o x, A = some ⟨b, o, none⟩ ∧ b < w.heap.size ∧ S b ∧ l[k]? = some x ∧ w.cell? ⟨b, o + k, none⟩ = some (.int .i64 x) := by
 obtain ⟨b, o, x, cs, hA, hS, hb, hl, _, hR, hcs⟩ := ArrQ.at_ h hk
 unfold IntR at hR
 subst hR
 have := hcs 0 _ rfl
 exact ⟨b, o, x, hA, hb, hS, hl, by simpa using this⟩
end
set_option linter.unusedVariables false
def lowB (c : UInt8) : Bool := decide (97 ≤ c.toNat) && decide (c.toNat ≤ 122)
def partB (c : UInt8) : Bool := lowB c || (decide (48 ≤ c.toNat) && decide (c.toNat ≤ 57)) || decide (c.toNat = 45)
def saneN (l : List UInt8) : Bool := decide (l.length ≤ 12) && l.all partB && (match l.head? with | none => false | some c => lowB c)
def splitD : List UInt8 → List (List UInt8)
 | [] => [[]]
 | c :: r => if c = 46 then [] :: splitD r else (c :: (splitD r).headD []) :: (splitD r).tail
def namesB (l : List UInt8) : Bool := (splitD l).all saneN
def trimStar (l : List UInt8) : List UInt8 := if l.take 2 = [42, 46] then l.drop 2 else l
def hostB (l : List UInt8) : Bool := decide (l.length ≤ 40) && (decide (l = [42]) || namesB (trimStar l))
def pathC (c : UInt8) : Bool := partB c || decide (c.toNat = 47)
def pathB (l : List UInt8) : Bool := l.all pathC && decide (l.length ≤ 40) && decide (l.head? = some 47)
def sfx (t h : List UInt8) : Bool := decide (t <:+ h)
def matchB (p h : List UInt8) : Bool := hostB p && hostB h && decide (h.head? ≠ some 42) && (decide (p = [42]) || decide (p = h) || (decide (p.head? = some 42) && decide (p.tail.length < h.length) && sfx p.tail h))
def underB (p q : List UInt8) : Bool := decide (p <+: q) && pathB p && pathB q && (decide (q.drop p.length = []) || decide (p.getLast? = some 47) || decide ((q.drop p.length).head? = some 47))
def widthN (l : List UInt8) : Int := if l = [42] then 0 else if l.take 2 = [42, 46] then (l.length : Int) else 9223372036854775807
def cmpI (a b : Int) : Int := if a < b then -1 else if b < a then 1 else 0
def narrowN (a b : List UInt8) : Int := cmpI (widthN a) (widthN b)
theorem sane_nil : saneN [] = false := rfl
theorem sane_head {c : UInt8} {r : List UInt8} (h : saneN (c :: r) = true) : lowB c = true := by
 unfold saneN at h; simp only [List.head?_cons, Bool.and_eq_true] at h; exact h.2
theorem sane_cons {s : List UInt8} (h : saneN s = true) : ∃ c r, s = c :: r ∧ lowB c = true := by
 cases s with
 | nil => rw [sane_nil] at h; cases h
 | cons c r => exact ⟨c, r, rfl, sane_head h⟩
theorem sane_part {s : List UInt8} (h : saneN s = true) : ∀ c ∈ s, partB c = true := by
 unfold saneN at h; simp only [Bool.and_eq_true, List.all_eq_true] at h; exact h.1.2
theorem sane_len {s : List UInt8} (h : saneN s = true) : 1 ≤ s.length ∧ s.length ≤ 12 := by
 obtain ⟨c, r, rfl, _⟩ := sane_cons h
 refine ⟨by simp, ?_⟩
 unfold saneN at h; simp only [Bool.and_eq_true, decide_eq_true_eq] at h; exact h.1.1
theorem splitD_app {s : List UInt8} (hs : ∀ c ∈ s, c ≠ 46) (h : List UInt8) : splitD (s ++ 46 :: h) = s :: splitD h := by
 induction s with
 | nil => simp [splitD]
 | cons c r ih =>
  have hc : c ≠ 46 := hs c (by simp)
  have := ih fun d hd => hs d (by simp [hd])
  simp [splitD, hc, this]
theorem splitD_one {s : List UInt8} (hs : ∀ c ∈ s, c ≠ 46) : splitD s = [s] := by
 induction s with
 | nil => simp [splitD]
 | cons c r ih =>
  have hc : c ≠ 46 := hs c (by simp)
  have := ih fun d hd => hs d (by simp [hd])
  simp [splitD, hc, this]
theorem names_nil : namesB [] = false := by decide
theorem names_cons {p : List UInt8} (h : namesB p = true) : ∃ c r, p = c :: r ∧ lowB c = true := by
 cases p with
 | nil => rw [names_nil] at h; cases h
 | cons c r =>
  refine ⟨c, r, rfl, ?_⟩
  unfold namesB splitD at h
  by_cases hc : c = 46
  ·rw [if_pos hc] at h
   simp [sane_nil] at h
  ·rw [if_neg hc] at h
   simp only [List.all_cons, Bool.and_eq_true] at h
   exact sane_head h.1
theorem take2_form {p : List UInt8} (h : p.take 2 = [42, 46]) : p = 42 :: 46 :: p.drop 2 := by
 match p, h with
 | [], h => simp at h
 | [c], h => simp at h
 | c :: d :: r, h => simp at h; obtain ⟨rfl, rfl⟩ := h; rfl
def bnd (n : Int) : Nat := (max 0 (min n 2147483647)).toNat
theorem bnd_le (n : Int) : bnd n ≤ 2147483647 := by unfold bnd; omega
theorem bnd_of {n : Nat} (h : n ≤ 2147483647) : bnd n = n := by unfold bnd; omega
theorem bnd_cast (n : Int) : max 0 (min n 2147483647) = (bnd n : Int) := by unfold bnd; omega
def encF : Nat → Nat → List UInt8
 | 0, n => [UInt8.ofNat n]
 | f + 1, n => if 128 ≤ n then UInt8.ofNat (n % 128 + 128) :: encF f (n / 128) else [UInt8.ofNat n]
def enc (n : Nat) : List UInt8 := encF 4 n
theorem encF_lt {f n : Nat} (h : n < 128) : encF f n = [UInt8.ofNat n] := by
 cases f with
 | zero => rfl
 | succ f => unfold encF; rw [if_neg (by omega)]
theorem encF_ge {f n : Nat} (h : 128 ≤ n) : encF (f + 1) n = UInt8.ofNat (n % 128 + 128) :: encF f (n / 128) := by
 conv => lhs; unfold encF
 rw [if_pos h]
theorem encF_len (f n : Nat) : (encF f n).length ≤ f + 1 := by
 induction f generalizing n with
 | zero => simp [encF]
 | succ f ih => unfold encF; split; simp; exact ih _; simp
theorem enc_len (n : Nat) : (enc n).length ≤ 5 := encF_len _ _
theorem pow5 {n : Nat} (h : n ≤ 2147483647) : n < 128 ^ 5 := by
 have : (128 : Nat) ^ 5 = 34359738368 := by decide
 omega
theorem div_pow {f n : Nat} (h : n < 128 ^ (f + 1 + 1)) : n / 128 < 128 ^ (f + 1) := by
 rw [Nat.div_lt_iff_lt_mul (by omega), ← Nat.pow_succ]; exact h
def parseF : Nat → Nat → Nat → List UInt8 → Nat × Nat × Int
 | 0, _, _, _ => (0, 0, 2)
 | _ + 1, _, _, [] => (0, 0, 1)
 | f + 1, k, n, c :: r =>
  if 128 ≤ c.toNat then parseF f (k + 1) (n + c.toNat % 128 * 128 ^ k) r
  else if c.toNat = 0 ∧ 0 < k then (0, 0, 2) else (n + c.toNat % 128 * 128 ^ k, k + 1, 0)
def parse (bs : List UInt8) : Nat × Nat × Int := parseF 5 0 0 bs
theorem ofNat_lt {n : Nat} (h : n < 256) : (UInt8.ofNat n).toNat = n := by rw [UInt8.toNat_ofNat']; omega
theorem ofNat_toNat (c : UInt8) : UInt8.ofNat c.toNat = c := by simp
theorem parseF_step {bs : List UInt8} {j x : Nat} {u : UInt8} (hj : j < 5) (hu : bs[j]? = some u) : parseF (5 - j) j x (bs.drop j) =
  if 128 ≤ u.toNat then parseF (5 - (j + 1)) (j + 1) (x + u.toNat % 128 * 128 ^ j) (bs.drop (j + 1))
  else if u.toNat = 0 ∧ 0 < j then (0, 0, 2) else (x + u.toNat % 128 * 128 ^ j, j + 1, 0) := by
 rw [drop_of hu, show 5 - j = (5 - (j + 1)) + 1 by omega]
 conv => lhs; unfold parseF
theorem step_lt {j x : Nat} (u : UInt8) (hx : x < 128 ^ j) : x + u.toNat % 128 * 128 ^ j < 128 ^ (j + 1) := by
 have h1 : u.toNat % 128 ≤ 127 := by omega
 have h2 : u.toNat % 128 * 128 ^ j ≤ 127 * 128 ^ j := Nat.mul_le_mul_right _ h1
 rw [Nat.pow_succ]
 omega
theorem parseF_enc (f : Nat) : ∀ (k n m : Nat) (rest : List UInt8), m < 128 ^ (f + 1) → (0 < k → 0 < m) → parseF (f + 1) k n (encF f m ++ rest) = (n + m * 128 ^ k, k + (encF f m).length, 0) := by
 induction f with
 | zero =>
  intro k n m rest hm hk
  have h1 : m < 128 := by simpa using hm
  rw [encF_lt h1]
  simp only [List.cons_append, List.nil_append, parseF]
  rw [ofNat_lt (by omega), if_neg (by omega), if_neg (by omega), Nat.mod_eq_of_lt h1]
  rfl
 | succ f ih =>
  intro k n m rest hm hk
  by_cases h : 128 ≤ m
  ·rw [encF_ge h]
   simp only [List.cons_append, parseF]
   rw [ofNat_lt (by omega), if_pos (by omega), ih _ _ _ _ (div_pow hm) (by omega)]
   have e1 : (m % 128 + 128) % 128 = m % 128 := by omega
   have e2 : m % 128 * 128 ^ k + m / 128 * 128 ^ (k + 1) = m * 128 ^ k := by
    rw [Nat.pow_succ, ← Nat.mul_assoc, Nat.mul_right_comm, ← Nat.add_mul]
    congr 1
    omega
   rw [e1, Nat.add_assoc, e2]
   simp only [List.length_cons]
   congr 2
   omega
  ·have h1 : m < 128 := by omega
   rw [encF_lt h1]
   simp only [List.cons_append, List.nil_append, parseF]
   rw [ofNat_lt (by omega), if_neg (by omega), if_neg (by omega), Nat.mod_eq_of_lt h1]
   rfl
theorem parse_enc {m : Nat} (h : m ≤ 2147483647) (rest : List UInt8) : parse (enc m ++ rest) = (m, (enc m).length, 0) := by
 unfold parse enc
 rw [parseF_enc 4 0 0 m rest (pow5 h) (by omega)]
 simp
theorem parseF_short (f : Nat) : ∀ (k n m j : Nat), j < (encF f m).length → parseF (f + 1) k n ((encF f m).take j) = (0, 0, 1) := by
 induction f with
 | zero =>
  intro k n m j hj
  have : j = 0 := by simp [encF] at hj; exact hj
  subst this
  simp [parseF]
 | succ f ih =>
  intro k n m j hj
  by_cases h : 128 ≤ m
  ·rw [encF_ge h] at hj ⊢
   cases j with
   | zero => simp [parseF]
   | succ j =>
    rw [List.take_succ_cons]
    unfold parseF
    rw [ofNat_lt (by omega), if_pos (by omega)]
    exact ih _ _ _ _ (by simpa using hj)
  ·rw [encF_lt (by omega)] at hj ⊢
   have : j = 0 := by simp at hj; exact hj
   subst this
   simp [parseF]
theorem parse_short {m j : Nat} (h : j < (enc m).length) : parse ((enc m).take j) = (0, 0, 1) := parseF_short 4 0 0 m j h
theorem parseF_once (f : Nat) : ∀ (k n : Nat) (bs : List UInt8) (v j : Nat), parseF (f + 1) k n bs = (v, j, 0) → ∃ m, v = n + m * 128 ^ k ∧ k < j ∧ j ≤ k + f + 1 ∧ j - k ≤ bs.length ∧ (0 < k → 0 < m) ∧ m < 128 ^ (f + 1) ∧ encF f m = bs.take (j - k) := by
 induction f with
 | zero =>
  intro k n bs v j h
  cases bs with
  | nil => simp [parseF] at h
  | cons c r =>
   unfold parseF at h
   split at h
   ·simp [parseF] at h
   ·rename_i h1
    split at h
    ·simp at h
    ·rename_i h2
     injection h with h3 h4
     injection h4 with h4 _
     subst h3 h4
     refine ⟨c.toNat, by rw [Nat.mod_eq_of_lt (by omega)], by omega, by omega, by simp, by omega, by simpa using h1, ?_⟩
     rw [Nat.add_sub_cancel_left]
     simp [encF]
 | succ f ih =>
  intro k n bs v j h
  cases bs with
  | nil => simp [parseF] at h
  | cons c r =>
   unfold parseF at h
   split at h
   ·rename_i h1
    obtain ⟨m, g1, g2, g3, g4, g5, g6, g7⟩ := ih _ _ _ _ _ h
    have hc : c.toNat < 256 := c.toNat_lt
    refine ⟨c.toNat % 128 + 128 * m, ?_, by omega, by omega, by simp; omega, by have := g5 (by omega); omega, ?_, ?_⟩
    ·rw [g1, Nat.pow_succ, Nat.add_assoc]
     congr 1
     rw [Nat.add_mul]
     congr 1
     rw [Nat.mul_comm 128 m, Nat.mul_assoc, Nat.mul_comm 128]
    ·rw [Nat.pow_succ]; omega
    ·have hm := g5 (by omega)
     rw [encF_ge (by omega)]
     have e1 : (c.toNat % 128 + 128 * m) % 128 + 128 = c.toNat := by omega
     have e2 : (c.toNat % 128 + 128 * m) / 128 = m := by omega
     rw [e1, e2, g7, ofNat_toNat]
     have e3 : j - k = (j - (k + 1)) + 1 := by omega
     rw [e3, List.take_succ_cons]
   ·rename_i h1
    split at h
    ·simp at h
    ·rename_i h2
     injection h with h3 h4
     injection h4 with h4 _
     subst h3 h4
     refine ⟨c.toNat, by rw [Nat.mod_eq_of_lt (by omega)], by omega, by omega, by simp, by omega, ?_, ?_⟩
     ·have : (128 : Nat) ≤ 128 ^ (f + 1 + 1) := by
       rw [Nat.pow_succ]
       exact Nat.le_mul_of_pos_left _ (Nat.pow_pos (by omega))
      omega
     ·rw [Nat.add_sub_cancel_left, encF_lt (by omega)]
      simp
theorem parse_once {bs : List UInt8} {v j : Nat} (h : parse bs = (v, j, 0)) : 0 < j ∧ j ≤ 5 ∧ j ≤ bs.length ∧ enc v = bs.take j := by
 obtain ⟨m, g1, g2, g3, g4, _, _, g7⟩ := parseF_once 4 0 0 bs v j h
 simp at g1
 subst g1
 exact ⟨g2, by omega, by simpa using g4, by unfold enc; simpa using g7⟩
theorem parseF_err (f : Nat) : ∀ (k n : Nat) (bs : List UInt8), (parseF f k n bs).2.2 = 0 ∨ parseF f k n bs = (0, 0, 1) ∨ parseF f k n bs = (0, 0, 2) := by
 induction f with
 | zero => intro k n bs; exact .inr (.inr rfl)
 | succ f ih =>
  intro k n bs
  cases bs with
  | nil => exact .inr (.inl rfl)
  | cons c r =>
   unfold parseF
   split
   ·exact ih _ _ _
   ·split
    ·exact .inr (.inr rfl)
    ·exact .inl rfl
theorem parse_err (bs : List UInt8) : (parse bs).2.2 = 0 ∨ parse bs = (0, 0, 1) ∨ parse bs = (0, 0, 2) := parseF_err 5 0 0 bs
structure Rd where
 b : List UInt8
 e : Int
def Rd.num (r : Rd) (limit : Int) : Rd × Nat :=
 if r.e ≠ 0 then (r, 0)
 else if (parse r.b).2.2 ≠ 0 then (⟨r.b, (parse r.b).2.2⟩, 0)
 else if bnd limit < (parse r.b).1 then (⟨r.b, 3⟩, 0)
 else (⟨r.b.drop (parse r.b).2.1, 0⟩, (parse r.b).1)
def Rd.txt (r : Rd) (limit : Int) : Rd × List UInt8 :=
 if (r.num limit).1.e ≠ 0 then ((r.num limit).1, [])
 else if (r.num limit).1.b.length < (r.num limit).2 then (⟨(r.num limit).1.b, 1⟩, [])
 else (⟨(r.num limit).1.b.drop (r.num limit).2, 0⟩, (r.num limit).1.b.take (r.num limit).2)
def Rd.done (r : Rd) : Int := if 0 < r.b.length ∧ r.e = 0 then 2 else r.e
theorem Rd.num_err {r : Rd} (h : r.e ≠ 0) (i : Int) : r.num i = (r, 0) := by unfold Rd.num; rw [if_pos h]
theorem Rd.txt_err {r : Rd} (h : r.e ≠ 0) (i : Int) : r.txt i = (r, []) := by unfold Rd.txt; rw [Rd.num_err h, if_pos h]
theorem Rd.done_err {r : Rd} (h : r.e ≠ 0) : r.done = r.e := by unfold Rd.done; rw [if_neg (by omega)]
theorem Rd.num_bad {r : Rd} (h : r.e = 0) (i : Int) (hp : (parse r.b).2.2 ≠ 0) : r.num i = (⟨r.b, (parse r.b).2.2⟩, 0) := by unfold Rd.num; rw [if_neg (by simpa using h), if_pos hp]
theorem Rd.num_big {r : Rd} (h : r.e = 0) {i : Int} (hp : (parse r.b).2.2 = 0) (hb : bnd i < (parse r.b).1) : r.num i = (⟨r.b, 3⟩, 0) := by
 unfold Rd.num; rw [if_neg (by simpa using h), if_neg (by simpa using hp), if_pos hb]
theorem Rd.num_ok {r : Rd} (h : r.e = 0) {i : Int} (hp : (parse r.b).2.2 = 0) (hb : ¬ bnd i < (parse r.b).1) : r.num i = (⟨r.b.drop (parse r.b).2.1, 0⟩, (parse r.b).1) := by
 unfold Rd.num; rw [if_neg (by simpa using h), if_neg (by simpa using hp), if_neg hb]
theorem Rd.num_put {m : Nat} (hm : m ≤ 2147483647) (rest : List UInt8) {i : Int} (hi : m ≤ bnd i) : (Rd.mk (enc m ++ rest) 0).num i = (⟨rest, 0⟩, m) := by
 have hp := parse_enc hm rest
 rw [Rd.num_ok rfl (by simp only [hp]) (by simp only [hp]; omega)]
 simp only [hp, List.drop_left]
theorem Rd.num_short {m j : Nat} (hj : j < (enc m).length) (i : Int) : (Rd.mk ((enc m).take j) 0).num i = (⟨(enc m).take j, 1⟩, 0) := by
 have hp := parse_short hj
 rw [Rd.num_bad rfl _ (by simp only [hp]; decide)]
 simp only [hp]
theorem Rd.txt_put {s : List UInt8} (hs : s.length ≤ 2147483647) (rest : List UInt8) {i : Int} (hi : s.length ≤ bnd i) : (Rd.mk (enc s.length ++ (s ++ rest)) 0).txt i = (⟨rest, 0⟩, s) := by
 unfold Rd.txt
 rw [Rd.num_put hs _ hi]
 simp
theorem Rd.num_le (r : Rd) (i : Int) : (r.num i).2 ≤ bnd i := by
 unfold Rd.num
 split
 ·simp
 ·split
  ·simp
  ·split
   ·simp
   ·rename_i h; simp only []; omega
set_option linter.unusedVariables false
structure Codec {α : Type} (t : Rd → Rd × α) (put : α → List UInt8) (ok : α → Prop) : Prop where
 back : ∀ (x : α) (rest : List UInt8), ok x → t ⟨put x ++ rest, 0⟩ = (⟨rest, 0⟩, x)
 once : ∀ (b : List UInt8), (t ⟨b, 0⟩).1.e = 0 → ok (t ⟨b, 0⟩).2 ∧ b = put (t ⟨b, 0⟩).2 ++ (t ⟨b, 0⟩).1.b
 short : ∀ (x : α) (j : Nat), ok x → j < (put x).length → (t ⟨(put x).take j, 0⟩).1.e = 1
 err : ∀ r : Rd, r.e ≠ 0 → (t r).1 = r
def bindP {α β : Type} (t1 : Rd → Rd × α) (t2 : α → Rd → Rd × β) (r : Rd) : Rd × β := t2 (t1 r).2 (t1 r).1
def pureP {α : Type} (v : α) (r : Rd) : Rd × α := (r, v)
def checkP {α : Type} (t : Rd → Rd × α) (chk : α → Int) (z : α) (r : Rd) : Rd × α :=
 if (t r).1.e = 0 then (if chk (t r).2 = 0 then t r else (⟨(t r).1.b, chk (t r).2⟩, z)) else ((t r).1, z)
theorem rd_zero {r : Rd} (h : r.e = 0) : r = ⟨r.b, 0⟩ := by cases r; simp only at h; subst h; rfl
theorem Codec.pure {α : Type} (v : α) : Codec (pureP v) (fun _ => []) (fun y => y = v) :=
 ⟨fun x rest h => by subst h; rfl, fun b _ => ⟨rfl, rfl⟩, fun x j _ h => by simp at h, fun r _ => rfl⟩
theorem Codec.bind {α β : Type} {t1 : Rd → Rd × α} {t2 : α → Rd → Rd × β} {p1 : α → List UInt8} {p2 : α → β → List UInt8} {ok1 : α → Prop} {ok2 : α → β → Prop} {fst : β → α}
  (h1 : Codec t1 p1 ok1) (h2 : ∀ x, Codec (t2 x) (p2 x) (ok2 x)) (hf : ∀ x y, ok2 x y → fst y = x) :
  Codec (bindP t1 t2) (fun y => p1 (fst y) ++ p2 (fst y) y) (fun y => ok1 (fst y) ∧ ok2 (fst y) y) := by
 refine ⟨fun y rest ⟨a, b⟩ => ?_, fun b hb => ?_, fun y j ⟨a, b⟩ hj => ?_, fun r hr => ?_⟩
 ·unfold bindP
  rw [List.append_assoc, h1.back _ _ a]
  exact (h2 _).back _ _ b
 ·unfold bindP at hb ⊢
  by_cases he : (t1 ⟨b, 0⟩).1.e = 0
  ·obtain ⟨a1, a2⟩ := h1.once b he
   rw [rd_zero he] at hb ⊢
   obtain ⟨b1, b2⟩ := (h2 (t1 ⟨b, 0⟩).2).once _ hb
   have hfx := hf _ _ b1
   refine ⟨by rw [hfx]; exact ⟨a1, b1⟩, ?_⟩
   rw [hfx, List.append_assoc, ← b2]
   exact a2
  ·rw [(h2 _).err _ he] at hb
   exact absurd hb he
 ·unfold bindP
  rcases Nat.lt_or_ge j (p1 (fst y)).length with hlt | hge
  ·have hs := h1.short _ j a hlt
   have ht : (p1 (fst y) ++ p2 (fst y) y).take j = (p1 (fst y)).take j := by rw [List.take_append_of_le_length (by omega)]
   rw [ht, (h2 _).err _ (by rw [hs]; decide)]
   exact hs
  ·have ht : (p1 (fst y) ++ p2 (fst y) y).take j = p1 (fst y) ++ (p2 (fst y) y).take (j - (p1 (fst y)).length) := by
    rw [List.take_append, List.take_of_length_le hge]
   rw [ht, h1.back _ _ a]
   have hj' : j < (p1 (fst y) ++ p2 (fst y) y).length := hj
   rw [List.length_append] at hj'
   refine (h2 _).short _ _ b ?_
   show _ < (p2 (fst y) y).length
   omega
 ·unfold bindP
  have e1 := h1.err r hr
  rw [(h2 _).err _ (by rw [e1]; exact hr), e1]
theorem Codec.as {α : Type} {t t' : Rd → Rd × α} {p p' : α → List UInt8} {ok ok' : α → Prop} (h : Codec t p ok) (ht : ∀ r, t' r = t r) (hp : ∀ x, ok x → p' x = p x) (ho : ∀ x, ok' x ↔ ok x) : Codec t' p' ok' := by
 obtain rfl : t' = t := funext ht
 refine ⟨fun x rest hx => ?_, fun b hb => ?_, fun x j hx hj => ?_, h.err⟩
 ·rw [hp x ((ho x).1 hx)]; exact h.back x rest ((ho x).1 hx)
 ·obtain ⟨a, b'⟩ := h.once b hb; exact ⟨(ho _).2 a, by rw [hp _ a]; exact b'⟩
 ·rw [hp x ((ho x).1 hx)] at hj ⊢; exact h.short x j ((ho x).1 hx) hj
theorem Codec.check {α : Type} {t : Rd → Rd × α} {p : α → List UInt8} {ok : α → Prop} (h : Codec t p ok) (chk : α → Int) (z : α) : Codec (checkP t chk z) p (fun x => ok x ∧ chk x = 0) := by
 refine ⟨fun x rest ⟨a, b⟩ => ?_, fun b hb => ?_, fun x j ⟨a, b⟩ hj => ?_, fun r hr => ?_⟩
 ·unfold checkP; rw [h.back x rest a]; simp only []; rw [if_pos trivial, if_pos b]
 ·unfold checkP at hb ⊢
  by_cases he : (t ⟨b, 0⟩).1.e = 0
  ·rw [if_pos he] at hb ⊢
   by_cases hc : chk (t ⟨b, 0⟩).2 = 0
   ·rw [if_pos hc]
    obtain ⟨a1, a2⟩ := h.once b he
    exact ⟨⟨a1, hc⟩, a2⟩
   ·rw [if_neg hc] at hb; exact absurd hb hc
  ·rw [if_neg he] at hb; exact absurd hb he
 ·have := h.short x j a hj
  unfold checkP; rw [if_neg (by rw [this]; decide)]; exact this
 ·unfold checkP
  have e1 := h.err r hr
  rw [if_neg (by rw [e1]; exact hr)]; exact e1
def encT (s : List UInt8) : List UInt8 := enc s.length ++ s
theorem Codec.num (lim : Int) : Codec (fun r => r.num lim) enc (fun n => n ≤ bnd lim) := by
 have hb := bnd_le lim
 refine ⟨fun x rest h => Rd.num_put (by omega) rest h, fun b hb => ?_, fun x j h hj => by rw [Rd.num_short hj], fun r hr => by rw [Rd.num_err hr]⟩
 by_cases hp : (parse b).2.2 = 0
 ·by_cases hl : bnd lim < (parse b).1
  ·rw [Rd.num_big rfl hp hl] at hb; simp at hb
  ·have e := Rd.num_ok (r := ⟨b, 0⟩) rfl hp hl
   rw [e]
   obtain ⟨_, _, _, h4⟩ := parse_once (bs := b) (v := (parse b).1) (j := (parse b).2.1) (by rw [← hp])
   refine ⟨by simp only []; omega, ?_⟩
   simp only []
   rw [h4, List.take_append_drop]
 ·rw [Rd.num_bad rfl lim hp] at hb; exact absurd hb hp
theorem Codec.txt (lim : Int) : Codec (fun r => r.txt lim) encT (fun s => s.length ≤ bnd lim) := by
 have hN := Codec.num lim
 have hb := bnd_le lim
 refine ⟨fun x rest h => ?_, fun b he => ?_, fun x j h hj => ?_, fun r hr => by rw [Rd.txt_err hr]⟩
 ·have := Rd.txt_put (s := x) (by omega) rest (i := lim) h
  unfold encT; rw [List.append_assoc]; exact this
 ·by_cases h1 : ((Rd.mk b 0).num lim).1.e = 0
  ·obtain ⟨a1, a2⟩ := hN.once b h1
   (try simp only [] at a1 a2)
   by_cases h2 : ((Rd.mk b 0).num lim).1.b.length < ((Rd.mk b 0).num lim).2
   ·(try simp only [] at he); unfold Rd.txt at he; rw [if_neg (by simpa using h1), if_pos h2] at he; simp at he
   ·have e : (Rd.mk b 0).txt lim = (⟨((Rd.mk b 0).num lim).1.b.drop ((Rd.mk b 0).num lim).2, 0⟩, ((Rd.mk b 0).num lim).1.b.take ((Rd.mk b 0).num lim).2) := by
     unfold Rd.txt; rw [if_neg (by simpa using h1), if_neg h2]
    show (((Rd.mk b 0).txt lim).2.length ≤ bnd lim) ∧ b = encT ((Rd.mk b 0).txt lim).2 ++ ((Rd.mk b 0).txt lim).1.b
    rw [e]
    have hl : (((Rd.mk b 0).num lim).1.b.take ((Rd.mk b 0).num lim).2).length = ((Rd.mk b 0).num lim).2 := by rw [List.length_take]; omega
    refine ⟨by rw [hl]; exact a1, ?_⟩
    unfold encT
    rw [hl, List.append_assoc, List.take_append_drop]
    exact a2
  ·(try simp only [] at he); unfold Rd.txt at he; rw [if_pos (by simpa using h1)] at he; exact absurd he h1
 ·show ((Rd.mk ((encT x).take j) 0).txt lim).1.e = 1
  unfold encT at hj ⊢
  rcases Nat.lt_or_ge j (enc x.length).length with hlt | hge
  ·rw [List.take_append_of_le_length (by omega)]
   unfold Rd.txt
   rw [Rd.num_short hlt]
   simp
  ·rw [List.take_append, List.take_of_length_le hge]
   unfold Rd.txt
   rw [Rd.num_put (by omega) _ h]
   rw [List.length_append] at hj
   rw [if_neg (by simp), if_pos (by simp only [List.length_take]; omega)]
def someL {α : Type} (t : Rd → Rd × α) : Nat → Rd → List α → Rd × List α
 | 0, r, acc => (r, acc)
 | n + 1, r, acc => if (t r).1.e ≠ 0 then ((t r).1, []) else someL t n (t r).1 (acc ++ [(t r).2])
def someB {α : Type} (t : Rd → Rd × α) (most : Int) (r : Rd) : Rd × List α := someL t (r.num most).2 (r.num most).1 []
def listP {α : Type} (t : Rd → Rd × α) : Nat → Rd → Rd × List α
 | 0 => pureP []
 | n + 1 => bindP t (fun x => bindP (listP t n) (fun l => pureP (x :: l)))
theorem listP_codec {α : Type} {t : Rd → Rd × α} {p : α → List UInt8} {ok : α → Prop} (h : Codec t p ok) : ∀ n, Codec (listP t n) (fun l => l.flatMap p) (fun l => l.length = n ∧ ∀ x ∈ l, ok x)
 | 0 => (Codec.pure []).as (fun _ => rfl) (fun x hx => by subst hx; rfl) (fun x => ⟨fun ⟨a, _⟩ => List.eq_nil_of_length_eq_zero a, fun e => by subst e; exact ⟨rfl, fun _ h => by simp at h⟩⟩)
 | n + 1 => by
  have hT : ∀ x : α, Codec (bindP (listP t n) (fun l => pureP (x :: l))) (fun y => y.tail.flatMap p ++ []) (fun y => (y.tail.length = n ∧ ∀ z ∈ y.tail, ok z) ∧ y = x :: y.tail) := fun x =>
   Codec.bind (fst := List.tail) (listP_codec h n) (fun l => Codec.pure (x :: l)) (fun l y e => by subst e; rfl)
  have dflt : (∃ a : α, True) ∨ ¬ ∃ a : α, True := Classical.em _
  rcases dflt with ⟨a0, _⟩ | hno
  ·refine (Codec.bind (fst := fun y => y.headD a0) h hT (fun x y hy => by rw [hy.2]; rfl)).as (fun _ => rfl) (fun y hy => ?_) (fun y => ?_)
   ·obtain ⟨h1, h2, h3⟩ := hy
    rw [h3]; simp
   ·constructor
    ·rintro ⟨h1, h2⟩
     match y, h1, h2 with
     | z :: l, h1, h2 => exact ⟨h2 z (by simp), ⟨by simpa using h1, fun w hw => h2 w (List.mem_cons_of_mem _ hw)⟩, rfl⟩
    ·rintro ⟨h1, ⟨h2, h3⟩, h4⟩
     rw [h4]
     refine ⟨by simp [h2], fun w hw => ?_⟩
     rcases List.mem_cons.1 hw with rfl | hw
     ·exact h1
     ·exact h3 w hw
  ·exact ⟨fun x rest ⟨h1, _⟩ => (match x, h1 with | z :: _, _ => (hno ⟨z, trivial⟩).elim), fun b _ => (hno ⟨(t ⟨b, 0⟩).2, trivial⟩).elim, fun x j ⟨h1, _⟩ _ => (match x, h1 with | z :: _, _ => (hno ⟨z, trivial⟩).elim), fun r _ => (hno ⟨(t r).2, trivial⟩).elim⟩
theorem someL_list {α : Type} {t : Rd → Rd × α} (herr : ∀ r : Rd, r.e ≠ 0 → (t r).1 = r) : ∀ (n : Nat) (r : Rd) (acc : List α), (someL t n r acc).1 = (listP t n r).1 ∧ ((listP t n r).1.e = 0 → (someL t n r acc).2 = acc ++ (listP t n r).2) ∧ (0 < n → (listP t n r).1.e ≠ 0 → (someL t n r acc).2 = [])
 | 0, r, acc => ⟨rfl, fun _ => by simp [someL, listP, pureP], fun h => absurd h (by omega)⟩
 | n + 1, r, acc => by
  have hstay : ∀ (n : Nat) (r : Rd), r.e ≠ 0 → (listP t n r).1 = r := by
   intro n
   induction n with
   | zero => intro r _; rfl
   | succ n ih => intro r hr; simp only [listP, bindP, pureP]; rw [herr r hr]; exact ih r hr
  simp only [someL, listP, bindP, pureP]
  by_cases he : (t r).1.e = 0
  ·rw [if_neg (by simpa using he)]
   obtain ⟨i1, i2, i3⟩ := someL_list herr n (t r).1 (acc ++ [(t r).2])
   refine ⟨i1, fun h0 => by rw [i2 h0, List.append_assoc]; rfl, fun _ hne => ?_⟩
   rcases Nat.eq_zero_or_pos n with h0 | h0
   ·subst h0; exact absurd he hne
   ·exact i3 h0 hne
  ·rw [if_pos (by simpa using he)]
   have := hstay n _ he
   exact ⟨this.symm, fun h0 => by rw [this] at h0; exact absurd h0 he, fun _ _ => rfl⟩
theorem Codec.some_ {α : Type} {t : Rd → Rd × α} {p : α → List UInt8} {ok : α → Prop} (h : Codec t p ok) (most : Int) : Codec (someB t most) (fun l => enc l.length ++ l.flatMap p) (fun l => l.length ≤ bnd most ∧ ∀ x ∈ l, ok x) := by
 have hL := fun n => listP_codec h n
 have hB : Codec (bindP (fun r => r.num most) (fun n => listP t n)) (fun y => enc y.length ++ y.flatMap p) (fun y => y.length ≤ bnd most ∧ (y.length = y.length ∧ ∀ x ∈ y, ok x)) :=
  Codec.bind (fst := List.length) (Codec.num most) hL (fun n y hy => hy.1)
 have e1 : ∀ r : Rd, (someB t most r).1 = (bindP (fun r => r.num most) (fun n => listP t n) r).1 := fun r => (someL_list h.err _ _ _).1
 have e2 : ∀ r : Rd, (someB t most r).1.e = 0 → (someB t most r).2 = (bindP (fun r => r.num most) (fun n => listP t n) r).2 := fun r hr => by
  rw [e1] at hr
  have := (someL_list h.err (r.num most).2 (r.num most).1 []).2.1 hr
  rw [List.nil_append] at this
  exact this
 refine ⟨fun x rest ⟨h1, h2⟩ => ?_, fun b hb => ?_, fun x j ⟨h1, h2⟩ hj => ?_, fun r hr => ?_⟩
 ·have := hB.back x rest ⟨h1, rfl, h2⟩
  have f1 := e1 ⟨(enc x.length ++ x.flatMap p) ++ rest, 0⟩
  have f2 := e2 ⟨(enc x.length ++ x.flatMap p) ++ rest, 0⟩
  (try simp only [] at this)
  rw [this] at f1 f2
  exact Prod.ext f1 (f2 (by rw [f1]))
 ·have f2 := e2 _ hb
  rw [e1] at hb
  obtain ⟨⟨a1, _, a2⟩, a3⟩ := hB.once b hb
  rw [f2, e1]
  exact ⟨⟨a1, a2⟩, a3⟩
 ·rw [e1]; exact hB.short x j ⟨h1, rfl, h2⟩ hj
 ·rw [e1]; exact hB.err r hr
open Go.RowKit
section
variable {P : Program} {ops : Array Oper} {Q : Exit → Act → World → Prop} {md : Region.Mode}
theorem wpAnyH_stronger {S S' : World → Prop} (h : ∀ w, S' w → S w) : ∀ (fuel : Nat) (listed : Array Bool) (a : Act) (w : World), wpAnyH P md ops Q S' fuel listed a w → wpAnyH P md ops Q S fuel listed a w
 | 0, _, _, _, hh => hh
 | fuel + 1, _, _, _, hh => ⟨hh.1, fun i hi => wpOp_mono (fun a' w' h' => ⟨h _ h'.1, wpAnyH_stronger h fuel _ a' w' h'.2⟩) (hh.2 i hi)⟩
def wpE (P : Program) (md : Region.Mode) (ops : Array Oper) (Q : Exit → Act → World → Prop) (fuel : Nat) (listed : Array Bool) (a : Act) (w : World) : Prop := wpAnyH P md ops Q (Ext w) fuel listed a w
def wpS (P : Program) (md : Region.Mode) (ops : Array Oper) (Q : Exit → Act → World → Prop) (S : World → Prop) (fuel : Nat) (listed : Array Bool) (a : Act) (w : World) : Prop := wpAnyH P md ops Q S fuel listed a w
theorem wpS_begin (S : World → Prop) {id : Nat} {a : Act} {w : World} (hm : P.follows .mixedOrders = true) (h : wpS P .any ops (NoPanic Q) S ops.size (Array.replicate ops.size false) a w.drew) : (Code.region id ops true).wp P Q a w :=
 wp_region_noPanic (wp_region_held hm h)
theorem wpS_take (i : Nat) {S : World → Prop} {l : List Oper} {oi : Oper} {v : Value} {fuel : Nat} {listed : Array Bool} {a : Act} {w : World} (hS : S w) (hi : l[i]? = some oi)
  (hs : Region.noSelect l.toArray = true) (hf : Region.free md l.toArray listed i = true) (hr : (Region.ready md l.toArray listed).contains i = true)
  (hw : Region.wanted oi (yielded l.toArray a.tmps) = true) (hy : ∀ w', S w' → (execOp a.eval oi).run P w' = .ok (.value v) w')
  (h : wpS P md l.toArray (NoPanic Q) S fuel (listed.setIfInBounds i true) (a.put oi.dst v) w) : wpS P md l.toArray (NoPanic Q) S (fuel + 1) listed a w :=
 wpAnyH_take (by simpa using hi) hs hf hr (fun _ _ _ h => h) (.inl ⟨hw, hy⟩) hS h
theorem wpS_skip (i : Nat) {S : World → Prop} {l : List Oper} {oi : Oper} {fuel : Nat} {listed : Array Bool} {a : Act} {w : World} (hS : S w) (hi : l[i]? = some oi)
  (hs : Region.noSelect l.toArray = true) (hf : Region.free md l.toArray listed i = true) (hr : (Region.ready md l.toArray listed).contains i = true)
  (hw : Region.wanted oi (yielded l.toArray a.tmps) = false)
  (h : wpS P md l.toArray (NoPanic Q) S fuel (listed.setIfInBounds i true) (a.put oi.dst undef) w) : wpS P md l.toArray (NoPanic Q) S (fuel + 1) listed a w :=
 wpAnyH_take (by simpa using hi) hs hf hr (fun _ _ _ h => h) (.inr ⟨hw, rfl⟩) hS h
theorem wpS_one (i : Nat) {S : World → Prop} {l : List Oper} {oi : Oper} {fuel : Nat} {listed : Array Bool} {a : Act} {w : World} (hi : l[i]? = some oi)
  (hr : Region.ready md l.toArray listed = [i]) (hw : Region.wanted oi (yielded l.toArray a.tmps) = true)
  (h : ∀ K : Act → World → Prop, Shut (∀ a w' (S' : World → Prop), (∀ x, S' x → S x) → S' w' → (S' w' → wpS P md l.toArray Q S' fuel (listed.setIfInBounds i true) a w') → K a w') → Oper.wp P oi a w K Q) : wpS P md l.toArray Q S (fuel + 1) listed a w := by
 refine wpAnyH_all hr (by simp) fun j hj => ?_
 obtain rfl : j = i := by simpa using hj
 refine wpOp_step (o := oi) (by simpa using hi) fun K hK => ?_
 rw [if_pos hw]
 exact h K fun a w' S' hSS hS hh => hK a w' ⟨hSS _ hS, wpAnyH_stronger hSS _ _ _ _ (hh hS)⟩
theorem wpS_done {S : World → Prop} {fuel : Nat} {listed : Array Bool} {a : Act} {w : World} (hr : Region.ready md ops listed = []) (h : Q .normal a w) : wpS P md ops (NoPanic Q) S fuel listed a w :=
 wpAnyH_done hr (NoPanic.normal h) fuel
end
section
variable {P : Program} {ops : Array Oper} {Q : Exit → Act → World → Prop} {md : Region.Mode}
theorem lyr : (∀ (a : Act) (d : Tmp) (v : Value), a.put (some d) v = { a with tmps := a.tmps.setIfInBounds d v }) ∧ (∀ (a : Act) (v : Value), a.put none v = a) ∧ (∀ {α : Type} (l : List α) (i : Nat) (x : α), l.toArray.setIfInBounds i x = (l.set i x).toArray) ∧ (∀ {α : Type} (x y : α) (l : List α), (x :: l).set 0 y = y :: l) ∧ (∀ {α : Type} (x y : α) (l : List α) (i : Nat), (x :: l).set (i + 1) y = x :: l.set i y) :=
  ⟨fun _ _ _ => rfl, fun _ _ => rfl, fun _ _ _ => by simp, fun _ _ _ => rfl, fun _ _ _ _ => rfl⟩
theorem wpS_tk (i : Nat) (v : Value) {S : World → Prop} {l : List Oper} {oi : Oper} {fuel : Nat} {listed : Array Bool} {a : Act} {w : World} (hS : S w) (hi : l[i]? = some oi) (hy : ∀ w', S w' → (execOp a.eval oi).run P w' = .ok (.value v) w')
    (h : wpS P md l.toArray (NoPanic Q) S fuel (listed.setIfInBounds i true) (a.put oi.dst v) w) (hs : Region.noSelect l.toArray = true := by kernel_rfl) (hf : Region.free md l.toArray listed i = true := by kernel_rfl) (hr : (Region.ready md l.toArray listed).contains i = true := by kernel_rfl)
    (hw : Region.wanted oi (yielded l.toArray a.tmps) = true := by rfl) : wpS P md l.toArray (NoPanic Q) S (fuel + 1) listed a w := wpS_take i hS hi hs hf hr hw hy h
theorem wpS_sk (i : Nat) {S : World → Prop} {l : List Oper} {oi : Oper} {fuel : Nat} {listed : Array Bool} {a : Act} {w : World} (hS : S w) (hi : l[i]? = some oi)
    (h : wpS P md l.toArray (NoPanic Q) S fuel (listed.setIfInBounds i true) (a.put oi.dst undef) w) (hs : Region.noSelect l.toArray = true := by kernel_rfl) (hf : Region.free md l.toArray listed i = true := by kernel_rfl) (hr : (Region.ready md l.toArray listed).contains i = true := by kernel_rfl)
    (hw : Region.wanted oi (yielded l.toArray a.tmps) = false := by rfl) : wpS P md l.toArray (NoPanic Q) S (fuel + 1) listed a w := wpS_skip i hS hi hs hf hr hw h
theorem wpS_on (i : Nat) {S : World → Prop} {l : List Oper} {oi : Oper} {fuel : Nat} {listed : Array Bool} {a : Act} {w : World} (hi : l[i]? = some oi)
    (h : ∀ K : Act → World → Prop, Shut (∀ a w' (S' : World → Prop), (∀ x, S' x → S x) → S' w' → (S' w' → wpS P md l.toArray Q S' fuel (listed.setIfInBounds i true) a w') → K a w') → Oper.wp P oi a w K Q)
    (hr : Region.ready md l.toArray listed = [i] := by kernel_rfl) (hw : Region.wanted oi (yielded l.toArray a.tmps) = true := by rfl) : wpS P md l.toArray Q S (fuel + 1) listed a w := wpS_one i hi hr hw h
end
theorem bx2 {S : World → Prop} {g : Nat} {x0 x1 : Value} (h : ∀ w', S w' → ∀ i, w'.cell? ⟨g, i, none⟩ = #[x0, x1][i]?) : (∀ w', S w' → w'.cell? ⟨g, 0, none⟩ = some x0) ∧ (∀ w', S w' → w'.cell? ⟨g, 1, none⟩ = some x1) := ⟨fun w' hw => h w' hw 0, fun w' hw => h w' hw 1⟩
theorem up2 {a W : World} {b : Nat} {o0 o1 : Nat} {x0 x1 : Option Value} (e : Ext a W) (hb : b < a.heap.size) (h0 : a.cell? ⟨b, o0, none⟩ = x0) (h1 : a.cell? ⟨b, o1, none⟩ = x1) : W.cell? ⟨b, o0, none⟩ = x0 ∧ W.cell? ⟨b, o1, none⟩ = x1 := ⟨(e.cell hb).trans h0, (e.cell hb).trans h1⟩
theorem al2 {S : World → Prop} {a : World} {b : Nat} {o0 o1 : Nat} {x0 x1 : Option Value} (e : ∀ w', S w' → Ext a w') (hb : b < a.heap.size) (h0 : a.cell? ⟨b, o0, none⟩ = x0) (h1 : a.cell? ⟨b, o1, none⟩ = x1) : (∀ w', S w' → w'.cell? ⟨b, o0, none⟩ = x0) ∧ (∀ w', S w' → w'.cell? ⟨b, o1, none⟩ = x1) := ⟨fun w' hw => ((e w' hw).cell hb).trans h0, fun w' hw => ((e w' hw).cell hb).trans h1⟩
theorem bx3 {S : World → Prop} {g : Nat} {x0 x1 x2 : Value} (h : ∀ w', S w' → ∀ i, w'.cell? ⟨g, i, none⟩ = #[x0, x1, x2][i]?) : (∀ w', S w' → w'.cell? ⟨g, 0, none⟩ = some x0) ∧ (∀ w', S w' → w'.cell? ⟨g, 1, none⟩ = some x1) ∧ (∀ w', S w' → w'.cell? ⟨g, 2, none⟩ = some x2) := ⟨fun w' hw => h w' hw 0, fun w' hw => h w' hw 1, fun w' hw => h w' hw 2⟩
theorem up3 {a W : World} {b : Nat} {o0 o1 o2 : Nat} {x0 x1 x2 : Option Value} (e : Ext a W) (hb : b < a.heap.size) (h0 : a.cell? ⟨b, o0, none⟩ = x0) (h1 : a.cell? ⟨b, o1, none⟩ = x1) (h2 : a.cell? ⟨b, o2, none⟩ = x2) : W.cell? ⟨b, o0, none⟩ = x0 ∧ W.cell? ⟨b, o1, none⟩ = x1 ∧ W.cell? ⟨b, o2, none⟩ = x2 := ⟨(e.cell hb).trans h0, (e.cell hb).trans h1, (e.cell hb).trans h2⟩
theorem al3 {S : World → Prop} {a : World} {b : Nat} {o0 o1 o2 : Nat} {x0 x1 x2 : Option Value} (e : ∀ w', S w' → Ext a w') (hb : b < a.heap.size) (h0 : a.cell? ⟨b, o0, none⟩ = x0) (h1 : a.cell? ⟨b, o1, none⟩ = x1) (h2 : a.cell? ⟨b, o2, none⟩ = x2) : (∀ w', S w' → w'.cell? ⟨b, o0, none⟩ = x0) ∧ (∀ w', S w' → w'.cell? ⟨b, o1, none⟩ = x1) ∧ (∀ w', S w' → w'.cell? ⟨b, o2, none⟩ = x2) := ⟨fun w' hw => ((e w' hw).cell hb).trans h0, fun w' hw => ((e w' hw).cell hb).trans h1, fun w' hw => ((e w' hw).cell hb).trans h2⟩
theorem bx7 {S : World → Prop} {g : Nat} {x0 x1 x2 x3 x4 x5 x6 : Value} (h : ∀ w', S w' → ∀ i, w'.cell? ⟨g, i, none⟩ = #[x0, x1, x2, x3, x4, x5, x6][i]?) : (∀ w', S w' → w'.cell? ⟨g, 0, none⟩ = some x0) ∧ (∀ w', S w' → w'.cell? ⟨g, 1, none⟩ = some x1) ∧ (∀ w', S w' → w'.cell? ⟨g, 2, none⟩ = some x2) ∧ (∀ w', S w' → w'.cell? ⟨g, 3, none⟩ = some x3) ∧ (∀ w', S w' → w'.cell? ⟨g, 4, none⟩ = some x4) ∧ (∀ w', S w' → w'.cell? ⟨g, 5, none⟩ = some x5) ∧ (∀ w', S w' → w'.cell? ⟨g, 6, none⟩ = some x6) := ⟨fun w' hw => h w' hw 0, fun w' hw => h w' hw 1, fun w' hw => h w' hw 2, fun w' hw => h w' hw 3, fun w' hw => h w' hw 4, fun w' hw => h w' hw 5, fun w' hw => h w' hw 6⟩
theorem up7 {a W : World} {b : Nat} {o0 o1 o2 o3 o4 o5 o6 : Nat} {x0 x1 x2 x3 x4 x5 x6 : Option Value} (e : Ext a W) (hb : b < a.heap.size) (h0 : a.cell? ⟨b, o0, none⟩ = x0) (h1 : a.cell? ⟨b, o1, none⟩ = x1) (h2 : a.cell? ⟨b, o2, none⟩ = x2) (h3 : a.cell? ⟨b, o3, none⟩ = x3) (h4 : a.cell? ⟨b, o4, none⟩ = x4) (h5 : a.cell? ⟨b, o5, none⟩ = x5) (h6 : a.cell? ⟨b, o6, none⟩ = x6) : W.cell? ⟨b, o0, none⟩ = x0 ∧ W.cell? ⟨b, o1, none⟩ = x1 ∧ W.cell? ⟨b, o2, none⟩ = x2 ∧ W.cell? ⟨b, o3, none⟩ = x3 ∧ W.cell? ⟨b, o4, none⟩ = x4 ∧ W.cell? ⟨b, o5, none⟩ = x5 ∧ W.cell? ⟨b, o6, none⟩ = x6 := ⟨(e.cell hb).trans h0, (e.cell hb).trans h1, (e.cell hb).trans h2, (e.cell hb).trans h3, (e.cell hb).trans h4, (e.cell hb).trans h5, (e.cell hb).trans h6⟩
theorem al7 {S : World → Prop} {a : World} {b : Nat} {o0 o1 o2 o3 o4 o5 o6 : Nat} {x0 x1 x2 x3 x4 x5 x6 : Option Value} (e : ∀ w', S w' → Ext a w') (hb : b < a.heap.size) (h0 : a.cell? ⟨b, o0, none⟩ = x0) (h1 : a.cell? ⟨b, o1, none⟩ = x1) (h2 : a.cell? ⟨b, o2, none⟩ = x2) (h3 : a.cell? ⟨b, o3, none⟩ = x3) (h4 : a.cell? ⟨b, o4, none⟩ = x4) (h5 : a.cell? ⟨b, o5, none⟩ = x5) (h6 : a.cell? ⟨b, o6, none⟩ = x6) : (∀ w', S w' → w'.cell? ⟨b, o0, none⟩ = x0) ∧ (∀ w', S w' → w'.cell? ⟨b, o1, none⟩ = x1) ∧ (∀ w', S w' → w'.cell? ⟨b, o2, none⟩ = x2) ∧ (∀ w', S w' → w'.cell? ⟨b, o3, none⟩ = x3) ∧ (∀ w', S w' → w'.cell? ⟨b, o4, none⟩ = x4) ∧ (∀ w', S w' → w'.cell? ⟨b, o5, none⟩ = x5) ∧ (∀ w', S w' → w'.cell? ⟨b, o6, none⟩ = x6) := ⟨fun w' hw => ((e w' hw).cell hb).trans h0, fun w' hw => ((e w' hw).cell hb).trans h1, fun w' hw => ((e w' hw).cell hb).trans h2, fun w' hw => ((e w' hw).cell hb).trans h3, fun w' hw => ((e w' hw).cell hb).trans h4, fun w' hw => ((e w' hw).cell hb).trans h5, fun w' hw => ((e w' hw).cell hb).trans h6⟩
theorem bx10 {S : World → Prop} {g : Nat} {x0 x1 x2 x3 x4 x5 x6 x7 x8 x9 : Value} (h : ∀ w', S w' → ∀ i, w'.cell? ⟨g, i, none⟩ = #[x0, x1, x2, x3, x4, x5, x6, x7, x8, x9][i]?) : (∀ w', S w' → w'.cell? ⟨g, 0, none⟩ = some x0) ∧ (∀ w', S w' → w'.cell? ⟨g, 1, none⟩ = some x1) ∧ (∀ w', S w' → w'.cell? ⟨g, 2, none⟩ = some x2) ∧ (∀ w', S w' → w'.cell? ⟨g, 3, none⟩ = some x3) ∧ (∀ w', S w' → w'.cell? ⟨g, 4, none⟩ = some x4) ∧ (∀ w', S w' → w'.cell? ⟨g, 5, none⟩ = some x5) ∧ (∀ w', S w' → w'.cell? ⟨g, 6, none⟩ = some x6) ∧ (∀ w', S w' → w'.cell? ⟨g, 7, none⟩ = some x7) ∧ (∀ w', S w' → w'.cell? ⟨g, 8, none⟩ = some x8) ∧ (∀ w', S w' → w'.cell? ⟨g, 9, none⟩ = some x9) := ⟨fun w' hw => h w' hw 0, fun w' hw => h w' hw 1, fun w' hw => h w' hw 2, fun w' hw => h w' hw 3, fun w' hw => h w' hw 4, fun w' hw => h w' hw 5, fun w' hw => h w' hw 6, fun w' hw => h w' hw 7, fun w' hw => h w' hw 8, fun w' hw => h w' hw 9⟩
theorem up10 {a W : World} {b : Nat} {o0 o1 o2 o3 o4 o5 o6 o7 o8 o9 : Nat} {x0 x1 x2 x3 x4 x5 x6 x7 x8 x9 : Option Value} (e : Ext a W) (hb : b < a.heap.size) (h0 : a.cell? ⟨b, o0, none⟩ = x0) (h1 : a.cell? ⟨b, o1, none⟩ = x1) (h2 : a.cell? ⟨b, o2, none⟩ = x2) (h3 : a.cell? ⟨b, o3, none⟩ = x3) (h4 : a.cell? ⟨b, o4, none⟩ = x4) (h5 : a.cell? ⟨b, o5, none⟩ = x5) (h6 : a.cell? ⟨b, o6, none⟩ = x6) (h7 : a.cell? ⟨b, o7, none⟩ = x7) (h8 : a.cell? ⟨b, o8, none⟩ = x8) (h9 : a.cell? ⟨b, o9, none⟩ = x9) : W.cell? ⟨b, o0, none⟩ = x0 ∧ W.cell? ⟨b, o1, none⟩ = x1 ∧ W.cell? ⟨b, o2, none⟩ = x2 ∧ W.cell? ⟨b, o3, none⟩ = x3 ∧ W.cell? ⟨b, o4, none⟩ = x4 ∧ W.cell? ⟨b, o5, none⟩ = x5 ∧ W.cell? ⟨b, o6, none⟩ = x6 ∧ W.cell? ⟨b, o7, none⟩ = x7 ∧ W.cell? ⟨b, o8, none⟩ = x8 ∧ W.cell? ⟨b, o9, none⟩ = x9 := ⟨(e.cell hb).trans h0, (e.cell hb).trans h1, (e.cell hb).trans h2, (e.cell hb).trans h3, (e.cell hb).trans h4, (e.cell hb).trans h5, (e.cell hb).trans h6, (e.cell hb).trans h7, (e.cell hb).trans h8, (e.cell hb).trans h9⟩
theorem al10 {S : World → Prop} {a : World} {b : Nat} {o0 o1 o2 o3 o4 o5 o6 o7 o8 o9 : Nat} {x0 x1 x2 x3 x4 x5 x6 x7 x8 x9 : Option Value} (e : ∀ w', S w' → Ext a w') (hb : b < a.heap.size) (h0 : a.cell? ⟨b, o0, none⟩ = x0) (h1 : a.cell? ⟨b, o1, none⟩ = x1) (h2 : a.cell? ⟨b, o2, none⟩ = x2) (h3 : a.cell? ⟨b, o3, none⟩ = x3) (h4 : a.cell? ⟨b, o4, none⟩ = x4) (h5 : a.cell? ⟨b, o5, none⟩ = x5) (h6 : a.cell? ⟨b, o6, none⟩ = x6) (h7 : a.cell? ⟨b, o7, none⟩ = x7) (h8 : a.cell? ⟨b, o8, none⟩ = x8) (h9 : a.cell? ⟨b, o9, none⟩ = x9) : (∀ w', S w' → w'.cell? ⟨b, o0, none⟩ = x0) ∧ (∀ w', S w' → w'.cell? ⟨b, o1, none⟩ = x1) ∧ (∀ w', S w' → w'.cell? ⟨b, o2, none⟩ = x2) ∧ (∀ w', S w' → w'.cell? ⟨b, o3, none⟩ = x3) ∧ (∀ w', S w' → w'.cell? ⟨b, o4, none⟩ = x4) ∧ (∀ w', S w' → w'.cell? ⟨b, o5, none⟩ = x5) ∧ (∀ w', S w' → w'.cell? ⟨b, o6, none⟩ = x6) ∧ (∀ w', S w' → w'.cell? ⟨b, o7, none⟩ = x7) ∧ (∀ w', S w' → w'.cell? ⟨b, o8, none⟩ = x8) ∧ (∀ w', S w' → w'.cell? ⟨b, o9, none⟩ = x9) := ⟨fun w' hw => ((e w' hw).cell hb).trans h0, fun w' hw => ((e w' hw).cell hb).trans h1, fun w' hw => ((e w' hw).cell hb).trans h2, fun w' hw => ((e w' hw).cell hb).trans h3, fun w' hw => ((e w' hw).cell hb).trans h4, fun w' hw => ((e w' hw).cell hb).trans h5, fun w' hw => ((e w' hw).cell hb).trans h6, fun w' hw => ((e w' hw).cell hb).trans h7, fun w' hw => ((e w' hw).cell hb).trans h8, fun w' hw => ((e w' hw).cell hb).trans h9⟩
end Go.Proofs.YtfdjbnofcniodaaGreatDoor
