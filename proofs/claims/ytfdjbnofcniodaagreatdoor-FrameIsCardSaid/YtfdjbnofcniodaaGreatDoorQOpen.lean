/- The frame of a law's proof, over whatever program: the arguments opened to lists, the contract 'it returns true and only makes new memory' lifted to the row. -/
import Derived.Test.YtfdjbnofcniodaaGreatDoorRows
import Derived.Test.YtfdjbnofcniodaaGreatDoorQGround
import Derived.ProofKit
import Derived.OpenShut
import Derived.ShutString
import Derived.ChangeOld
import Derived.Below
import Derived.SizedLaws
import Derived.Deep.Slices
namespace Go.Proofs.YtfdjbnofcniodaaGreatDoor
open Lib (hid)
open Go.ChangeShapes Go.WideShapes Go.ChangeAt Go.RowKit Go.Deep
open Go.ChangeMaps (open_string shut_string)
section
variable {H : Type} {enc : TypeId × Value → H} {P : Program} {w : World} {base : Nat} {spare : Nat → Bool} {held : Bool}
theorem open_arr {α : Type} {R : List Value → α → Prop} {t e size fuel : Nat} {cs : List Value} {x : DataW H × List MemPlace} (ht : P.underlying t = some (.slice e)) (hC : P.cellsOf e = size) (hs : 0 < size)
  (hR : ∀ (n : Nat) (cs : List Value) (x : DataW H × List MemPlace), cs.length = size → DataW.trod enc P w base spare held n e cs = some x → ∃ y, R cs y) (h : DataW.trod enc P w base spare held fuel t cs = some x) :
  ∃ (A : Option Addr) (n c : Nat) (ys : List α), cs = [.slice A n c] ∧ n ≤ c ∧ c ≤ maxLen ∧ (A = none → c = 0) ∧ ArrR w size R A n ys ∧ ((x.1 = .nil ∧ n = 0) ∨ ∃ l r, x.1 = .slice l r ∧ l.length = n) := by
 rcases open_slice ht h with ⟨rfl, rfl⟩ | ⟨a, len, cap, m, n, D, Pl, rfl, hb, hl, hm, hmm, rfl, hi⟩
 ·exact ⟨none, 0, 0, [], rfl, Nat.le_refl _, Nat.zero_le _, fun _ => rfl, ArrR.nil_, .inl ⟨rfl, rfl⟩⟩
 ·have hle : len ≤ m := by rw [hmm]; split <;> omega
  have hex : ∀ i, i < len → ∃ (cs : List Value) (y : α), cs.length = size ∧ R cs y ∧ ∀ j u, cs[j]? = some u → w.cell? ((a.add (i * size)).add j) = some u := by
   intro i hlt
   obtain ⟨cs', hc, htr⟩ := hi i (by omega)
   rw [hC] at hc
   obtain ⟨_, hlen, hat⟩ := World.cells?_some hc
   obtain ⟨y, hy⟩ := hR n cs' _ hlen htr
   refine ⟨cs', y, hlen, hy, fun j u hu => ?_⟩
   have hj : j < size := by rw [← hlen]; exact (List.getElem?_eq_some_iff.1 hu).1
   rw [hat j hj, hu]
  refine ⟨some a, len, cap, List.ofFn (n := len) (fun i => Classical.choose (Classical.choose_spec (hex i.1 i.2))), rfl, hl, hm, (fun h => by cases h), ⟨by simp, fun hpos => ?_⟩, .inr ⟨_, _, rfl, by simp⟩⟩
  obtain ⟨cs0, y0, hl0, _, hc0⟩ := hex 0 hpos
  have h0 : cs0[0]? = some (cs0[0]'(by omega)) := List.getElem?_eq_getElem _
  have hcell := hc0 0 _ h0
  obtain ⟨b, o, spot⟩ := a
  have hspot : spot = none := by simpa [Addr.add] using World.cell?_spot hcell
  subst hspot
  have hblk : b < w.heap.size := by
   rcases Nat.lt_or_ge b w.heap.size with hlt | hge
   ·exact hlt
   ·have : w.cell? ⟨b, o, none⟩ = none := by simp [World.cell?, Array.getElem?_eq_none hge]
    simp [Addr.add, this] at hcell
  refine ⟨b, o, rfl, hblk, fun k x hx => ?_⟩
  rw [List.getElem?_ofFn] at hx
  split at hx
  ·rename_i hk
   have hcsp := Classical.choose_spec (Classical.choose_spec (hex k hk))
   refine ⟨Classical.choose (hex k hk), hcsp.1, ?_, fun j u hu => ?_⟩
   ·have := hcsp.2.1
    injection hx with hx
    rw [hx] at this
    exact this
   ·have := hcsp.2.2 j u hu
    rw [← this]
    congr 1
    unfold Addr.add
    by_cases h1 : k * size = 0 <;> by_cases h2 : j = 0 <;> simp [h1, h2]
  ·cases hx
theorem open_intR {e : TypeId} {k : IntKind} (he : P.underlying e = some (.int k)) (n : Nat) (cs : List Value) (x : DataW H × List MemPlace) (_ : cs.length = 1) (h : DataW.trod enc P w base spare held n e cs = some x) : ∃ y, IntR k cs y := by
 obtain ⟨m, rfl, _, _⟩ := DataW.trod_int he h
 exact ⟨m, rfl⟩
theorem open_field {t : TypeId} {fs : Array Field} {fuel : Nat} {cs : List Value} {x : DataW H × List MemPlace} (ht : P.underlying t = some (.struct fs)) (h : DataW.trod enc P w base spare held fuel t cs = some x) (j : Nat) {f : Field} (hj : fs[j]? = some f)
  {T off size : Nat} (h1 : f.type = T) (h2 : f.offset = off) (h3 : P.cellsOf T = size) :
  ∃ n y, DataW.trod enc P w base spare held n T ((cs.drop off).take size) = some y := by
 obtain ⟨xs, n, _, _, _, hlen, hf⟩ := DataW.trod_struct ht h
 have hlt : j < xs.length := by rw [hlen]; exact (Array.getElem?_eq_some_iff.1 hj).1
 subst h1 h2 h3
 exact ⟨n, xs[j], by rw [hf j f hj]; exact List.getElem?_eq_getElem hlt⟩
theorem arg_arr {α : Type} {R : List Value → α → Prop} {r : Reach} {b0 : Nat} {t e size : Nat} {v : Value} {d : DataW H} {p : List MemPlace} (ht : P.underlying t = some (.slice e)) (hC : P.cellsOf e = size) (hs : 0 < size)
  (hR : ∀ (n : Nat) (cs : List Value) (x : DataW H × List MemPlace), cs.length = size → DataW.trod enc P w base spare held n e cs = some x → ∃ y, R cs y) (hval : Value.okWide P w r b0 t v) (h : DataW.Trod enc P w base spare held t v d p) :
  ∃ (A : Option Addr) (n c : Nat) (ys : List α), v = .slice A n c ∧ n ≤ c ∧ c ≤ maxLen ∧ (A = none → c = 0) ∧ ArrR w size R A n ys ∧ ((d = .nil ∧ n = 0) ∨ ∃ l r, d = .slice l r ∧ l.length = n) := by
 obtain ⟨A, n, c, rfl⟩ := okWide_slice ht hval
 obtain ⟨fuel, hf⟩ := h
 obtain ⟨A', n', c', ys, h1, h2⟩ := open_arr ht hC hs hR hf
 simp [Value.cells] at h1
 obtain ⟨rfl, rfl, rfl⟩ := h1
 exact ⟨A, n, c, ys, rfl, h2⟩
theorem trodAll_below (hl : laidOutB P = true) {W W' : World} (hb : Ext W W') : ∀ {ts : List TypeId} {vs : List Value} {ds : List (DataW H)} {ps : List MemPlace}, ts.all (fun t => P.readableRec t && decide (t < P.types.size)) = true →
  DataW.TrodAll enc P W 0 (fun _ => true) true ts vs ds ps → DataW.TrodAll enc P W' 0 (fun b => decide (b < W.heap.size)) true ts vs ds ps
 | [], _, _, _, _, h => by
  obtain ⟨rfl, rfl, rfl⟩ := trodAll_nil h
  exact trodAll_mk0
 | t :: ts, _, _, _, hr, h => by
  obtain ⟨v, vs1, d, ds1, a, b, rfl, rfl, rfl, h1, h2⟩ := trodAll_cons h
  simp only [List.all_cons, Bool.and_eq_true, decide_eq_true_eq] at hr
  have hlt : ∀ x ∈ a, x.block < W.heap.size := by obtain ⟨m, hm⟩ := h1; exact DataW.trod_lt m _ _ _ hm
  exact trodAll_cons_mk (Below.trod hl hr.1.1 hr.1.2 h1 hb hlt) (trodAll_below hl hb hr.2 h2)
end
end Go.Proofs.YtfdjbnofcniodaaGreatDoor
