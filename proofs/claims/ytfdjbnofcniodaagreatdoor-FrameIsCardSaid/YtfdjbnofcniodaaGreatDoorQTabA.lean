/- What package table's filter, is, Kind, Get, Keys, Without, Same compute. -/
import Derived.Test.YtfdjbnofcniodaaGreatDoorQDelA
import Derived.Test.YtfdjbnofcniodaaGreatDoorQAlike
import Derived.Test.YtfdjbnofcniodaaGreatDoorQEqAll
import Derived.Test.YtfdjbnofcniodaaGreatDoorQTablePlain
import Derived.Lib.AppendZeros
namespace Go.Proofs.YtfdjbnofcniodaaGreatDoor
open Lib (hid)
set_option linter.unusedVariables false
open Go.RowKit
set_option linter.unusedVariables false
open Go.RowKit
abbrev All : Nat → Prop := fun _ => True
def GivesL (w : World) (l : List Rs) (e : Ending) (w' : World) : Prop := ∃ A n c, e = .returned (.slice A n c) ∧ SlW A n c ∧ ResL All w' A n l ∧ Ext w w'
def GivesK (w : World) (l : List Ky) (e : Ending) (w' : World) : Prop := ∃ A n c, e = .returned (.slice A n c) ∧ SlW A n c ∧ KeyL All w' A n l ∧ Ext w w'
theorem GivesL.up {w0 w w' : World} {l : List Rs} {e : Ending} (h : GivesL w l e w') (he : Ext w0 w) : GivesL w0 l e w' := by
 obtain ⟨A, n, c, h1, h2, h3, h4⟩ := h; exact ⟨A, n, c, h1, h2, h3, he.trans h4⟩
theorem tab_snoc {α : Type} {p : α → Bool} {l : List α} {k : Nat} {x : α} (h : l[k]? = some x) (hp : p x = true) : (l.take (k + 1)).filter p = (l.take k).filter p ++ [x] := by
 rw [take_snoc_of h, List.filter_append]; simp [hp]
theorem tab_skip {α : Type} {p : α → Bool} {l : List α} {k : Nat} {x : α} (h : l[k]? = some x) (hp : p x = false) : (l.take (k + 1)).filter p = (l.take k).filter p := by
 rw [take_snoc_of h, List.filter_append]; simp [hp]
theorem flat_k1 (w : World) (cs : List Value) (t : TypeId) {k : Nat} (h : cs.length = k) : Flat (w.alloc (.cells cs.toArray t)) k (some ⟨w.heap.size, 0, none⟩) 1 cs :=
 ⟨by rw [h, Nat.one_mul], fun _ => ⟨w.heap.size, 0, rfl, by simp, fun j u hu => by
  rw [cell_of_row _ _ _ cs.toArray t (0, 0) (heap_alloc_new w _), Nat.zero_add]; simpa using hu⟩⟩
theorem box_at {w w1 : World} {cs : Array Value} {t : TypeId} (h : Ext (w.alloc (.cells cs t)) w1) : w1.heap[w.heap.size]? = some (.cells cs t (0, 0)) := (box1b h).1
def PredRs (w0 : World) (F : Nat) (caps : Array Value) (p : Rs → Bool) (l : List Rs) : Prop :=
 Enters F ∧ ∀ r ∈ l, ∀ (B : Option Addr) (m d : Nat) (B' : Option Addr) (m' d' : Nat) (w : World), Ext w0 w → RsV All w r B m d B' m' d' → Calls Tryz.prog F (#[(rsVal r B m d B' m' d')] ++ caps) w fun e w' => e = .returned (.bool (p r)) ∧ Ext w w'
def GivesO (w : World) (o : Option Rs) (e : Ending) (w' : World) : Prop := ∃ r B m d B' m' d', e = .returned (.tuple #[rsVal r B m d B' m' d', .bool o.isSome]) ∧ o.getD rs0 = r ∧ RsV All w' r B m d B' m' d' ∧ Ext w w'
end Go.Proofs.YtfdjbnofcniodaaGreatDoor
