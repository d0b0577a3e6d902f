/- A region that draws its order and whose calls only make memory, walked in ONE order: whatever can be taken in every world that extends the one at hand is taken first; behind a call the class of worlds is the one behind it. Over whatever program. -/
import Derived.Test.YtepifkmileilfaaDoorBase
import Derived.Deep.RegionHeld3
namespace Go.Proofs.YtepifkmileilfaaDoor
open Go.RowKit
section
variable {P : Program} {ops : Array Oper} {Q : Exit → Act → World → Prop} {md : Region.Mode}

theorem wpAnyH_stronger {S S' : World → Prop} (h : ∀ w, S' w → S w) : ∀ (fuel : Nat) (listed : Array Bool) (a : Act) (w : World), wpAnyH P md ops Q S' fuel listed a w → wpAnyH P md ops Q S fuel listed a w
  | 0, _, _, _, hh => hh
  | fuel + 1, _, _, _, hh => ⟨hh.1, fun i hi => wpOp_mono (fun a' w' h' => ⟨h _ h'.1, wpAnyH_stronger h fuel _ a' w' h'.2⟩) (hh.2 i hi)⟩

/-- the walk: S is 'extends w' -/
def wpE (P : Program) (md : Region.Mode) (ops : Array Oper) (Q : Exit → Act → World → Prop) (fuel : Nat) (listed : Array Bool) (a : Act) (w : World) : Prop := wpAnyH P md ops Q (Ext w) fuel listed a w

theorem wpE_begin {id : Nat} {a : Act} {w : World} (hm : P.follows .mixedOrders = true) (h : wpE P .any ops (NoPanic Q) ops.size (Array.replicate ops.size false) a w.drew) : (Code.region id ops true).wp P Q a w :=
  wp_region_noPanic (wp_region_held hm h)

theorem wpE_take (i : Nat) {l : List Oper} {oi : Oper} {v : Value} {fuel : Nat} {listed : Array Bool} {a : Act} {w : World} (hi : l[i]? = some oi)
    (hs : Region.noSelect l.toArray = true) (hf : Region.free md l.toArray listed i = true) (hr : (Region.ready md l.toArray listed).contains i = true)
    (hw : Region.wanted oi (yielded l.toArray a.tmps) = true) (hy : ∀ w', Ext w w' → (execOp a.eval oi).run P w' = .ok (.value v) w')
    (h : wpE P md l.toArray (NoPanic Q) fuel (listed.setIfInBounds i true) (a.put oi.dst v) w) : wpE P md l.toArray (NoPanic Q) (fuel + 1) listed a w :=
  wpAnyH_take (by simpa using hi) hs hf hr (fun _ _ _ h => h) (.inl ⟨hw, hy⟩) (Ext.refl w) h
theorem wpE_skip (i : Nat) {l : List Oper} {oi : Oper} {fuel : Nat} {listed : Array Bool} {a : Act} {w : World} (hi : l[i]? = some oi)
    (hs : Region.noSelect l.toArray = true) (hf : Region.free md l.toArray listed i = true) (hr : (Region.ready md l.toArray listed).contains i = true)
    (hw : Region.wanted oi (yielded l.toArray a.tmps) = false)
    (h : wpE P md l.toArray (NoPanic Q) fuel (listed.setIfInBounds i true) (a.put oi.dst undef) w) : wpE P md l.toArray (NoPanic Q) (fuel + 1) listed a w :=
  wpAnyH_take (by simpa using hi) hs hf hr (fun _ _ _ h => h) (.inr ⟨hw, rfl⟩) (Ext.refl w) h
/-- the one that may come up: what it does is seen; behind it the walk goes on from the world that it leaves -/
theorem wpE_one (i : Nat) {l : List Oper} {oi : Oper} {fuel : Nat} {listed : Array Bool} {a : Act} {w : World} (hi : l[i]? = some oi)
    (hr : Region.ready md l.toArray listed = [i]) (hw : Region.wanted oi (yielded l.toArray a.tmps) = true)
    (h : ∀ K : Act → World → Prop, Shut (∀ a w', Ext w w' → wpE P md l.toArray Q fuel (listed.setIfInBounds i true) a w' → K a w') → Oper.wp P oi a w K Q) : wpE P md l.toArray Q (fuel + 1) listed a w := by
  refine wpAnyH_all hr (by simp) fun j hj => ?_
  obtain rfl : j = i := by simpa using hj
  refine wpOp_step (o := oi) (by simpa using hi) fun K hK => ?_
  rw [if_pos hw]
  exact h K fun a w' hE hh => hK a w' ⟨hE, wpAnyH_stronger (fun _ hx => hE.trans hx) _ _ _ _ hh⟩
theorem wpE_done {fuel : Nat} {listed : Array Bool} {a : Act} {w : World} (hr : Region.ready md ops listed = []) (h : Q .normal a w) : wpE P md ops (NoPanic Q) fuel listed a w :=
  wpAnyH_done hr (NoPanic.normal h) fuel

/-- the same with whatever class S of worlds; behind a call a narrower one may be chosen -/
def wpS (P : Program) (md : Region.Mode) (ops : Array Oper) (Q : Exit → Act → World → Prop) (S : World → Prop) (fuel : Nat) (listed : Array Bool) (a : Act) (w : World) : Prop := wpAnyH P md ops Q S fuel listed a w
theorem wpS_begin (S : World → Prop) {id : Nat} {a : Act} {w : World} (hm : P.follows .mixedOrders = true) (h : wpS P .any ops (NoPanic Q) S ops.size (Array.replicate ops.size false) a w.drew) : (Code.region id ops true).wp P Q a w :=
  wp_region_noPanic (wp_region_held hm h)
theorem wpS_take (i : Nat) {S : World → Prop} {l : List Oper} {oi : Oper} {v : Value} {fuel : Nat} {listed : Array Bool} {a : Act} {w : World} (hS : S w) (hi : l[i]? = some oi)
    (hs : Region.noSelect l.toArray = true) (hf : Region.free md l.toArray listed i = true) (hr : (Region.ready md l.toArray listed).contains i = true)
    (hw : Region.wanted oi (yielded l.toArray a.tmps) = true) (hy : ∀ w', S w' → (execOp a.eval oi).run P w' = .ok (.value v) w')
    (h : wpS P md l.toArray (NoPanic Q) S fuel (listed.setIfInBounds i true) (a.put oi.dst v) w) : wpS P md l.toArray (NoPanic Q) S (fuel + 1) listed a w :=
  wpAnyH_take (by simpa using hi) hs hf hr (fun _ _ _ h => h) (.inl ⟨hw, hy⟩) hS h
theorem wpS_skip (i : Nat) {S : World → Prop} {l : List Oper} {oi : Oper} {fuel : Nat} {listed : Array Bool} {a : Act} {w : World} (hS : S w) (hi : l[i]? = some oi)
    (hs : Region.noSelect l.toArray = true) (hf : Region.free md l.toArray listed i = true) (hr : (Region.ready md l.toArray listed).contains i = true)
    (hw : Region.wanted oi (yielded l.toArray a.tmps) = false)
    (h : wpS P md l.toArray (NoPanic Q) S fuel (listed.setIfInBounds i true) (a.put oi.dst undef) w) : wpS P md l.toArray (NoPanic Q) S (fuel + 1) listed a w :=
  wpAnyH_take (by simpa using hi) hs hf hr (fun _ _ _ h => h) (.inr ⟨hw, rfl⟩) hS h
theorem wpS_one (i : Nat) {S : World → Prop} {l : List Oper} {oi : Oper} {fuel : Nat} {listed : Array Bool} {a : Act} {w : World} (hi : l[i]? = some oi)
    (hr : Region.ready md l.toArray listed = [i]) (hw : Region.wanted oi (yielded l.toArray a.tmps) = true)
    (h : ∀ K : Act → World → Prop, Shut (∀ a w' (S' : World → Prop), (∀ x, S' x → S x) → S' w' → (S' w' → wpS P md l.toArray Q S' fuel (listed.setIfInBounds i true) a w') → K a w') → Oper.wp P oi a w K Q) : wpS P md l.toArray Q S (fuel + 1) listed a w := by
  refine wpAnyH_all hr (by simp) fun j hj => ?_
  obtain rfl : j = i := by simpa using hj
  refine wpOp_step (o := oi) (by simpa using hi) fun K hK => ?_
  rw [if_pos hw]
  exact h K fun a w' S' hSS hS hh => hK a w' ⟨hSS _ hS, wpAnyH_stronger hSS _ _ _ _ (hh hS)⟩
theorem wpS_done {S : World → Prop} {fuel : Nat} {listed : Array Bool} {a : Act} {w : World} (hr : Region.ready md ops listed = []) (h : Q .normal a w) : wpS P md ops (NoPanic Q) S fuel listed a w :=
  wpAnyH_done hr (NoPanic.normal h) fuel
end
end Go.Proofs.YtepifkmileilfaaDoor
