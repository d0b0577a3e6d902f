/- Maps of resources by their keys: a map's block as a function of keys. -/
import Derived.Test.YtfdjbnofcniodaaGreatDoorTab1
import Derived.Maps.OwnSet
import Derived.DeepKeys4
import Derived.Carry
namespace Go.Proofs.YtfdjbnofcniodaaGreatDoor
set_option linter.unusedVariables false
open Go.RowKit Go.Maps

def kVal (k : Ky) : Value := .agg #[.int .i64 k.kind, .string k.name]
/-- a key that a map can be asked for -/
def wfK (k : Ky) : Prop := (-9223372036854775808 ≤ k.kind ∧ k.kind ≤ 9223372036854775807) ∧ k.name.size ≤ maxLen
theorem laidM : laidOutB Tryz.prog = true := by kernel_rfl
theorem keyedM : Keyed Tryz.prog 38 :=
  Keyed.of_law (deep_law_laid laidM (m := 3) (by omega) (of_decide_eq_true (by kernel_rfl)) (by kernel_rfl) (by rw [Tryz.underlying38]))
theorem cellsM : Tryz.prog.cellsOf 38 = 2 := by kernel_rfl
theorem cellsMi : Tryz.prog.cellsOf 3 = 1 := by kernel_rfl
theorem cellsMs : Tryz.prog.cellsOf 9 = 1 := by kernel_rfl
theorem keyTyM : Tryz.prog.keyType 38 = true := by kernel_rfl
theorem keyOf_kv {k : Ky} (h : wfK k) : ∃ l, keyOf Tryz.prog 38 (kVal k) = some l := by
  have hw : (Lit.int .i64 k.kind).wf = true := by
    have h1 : IntKind.i64.min = -9223372036854775808 := by decide
    have h2 : IntKind.i64.max = 9223372036854775807 := by decide
    show (decide (IntKind.i64.min ≤ k.kind) && decide (k.kind ≤ IntKind.i64.max)) = true
    rw [h1, h2, Bool.and_eq_true, decide_eq_true_eq, decide_eq_true_eq]
    exact h.1
  have h3 : ∀ d, Tryz.prog.keyLits (d + 1 + 1) 38 [.int .i64 k.kind, .string k.name] = some [.int .i64 k.kind, .string k.name.data.toList] := by
    intro d
    simp [Program.keyLits, Tryz.underlying38, Tryz.underlying3, Tryz.underlying9, cellsM, cellsMi, cellsMs, hw, h.2]
  have h4 : keyOf Tryz.prog 38 (kVal k) = some (.string (keyBytes [.int .i64 k.kind, .string k.name.data.toList])) := by
    unfold keyOf
    rw [Tryz.underlying38]
    simp [keyTyM, kVal, Value.formed, Tryz.underlying38, cellsM, Value.cells]
    exact ⟨_, h3 _, rfl⟩
  exact ⟨_, h4⟩
/-- a value as it is -/
def mR : Value → Option (DataW Value × List MemPlace) := fun v => some (.held v, [])
def zRes : Value := .agg #[.int .i64 0, .string ⟨#[]⟩, .int .i64 0, .int .i64 0, .string ⟨#[]⟩, .slice none 0 0, .slice none 0 0]
/-- block b is a map of at most n entries that holds f -/
def MapOf (w : World) (b n : Nat) (f : Ky → Option Value) : Prop :=
  ∃ D : DataW Value, w.ownsMap Tryz.prog 38 mR b n D ∧ ∀ (k : Ky) (l : Lit), wfK k → keyOf Tryz.prog 38 (kVal k) = some l → Maps.has D l = (f k).isSome ∧ ∀ v, f k = some v → ∀ z, D.atKey l z = .held v
theorem kVal_inj {a b : Ky} (h : kVal a = kVal b) : a = b := by
  unfold kVal at h
  injection h with h
  have h1 := congrArg Array.toList h
  simp at h1
  cases a; cases b; simp only at h1; rw [h1.1, h1.2]
theorem MapOf.made (w : World) : MapOf (w.alloc (.map #[] 0)) w.heap.size 0 (fun _ => none) :=
  ⟨_, World.ownsMap_made w _ _ _, fun k l _ _ => ⟨rfl, fun v h => by cases h⟩⟩
theorem MapOf.lt {w : World} {b n : Nat} {f : Ky → Option Value} (h : MapOf w b n f) : b < w.heap.size := by obtain ⟨D, h1, _⟩ := h; exact h1.lt
theorem MapOf.up {w w' : World} {b n : Nat} {f : Ky → Option Value} (h : MapOf w b n f) (he : Ext w w') : MapOf w' b n f := by
  obtain ⟨D, ⟨es, cl, hb, r⟩, h2⟩ := h
  exact ⟨D, ⟨es, cl, (he.block (Array.getElem?_eq_some_iff.1 hb).1).trans hb, r⟩, h2⟩
theorem MapOf.blk {w w' : World} {b n : Nat} {f : Ky → Option Value} (h : MapOf w b n f) (he : w'.heap[b]? = w.heap[b]?) : MapOf w' b n f := by
  obtain ⟨D, ⟨es, cl, hb, r⟩, h2⟩ := h
  exact ⟨D, ⟨es, cl, he.trans hb, r⟩, h2⟩
set_option maxRecDepth 100000 in
theorem MapOf.store {w : World} {b n : Nat} {f : Ky → Option Value} (h : MapOf w b n f) (hn : n < maxLen) {k : Ky} (hk : wfK k) (v : Value) :
    ∃ w', (Instr.mapUpdate 136 (.map (some b)) (kVal k) v).run Tryz.prog w = .ok () w' ∧ MapOf w' b (n + 1) (fun k' => if k' = k then some v else f k') ∧ w.mapTurned w' b := by
  obtain ⟨D, h1, h2⟩ := h
  obtain ⟨l, hl⟩ := keyOf_kv hk
  obtain ⟨w', hr, ho, hm⟩ := h1.store keyedM Tryz.underlying136 hn hl (show mR v = some (.held v, []) from rfl)
  refine ⟨w', hr, ⟨_, ho, fun k' l' hk' hl' => ?_⟩, hm⟩
  by_cases e : k' = k
  · subst e
    obtain rfl : l' = l := by rw [hl] at hl'; exact (Option.some.inj hl').symm
    simp only [if_true]
    refine ⟨Maps.has_put_same h1.isMap (keyedM.key hl) _, fun v' hv z => ?_⟩
    injection hv with hv; subst hv
    exact Maps.atKey_put_same h1.isMap (keyedM.key hl) _ z
  · have hne : l' ≠ l := fun h => by
      subst h
      exact e (kVal_inj (keyedM.inj hl' hl))
    simp only []
    rw [if_neg e]
    obtain ⟨a, c⟩ := h2 k' l' hk' hl'
    exact ⟨by rw [Maps.has_put_other hne]; exact a, fun v' hv z => by rw [Maps.atKey_put_other hne]; exact c v' hv z⟩
set_option maxRecDepth 100000 in
theorem zResM (w : World) : (zeroValue 34).run Tryz.prog w = .ok zRes w := rfl
set_option maxRecDepth 100000 in
theorem MapOf.look {w : World} {b n : Nat} {f : Ky → Option Value} (h : MapOf w b n f) {k : Ky} (hk : wfK k) :
    (Instr.lookup 136 (.map (some b)) (kVal k) true).run Tryz.prog w = .ok (.tuple #[(f k).getD zRes, .bool (f k).isSome]) w := by
  obtain ⟨D, h1, h2⟩ := h
  obtain ⟨l, hl⟩ := keyOf_kv hk
  obtain ⟨v, ps, hr, hv⟩ := h1.look_ok keyedM Tryz.underlying136 (zResM w) (show mR zRes = some (.held zRes, []) from rfl) hl
  obtain ⟨a, c⟩ := h2 k l hk hl
  unfold mR at hv
  injection hv with hv
  injection hv with hv _
  rw [hr, a]
  cases hf : f k with
  | none =>
    rw [hf] at a
    rw [Maps.atKey_of_not_has a] at hv
    injection hv with hv
    rw [hv]; rfl
  | some y =>
    rw [c y hf] at hv
    injection hv with hv
    rw [hv]; rfl
end Go.Proofs.YtfdjbnofcniodaaGreatDoor
