/- Arguments that are lists of resources, whose keys' kinds are numbers of their type. -/
import Derived.Test.YtfdjbnofcniodaaGreatDoorResOpen
import Derived.Test.YtfdjbnofcniodaaGreatDoorMapK
namespace Go.Proofs.YtfdjbnofcniodaaGreatDoor
set_option linter.unusedVariables false
open Go.ChangeShapes Go.WideShapes Go.ChangeAt Go.RowKit
section
variable {H : Type} {enc : TypeId × Value → H} {w : World} {base : Nat} {spare : Nat → Bool} {held : Bool}
theorem wf_i64 {x : Int} (h : (Lit.int .i64 x).wf = true) : -9223372036854775808 ≤ x ∧ x ≤ 9223372036854775807 := by
  have h1 : IntKind.i64.min = -9223372036854775808 := by decide
  have h2 : IntKind.i64.max = 9223372036854775807 := by decide
  unfold Lit.wf at h
  simp only [h1, h2, Bool.and_eq_true, decide_eq_true_eq] at h
  exact h
set_option maxRecDepth 100000 in
theorem open_rsQW (n : Nat) (cs : List Value) (x : DataW H × List MemPlace) (hl : cs.length = 7) (h : DataW.trod enc Tryz.prog w base spare held n 34 cs = some x) : ∃ y, RsQ (fun _ => True) w cs y ∧ wfK y.key := by
  obtain ⟨y, hy⟩ := open_rsQ n cs x hl h
  refine ⟨y, hy, ?_⟩
  obtain ⟨A, m, c, A', m', c', rfl, hv⟩ := hy
  obtain ⟨n0, y0, h0⟩ := open_field Tryz.underlying34 h 0 rfl (T := 3) (off := 0) (size := 1) rfl rfl cellsO_int
  obtain ⟨kd, e0, _, hwf⟩ := DataW.trod_int Tryz.underlying3 h0
  simp at e0
  subst e0
  exact ⟨wf_i64 hwf, hv.nm⟩
set_option maxRecDepth 100000 in
theorem arg_reslW {r : Reach} {b0 : Nat} {v : Value} {d : DataW H} {p : List MemPlace} (hval : Value.okWide Tryz.prog w r b0 42 v) (h : DataW.Trod enc Tryz.prog w base spare held 42 v d p) :
    ∃ (A : Option Addr) (n c : Nat) (l : List Rs), v = .slice A n c ∧ SlW A n c ∧ ResL (fun _ => True) w A n l ∧ ∀ x ∈ l, wfK x.key := by
  obtain ⟨A, n, c, ys, rfl, h1, h2, h3, h4, _⟩ := arg_arr (R := fun cs y => RsQ (fun _ => True) w cs y ∧ wfK y.key) Tryz.underlying42 cellsO_res (by omega) (fun n cs x hl h => open_rsQW n cs x hl h) hval h
  refine ⟨A, n, c, ys, rfl, ⟨h1, h2, h3⟩, h4.qT.weak (fun _ _ h => h.1) (fun _ _ _ => trivial), fun x hx => ?_⟩
  obtain ⟨k, hk, e⟩ := List.mem_iff_getElem.1 hx
  have hn : k < n := by have := h4.len; omega
  obtain ⟨b, o, y, cs, -, -, h5, -, h6, -⟩ := ArrR.at_ h4 hn
  rw [List.getElem?_eq_getElem hk] at h5
  injection h5 with h5
  rw [← e, h5]
  exact h6.2
end
end Go.Proofs.YtfdjbnofcniodaaGreatDoor
