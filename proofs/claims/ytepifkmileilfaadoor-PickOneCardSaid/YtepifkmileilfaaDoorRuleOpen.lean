/- An argument that is []api.Rule. -/
import Derived.Test.YtepifkmileilfaaDoorRule
import Derived.Test.YtepifkmileilfaaDoorOpen
namespace Go.Proofs.YtepifkmileilfaaDoor
set_option linter.unusedVariables false
open Go.ChangeShapes Go.WideShapes Go.ChangeAt Go.RowKit
open Go.ChangeMaps (open_string shut_string)
theorem cells_rule : Tryd.prog.cellsOf 27 = 3 := by kernel_rfl
theorem cells_weight : Tryd.prog.cellsOf 80 = 2 := by kernel_rfl
theorem cells_weights : Tryd.prog.cellsOf 25 = 1 := by kernel_rfl
theorem cells_str : Tryd.prog.cellsOf 9 = 1 := by kernel_rfl
theorem cells_int07 : Tryd.prog.cellsOf 3 = 1 := by kernel_rfl
section
variable {H : Type} {enc : TypeId × Value → H} {w : World} {base : Nat} {spare : Nat → Bool} {held : Bool}
set_option maxRecDepth 100000 in
theorem open_wtR07 (n : Nat) (cs : List Value) (x : DataW H × List MemPlace) (hl : cs.length = 2) (h : DataW.trod enc Tryd.prog w base spare held n 80 cs = some x) : ∃ y, WtR cs y := by
  match cs, hl with
  | [u0, u1], _ =>
    obtain ⟨n0, y0, h0⟩ := open_field Tryd.underlying80 h 0 rfl (T := 9) (off := 0) (size := 1) rfl rfl cells_str
    obtain ⟨n1, y1, h1⟩ := open_field Tryd.underlying80 h 1 rfl (T := 3) (off := 1) (size := 1) rfl rfl cells_int07
    obtain ⟨s, e0, _⟩ := DataW.trod_string Tryd.underlying9 h0
    obtain ⟨m, e1, _⟩ := DataW.trod_int Tryd.underlying3 h1
    simp at e0 e1
    subst e0 e1
    exact ⟨(s, m), rfl⟩
set_option maxRecDepth 100000 in
theorem open_ruR (n : Nat) (cs : List Value) (x : DataW H × List MemPlace) (hl : cs.length = 3) (h : DataW.trod enc Tryd.prog w base spare held n 27 cs = some x) : ∃ y, RuR w cs y := by
  match cs, hl with
  | [u0, u1, u2], _ =>
    obtain ⟨n0, y0, h0⟩ := open_field Tryd.underlying27 h 0 rfl (T := 9) (off := 0) (size := 1) rfl rfl cells_str
    obtain ⟨n1, y1, h1⟩ := open_field Tryd.underlying27 h 1 rfl (T := 9) (off := 1) (size := 1) rfl rfl cells_str
    obtain ⟨n2, y2, h2⟩ := open_field Tryd.underlying27 h 2 rfl (T := 25) (off := 2) (size := 1) rfl rfl cells_weights
    obtain ⟨s, e0, _, z0⟩ := DataW.trod_string Tryd.underlying9 h0
    obtain ⟨p, e1, _, z1⟩ := DataW.trod_string Tryd.underlying9 h1
    obtain ⟨A, m, c, ws, e2, g1, g2, _, g4, _⟩ := open_arr (R := WtR) Tryd.underlying25 cells_weight (by omega) (fun n cs x hl h => open_wtR07 n cs x hl h) h2
    simp at e0 e1 e2
    subst e0 e1 e2
    exact ⟨⟨s, p, ws⟩, A, m, c, rfl, z0, z1, Nat.le_trans g1 g2, g4⟩
set_option maxRecDepth 100000 in
theorem arg_rules {r : Reach} {b0 : Nat} {v : Value} {d : DataW H} {p : List MemPlace} (hval : Value.okWide Tryd.prog w r b0 22 v) (h : DataW.Trod enc Tryd.prog w base spare held 22 v d p) :
    ∃ (A : Option Addr) (n c : Nat) (ys : List Ru), v = .slice A n c ∧ n ≤ c ∧ c ≤ maxLen ∧ ArrR w 3 (RuR w) A n ys := by
  obtain ⟨A, n, c, ys, rfl, h1, h2, _, h4, _⟩ := arg_arr (R := RuR w) Tryd.underlying22 cells_rule (by omega) (fun n cs x hl h => open_ruR n cs x hl h) hval h
  exact ⟨A, n, c, ys, rfl, h1, h2, h4⟩
end
end Go.Proofs.YtepifkmileilfaaDoor
