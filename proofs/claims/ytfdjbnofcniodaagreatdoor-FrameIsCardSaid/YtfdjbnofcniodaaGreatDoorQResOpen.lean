/- Arguments that are resources, keys, lists of them. -/
import Derived.Test.YtfdjbnofcniodaaGreatDoorQGround
import Derived.Test.YtfdjbnofcniodaaGreatDoorQOpen
namespace Go.Proofs.YtfdjbnofcniodaaGreatDoor
open Lib (hid)
set_option maxRecDepth 100000
set_option linter.unusedVariables false
open Go.ChangeShapes Go.WideShapes Go.ChangeAt Go.RowKit
open Go.ChangeMaps (open_string shut_string)
theorem cellsO_rule : Tryz.prog.cellsOf 111 = 3 := by kernel_rfl
theorem cellsO_weight : Tryz.prog.cellsOf 166 = 2 := by kernel_rfl
theorem cellsO_weights : Tryz.prog.cellsOf 109 = 1 := by kernel_rfl
theorem cellsO_rules : Tryz.prog.cellsOf 31 = 1 := by kernel_rfl
theorem cellsO_ints : Tryz.prog.cellsOf 32 = 1 := by kernel_rfl
theorem cellsO_str : Tryz.prog.cellsOf 9 = 1 := by kernel_rfl
theorem cellsO_int : Tryz.prog.cellsOf 3 = 1 := by kernel_rfl
theorem cellsO_res : Tryz.prog.cellsOf 34 = 7 := by kernel_rfl
theorem cellsO_key : Tryz.prog.cellsOf 38 = 2 := by kernel_rfl
theorem ArrR.qT {α : Type} {w : World} {size n : Nat} {R : List Value → α → Prop} {A : Option Addr} {xs : List α} (h : ArrR w size R A n xs) : ArrQ (fun _ => True) w size R A n xs := h.q.weak (fun _ _ h => h) (fun _ _ _ => trivial)
section
variable {H : Type} {enc : TypeId × Value → H} {w : World} {base : Nat} {spare : Nat → Bool} {held : Bool}
theorem open_wtQ (n : Nat) (cs : List Value) (x : DataW H × List MemPlace) (hl : cs.length = 2) (h : DataW.trod enc Tryz.prog w base spare held n 166 cs = some x) : ∃ y, WtQ cs y := by
 match cs, hl with
 | [u0, u1], _ =>
  obtain ⟨n0, y0, h0⟩ := open_field Tryz.underlying166 h 0 rfl (T := 9) (off := 0) (size := 1) rfl rfl cellsO_str
  obtain ⟨n1, y1, h1⟩ := open_field Tryz.underlying166 h 1 rfl (T := 3) (off := 1) (size := 1) rfl rfl cellsO_int
  obtain ⟨s, e0, _, z0⟩ := DataW.trod_string Tryz.underlying9 h0
  obtain ⟨m, e1, _⟩ := DataW.trod_int Tryz.underlying3 h1
  simp at e0 e1
  subst e0 e1
  exact ⟨(s, m), rfl, z0⟩
theorem open_rlQ (n : Nat) (cs : List Value) (x : DataW H × List MemPlace) (hl : cs.length = 3) (h : DataW.trod enc Tryz.prog w base spare held n 111 cs = some x) : ∃ y, RlQ (fun _ => True) w cs y := by
 match cs, hl with
 | [u0, u1, u2], _ =>
  obtain ⟨n0, y0, h0⟩ := open_field Tryz.underlying111 h 0 rfl (T := 9) (off := 0) (size := 1) rfl rfl cellsO_str
  obtain ⟨n1, y1, h1⟩ := open_field Tryz.underlying111 h 1 rfl (T := 9) (off := 1) (size := 1) rfl rfl cellsO_str
  obtain ⟨n2, y2, h2⟩ := open_field Tryz.underlying111 h 2 rfl (T := 109) (off := 2) (size := 1) rfl rfl cellsO_weights
  obtain ⟨s, e0, _, z0⟩ := DataW.trod_string Tryz.underlying9 h0
  obtain ⟨p, e1, _, z1⟩ := DataW.trod_string Tryz.underlying9 h1
  obtain ⟨A, m, c, ws, e2, g1, g2, g3, g4, _⟩ := open_arr (R := WtQ) Tryz.underlying109 cellsO_weight (by omega) (fun n cs x hl h => open_wtQ n cs x hl h) h2
  simp at e0 e1 e2
  subst e0 e1 e2
  exact ⟨⟨s, p, ws⟩, A, m, c, rfl, z0, z1, ⟨g1, g2, g3⟩, g4.qT⟩
theorem open_rsQ (n : Nat) (cs : List Value) (x : DataW H × List MemPlace) (hl : cs.length = 7) (h : DataW.trod enc Tryz.prog w base spare held n 34 cs = some x) : ∃ y, RsQ (fun _ => True) w cs y := by
 match cs, hl with
 | [u0, u1, u2, u3, u4, u5, u6], _ =>
  obtain ⟨n0, y0, h0⟩ := open_field Tryz.underlying34 h 0 rfl (T := 3) (off := 0) (size := 1) rfl rfl cellsO_int
  obtain ⟨n1, y1, h1⟩ := open_field Tryz.underlying34 h 1 rfl (T := 9) (off := 1) (size := 1) rfl rfl cellsO_str
  obtain ⟨n2, y2, h2⟩ := open_field Tryz.underlying34 h 2 rfl (T := 3) (off := 2) (size := 1) rfl rfl cellsO_int
  obtain ⟨n3, y3, h3⟩ := open_field Tryz.underlying34 h 3 rfl (T := 3) (off := 3) (size := 1) rfl rfl cellsO_int
  obtain ⟨n4, y4, h4⟩ := open_field Tryz.underlying34 h 4 rfl (T := 9) (off := 4) (size := 1) rfl rfl cellsO_str
  obtain ⟨n5, y5, h5⟩ := open_field Tryz.underlying34 h 5 rfl (T := 31) (off := 5) (size := 1) rfl rfl cellsO_rules
  obtain ⟨n6, y6, h6⟩ := open_field Tryz.underlying34 h 6 rfl (T := 32) (off := 6) (size := 1) rfl rfl cellsO_ints
  obtain ⟨kd, e0, _⟩ := DataW.trod_int Tryz.underlying3 h0
  obtain ⟨nm, e1, _, z1⟩ := DataW.trod_string Tryz.underlying9 h1
  obtain ⟨vr, e2, _⟩ := DataW.trod_int Tryz.underlying3 h2
  obtain ⟨pt, e3, _⟩ := DataW.trod_int Tryz.underlying3 h3
  obtain ⟨to, e4, _, z4⟩ := DataW.trod_string Tryz.underlying9 h4
  obtain ⟨A, m, c, rs, e5, g1, g2, g3, g4, _⟩ := open_arr (R := RlQ (fun _ => True) w) Tryz.underlying31 cellsO_rule (by omega) (fun n cs x hl h => open_rlQ n cs x hl h) h5
  obtain ⟨A', m', c', hs, e6, g1', g2', g3', g4', _⟩ := open_arr (R := IntR .i64) Tryz.underlying32 cellsO_int (by omega) (open_intR Tryz.underlying3) h6
  simp at e0 e1 e2 e3 e4 e5 e6
  subst e0 e1 e2 e3 e4 e5 e6
  exact ⟨⟨kd, nm, vr, pt, to, rs, hs⟩, A, m, c, A', m', c', rfl, ⟨z1, z4, ⟨g1, g2, g3⟩, ⟨g1', g2', g3'⟩, g4.qT, g4'.qT⟩⟩
theorem open_kyQ (n : Nat) (cs : List Value) (x : DataW H × List MemPlace) (hl : cs.length = 2) (h : DataW.trod enc Tryz.prog w base spare held n 38 cs = some x) : ∃ y, KyQ cs y := by
 match cs, hl with
 | [u0, u1], _ =>
  obtain ⟨n0, y0, h0⟩ := open_field Tryz.underlying38 h 0 rfl (T := 3) (off := 0) (size := 1) rfl rfl cellsO_int
  obtain ⟨n1, y1, h1⟩ := open_field Tryz.underlying38 h 1 rfl (T := 9) (off := 1) (size := 1) rfl rfl cellsO_str
  obtain ⟨kd, e0, _⟩ := DataW.trod_int Tryz.underlying3 h0
  obtain ⟨nm, e1, _, z1⟩ := DataW.trod_string Tryz.underlying9 h1
  simp at e0 e1
  subst e0 e1
  exact ⟨⟨kd, nm⟩, rfl, z1⟩
end
end Go.Proofs.YtfdjbnofcniodaaGreatDoor
