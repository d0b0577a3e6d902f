/- An argument that is a list of the document's steps. -/
import Derived.Test.YtfdjbnofcniodaaGreatDoorResOpen
import Derived.Test.YtfdjbnofcniodaaGreatDoorScQ
namespace Go.Proofs.YtfdjbnofcniodaaGreatDoor
set_option linter.unusedVariables false
open Go.ChangeShapes Go.WideShapes Go.ChangeAt Go.RowKit
open Go.ChangeMaps (open_string shut_string)
theorem cellsS_resl : Tryz.prog.cellsOf 42 = 1 := by kernel_rfl
theorem cellsS_keyl : Tryz.prog.cellsOf 46 = 1 := by kernel_rfl
theorem cellsS_ask : Tryz.prog.cellsOf 71 = 5 := by kernel_rfl
theorem cellsS_step : Tryz.prog.cellsOf 73 = 11 := by kernel_rfl
section
variable {H : Type} {enc : TypeId × Value → H} {w : World} {base : Nat} {spare : Nat → Bool} {held : Bool}
set_option maxRecDepth 100000 in
theorem open_ask (n : Nat) (cs : List Value) (x : DataW H × List MemPlace) (hl : cs.length = 5) (h : DataW.trod enc Tryz.prog w base spare held n 71 cs = some x) : ∃ a : Ak, cs = [.int .i64 a.port, .string a.host, .string a.path, .int .i64 a.first, .int .i64 a.other] ∧ a.host.size ≤ maxLen ∧ a.path.size ≤ maxLen := by
  match cs, hl with
  | [u0, u1, u2, u3, u4], _ =>
    obtain ⟨n0, y0, h0⟩ := open_field Tryz.underlying71 h 0 rfl (T := 3) (off := 0) (size := 1) rfl rfl cellsO_int
    obtain ⟨n1, y1, h1⟩ := open_field Tryz.underlying71 h 1 rfl (T := 9) (off := 1) (size := 1) rfl rfl cellsO_str
    obtain ⟨n2, y2, h2⟩ := open_field Tryz.underlying71 h 2 rfl (T := 9) (off := 2) (size := 1) rfl rfl cellsO_str
    obtain ⟨n3, y3, h3⟩ := open_field Tryz.underlying71 h 3 rfl (T := 3) (off := 3) (size := 1) rfl rfl cellsO_int
    obtain ⟨n4, y4, h4⟩ := open_field Tryz.underlying71 h 4 rfl (T := 3) (off := 4) (size := 1) rfl rfl cellsO_int
    obtain ⟨p, e0, _⟩ := DataW.trod_int Tryz.underlying3 h0
    obtain ⟨s1, e1, _, z1⟩ := DataW.trod_string Tryz.underlying9 h1
    obtain ⟨s2, e2, _, z2⟩ := DataW.trod_string Tryz.underlying9 h2
    obtain ⟨f, e3, _⟩ := DataW.trod_int Tryz.underlying3 h3
    obtain ⟨q, e4, _⟩ := DataW.trod_int Tryz.underlying3 h4
    simp at e0 e1 e2 e3 e4
    subst e0 e1 e2 e3 e4
    exact ⟨⟨p, s1, s2, f, q⟩, rfl, z1, z2⟩
set_option maxRecDepth 100000 in
theorem open_spQ (n : Nat) (cs : List Value) (x : DataW H × List MemPlace) (hl : cs.length = 11) (h : DataW.trod enc Tryz.prog w base spare held n 73 cs = some x) : ∃ s, SpQ (fun _ => True) w cs s := by
  match cs, hl with
  | [u0, u1, u2, u3, u4, u5, u6, u7, u8, u9, u10], _ =>
    obtain ⟨n0, y0, h0⟩ := open_field Tryz.underlying73 h 0 rfl (T := 3) (off := 0) (size := 1) rfl rfl cellsO_int
    obtain ⟨n1, y1, h1⟩ := open_field Tryz.underlying73 h 1 rfl (T := 3) (off := 1) (size := 1) rfl rfl cellsO_int
    obtain ⟨n2, y2, h2⟩ := open_field Tryz.underlying73 h 2 rfl (T := 3) (off := 2) (size := 1) rfl rfl cellsO_int
    obtain ⟨n3, y3, h3⟩ := open_field Tryz.underlying73 h 3 rfl (T := 3) (off := 3) (size := 1) rfl rfl cellsO_int
    obtain ⟨n4, y4, h4⟩ := open_field Tryz.underlying73 h 4 rfl (T := 42) (off := 4) (size := 1) rfl rfl cellsS_resl
    obtain ⟨n5, y5, h5⟩ := open_field Tryz.underlying73 h 5 rfl (T := 46) (off := 5) (size := 1) rfl rfl cellsS_keyl
    obtain ⟨n6, y6, h6⟩ := open_field Tryz.underlying73 h 6 rfl (T := 71) (off := 6) (size := 5) rfl rfl cellsS_ask
    obtain ⟨k0, e0, _⟩ := DataW.trod_int Tryz.underlying3 h0
    obtain ⟨k1, e1, _⟩ := DataW.trod_int Tryz.underlying3 h1
    obtain ⟨k2, e2, _⟩ := DataW.trod_int Tryz.underlying3 h2
    obtain ⟨k3, e3, _⟩ := DataW.trod_int Tryz.underlying3 h3
    obtain ⟨A1, m1, c1, l1, e4, a1, a2, a3, a4, _⟩ := open_arr (R := RsQ (fun _ => True) w) Tryz.underlying42 cellsO_res (by omega) (fun n cs x hl h => open_rsQ n cs x hl h) h4
    obtain ⟨A2, m2, c2, l2, e5, b1, b2, b3, b4, _⟩ := open_arr (R := KyQ) Tryz.underlying46 cellsO_key (by omega) (fun n cs x hl h => open_kyQ n cs x hl h) h5
    obtain ⟨a, e6, z1, z2⟩ := open_ask n6 _ _ (by simp) h6
    simp at e0 e1 e2 e3 e4 e5 e6
    obtain ⟨e6, e7, e8, e9, e10⟩ := e6
    subst e0 e1 e2 e3 e4 e5 e6 e7 e8 e9 e10
    exact ⟨⟨k0, k1, k2, k3, l1, l2, a⟩, A1, m1, c1, A2, m2, c2, rfl, ⟨a1, a2, a3⟩, ⟨b1, b2, b3⟩, a4.qT, b4.qT, z1, z2⟩
set_option maxRecDepth 100000 in
theorem arg_steps {r : Reach} {b0 : Nat} {v : Value} {d : DataW H} {p : List MemPlace} (hval : Value.okWide Tryz.prog w r b0 68 v) (h : DataW.Trod enc Tryz.prog w base spare held 68 v d p) :
    ∃ (A : Option Addr) (n c : Nat) (l : List Sp), v = .slice A n c ∧ SlW A n c ∧ SpL (fun _ => True) w A n l := by
  obtain ⟨A, n, c, l, rfl, h1, h2, h3, h4, _⟩ := arg_arr (size := 11) (R := SpQ (fun _ => True) w) Tryz.underlying68 cellsS_step (by omega) (fun n cs x hl h => open_spQ n cs x hl h) hval h
  exact ⟨A, n, c, l, rfl, ⟨h1, h2, h3⟩, h4.qT⟩
end
end Go.Proofs.YtfdjbnofcniodaaGreatDoor
