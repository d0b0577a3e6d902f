/- An argument that is a frame of the document's. -/
import Derived.Test.YtfdjbnofcniodaaGreatDoorQResOpen
import Derived.Test.YtfdjbnofcniodaaGreatDoorQFrA
namespace Go.Proofs.YtfdjbnofcniodaaGreatDoor
open Lib (hid)
set_option maxRecDepth 100000
set_option linter.unusedVariables false
open Go.ChangeShapes Go.WideShapes Go.ChangeAt Go.RowKit
open Go.ChangeMaps (open_string shut_string)
theorem cellsO_errno : Tryz.prog.cellsOf 23 = 1 := by kernel_rfl
theorem cellsO_resl : Tryz.prog.cellsOf 42 = 1 := by kernel_rfl
theorem cellsO_keyl : Tryz.prog.cellsOf 46 = 1 := by kernel_rfl
theorem cellsO_marks : Tryz.prog.cellsOf 85 = 1 := by kernel_rfl
theorem cellsO_mark : Tryz.prog.cellsOf 151 = 3 := by kernel_rfl
theorem cellsO_frame : Tryz.prog.cellsOf 87 = 10 := by kernel_rfl
section
variable {H : Type} {enc : TypeId × Value → H} {w : World} {base : Nat} {spare : Nat → Bool} {held : Bool}
theorem open_mkQ (n : Nat) (cs : List Value) (x : DataW H × List MemPlace) (hl : cs.length = 3) (h : DataW.trod enc Tryz.prog w base spare held n 151 cs = some x) : ∃ y, MkQ cs y := by
 match cs, hl with
 | [u0, u1, u2], _ =>
  obtain ⟨n0, y0, h0⟩ := open_field Tryz.underlying151 h 0 rfl (T := 38) (off := 0) (size := 2) rfl rfl cellsO_key
  obtain ⟨n1, y1, h1⟩ := open_field Tryz.underlying151 h 1 rfl (T := 3) (off := 2) (size := 1) rfl rfl cellsO_int
  obtain ⟨k, e0, z0⟩ := open_kyQ n0 _ _ (by simp) h0
  obtain ⟨v, e1, _⟩ := DataW.trod_int Tryz.underlying3 h1
  simp at e0 e1
  obtain ⟨e2, e3⟩ := e0
  subst e1 e2 e3
  exact ⟨(k, v), rfl, z0⟩
theorem open_frV (n : Nat) (cs : List Value) (x : DataW H × List MemPlace) (hl : cs.length = 10) (h : DataW.trod enc Tryz.prog w base spare held n 87 cs = some x) :
  ∃ (f : Fr) (s : FrS), cs = [.int .i64 f.typ, .int .i64 f.epoch, .int .i64 f.kind, .int .i64 f.nonce, .int .i64 f.turn, .slice s.a.A s.a.n s.a.c, .slice s.g.A s.g.n s.g.c, .int .i64 f.err, .slice s.h.A s.h.n s.h.c, .slice s.k.A s.k.n s.k.c] ∧ FrV (fun _ => True) w f s := by
 match cs, hl with
 | [u0, u1, u2, u3, u4, u5, u6, u7, u8, u9], _ =>
  obtain ⟨n0, y0, h0⟩ := open_field Tryz.underlying87 h 0 rfl (T := 3) (off := 0) (size := 1) rfl rfl cellsO_int
  obtain ⟨n1, y1, h1⟩ := open_field Tryz.underlying87 h 1 rfl (T := 3) (off := 1) (size := 1) rfl rfl cellsO_int
  obtain ⟨n2, y2, h2⟩ := open_field Tryz.underlying87 h 2 rfl (T := 3) (off := 2) (size := 1) rfl rfl cellsO_int
  obtain ⟨n3, y3, h3⟩ := open_field Tryz.underlying87 h 3 rfl (T := 3) (off := 3) (size := 1) rfl rfl cellsO_int
  obtain ⟨n4, y4, h4⟩ := open_field Tryz.underlying87 h 4 rfl (T := 3) (off := 4) (size := 1) rfl rfl cellsO_int
  obtain ⟨n5, y5, h5⟩ := open_field Tryz.underlying87 h 5 rfl (T := 42) (off := 5) (size := 1) rfl rfl cellsO_resl
  obtain ⟨n6, y6, h6⟩ := open_field Tryz.underlying87 h 6 rfl (T := 46) (off := 6) (size := 1) rfl rfl cellsO_keyl
  obtain ⟨n7, y7, h7⟩ := open_field Tryz.underlying87 h 7 rfl (T := 23) (off := 7) (size := 1) rfl rfl cellsO_errno
  obtain ⟨n8, y8, h8⟩ := open_field Tryz.underlying87 h 8 rfl (T := 85) (off := 8) (size := 1) rfl rfl cellsO_marks
  obtain ⟨n9, y9, h9⟩ := open_field Tryz.underlying87 h 9 rfl (T := 46) (off := 9) (size := 1) rfl rfl cellsO_keyl
  obtain ⟨t, e0, _⟩ := DataW.trod_int Tryz.underlying3 h0
  obtain ⟨ep, e1, _⟩ := DataW.trod_int Tryz.underlying3 h1
  obtain ⟨kd, e2, _⟩ := DataW.trod_int Tryz.underlying3 h2
  obtain ⟨nc, e3, _⟩ := DataW.trod_int Tryz.underlying3 h3
  obtain ⟨tu, e4, _⟩ := DataW.trod_int Tryz.underlying3 h4
  obtain ⟨A1, m1, c1, l1, e5, a1, a2, a3, a4, _⟩ := open_arr (R := RsQ (fun _ => True) w) Tryz.underlying42 cellsO_res (by omega) (fun n cs x hl h => open_rsQ n cs x hl h) h5
  obtain ⟨A2, m2, c2, l2, e6, b1, b2, b3, b4, _⟩ := open_arr (R := KyQ) Tryz.underlying46 cellsO_key (by omega) (fun n cs x hl h => open_kyQ n cs x hl h) h6
  obtain ⟨er, e7, _⟩ := DataW.trod_int Tryz.underlying23 h7
  obtain ⟨A3, m3, c3, l3, e8, d1, d2, d3, d4, _⟩ := open_arr (R := MkQ) Tryz.underlying85 cellsO_mark (by omega) (fun n cs x hl h => open_mkQ n cs x hl h) h8
  obtain ⟨A4, m4, c4, l4, e9, g1, g2, g3, g4, _⟩ := open_arr (R := KyQ) Tryz.underlying46 cellsO_key (by omega) (fun n cs x hl h => open_kyQ n cs x hl h) h9
  simp at e0 e1 e2 e3 e4 e5 e6 e7 e8 e9
  subst e0 e1 e2 e3 e4 e5 e6 e7 e8 e9
  exact ⟨⟨t, ep, kd, nc, tu, l1, l2, er, l3, l4⟩, ⟨⟨A1, m1, c1⟩, ⟨A2, m2, c2⟩, ⟨A3, m3, c3⟩, ⟨A4, m4, c4⟩⟩, rfl, ⟨⟨a1, a2, a3⟩, ⟨b1, b2, b3⟩, ⟨d1, d2, d3⟩, ⟨g1, g2, g3⟩, a4.qT, b4.qT, d4.qT, g4.qT⟩⟩
theorem arg_frame {r : Reach} {b0 : Nat} {v : Value} {d : DataW H} {p : List MemPlace} (hval : Value.okWide Tryz.prog w r b0 87 v) (h : DataW.Trod enc Tryz.prog w base spare held 87 v d p) :
  ∃ (f : Fr) (s : FrS), v = frVal f s ∧ FrV (fun _ => True) w f s := by
 obtain ⟨cs, rfl, hsz⟩ := okWide_struct Tryz.underlying87 hval
 rw [cellsO_frame] at hsz
 obtain ⟨l⟩ := cs
 obtain ⟨fuel, hf⟩ := h
 obtain ⟨f, s, e, hv⟩ := open_frV fuel l _ (by simpa using hsz) hf
 subst e
 exact ⟨f, s, rfl, hv⟩
end
end Go.Proofs.YtfdjbnofcniodaaGreatDoor
