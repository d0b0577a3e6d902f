/- An argument that is []Act of layer 12. -/
import Derived.Test.YtjomoannlpadnaaLinkOpen2
namespace Go.Proofs.Ytjomoannlpadnaa
open Go.ChangeShapes Go.WideShapes Go.ChangeAt Go.RowKit
structure Ac where
  what : Int
  i : Int
  v : Value
  bs : List UInt8
def ActR (w : World) (cs : List Value) (y : Ac) : Prop := cs = [.int .i64 y.what, .int .i64 y.i, y.v] ∧ BV w (fun _ => False) y.v y.bs
theorem cells_act : Try.prog.cellsOf 72 = 3 := by kernel_rfl
theorem three_of {l : List Value} (h : l.length = 3) : ∃ a b c, l = [a, b, c] := by
  match l, h with
  | [a, b, c], _ => exact ⟨a, b, c, rfl⟩
section
variable {H : Type} {enc : TypeId × Value → H} {w : World} {base : Nat} {spare : Nat → Bool} {held : Bool}
set_option maxRecDepth 100000 in
theorem open_act (n : Nat) (cs : List Value) (x : DataW H × List MemPlace) (hl : cs.length = 3) (h : DataW.trod enc Try.prog w base spare held n 72 cs = some x) : ∃ y, ActR w cs y := by
  obtain ⟨u0, u1, u2, rfl⟩ := three_of hl
  obtain ⟨n0, y0, h0⟩ := open_field Try.underlying72 h 0 rfl (T := 3) (off := 0) (size := 1) rfl rfl cells_int
  obtain ⟨n1, y1, h1⟩ := open_field Try.underlying72 h 1 rfl (T := 3) (off := 1) (size := 1) rfl rfl cells_int
  obtain ⟨n2, y2, h2⟩ := open_field Try.underlying72 h 2 rfl (T := 42) (off := 2) (size := 1) rfl rfl cells_bytes
  obtain ⟨m, e0, _⟩ := DataW.trod_int Try.underlying3 h0
  obtain ⟨k, e1, _⟩ := DataW.trod_int Try.underlying3 h1
  obtain ⟨y, e2, g2⟩ := open_bv _ _ _ rfl h2
  simp at e0 e1 e2
  subst e0 e1 e2
  exact ⟨⟨m, k, y.1, y.2⟩, rfl, g2⟩
set_option maxRecDepth 100000 in
theorem arg_acts {r : Reach} {b0 : Nat} {v : Value} {d : DataW H} {p : List MemPlace} (hval : Value.okWide Try.prog w r b0 70 v) (h : DataW.Trod enc Try.prog w base spare held 70 v d p) :
    ∃ (A : Option Addr) (n c : Nat) (ys : List Ac), v = .slice A n c ∧ n ≤ c ∧ c ≤ maxLen ∧ ArrR w 3 (ActR w) A n ys := by
  obtain ⟨A, n, c, ys, rfl, h1, h2, _, h4, _⟩ := arg_arr (R := ActR w) Try.underlying70 cells_act (by omega) (fun n cs x hl h => open_act n cs x hl h) hval h
  exact ⟨A, n, c, ys, rfl, h1, h2, h4⟩
end
end Go.Proofs.Ytjomoannlpadnaa
