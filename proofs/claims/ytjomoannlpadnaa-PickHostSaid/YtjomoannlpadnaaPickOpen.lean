/- Openings of arguments for the laws of package pick. -/
import Derived.Test.YtjomoannlpadnaaOpen
import Derived.Test.YtjomoannlpadnaaPick
namespace Go.Proofs.Ytjomoannlpadnaa
open Go.ChangeShapes Go.WideShapes Go.ChangeAt Go.RowKit

theorem own0 : ownKnob Try.prog.godebug = none := by kernel_rfl
theorem laid0 : laidOutB Try.prog = true := by kernel_rfl

theorem open_wtR {H : Type} {enc : TypeId × Value → H} {w : World} {base : Nat} {spare : Nat → Bool} {held : Bool} (n : Nat) (cs : List Value) (x : DataW H × List MemPlace) (hl : cs.length = 2) (h : DataW.trod enc Try.prog w base spare held n 26 cs = some x) : ∃ y, WtR cs y := by
  match cs, hl with
  | [u0, u1], _ =>
    obtain ⟨n0, y0, h0⟩ := open_field Try.underlying26 h 0 rfl (T := 9) (off := 0) (size := 1) rfl rfl (by kernel_rfl)
    obtain ⟨n1, y1, h1⟩ := open_field Try.underlying26 h 1 rfl (T := 3) (off := 1) (size := 1) rfl rfl (by kernel_rfl)
    obtain ⟨s, e0, _⟩ := DataW.trod_string Try.underlying9 h0
    obtain ⟨m, e1, _⟩ := DataW.trod_int Try.underlying3 h1
    simp at e0 e1
    subst e0 e1
    exact ⟨(s, m), rfl⟩
end Go.Proofs.Ytjomoannlpadnaa
