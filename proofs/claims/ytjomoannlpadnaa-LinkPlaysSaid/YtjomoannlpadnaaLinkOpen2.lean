/- Openings of arguments for the laws of layer 12: a [][]byte of its own. -/
import Derived.Test.YtjomoannlpadnaaLinkOpen
namespace Go.Proofs.Ytjomoannlpadnaa
open Go.ChangeShapes Go.WideShapes Go.ChangeAt Go.RowKit
set_option maxRecDepth 100000 in
theorem arg_queue {H : Type} {enc : TypeId × Value → H} {w : World} {base : Nat} {spare : Nat → Bool} {held : Bool} {r : Reach} {b0 : Nat} {v : Value} {d : DataW H} {p : List MemPlace} (hval : Value.okWide Try.prog w r b0 35 v) (h : DataW.Trod enc Try.prog w base spare held 35 v d p) :
    ∃ (A : Option Addr) (n c : Nat) (q : List (List UInt8)), v = .slice A n c ∧ n ≤ c ∧ c ≤ maxLen ∧ LinkR w (fun _ => False) A n c q := by
  obtain ⟨A, n, c, rfl⟩ := okWide_slice Try.underlying35 hval
  obtain ⟨fuel, hf⟩ := h
  obtain ⟨A', n', c', q, h1, h2, h3, h4, h5⟩ := open_queue _ _ _ hf
  simp [Value.cells] at h1
  obtain ⟨rfl, rfl, rfl⟩ := h1
  exact ⟨A, n, c, q, rfl, h2, h3, h5, h4, h2⟩
end Go.Proofs.Ytjomoannlpadnaa
