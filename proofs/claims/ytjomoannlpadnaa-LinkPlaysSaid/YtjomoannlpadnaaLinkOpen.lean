/- Openings of arguments for the laws of layer 12: a link by value, [][]byte, []byte. -/
import Derived.Test.YtjomoannlpadnaaOpen
import Derived.Test.YtjomoannlpadnaaLink
namespace Go.Proofs.Ytjomoannlpadnaa
open Go.ChangeShapes Go.WideShapes Go.ChangeAt Go.RowKit

theorem own0 : ownKnob Try.prog.godebug = none := by kernel_rfl
theorem laid0 : laidOutB Try.prog = true := by kernel_rfl
theorem cells_bytes : Try.prog.cellsOf 42 = 1 := by kernel_rfl
theorem cells_byte : Try.prog.cellsOf 5 = 1 := by kernel_rfl
theorem cells_int : Try.prog.cellsOf 3 = 1 := by kernel_rfl
theorem cells_link : Try.prog.cellsOf 37 = 2 := by kernel_rfl
theorem cells_queue : Try.prog.cellsOf 35 = 1 := by kernel_rfl

theorem two_of {l : List Value} (h : l.length = 2) : ∃ a b, l = [a, b] := by
  match l, h with
  | [a, b], _ => exact ⟨a, b, rfl⟩

section
variable {H : Type} {enc : TypeId × Value → H} {w : World} {base : Nat} {spare : Nat → Bool} {held : Bool}
theorem open_bv (n : Nat) (cs : List Value) (x : DataW H × List MemPlace) (hl : cs.length = 1) (h : DataW.trod enc Try.prog w base spare held n 42 cs = some x) : ∃ y : Value × List UInt8, cs = [y.1] ∧ BV w (fun _ => False) y.1 y.2 := by
  obtain ⟨A, m, c, bs, rfl, h1, h2, h3, h4, _⟩ := open_arr (R := ByteR) Try.underlying42 cells_byte (by omega) (open_byteR Try.underlying5) h
  exact ⟨(.slice A m c, bs), rfl, A, m, c, rfl, h3, h1, h4, Off.none_⟩
theorem open_queue (n : Nat) (cs : List Value) (x : DataW H × List MemPlace) (h : DataW.trod enc Try.prog w base spare held n 35 cs = some x) :
    ∃ A m c q, cs = [.slice A m c] ∧ m ≤ c ∧ c ≤ maxLen ∧ (A = none → c = 0) ∧ QRd w (fun _ => False) A m q := by
  obtain ⟨A, m, c, ys, rfl, h1, h2, h3, h4, _⟩ := open_arr (R := fun cs (y : Value × List UInt8) => cs = [y.1] ∧ BV w (fun _ => False) y.1 y.2) Try.underlying35 cells_bytes (by omega) (fun n cs x hl h => open_bv n cs x hl h) h
  refine ⟨A, m, c, ys.map (·.2), rfl, h1, h2, h3, ys.map (·.1), ?_, Off.none_, by simp, fun i v hv => ?_⟩
  · exact ArrR.flat (f := (·.1)) (h4.keep (fun _ _ h => h.1) (Nat.le_refl _) fun _ _ _ => rfl)
  · rw [List.getElem?_map] at hv
    obtain ⟨y, hy, rfl⟩ := Option.map_eq_some_iff.1 hv
    have hi : i < m := by rw [← h4.1]; exact (List.getElem?_eq_some_iff.1 hy).1
    obtain ⟨_, _, y', _, _, _, hy', _, hR, _⟩ := h4.at_ hi
    rw [hy] at hy'
    injection hy' with e
    subst e
    exact ⟨y.2, by rw [List.getElem?_map, hy]; rfl, hR.2⟩

set_option maxRecDepth 100000 in
/-- an argument that is a link by value -/
theorem arg_link {r : Reach} {b0 : Nat} {v : Value} {d : DataW H} {p : List MemPlace} (hval : Value.okWide Try.prog w r b0 37 v) (h : DataW.Trod enc Try.prog w base spare held 37 v d p) :
    ∃ (ep : Int) (A : Option Addr) (n c : Nat) (q : List (List UInt8)), v = .agg #[.int .i64 ep, .slice A n c] ∧ n ≤ c ∧ c ≤ maxLen ∧ LinkR w (fun _ => False) A n c q := by
  obtain ⟨cs, rfl, hsz⟩ := okWide_struct Try.underlying37 hval
  rw [cells_link] at hsz
  obtain ⟨l⟩ := cs
  obtain ⟨u0, u1, rfl⟩ := two_of hsz
  obtain ⟨fuel, hf⟩ := h
  obtain ⟨n0, y0, h0⟩ := open_field Try.underlying37 hf 0 rfl (T := 3) (off := 0) (size := 1) rfl rfl cells_int
  obtain ⟨n1, y1, h1⟩ := open_field Try.underlying37 hf 1 rfl (T := 35) (off := 1) (size := 1) rfl rfl cells_queue
  obtain ⟨m, e0, _⟩ := DataW.trod_int Try.underlying3 h0
  obtain ⟨A, k, c, q, e1, g1, g2, g3, g4⟩ := open_queue _ _ _ h1
  simp [Value.cells] at e0 e1
  subst e0 e1
  exact ⟨m, A, k, c, q, rfl, g1, g2, g4, g3, g1⟩
end
end Go.Proofs.Ytjomoannlpadnaa
