/- Steps of a script as values. -/
import Derived.Test.YtfdjbnofcniodaaGreatDoorScPlain
import Derived.Test.YtfdjbnofcniodaaGreatDoorGround
import Derived.Test.YtfdjbnofcniodaaGreatDoorSomeAll
namespace Go.Proofs.YtfdjbnofcniodaaGreatDoor
set_option linter.unusedVariables false
open Go.RowKit

/-- a step's value: its two slices are letters -/
def spVal (s : Sp) (A : Option Addr) (n c : Nat) (B : Option Addr) (m d : Nat) : Value := .agg #[.int .i64 s.kind, .int .i64 s.side, .int .i64 s.way, .int .i64 s.n, .slice A n c, .slice B m d, .int .i64 s.a.port, .string s.a.host, .string s.a.path, .int .i64 s.a.first, .int .i64 s.a.other]
structure SpV (S : Nat → Prop) (w : World) (s : Sp) (A : Option Addr) (n c : Nat) (B : Option Addr) (m d : Nat) : Prop where
  sa : SlW A n c
  sg : SlW B m d
  adds : ResL S w A n s.adds
  gone : KeyL S w B m s.gone
  hh : s.a.host.size ≤ maxLen
  hp : s.a.path.size ≤ maxLen
def SpQ (S : Nat → Prop) (w : World) (cs : List Value) (s : Sp) : Prop := ∃ A n c B m d, cs = [.int .i64 s.kind, .int .i64 s.side, .int .i64 s.way, .int .i64 s.n, .slice A n c, .slice B m d, .int .i64 s.a.port, .string s.a.host, .string s.a.path, .int .i64 s.a.first, .int .i64 s.a.other] ∧ SpV S w s A n c B m d
abbrev SpL (S : Nat → Prop) (w : World) (A : Option Addr) (n : Nat) (l : List Sp) : Prop := ArrQ S w 11 (SpQ S w) A n l
section
variable {S T : Nat → Prop} {w w' : World} {n c m d : Nat} {A B : Option Addr} {s : Sp} {cs : List Value} {l : List Sp}
theorem SpV.keep (h : SpV S w s A n c B m d) (hk : Keep S w w') : SpV S w' s A n c B m d := ⟨h.sa, h.sg, ResL.keep h.adds hk, KeyL.keep h.gone hk, h.hh, h.hp⟩
theorem SpV.up (h : SpV S w s A n c B m d) (he : Ext w w') : SpV S w' s A n c B m d := h.keep he.keep
theorem SpV.weak (h : SpV S w s A n c B m d) (hST : ∀ b, b < w.heap.size → S b → T b) : SpV T w s A n c B m d := ⟨h.sa, h.sg, ResL.weak h.adds hST, ArrQ.weak h.gone (fun _ _ h => h) hST, h.hh, h.hp⟩
theorem SpQ.keep (h : SpQ S w cs s) (hk : Keep S w w') : SpQ S w' cs s := by obtain ⟨A, n, c, B, m, d, e, h⟩ := h; exact ⟨A, n, c, B, m, d, e, h.keep hk⟩
theorem SpQ.weak (h : SpQ S w cs s) (hST : ∀ b, b < w.heap.size → S b → T b) : SpQ T w cs s := by obtain ⟨A, n, c, B, m, d, e, h⟩ := h; exact ⟨A, n, c, B, m, d, e, h.weak hST⟩
theorem SpL.keep (h : SpL S w A n l) (hk : Keep S w w') : SpL S w' A n l := ArrQ.keep h (fun _ _ _ h => h.keep hk) hk
theorem SpL.weak (h : SpL S w A n l) (hST : ∀ b, b < w.heap.size → S b → T b) : SpL T w A n l := ArrQ.weak h (fun _ _ h => h.weak hST) hST
theorem SpV.nilSp (k sd wy nn : Int) (S : Nat → Prop) (w : World) : SpV S w ⟨k, sd, wy, nn, [], [], ak0⟩ none 0 0 none 0 0 := ⟨SlW.nil_, SlW.nil_, ArrQ.nil_, ArrQ.nil_, (by decide : (⟨#[]⟩ : ByteArray).size ≤ maxLen), (by decide : (⟨#[]⟩ : ByteArray).size ≤ maxLen)⟩
/-- the k-th step: its cells, its parts -/
theorem SpL.at_ {w0 : World} {l : List Sp} {k : Nat} (h : ArrQ T w 11 (SpQ S w0) A n l) (hk : k < n) :
    ∃ b o s B m d B' m' d', A = some ⟨b, o, none⟩ ∧ b < w.heap.size ∧ T b ∧ l[k]? = some s ∧ SpV S w0 s B m d B' m' d' ∧
      w.cell? ⟨b, o + k * 11, none⟩ = some (.int .i64 s.kind) ∧ w.cell? ⟨b, o + k * 11 + 1, none⟩ = some (.int .i64 s.side) ∧ w.cell? ⟨b, o + k * 11 + 2, none⟩ = some (.int .i64 s.way) ∧ w.cell? ⟨b, o + k * 11 + 3, none⟩ = some (.int .i64 s.n) ∧
      w.cell? ⟨b, o + k * 11 + 4, none⟩ = some (.slice B m d) ∧ w.cell? ⟨b, o + k * 11 + 5, none⟩ = some (.slice B' m' d') ∧ w.cell? ⟨b, o + k * 11 + 6, none⟩ = some (.int .i64 s.a.port) ∧ w.cell? ⟨b, o + k * 11 + 7, none⟩ = some (.string s.a.host) ∧
      w.cell? ⟨b, o + k * 11 + 8, none⟩ = some (.string s.a.path) ∧ w.cell? ⟨b, o + k * 11 + 9, none⟩ = some (.int .i64 s.a.first) ∧ w.cell? ⟨b, o + k * 11 + 10, none⟩ = some (.int .i64 s.a.other) := by
  obtain ⟨b, o, r, cs, hA, hS, hb, hl, _, hR, hcs⟩ := ArrQ.at_ h hk
  obtain ⟨B, m, d, B', m', d', rfl, hv⟩ := hR
  exact ⟨b, o, r, B, m, d, B', m', d', hA, hb, hS, hl, hv, hcs 0 _ rfl, hcs 1 _ rfl, hcs 2 _ rfl, hcs 3 _ rfl, hcs 4 _ rfl, hcs 5 _ rfl, hcs 6 _ rfl, hcs 7 _ rfl, hcs 8 _ rfl, hcs 9 _ rfl, hcs 10 _ rfl⟩
end
theorem elem_step : ElemOk Tryz.prog 77 82 (.agg #[.int .i64 0, .int .i64 0, .int .i64 0, .int .i64 0, .slice none 0 0, .slice none 0 0, .int .i64 0, .string ⟨#[]⟩, .string ⟨#[]⟩, .int .i64 0, .int .i64 0]) 11 136 := ElemOk.mk Tryz.underlying77 (by kernel_rfl) rfl (by omega)
theorem elem_stepD : ElemOk Tryz.prog 68 73 (.agg #[.int .i64 0, .int .i64 0, .int .i64 0, .int .i64 0, .slice none 0 0, .slice none 0 0, .int .i64 0, .string ⟨#[]⟩, .string ⟨#[]⟩, .int .i64 0, .int .i64 0]) 11 136 := ElemOk.mk Tryz.underlying68 (by kernel_rfl) rfl (by omega)
end Go.Proofs.YtfdjbnofcniodaaGreatDoor
