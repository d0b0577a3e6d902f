/- Marks and frames as values. -/
import Derived.Test.YtepifkmileilfaaGreatDoorFrPlainAll
import Derived.Test.YtepifkmileilfaaGreatDoorGround
import Derived.Test.YtepifkmileilfaaGreatDoorSomeAll
namespace Go.Proofs.YtepifkmileilfaaGreatDoor
set_option linter.unusedVariables false
open Go.RowKit
theorem elem_mark : ElemOk Tryz.prog 91 154 (.agg #[.int .i64 0, .string ⟨#[]⟩, .int .i64 0]) 3 32 := ElemOk.mk Tryz.underlying91 (by kernel_rfl) rfl (by omega)
/-- three cells that hold a mark -/
def MkQ (cs : List Value) (m : Ky × Int) : Prop := cs = [.int .i64 m.1.kind, .string m.1.name, .int .i64 m.2] ∧ m.1.name.size ≤ maxLen
abbrev MkL (S : Nat → Prop) (w : World) (A : Option Addr) (n : Nat) (l : List (Ky × Int)) : Prop := ArrQ S w 3 MkQ A n l
section
variable {S T : Nat → Prop} {w w' : World} {A : Option Addr} {n : Nat}
theorem MkL.keep {l : List (Ky × Int)} (h : MkL S w A n l) (hk : Keep S w w') : MkL S w' A n l := ArrQ.keep h (fun _ _ _ h => h) hk
theorem MkL.at_ {l : List (Ky × Int)} {k : Nat} (h : MkL S w A n l) (hk : k < n) :
    ∃ b o y v, A = some ⟨b, o, none⟩ ∧ b < w.heap.size ∧ S b ∧ l[k]? = some (y, v) ∧ y.name.size ≤ maxLen ∧ w.cell? ⟨b, o + k * 3, none⟩ = some (.int .i64 y.kind) ∧ w.cell? ⟨b, o + k * 3 + 1, none⟩ = some (.string y.name) ∧ w.cell? ⟨b, o + k * 3 + 2, none⟩ = some (.int .i64 v) := by
  obtain ⟨b, o, ⟨y, v⟩, cs, hA, hS, hb, hl, _, hR, hcs⟩ := ArrQ.at_ h hk
  obtain ⟨rfl, hm⟩ := hR
  exact ⟨b, o, y, v, hA, hb, hS, hl, hm, hcs 0 _ rfl, hcs 1 _ rfl, hcs 2 _ rfl⟩
end
/-- a slice's letters -/
structure Sl where
  A : Option Addr
  n : Nat
  c : Nat
/-- a frame's four slices: what is added, what is gone, what is there, what is held -/
structure FrS where
  a : Sl
  g : Sl
  h : Sl
  k : Sl
def frVal (f : Fr) (s : FrS) : Value := .agg #[.int .i64 f.typ, .int .i64 f.epoch, .int .i64 f.kind, .int .i64 f.nonce, .int .i64 f.turn, .slice s.a.A s.a.n s.a.c, .slice s.g.A s.g.n s.g.c, .int .i64 f.err, .slice s.h.A s.h.n s.h.c, .slice s.k.A s.k.n s.k.c]
structure FrV (S : Nat → Prop) (w : World) (f : Fr) (s : FrS) : Prop where
  sa : SlW s.a.A s.a.n s.a.c
  sg : SlW s.g.A s.g.n s.g.c
  sh : SlW s.h.A s.h.n s.h.c
  sk : SlW s.k.A s.k.n s.k.c
  adds : ResL S w s.a.A s.a.n f.adds
  gone : KeyL S w s.g.A s.g.n f.gone
  hav : MkL S w s.h.A s.h.n f.hav
  held : KeyL S w s.k.A s.k.n f.held
theorem FrV.keep {S : Nat → Prop} {w w' : World} {f : Fr} {s : FrS} (h : FrV S w f s) (hk : Keep S w w') : FrV S w' f s :=
  ⟨h.sa, h.sg, h.sh, h.sk, ResL.keep h.adds hk, KeyL.keep h.gone hk, MkL.keep h.hav hk, KeyL.keep h.held hk⟩
theorem FrV.up {S : Nat → Prop} {w w' : World} {f : Fr} {s : FrS} (h : FrV S w f s) (he : Ext w w') : FrV S w' f s := h.keep he.keep
theorem SlW.len {A : Option Addr} {n c : Nat} (h : SlW A n c) : n ≤ maxLen := Nat.le_trans h.1 h.2.1
end Go.Proofs.YtepifkmileilfaaGreatDoor
