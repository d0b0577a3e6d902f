/- Rows of byte slices: a row put behind an owned one. Over whatever program. -/
import Derived.Test.YtjomoannlpadnaaQueue
namespace Go.Proofs.Ytjomoannlpadnaa
set_option linter.unusedVariables false
open Go.RowKit
theorem grown_two {w w1 w2 : World} {r r' : Option Nat} (h : w.grownBy w1 r) (k : w1.grownBy w2 r') (hr : r' = r ∨ r' = some w.heap.size) : w.grownBy w2 r :=
  ⟨k.os.trans h.os, k.tape.trans h.tape, k.output.trans h.output, Nat.le_trans h.size k.size, fun i hi hne => (k.block i (Nat.lt_of_lt_of_le hi h.size) (by
    rcases hr with rfl | rfl
    · exact hne
    · intro e; injection e with e; omega)).trans (h.block i hi hne)⟩
section
variable {w w' : World} {base : Nat} {e : TypeId} {F F' : Nat → Prop} {v : Value} {q : List (List UInt8)}
theorem Elem.one_cell {X : Nat → Prop} {bs : List UInt8} (h : Elem w X v bs) : v.oneCell' = true := by
  obtain ⟨A, n, c, rfl, _⟩ := h
  rfl
theorem Outs.weakF (h : Outs w base e F v q) (hF : ∀ b, F' b → F b) : Outs w base e F' v q := by
  obtain ⟨vs, h1, h2⟩ := h
  exact ⟨vs, h1, fun i u hu => by obtain ⟨bs, h3, h4⟩ := h2 i u hu; exact ⟨bs, h3, h4.weak (fun b hb => .inl (hb.imp (hF b) id))⟩⟩
theorem Outs.base_ (h : Outs w base e F v q) {base' : Nat} (hb : base' ≤ base) : Outs w base' e F v q := by
  obtain ⟨vs, h1, h2⟩ := h
  exact ⟨vs, own_base h1 hb, h2⟩
/-- a row put behind an owned one: us, which read as r -/
theorem Outs.pushAll {P : Program} {t : TypeId} {z : Value} {bytes : Nat} (E : ElemOk P t e z 1 bytes) (ty : TypeId) (h : Outs w base e (fun _ => False) v q) {A : Option Addr} {m c : Nat} {us : List Value} {r : List (List UInt8)} (hf : Flat w 1 A m us) (hA : A = none → c = 0)
    (hl : us.length = r.length) (hus : ∀ (i : Nat) (u : Value), us[i]? = some u → ∃ bs, r[i]? = some bs ∧ Elem w (RowF (fun _ => False) v) u bs) (h63 : q.length + m ≤ 4611686018427387904) (hbytes : (q.length + m) * bytes ≤ 140737488355328) (hbase : base ≤ w.heap.size) :
    ∃ v' w', (Builtin.append_ #[t, t] ty #[v, .slice A m c]).run P w = .ok v' w' ∧ Outs w' base e (fun _ => False) v' (q ++ r) ∧ w.grownBy w' v.ownBlock ∧ (v'.ownBlock = v.ownBlock ∨ v'.ownBlock = some w.heap.size) := by
  obtain ⟨vs, hown, hels⟩ := h
  have hm : us.length = m := by have := hf.1; omega
  have hvl : vs.length = q.length := by have := hown.1; omega
  obtain ⟨v', w', hrun, hown', hg, hat⟩ := run_append_flat E ty hown c hf (fun u hu => by
    obtain ⟨i, hi⟩ := List.mem_iff_getElem?.1 hu
    obtain ⟨bs, _, hb⟩ := hus i u hi
    exact hb.one_cell) h63 hbytes hbase hA
  have step : ∀ {u : Value} {bs : List UInt8}, Elem w (RowF (fun _ => False) v) u bs → Elem w' (RowF (fun _ => False) v') u bs := fun {u bs} hh => by
    refine (hh.weak (X' := fun b => RowF (fun _ => False) v b ∨ RowF (fun _ => False) v' b) ?_).but hg (fun b e => .inl (.inr e)) |>.weak (fun b hb => .inl (.inr hb))
    rintro b (hb | hb | hb)
    · exact .inl hb
    · exact hb.elim
    · rcases hat with ha | ha
      · exact .inl (.inr (by rw [← ha, hb]))
      · right; rw [hb] at ha; injection ha with ha; omega
  refine ⟨v', w', hrun, ⟨vs ++ us, by rw [List.length_append, ← hl, hm]; exact hown', fun i x hx => ?_⟩, hg, hat⟩
  rcases Nat.lt_or_ge i vs.length with hi | hi
  · rw [List.getElem?_append_left hi] at hx
    obtain ⟨bs', h3, h4⟩ := hels i x hx
    exact ⟨bs', by rw [List.getElem?_append_left (by omega)]; exact h3, step h4⟩
  · rw [List.getElem?_append_right hi] at hx
    obtain ⟨bs', h3, h4⟩ := hus _ x hx
    exact ⟨bs', by rw [List.getElem?_append_right (by omega), ← hvl]; exact h3, step h4⟩
/-- the elements of a row of which it is known that they do not lie in another one's block -/
theorem Outs.apart {u : Value} {r : List (List UInt8)} (h : Outs w base e F u r) (hF : ∀ b, v.ownBlock = some b → F b) :
    ∃ A c us, u = .slice A r.length c ∧ (A = none → c = 0) ∧ Flat w 1 A r.length us ∧ us.length = r.length ∧ (∀ (i : Nat) (x : Value), us[i]? = some x → ∃ bs, r[i]? = some bs ∧ Elem w (RowF (fun _ => False) v) x bs) := by
  obtain ⟨us, h1, h2⟩ := h
  obtain ⟨A, c, rfl, _, _, hA, hf⟩ := own_flat h1
  refine ⟨A, c, us, rfl, hA, hf, by have := hf.1; omega, fun i x hx => ?_⟩
  obtain ⟨bs, h3, h4⟩ := h2 i x hx
  refine ⟨bs, h3, h4.weak (fun b hb => .inl ?_)⟩
  rcases hb with hb | hb
  · exact hb.elim
  · exact .inl (hF b hb)
theorem Outs.lt (h : Outs w base e F v q) : ∀ b, v.ownBlock = some b → base ≤ b ∧ b < w.heap.size := by
  obtain ⟨vs, h1, _⟩ := h
  exact h1.lt
/-- blocks that are not there yet may be added to F -/
theorem Outs.newF (h : Outs w base e F v q) : Outs w base e (fun b => F b ∨ w.heap.size ≤ b) v q := by
  obtain ⟨vs, h1, h2⟩ := h
  refine ⟨vs, h1, fun i u hu => ?_⟩
  obtain ⟨bs, h3, h4⟩ := h2 i u hu
  refine ⟨bs, h3, h4.weak (fun b hb => ?_)⟩
  rcases hb with (hb | hb) | hb
  · exact .inl (.inl hb)
  · exact .inr hb
  · exact .inl (.inr hb)
/-- one block alone has turned -/
theorem Outs.but (h : Outs w base e F v q) {row : Option Nat} (hg : w.grownBy w' row) (hr : ∀ b, row = some b → F b ∧ b < base) : Outs w' base e F v q := by
  obtain ⟨vs, h1, h2⟩ := h
  refine ⟨vs, ⟨h1.1, ?_⟩, fun i u hu => by obtain ⟨bs, h3, h4⟩ := h2 i u hu; exact ⟨bs, h3, h4.but hg (fun b e => .inl (hr b e).1)⟩⟩
  rcases h1.2 with hn | ⟨g', cap, cur, rfl, hb, hh, rest⟩
  · exact .inl hn
  · exact .inr ⟨g', cap, cur, rfl, hb, (hg.block g' (Array.getElem?_eq_some_iff.1 hh).1 (fun e => by have := (hr g' e.symm).2; omega)).trans hh, rest⟩
end
end Go.Proofs.Ytjomoannlpadnaa
