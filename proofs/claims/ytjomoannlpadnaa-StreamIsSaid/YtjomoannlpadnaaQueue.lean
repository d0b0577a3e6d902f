/- Rows of byte slices: owned (they grow by append), and read. Over whatever program. -/
import Derived.Test.YtjomoannlpadnaaRange
namespace Go.Proofs.Ytjomoannlpadnaa
set_option linter.unusedVariables false
open Go.RowKit

/-- a byte slice that reads as bs and does not lie in the blocks X -/
def Elem (w : World) (X : Nat → Prop) (v : Value) (bs : List UInt8) : Prop := ∃ A n c, v = .slice A n c ∧ (A = none → c = 0) ∧ n ≤ c ∧ c ≤ 9223372036854775807 ∧ Byts w A n bs ∧ (0 < n → ∀ b o, A = some ⟨b, o, none⟩ → ¬ X b)
def RowF (F : Nat → Prop) (v : Value) (b : Nat) : Prop := F b ∨ v.ownBlock = some b
/-- an owned row of byte slices; F: blocks that neither it nor its slices lie in -/
def Outs (w : World) (base : Nat) (e : TypeId) (F : Nat → Prop) (v : Value) (q : List (List UInt8)) : Prop :=
  ∃ vs, w.ownsRow base e 1 v q.length vs ∧ ∀ (i : Nat) (u : Value), vs[i]? = some u → ∃ bs, q[i]? = some bs ∧ Elem w (RowF F v) u bs
/-- a row of byte slices, read -/
def QR (w : World) (A : Option Addr) (n : Nat) (q : List (List UInt8)) : Prop :=
  ∃ vs, Flat w 1 A n vs ∧ vs.length = q.length ∧ ∀ (i : Nat) (u : Value), vs[i]? = some u → ∃ bs, q[i]? = some bs ∧ Elem w (fun _ => False) u bs

section
variable {w w' : World} {X X' : Nat → Prop} {v : Value} {bs : List UInt8}
theorem Elem.up (h : Elem w X v bs) (hx : Ext w w') : Elem w' X v bs := by
  obtain ⟨A, n, c, e, h1, h2, h3, h4, h5⟩ := h
  exact ⟨A, n, c, e, h1, h2, h3, ArrR.up h4 hx, h5⟩
theorem Elem.same (h : Elem w X v bs) (k : SameCells w w') : Elem w' X v bs := by
  obtain ⟨A, n, c, e, h1, h2, h3, h4, h5⟩ := h
  exact ⟨A, n, c, e, h1, h2, h3, ArrR.same h4 k, h5⟩
theorem Elem.lt (h : Elem w X v bs) : ∀ A n c, v = .slice A n c → 0 < n → ∀ b o, A = some ⟨b, o, none⟩ → b < w.heap.size := by
  obtain ⟨A, n, c, rfl, _, _, _, h4, _⟩ := h
  rintro A' n' c' e hn b o e'
  injection e with e1 e2 e3
  subst e1 e2 e3
  obtain ⟨b', o', e2, hb, _⟩ := h4.2 hn
  rw [e'] at e2
  injection e2 with e2
  injection e2 with e3 _
  omega
theorem Elem.weak (h : Elem w X v bs) (hX : ∀ b, X' b → X b ∨ w.heap.size ≤ b) : Elem w X' v bs := by
  have hlt := h.lt
  obtain ⟨A, n, c, e, h1, h2, h3, h4, h5⟩ := h
  refine ⟨A, n, c, e, h1, h2, h3, h4, fun hn b o ea hx => ?_⟩
  rcases hX b hx with h6 | h6
  · exact h5 hn b o ea h6
  · have := hlt A n c e hn b o ea; omega
/-- block g alone has turned -/
theorem Elem.but (h : Elem w X v bs) {row : Option Nat} (hg : w.grownBy w' row) (hX : ∀ b, row = some b → X b) : Elem w' X v bs := by
  obtain ⟨A, n, c, e, h1, h2, h3, h4, h5⟩ := h
  refine ⟨A, n, c, e, h1, h2, h3, ⟨h4.1, fun hn => ?_⟩, h5⟩
  obtain ⟨b, o, ea, hlt, hc⟩ := h4.2 hn
  refine ⟨b, o, ea, Nat.lt_of_lt_of_le hlt hg.size, fun j x hx => ?_⟩
  obtain ⟨cs, k1, k2, k3⟩ := hc j x hx
  exact ⟨cs, k1, k2, fun i u hu => (World.cell?_of_block (hg.block b hlt (fun he => h5 hn b o ea (hX b he.symm)))).trans (k3 i u hu)⟩
theorem grownBy_set (w : World) (g i : Nat) (u : Value) : w.grownBy (w.setCell ⟨g, i, none⟩ u) (some g) :=
  ⟨rfl, rfl, rfl, by simp [World.setCell], fun k _ hne => Below.heap_setCell w ⟨g, i, none⟩ u k (fun e => hne (by rw [e]))⟩
end
section
variable {w w' : World} {base : Nat} {e : TypeId} {F : Nat → Prop} {v : Value} {q : List (List UInt8)}
theorem Outs.nil_ : Outs w base e F (.slice none 0 0) [] := ⟨[], own_nil, fun i u h => by simp at h⟩
theorem Outs.up (h : Outs w base e F v q) (hx : Ext w w') : Outs w' base e F v q := by
  obtain ⟨vs, h1, h2⟩ := h
  exact ⟨vs, own_up h1 hx, fun i u hu => by obtain ⟨bs, h3, h4⟩ := h2 i u hu; exact ⟨bs, h3, h4.up hx⟩⟩
theorem Outs.same (h : Outs w base e F v q) (k : SameCells w w') : Outs w' base e F v q := by
  obtain ⟨vs, h1, h2⟩ := h
  exact ⟨vs, own_same h1 k, fun i u hu => by obtain ⟨bs, h3, h4⟩ := h2 i u hu; exact ⟨bs, h3, h4.same k⟩⟩
/-- a store into one of the blocks F -/
theorem Outs.set (h : Outs w base e F v q) {g : Nat} (hF : F g) (hg : g < base) (i : Nat) (u : Value) : Outs (w.setCell ⟨g, i, none⟩ u) base e F v q := by
  obtain ⟨vs, h1, h2⟩ := h
  refine ⟨vs, ⟨h1.1, ?_⟩, fun j u' hu => by obtain ⟨bs, h3, h4⟩ := h2 j u' hu; exact ⟨bs, h3, h4.but (grownBy_set w g i u) (fun b e => by injection e with e; exact .inl (e ▸ hF))⟩⟩
  rcases h1.2 with hn | ⟨g', cap, cur, rfl, hb, hh, rest⟩
  · exact .inl hn
  · exact .inr ⟨g', cap, cur, rfl, hb, (blk_far (by omega) _).trans hh, rest⟩
/-- one more -/
theorem Outs.push {vs : List Value} {u v' : Value} {bs : List UInt8} {s : Nat} (h2 : ∀ (i : Nat) (u : Value), vs[i]? = some u → ∃ bs, q[i]? = some bs ∧ Elem w (RowF F v) u bs) (hl : vs.length = q.length)
    (hu : Elem w (RowF F v) u bs) (hown : w'.ownsRow base e 1 v' (q.length + 1) (vs ++ [u])) (hg : w.grownBy w' v.ownBlock) (hat : v'.ownBlock = v.ownBlock ∨ v'.ownBlock = some s) (hs : w.heap.size ≤ s) : Outs w' base e F v' (q ++ [bs]) := by
  have step : ∀ {u : Value} {bs : List UInt8}, Elem w (RowF F v) u bs → Elem w' (RowF F v') u bs := fun {u bs} hh => by
    refine (hh.weak (X' := fun b => RowF F v b ∨ RowF F v' b) ?_).but hg (fun b e => .inl (.inr e)) |>.weak (fun b hb => .inl (.inr hb))
    rintro b (hb | hb | hb)
    · exact .inl hb
    · exact .inl (.inl hb)
    · rcases hat with ha | ha
      · exact .inl (.inr (by rw [← ha, hb]))
      · right; rw [hb] at ha; injection ha with ha; omega
  refine ⟨vs ++ [u], by rw [List.length_append, List.length_singleton]; exact hown, fun i x hx => ?_⟩
  rcases Nat.lt_or_ge i vs.length with hi | hi
  · rw [List.getElem?_append_left hi] at hx
    obtain ⟨bs', h3, h4⟩ := h2 i x hx
    exact ⟨bs', by rw [List.getElem?_append_left (by omega)]; exact h3, step h4⟩
  · rw [List.getElem?_append_right hi] at hx
    have hi0 : i - vs.length = 0 := by
      have := (List.getElem?_eq_some_iff.1 hx).1
      simp at this
      omega
    rw [hi0] at hx
    simp at hx
    subst hx
    exact ⟨bs, by rw [List.getElem?_append_right (by omega), ← hl, hi0]; rfl, step hu⟩
/-- an owned row reads -/
theorem Outs.read (h : Outs w base e F v q) : ∃ A c, v = .slice A q.length c ∧ (A = none → c = 0) ∧ q.length ≤ c ∧ c ≤ 9223372036854775807 ∧ QR w A q.length q := by
  obtain ⟨vs, h1, h2⟩ := h
  obtain ⟨A, c, rfl, hn, hm, hA, hf⟩ := own_flat h1
  unfold maxLen at hm
  exact ⟨A, c, rfl, hA, hn, by omega, vs, hf, by have := hf.1; omega, fun i u hu => by obtain ⟨bs, h3, h4⟩ := h2 i u hu; exact ⟨bs, h3, h4.weak (fun _ h => h.elim)⟩⟩
end
section
variable {w w' : World} {A : Option Addr} {n : Nat} {q : List (List UInt8)}
theorem QR.up (h : QR w A n q) (hx : Ext w w') : QR w' A n q := by
  obtain ⟨vs, h1, h2, h3⟩ := h
  exact ⟨vs, h1.up hx, h2, fun i u hu => by obtain ⟨bs, h3, h4⟩ := h3 i u hu; exact ⟨bs, h3, h4.up hx⟩⟩
theorem QR.len (h : QR w A n q) : q.length = n := by
  obtain ⟨vs, h1, h2, _⟩ := h
  have := h1.1
  omega
theorem QR.at_ {k : Nat} (h : QR w A n q) (hk : k < n) : ∃ b o A' n' c' bs, A = some ⟨b, o, none⟩ ∧ b < w.heap.size ∧ q[k]? = some bs ∧ w.cell? ⟨b, o + k, none⟩ = some (.slice A' n' c') ∧ (A' = none → c' = 0) ∧ n' ≤ c' ∧ c' ≤ 9223372036854775807 ∧ Byts w A' n' bs := by
  obtain ⟨vs, h1, h2, h3⟩ := h
  obtain ⟨b, o, rfl, hb, hc⟩ := h1.2 (by omega)
  obtain ⟨u, hu⟩ := getElem?_lt_some (l := vs) (k := k) (by have := h1.1; omega)
  obtain ⟨bs, hq, A', n', c', rfl, h4, h5, h6, h7, _⟩ := h3 k u hu
  exact ⟨b, o, A', n', c', bs, rfl, hb, hq, hc k _ hu, h4, h5, h6, h7⟩
theorem QR.nil_ : QR w none 0 [] := ⟨[], Flat.nil_, rfl, fun i u h => by simp at h⟩
end
end Go.Proofs.Ytjomoannlpadnaa
