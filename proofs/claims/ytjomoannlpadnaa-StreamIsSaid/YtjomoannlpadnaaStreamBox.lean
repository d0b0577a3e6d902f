/- A stream in a box beside the texts that have come out of it: one round of feeding. Over whatever program. -/
import Derived.Test.YtjomoannlpadnaaStreamPlain2
import Derived.Test.YtjomoannlpadnaaQueue2
namespace Go.Proofs.Ytjomoannlpadnaa
set_option linter.unusedVariables false
open Go.RowKit
section
variable {w w' : World} {base : Nat} {e : TypeId} {F F' : Nat → Prop} {v : Value} {q : List (List UInt8)}
theorem Outs.pushF {P : Program} {t : TypeId} {z : Value} {bytes : Nat} (E : ElemOk P t e z 1 bytes) (ty : TypeId) (h : Outs w base e F v q) {A : Option Addr} {m c : Nat} {us : List Value} {r : List (List UInt8)} (hf : Flat w 1 A m us) (hA : A = none → c = 0)
    (hl : us.length = r.length) (hus : ∀ (i : Nat) (u : Value), us[i]? = some u → ∃ bs, r[i]? = some bs ∧ Elem w (RowF F v) u bs) (h63 : q.length + m ≤ 4611686018427387904) (hbytes : (q.length + m) * bytes ≤ 140737488355328) (hbase : base ≤ w.heap.size) :
    ∃ v' w', (Builtin.append_ #[t, t] ty #[v, .slice A m c]).run P w = .ok v' w' ∧ Outs w' base e F v' (q ++ r) ∧ w.grownBy w' v.ownBlock ∧ (v'.ownBlock = v.ownBlock ∨ v'.ownBlock = some w.heap.size) := by
  obtain ⟨vs, hown, hels⟩ := h
  have hm : us.length = m := by have := hf.1; omega
  have hvl : vs.length = q.length := by have := hown.1; omega
  obtain ⟨v', w', hrun, hown', hg, hat⟩ := run_append_flat E ty hown c hf (fun u hu => by
    obtain ⟨i, hi⟩ := List.mem_iff_getElem?.1 hu
    obtain ⟨bs, _, hb⟩ := hus i u hi
    exact hb.one_cell) h63 hbytes hbase hA
  have step : ∀ {u : Value} {bs : List UInt8}, Elem w (RowF F v) u bs → Elem w' (RowF F v') u bs := fun {u bs} hh => by
    refine (hh.weak (X' := fun b => RowF F v b ∨ RowF F v' b) ?_).but hg (fun b e => .inl (.inr e)) |>.weak (fun b hb => .inl (.inr hb))
    rintro b (hb | hb | hb)
    · exact .inl hb
    · exact .inl (.inl hb)
    · rcases hat with ha | ha
      · exact .inl (.inr (by rw [← ha, hb]))
      · right; rw [hb] at ha; injection ha with ha; omega
  refine ⟨v', w', hrun, ⟨vs ++ us, by rw [List.length_append, ← hl, hm]; exact hown', fun i x hx => ?_⟩, hg, hat⟩
  rcases Nat.lt_or_ge i vs.length with hi | hi
  · rw [List.getElem?_append_left hi] at hx
    obtain ⟨bs', h3, h4⟩ := hels i x hx
    exact ⟨bs', by rw [List.getElem?_append_left (by omega)]; exact h3, step h4⟩
  · rw [List.getElem?_append_right hi] at hx
    obtain ⟨bs', h3, h4⟩ := hus _ x hx
    exact ⟨bs', by rw [List.getElem?_append_right (by omega), ← hvl]; exact h3, step h4⟩
theorem Outs.apartF {u : Value} {r : List (List UInt8)} (h : Outs w base e F u r) (hF' : ∀ b, F' b → F b) (hF : ∀ b, v.ownBlock = some b → F b) :
    ∃ A c us, u = .slice A r.length c ∧ (A = none → c = 0) ∧ Flat w 1 A r.length us ∧ us.length = r.length ∧ (∀ (i : Nat) (x : Value), us[i]? = some x → ∃ bs, r[i]? = some bs ∧ Elem w (RowF F' v) x bs) := by
  obtain ⟨us, h1, h2⟩ := h
  obtain ⟨A, c, rfl, _, _, hA, hf⟩ := own_flat h1
  refine ⟨A, c, us, rfl, hA, hf, by have := hf.1; omega, fun i x hx => ?_⟩
  obtain ⟨bs, h3, h4⟩ := h2 i x hx
  refine ⟨bs, h3, h4.weak (fun b hb => .inl ?_)⟩
  rcases hb with hb | hb
  · exact .inl (hF' b hb)
  · exact .inl (hF b hb)
end
/-- a stream in the box g, and the texts that have come out of it -/
structure SB (w0 : World) (g : Nat) (tb e : TypeId) (v : Value) (D : Bf × List (List UInt8)) (A : Option Addr) (n c : Nat) (wr : World) : Prop where
  box : wr.heap[g]? = some (.cells #[.slice A n c, .int .i64 D.1.bad] tb (0, 0))
  rest : Elem wr (fun b => b = g ∨ v.ownBlock = some b) (.slice A n c) D.1.rest
  row : Outs wr (g + 1) e (fun b => b = g) v D.2
  ext : Ext w0 wr
  g0 : w0.heap.size ≤ g
  gs : g < wr.heap.size
theorem SB.drewN {w0 wr : World} {g : Nat} {tb e : TypeId} {v : Value} {D : Bf × List (List UInt8)} {A : Option Addr} {n c : Nat} (h : SB w0 g tb e v D A n c wr) (k : Nat) : SB w0 g tb e v D A n c (wr.drewN k) :=
  have hx := (Ext.refl wr).drewN k
  ⟨(hx.block h.gs).trans h.box, h.rest.up hx, h.row.up hx, h.ext.trans hx, h.g0, Nat.lt_of_lt_of_le h.gs hx.size⟩
/-- one round: W1 is the world behind Feed, its new box written -/
theorem SB.round {P : Program} {t tb e : TypeId} {z : Value} {bytes : Nat} (E : ElemOk P t e z 1 bytes) (ty : TypeId) {w0 wr W1 : World} {g : Nat} {v v' : Value} {D D' : Bf × List (List UInt8)} {A A' : Option Addr} {n n' c c' : Nat} {base : Nat} {F : Nat → Prop}
    (h : SB w0 g tb e v D A n c wr) (xr : Ext wr W1) (he : Elem W1 (fun b => b < wr.heap.size ∨ v'.ownBlock = some b) (.slice A' n' c') D'.1.rest) (hbase : wr.heap.size ≤ base) (hF : ∀ b, b < wr.heap.size → F b) (ho : Outs W1 base e F v' D'.2)
    (h63 : D.2.length + D'.2.length ≤ 1000000) (hby : bytes ≤ 100) :
    ∃ A1 c1 v'' w'', v' = .slice A1 D'.2.length c1 ∧ (Builtin.append_ #[t, t] ty #[v, v']).run P ((W1.setCell ⟨g, 0, none⟩ (.slice A' n' c')).setCell ⟨g, 1, none⟩ (.int .i64 D'.1.bad)) = .ok v'' w'' ∧
      SB w0 g tb e v'' (D'.1, D.2 ++ D'.2) A' n' c' w'' := by
  have hvl : ∀ b, v.ownBlock = some b → g + 1 ≤ b ∧ b < wr.heap.size := fun b hb => h.row.lt b hb
  have hgf := h.gs
  have k1 := (xr.block h.gs).trans h.box
  have k2 := blk_set (i := 0) k1 (.slice A' n' c')
  have k3 := blk_set (i := 1) k2 (.int .i64 D'.1.bad)
  have o1 := ((h.row.up xr).set (g := g) rfl (Nat.lt_succ_self g) 0 (.slice A' n' c')).set (g := g) rfl (Nat.lt_succ_self g) 1 (.int .i64 D'.1.bad)
  have p1 := (ho.set (g := g) (hF g hgf) (by omega) 0 (.slice A' n' c')).set (g := g) (hF g hgf) (by omega) 1 (.int .i64 D'.1.bad)
  have e1 := (he.but (grownBy_set W1 g 0 (.slice A' n' c')) (fun b eb => by injection eb with eb; exact .inl (by omega))).but (grownBy_set _ g 1 (.int .i64 D'.1.bad)) (fun b eb => by injection eb with eb; exact .inl (by omega))
  have xs : Ext w0 ((W1.setCell ⟨g, 0, none⟩ (.slice A' n' c')).setCell ⟨g, 1, none⟩ (.int .i64 D'.1.bad)) := ((h.ext.trans xr).set h.g0 _).set h.g0 _
  have hsz : wr.heap.size ≤ ((W1.setCell ⟨g, 0, none⟩ (.slice A' n' c')).setCell ⟨g, 1, none⟩ (.int .i64 D'.1.bad)).heap.size := by
    simp only [World.setCell, Array.size_modify]
    exact xr.size
  obtain ⟨W3, hW3⟩ : ∃ W, W = (W1.setCell ⟨g, 0, none⟩ (.slice A' n' c')).setCell ⟨g, 1, none⟩ (.int .i64 D'.1.bad) := ⟨_, rfl⟩
  rw [← hW3] at k3 o1 p1 e1 xs hsz ⊢
  obtain ⟨A1, c1, us, rfl, hA1, hf, hl, hus⟩ := p1.apartF (F' := fun b => b = g) (v := v) (fun b hb => hF b (by omega)) (fun b hb => hF b (hvl b hb).2)
  obtain ⟨v'', w'', hrun, hO, hg, hat⟩ := Outs.pushF E ty o1 (c := c1) hf hA1 hl hus (by omega) (Nat.le_trans (Nat.mul_le_mul h63 hby) (by omega)) (by omega)
  refine ⟨A1, c1, v'', w'', rfl, hrun, ⟨?_, ?_, hO, ?_, h.g0, ?_⟩⟩
  · refine (hg.block g (by omega) (fun eb => by have := (hvl g eb.symm).1; omega)).trans k3
  · refine ((e1.weak (X' := fun b => b < wr.heap.size ∨ v''.ownBlock = some b) ?_).but hg (fun b eb => .inl (hvl b eb).2)).weak (fun b hb => .inl (hb.imp (fun hb => by omega) id))
    rintro b (hb | hb)
    · exact .inl (.inl hb)
    · rcases hat with ha | ha
      · exact .inl (.inl (hvl b (by rw [← ha, hb])).2)
      · right; rw [hb] at ha; injection ha with ha; omega
  · exact Below.grown xs hg xs.size fun b hb => by have := (hvl b hb).1; have := h.g0; omega
  · exact Nat.lt_of_lt_of_le (by omega) hg.size
end Go.Proofs.Ytjomoannlpadnaa
