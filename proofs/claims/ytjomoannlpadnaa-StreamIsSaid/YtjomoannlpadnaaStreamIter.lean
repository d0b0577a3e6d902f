/- What the iterator of package stream's Feed tells, and what the loop over it leaves. -/
import Derived.Test.YtjomoannlpadnaaStream
import Derived.Test.YtjomoannlpadnaaQueue
import Derived.Shelf.Abstract
import Derived.Shelf.RegionOpen
import Derived.OwnWalkIn
import Derived.TacticsInMore
import Derived.LoopNIn
import Derived.LoopIn
namespace Go.Proofs.Ytjomoannlpadnaa
set_option linter.unusedVariables false
open Go.RowKit Go.Shelf
attribute [local go_sem] Oper.semAt_some
attribute [local go_sem ↓] run_max2 run_min2

theorem drain_count (n : Nat) : ∀ bs : List UInt8, bs.length ≤ n → (drain bs).1.length ≤ bs.length := by
  induction n with
  | zero =>
    intro bs h
    have : bs = [] := List.eq_nil_of_length_eq_zero (by omega)
    subst this
    rw [drain_short (by decide)]
    simp
  | succ n ih =>
    intro bs h
    by_cases h1 : (next bs).2.2 = 1
    · rw [drain_short h1]; simp
    · by_cases h0 : (next bs).2.2 = 0
      · obtain ⟨p, k, z, hx⟩ : ∃ p n z, next bs = (p, n, z) := ⟨_, _, _, rfl⟩
        obtain rfl : z = 0 := by rw [hx] at h0; exact h0
        have hp := next_pos hx
        rw [drain_ok hx]
        have := ih (bs.drop k) (by rw [List.length_drop]; omega)
        rw [List.length_drop] at this
        simp only [List.length_cons]
        omega
      · rw [drain_bad h1 h0]; simp

theorem Elem.nil_ {w : World} {X : Nat → Prop} : Elem w X (.slice none 0 0) [] := ⟨none, 0, 0, rfl, fun _ => rfl, Nat.le_refl _, by omega, ArrR.nil_, fun h => absurd h (by omega)⟩
/-- the head is taken off -/
def cutSlice (b o m c N : Nat) : Value := if c = N then .slice (some ⟨b, o, none⟩) 0 0 else .slice (some ⟨b, o + N, none⟩) (m - N) (c - N)
theorem cutSlice_form (b o m c N : Nat) (hm : m ≤ c) (hN : N ≤ m) : ∃ o' c', cutSlice b o m c N = .slice (some ⟨b, o', none⟩) (m - N) c' := by
  unfold cutSlice
  split
  · exact ⟨o, 0, by rw [show m - N = 0 by omega]⟩
  · exact ⟨_, _, rfl⟩
theorem Elem.cut {w : World} {X : Nat → Prop} {b o m c N : Nat} {bs : List UInt8} (h : Elem w X (.slice (some ⟨b, o, none⟩) m c) bs) (hN : N ≤ m) (hp : 0 < m) : Elem w X (cutSlice b o m c N) (bs.drop N) := by
  obtain ⟨A, n, c', e, h1, h2, h3, h4, h5⟩ := h
  injection e with e1 e2 e3
  subst e1 e2 e3
  unfold cutSlice
  split
  · rename_i hc
    obtain rfl : m = N := by omega
    refine ⟨_, _, _, rfl, (fun h => by cases h), Nat.le_refl _, by omega, ?_, fun h => absurd h (by omega)⟩
    rw [List.drop_eq_nil_of_le (by rw [h4.1]; exact Nat.le_refl _)]
    exact ArrR.nil_
  · refine ⟨_, _, _, rfl, (fun h => by cases h), by omega, by omega, byts_drop h4 N, fun hn b' o' e => ?_⟩
    injection e with e
    injection e with e1 e2
    subst e1
    exact h5 hp b o rfl
theorem Own8.elem {B : Nat} {w : World} {A : Option Addr} {n c : Nat} {bs : List UInt8} (h : Own8 B w A n c bs) {X : Nat → Prop} (hX : ∀ b, X b → b < B) : Elem w X (.slice A n c) bs :=
  ⟨A, n, c, rfl, h.1, h.2.1, h.2.2.1, h.2.2.2.1, fun _ b o e hx => by have := h.2.2.2.2 b o e; have := hX b hx; omega⟩

/-- the boxes of Feed: the stream's, the pointer's, out's, the result's -/
structure Bx where
  gb : Nat
  gp : Nat
  go : Nat
  gr : Nat
  lo : Nat
def Bx.F (B : Bx) (b : Nat) : Prop := b = B.gb ∨ b = B.gp ∨ b = B.go ∨ b = B.gr ∨ b < B.lo
structure Bx.Ok (B : Bx) (base : Nat) : Prop where
  b1 : B.gb < base
  b2 : B.gp < base
  b3 : B.go < base
  b4 : B.gr < base
  b5 : B.lo ≤ base
  n1 : B.gb ≠ B.gp
  n2 : B.gb ≠ B.go
  n3 : B.gb ≠ B.gr
  n4 : B.gp ≠ B.go
  n5 : B.gp ≠ B.gr
  n6 : B.go ≠ B.gr

/-- between two steps: q has come, the stream is x -/
structure FI (w0 : World) (B : Bx) (base : Nat) (v : Value) (q : List (List UInt8)) (x : Bf) (W : World) : Prop where
  buf : ∃ A n c, W.heap[B.gb]? = some (.cells #[.slice A n c, .int .i64 x.bad] 86 (0, 0)) ∧ Elem W (RowF B.F v) (.slice A n c) x.rest
  ptr : W.heap[B.gp]? = some (.cells #[.pointer (some ⟨B.gb, 0, none⟩)] 127 (0, 0))
  out : W.heap[B.go]? = some (.cells #[v] 35 (0, 0))
  res : W.heap[B.gr]? = some (.cells #[.slice none 0 0, .int .i64 0] 86 (0, 0))
  row : Outs W base 42 B.F v q
  ext : Ext w0 W
  sz : base ≤ W.heap.size
section
variable {w0 W W' : World} {B : Bx} {base : Nat} {v : Value} {q : List (List UInt8)} {x : Bf}
theorem FI.up (h : FI w0 B base v q x W) (hx : Ext W W') : FI w0 B base v q x W' := by
  obtain ⟨A, n, c, h1, h2⟩ := h.buf
  have lt : ∀ {g : Nat} {o : Obj}, W.heap[g]? = some o → W'.heap[g]? = some o := fun hg => (hx.block (Array.getElem?_eq_some_iff.1 hg).1).trans hg
  exact ⟨⟨A, n, c, lt h1, h2.up hx⟩, lt h.ptr, lt h.out, lt h.res, h.row.up hx, h.ext.trans hx, Nat.le_trans h.sz hx.size⟩
theorem FI.stab {b : Nat} (hb : w0.heap.size ≤ b) : Stab b (FI w0 B base v q x) := fun W l o o' h hl ho hc => by
  have k := SameCells.putObj ho hc o'
  obtain ⟨A, n, c, h1, h2⟩ := h.buf
  exact ⟨⟨A, n, c, k.same _ _ _ _ h1, h2.same k⟩, k.same _ _ _ _ h.ptr, k.same _ _ _ _ h.out, k.same _ _ _ _ h.res, h.row.same k, h.ext.putObj (by omega) o', by simpa using h.sz⟩
/-- the stream is stored anew -/
theorem FI.setBuf (h : FI w0 B base v q x W) (hB : B.Ok base) (hw : w0.heap.size ≤ B.gb) {A : Option Addr} {n c : Nat} {r : List UInt8} (he : Elem W (RowF B.F v) (.slice A n c) r) : FI w0 B base v q ⟨r, x.bad⟩ (W.setCell ⟨B.gb, 0, none⟩ (.slice A n c)) := by
  obtain ⟨A', n', c', h1, h2⟩ := h.buf
  have far : ∀ {g : Nat} {o : Obj}, B.gb ≠ g → W.heap[g]? = some o → (W.setCell ⟨B.gb, 0, none⟩ (.slice A n c)).heap[g]? = some o := fun hne hg => (blk_far (Ne.symm hne) _).trans hg
  exact ⟨⟨A, n, c, blk_set h1 _, he.but (grownBy_set W B.gb 0 _) (fun b e => by injection e with e; exact .inl (.inl e.symm))⟩, far hB.n1 h.ptr, far hB.n2 h.out, far hB.n3 h.res, h.row.set (.inl rfl) hB.b1 0 _, h.ext.set hw _, by simpa [World.setCell] using h.sz⟩
theorem FI.setBad (h : FI w0 B base v q x W) (hB : B.Ok base) (hw : w0.heap.size ≤ B.gb) (e : Int) : FI w0 B base v q ⟨x.rest, e⟩ (W.setCell ⟨B.gb, 1, none⟩ (.int .i64 e)) := by
  obtain ⟨A', n', c', h1, h2⟩ := h.buf
  have far : ∀ {g : Nat} {o : Obj}, B.gb ≠ g → W.heap[g]? = some o → (W.setCell ⟨B.gb, 1, none⟩ (.int .i64 e)).heap[g]? = some o := fun hne hg => (blk_far (Ne.symm hne) _).trans hg
  exact ⟨⟨A', n', c', blk_set h1 _, h2.but (grownBy_set W B.gb 1 _) (fun b e => by injection e with e; exact .inl (.inl e.symm))⟩, far hB.n1 h.ptr, far hB.n2 h.out, far hB.n3 h.res, h.row.set (.inl rfl) hB.b1 1 _, h.ext.set hw _, by simpa [World.setCell] using h.sz⟩
end

/-- one more has come -/
theorem FI.push {w0 W w5 : World} {B : Bx} {base : Nat} {v v' u : Value} {q : List (List UInt8)} {x : Bf} {vs : List Value} {p : List UInt8} {t : TypeId} (h : FI w0 B base v q x W) (hB : B.Ok base) (hw : w0.heap.size ≤ B.go) (hb0 : w0.heap.size ≤ base)
    (hov : W.ownsRow base 42 1 v q.length vs) (h2 : ∀ (i : Nat) (u : Value), vs[i]? = some u → ∃ bs, q[i]? = some bs ∧ Elem W (RowF B.F v) u bs) (hl : vs.length = q.length) (hu : Elem W (RowF B.F v) u p)
    (hown : w5.ownsRow base 42 1 v' (q.length + 1) (vs ++ [u])) (hg : (W.alloc (.cells #[u] t)).grownBy w5 v.ownBlock) (hat : v'.ownBlock = v.ownBlock ∨ v'.ownBlock = some (W.alloc (.cells #[u] t)).heap.size) :
    FI w0 B base v' (q ++ [p]) x (w5.setCell ⟨B.go, 0, none⟩ v') ∧ KeepsOthers W (w5.setCell ⟨B.go, 0, none⟩ v') ∧ w5.heap[B.go]? = some (.cells #[v] 35 (0, 0)) := by
  have hx1 : Ext W (W.alloc (.cells #[u] t)) := Ext.new _ _
  obtain ⟨A, n, c, hgb, hel⟩ := h.buf
  have hne : ∀ g, B.F g → some g ≠ v.ownBlock := fun g hF e => by
    have h1 := (hov.lt g e.symm).1
    rcases hF with rfl | rfl | rfl | rfl | hF
    · have := hB.b1; omega
    · have := hB.b2; omega
    · have := hB.b3; omega
    · have := hB.b4; omega
    · have := hB.b5; omega
  have keep : ∀ {g : Nat} {o : Obj}, B.F g → W.heap[g]? = some o → w5.heap[g]? = some o := fun hF hg' =>
    (hg.block _ (Nat.lt_of_lt_of_le (Array.getElem?_eq_some_iff.1 hg').1 hx1.size) (hne _ hF)).trans ((hx1.block (Array.getElem?_eq_some_iff.1 hg').1).trans hg')
  have far : ∀ {g : Nat} {o : Obj}, B.go ≠ g → B.F g → W.heap[g]? = some o → (w5.setCell ⟨B.go, 0, none⟩ v').heap[g]? = some o := fun hne hF hg' => (blk_far (Ne.symm hne) _).trans (keep hF hg')
  have step : ∀ {u : Value} {bs : List UInt8}, Elem W (RowF B.F v) u bs → Elem w5 (RowF B.F v') u bs := fun {u bs} hh => by
    refine ((hh.up hx1).weak (X' := fun b => RowF B.F v b ∨ RowF B.F v' b) ?_).but hg (fun b e => .inl (.inr e)) |>.weak (fun b hb => .inl (.inr hb))
    rintro b (hb | hb | hb)
    · exact .inl hb
    · exact .inl (.inl hb)
    · rcases hat with ha | ha
      · exact .inl (.inr (by rw [← ha, hb]))
      · right; rw [hb] at ha; injection ha with ha; omega
  have hrow : Outs w5 base 42 B.F v' (q ++ [p]) := Outs.push (w := W.alloc (.cells #[u] t)) (s := (W.alloc (.cells #[u] t)).heap.size) (fun i u hu => by obtain ⟨bs, h3, h4⟩ := h2 i u hu; exact ⟨bs, h3, h4.up hx1⟩) hl (hu.up hx1) hown hg hat (Nat.le_refl _)
  have hgo := keep (.inr (.inr (.inl rfl))) h.out
  refine ⟨⟨⟨A, n, c, far (Ne.symm hB.n2) (.inl rfl) hgb, (step hel).but (grownBy_set w5 B.go 0 v') (fun b e => by injection e with e; exact .inl (.inr (.inr (.inl e.symm))))⟩, far (Ne.symm hB.n4) (.inr (.inl rfl)) h.ptr, blk_set hgo _, far hB.n6 (.inr (.inr (.inr (.inl rfl)))) h.res,
    hrow.set (.inr (.inr (.inl rfl))) hB.b3 0 v', ?_, ?_⟩, ?_, hgo⟩
  · exact ((h.ext.alloc _).grown hg (own_up hov hx1) hb0).set hw _
  · have h1 := hg.size
    have h2 := hx1.size
    have h3 := h.sz
    simp only [World.setCell, Array.size_modify]
    omega
  · refine ((KeepsOthers.alloc W _).trans (KeepsOthers.of_grownBy hg fun j o ej hj => ?_)).trans (KeepsOthers.setCell _ _ _)
    have hown2 := own_up hov hx1
    rcases hown2.2 with ⟨rfl, _⟩ | ⟨g, cap, cur, rfl, _, hh, _⟩
    · simp [Value.ownBlock] at ej
    · simp [Value.ownBlock] at ej
      subst ej
      rw [hh] at hj
      injection hj with hj
      rw [← hj]
      rfl

/-- what will have come at the end, and what is left -/
def Dn (D : List (List UInt8) × Bf) (q : List (List UInt8)) (x : Bf) : Prop := (x.bad = 0 ∧ D = (q ++ (drain x.rest).1, (drain x.rest).2)) ∨ (x.bad ≠ 0 ∧ D = (q, x))
/-- what yield is called with: the slice, its bytes, what is left then -/
structure Yd where
  A : Option Addr
  n : Nat
  c : Nat
  p : List UInt8
  rest : List UInt8
def Yd.enc (a : Yd) : Array Value := #[.slice a.A a.n a.c]
def FJ0 (w0 : World) (B : Bx) (base : Nat) (D : List (List UInt8) × Bf) (x : Bf) (W : World) : Prop := ∃ v, FI w0 B base v [] x W ∧ Dn D [] x
def FJy (w0 : World) (B : Bx) (base : Nat) (D : List (List UInt8) × Bf) (a : Yd) (W : World) : Prop := ∃ v q, FI w0 B base v q ⟨a.rest, 0⟩ W ∧ Elem W (RowF B.F v) (.slice a.A a.n a.c) a.p ∧ D = (q ++ a.p :: (drain a.rest).1, (drain a.rest).2)
def FJ1 (w0 : World) (B : Bx) (base : Nat) (D : List (List UInt8) × Bf) (a : Yd) (W : World) : Prop := ∃ v q, FI w0 B base v q ⟨a.rest, 0⟩ W ∧ Dn D q ⟨a.rest, 0⟩
def FJd (w0 : World) (B : Bx) (base : Nat) (D : List (List UInt8) × Bf) (W : World) : Prop := ∃ v, FI w0 B base v D.1 D.2 W

def sliceLen : Option Value → Nat
  | some (.slice _ n _) => n
  | _ => 0
theorem keeps_ext {W W' : World} (h : Ext W W') : KeepsOthers W W' := ⟨h.size, fun _ _ hk _ => (h.block (Array.getElem?_eq_some_iff.1 hk).1).trans hk⟩

def FLoop (w0 : World) (B : Bx) (base : Nat) (D : List (List UInt8) × Bf) (K : World → Prop) (W : World) : Prop := ∃ v q x, FI w0 B base v q x W ∧ Dn D q x ∧ K W

set_option maxRecDepth 100000 in
set_option maxHeartbeats 4000000 in
theorem come_iter (n : Nat) (w0 : World) (B : Bx) (base s : Nat) (D : List (List UInt8) × Bf) (x0 : Bf) (hB : B.Ok base) (hw : w0.heap.size ≤ B.gb) (hs : base ≤ s) :
    Iterates Try.prog n 87 #[.pointer (some ⟨B.gp, 0, none⟩)] Yd.enc s (FJ0 w0 B base D x0) (FJy w0 B base D) (FJ1 w0 B base D) (FJd w0 B base D) := by
  intro l K X W hKk hY h0 hK hBs
  have HKk := Lib.hid hKk
  have HY := Lib.hid hY
  obtain ⟨v0, hI0, hD0⟩ := h0
  have H0 : Hid (FLoop w0 B base D K W) := Lib.hid ⟨v0, [], x0, hI0, hD0, hK⟩
  clear hKk hY hI0 hD0 hK
  refine callsIn_of_wp Try.func87 rfl trivial ?_ rfl
  simp only [Try.ntmps87, List.size_toArray, List.length_cons, List.length_nil, Nat.reduceAdd, Nat.reduceSub, Array.replicate_succ, Array.replicate_zero, List.push_toArray, List.append_toArray, List.nil_append, List.cons_append]
  gi_wp2
  gi_loopw [3] (fun _ wr => FLoop w0 B base D K wr) (fun _ wr => sliceLen (wr.cell? ⟨B.gb, 0, none⟩))
  case atStart => exact H0.out
  case round =>
    obtain ⟨v, q, x, hI, hD, hK⟩ := hrel
    obtain ⟨A, m, c, hgb, hel⟩ := hI.buf
    obtain ⟨g0, g1⟩ := blk_rules hgb
    obtain ⟨p0, -⟩ := blk_rules hI.ptr
    have pc : wr.cell? ⟨B.gp, 0, none⟩ = some (.pointer (some ⟨B.gb, 0, none⟩)) := p0 0
    have HI := Lib.hid hI
    have HD := Lib.hid hD
    have HK := Lib.hid hK
    have HEL := Lib.hid hel
    have HGB := Lib.hid hgb
    clear hI hD hK hgb hel p0
    by_cases hbad : x.bad = 0
    · have hb : (x.bad == 0) = true := by simpa using hbad
      have HB0 := Lib.hid hbad
      have HDr : Hid (D = (q ++ (drain x.rest).1, (drain x.rest).2)) := Lib.hid (by
        rcases HD.out with ⟨_, h⟩ | ⟨h, _⟩
        · exact h
        · exact absurd hbad h)
      clear hbad
      obtain ⟨A', m', c', he, hA, hmc, hcm, hby, hoff⟩ := HEL.out
      injection he with e1 e2 e3
      subst e1 e2 e3
      have HBY := Lib.hid hby
      have HOF := Lib.hid hoff
      clear hby hoff
      have noDepth : Fence.wide.depth.isSome = true → 1 ≤ n := fun h => by simp [Fence.wide] at h
      gi_wp2
      refine ⟨trivial, noDepth, ?_⟩
      refine (callsIn_wide.2 (next_any A m c x.rest _ HBY.out hA hmc hcm)).mono ?_
      rintro e w2 ⟨A2, n2, c2, rfl, h8, hx2⟩
      have HX2 := Lib.hid hx2
      have HI2 := Lib.hid (HI.out.up hx2)
      have HK2 := Lib.hid (HKk.out _ _ HK.out (keeps_ext hx2))
      have pc2 : w2.cell? ⟨B.gp, 0, none⟩ = some (.pointer (some ⟨B.gb, 0, none⟩)) := (blk_rules HI2.out.ptr).1 0
      have HGB2 := Lib.hid ((hx2.block (Array.getElem?_eq_some_iff.1 HGB.out).1).trans HGB.out)
      obtain ⟨k0, k1⟩ := blk_rules HGB2.out
      have H8 := Lib.hid h8
      clear hx2 h8 g0 g1 pc
      rcases next_cases x.rest with ⟨er, he, _, hN⟩ | ⟨mm, k, hp, hm, hk0, hkl, henc, _, ⟨hl, hN⟩ | ⟨hl, hN⟩⟩
      · rw [hN]
        by_cases h1 : er = 1
        · subst h1
          have HDD : Hid (D = (q, x)) := Lib.hid (by rw [HDr.out, drain_short (by rw [hN]), List.append_nil, ← HB0.out])
          clear hN he
          gi_wp2
          refine bodyPost_ret (results_none rfl _ _ _) rfl ?_
          exact ⟨⟨_, rfl⟩, .inl ⟨⟨v, by rw [HDD.out]; exact HI2.out⟩, HK2.out⟩⟩
        · have hne1 : (er == 1) = false := by simpa using h1
          have hne0 : (er != 0) = true := by rcases he with rfl | rfl | rfl <;> decide
          have HDD : Hid (D = (q, ⟨[], er⟩)) := Lib.hid (by rw [HDr.out, drain_bad (by rw [hN]; exact h1) (by rw [hN]; simpa using hne0), hN, List.append_nil])
          clear hN he h1
          have pc3 : (w2.setCell ⟨B.gb, 0, none⟩ (.slice none 0 0)).cell? ⟨B.gp, 0, none⟩ = some (.pointer (some ⟨B.gb, 0, none⟩)) := (World.cell?_setCell_other w2 _ _ _ (fun e => hB.n1 (by injection e))).trans pc2
          have pc4 : (w2.setCell ⟨B.gb, 1, none⟩ (.int .i64 er)).cell? ⟨B.gp, 0, none⟩ = some (.pointer (some ⟨B.gb, 0, none⟩)) := (World.cell?_setCell_other w2 _ _ _ (fun e => hB.n1 (by injection e))).trans pc2
          gi_wp2
          gi_region
          all_goals
            gi_wp2
            refine bodyPost_ret (results_none rfl _ _ _) rfl ?_
            refine ⟨⟨_, rfl⟩, .inl ⟨⟨v, ?_⟩, ?_⟩⟩
            · rw [HDD.out]
              exact (((HI2.out.setBuf hB hw Elem.nil_).setBad hB hw er).up (Ext.refl _).drew)
            · exact HKk.out _ _ HK2.out (((KeepsOthers.setCell _ _ _).trans (KeepsOthers.setCell _ _ _)).trans (KeepsOthers.drew _))
      · rw [hN]
        have HDD : Hid (D = (q, x)) := Lib.hid (by rw [HDr.out, drain_short (by rw [hN]), List.append_nil, ← HB0.out])
        clear hN hp hm hk0 hkl henc hl
        gi_wp2
        refine bodyPost_ret (results_none rfl _ _ _) rfl ?_
        exact ⟨⟨_, rfl⟩, .inl ⟨⟨v, by rw [HDD.out]; exact HI2.out⟩, HK2.out⟩⟩
      · rw [hN]
        simp only []
        obtain ⟨N, hNN⟩ : ∃ N, N = k + mm := ⟨_, rfl⟩
        rw [← hNN] at hl hN ⊢
        have hml := HBY.out.len
        have hNm : N ≤ m := by omega
        have hN0 : 0 < N := by omega
        obtain ⟨b, o, u, e, -, -, -⟩ := Byts.at_ HBY.out (k := 0) (by omega)
        subst e
        have HN := Lib.hid hN
        have HML := Lib.hid hml
        clear hN hp hm hk0 hkl henc hl hNN hml
        obtain ⟨o', c', hcut⟩ := cutSlice_form b o m c N hmc hNm
        have HCUT := Lib.hid hcut
        have HE' : Hid (Elem w2 (RowF B.F v) (.slice (some ⟨b, o', none⟩) (m - N) c') (x.rest.drop N)) := Lib.hid (by rw [← hcut]; exact (HEL.out.up HX2.out).cut hNm (by omega))
        have HI3 : Hid (FI w0 B base v q ⟨x.rest.drop N, 0⟩ (w2.setCell ⟨B.gb, 0, none⟩ (.slice (some ⟨b, o', none⟩) (m - N) c'))) := Lib.hid (by have := HI2.out.setBuf hB hw HE'.out; rw [HB0.out] at this; exact this)
        have i1 : (N : Int) ≤ (c : Int) := by omega
        clear hcut
        have hrow : ∀ b, RowF B.F v b → b < wr.heap.size := by
          have hbs : base ≤ wr.heap.size := HI.out.sz
          rintro b (hb | hb)
          · rcases hb with rfl | rfl | rfl | rfl | hb
            · exact Nat.lt_of_lt_of_le hB.b1 hbs
            · exact Nat.lt_of_lt_of_le hB.b2 hbs
            · exact Nat.lt_of_lt_of_le hB.b3 hbs
            · exact Nat.lt_of_lt_of_le hB.b4 hbs
            · exact Nat.lt_of_lt_of_le hb (Nat.le_trans hB.b5 hbs)
          · obtain ⟨_, hw1, _⟩ := HI.out.row
            exact (hw1.lt b hb).2
        have HEP : Hid (Elem w2 (RowF B.F v) (.slice A2 n2 c2) ((x.rest.drop k).take mm)) := Lib.hid (by have := H8.out; rw [HN.out] at this; exact this.elem hrow)
        have HDE : Hid (D = (q ++ (x.rest.drop k).take mm :: (drain (x.rest.drop N)).1, (drain (x.rest.drop N)).2)) := Lib.hid (by rw [HDr.out, drain_ok HN.out])
        clear hrow
        by_cases hcN : c = N
        · have h1 := HCUT.out
          unfold cutSlice at h1
          rw [if_pos hcN] at h1
          injection h1 with h1 h2 h3
          injection h1 with h1
          injection h1 with _ h1 _
          subst h1 h3
          obtain rfl : m = N := by omega
          subst hcN
          clear h2
          rw [Nat.sub_self] at HI3
          gi_wp2
          gi_region
          obtain ⟨fn, tmps, assign, body, hy, hR⟩ := HY.out ⟨A2, n2, c2, (x.rest.drop k).take mm, x.rest.drop c⟩ (w2.setCell ⟨B.gb, 0, none⟩ (.slice (some ⟨b, o, none⟩) 0 0)).drew ⟨v, q, HI3.out.up (Ext.refl _).drew, (HEP.out.but (grownBy_set w2 B.gb 0 _) (fun b e => by injection e with e; exact .inl (.inl e.symm))).up (Ext.refl _).drew, HDE.out⟩ (HKk.out _ _ HK2.out ((KeepsOthers.setCell _ _ _).trans (KeepsOthers.drew _)))
          dsimp only [Yd.enc] at hy
          gi_wp2
          refine ⟨noDepth, hR.mono ?_⟩
          rintro e W3 (⟨rfl, ⟨v3, q3, hI3, hD3⟩, hK3⟩ | ⟨rfl, hX3⟩)
          · have HI4 := Lib.hid hI3
            have HD4 := Lib.hid hD3
            have HK4 := Lib.hid hK3
            clear hI3 hD3 hK3 hy hR
            gi_wp2
            go_roundw
            case rel => exact ⟨v3, q3, _, HI4.out, HD4.out, HK4.out⟩
            case measure =>
              obtain ⟨A5, n5, c5, h5, h6⟩ := HI4.out.buf
              rw [(blk_rules h5).1 0, (blk_rules HGB.out).1 0]
              obtain ⟨_, _, _, e6, _, _, _, h7, _⟩ := h6
              injection e6 with e7 e8 e9
              subst e8
              have h8 := h7.len
              rw [List.length_drop, HML.out] at h8
              show n5 < _
              simp only [sliceLen, List.getElem?_toArray, List.getElem?_cons_zero]
              omega
          · clear hy hR
            gi_wp2
            refine bodyPost_ret (results_none rfl _ _ _) rfl ?_
            exact ⟨⟨_, rfl⟩, .inr hX3⟩
        · have h1 := HCUT.out
          unfold cutSlice at h1
          rw [if_neg hcN] at h1
          injection h1 with h1 h2 h3
          injection h1 with h1
          injection h1 with _ h1 _
          subst h1 h3
          clear h2
          gi_wp2
          gi_region
          obtain ⟨fn, tmps, assign, body, hy, hR⟩ := HY.out ⟨A2, n2, c2, (x.rest.drop k).take mm, x.rest.drop N⟩ (w2.setCell ⟨B.gb, 0, none⟩ (.slice (some ⟨b, o + N, none⟩) (m - N) (c - N))).drew ⟨v, q, HI3.out.up (Ext.refl _).drew, (HEP.out.but (grownBy_set w2 B.gb 0 _) (fun b e => by injection e with e; exact .inl (.inl e.symm))).up (Ext.refl _).drew, HDE.out⟩ (HKk.out _ _ HK2.out ((KeepsOthers.setCell _ _ _).trans (KeepsOthers.drew _)))
          dsimp only [Yd.enc] at hy
          gi_wp2
          refine ⟨noDepth, hR.mono ?_⟩
          rintro e W3 (⟨rfl, ⟨v3, q3, hI3, hD3⟩, hK3⟩ | ⟨rfl, hX3⟩)
          · have HI4 := Lib.hid hI3
            have HD4 := Lib.hid hD3
            have HK4 := Lib.hid hK3
            clear hI3 hD3 hK3 hy hR
            gi_wp2
            go_roundw
            case rel => exact ⟨v3, q3, _, HI4.out, HD4.out, HK4.out⟩
            case measure =>
              obtain ⟨A5, n5, c5, h5, h6⟩ := HI4.out.buf
              rw [(blk_rules h5).1 0, (blk_rules HGB.out).1 0]
              obtain ⟨_, _, _, e6, _, _, _, h7, _⟩ := h6
              injection e6 with e7 e8 e9
              subst e8
              have h8 := h7.len
              rw [List.length_drop, HML.out] at h8
              show n5 < _
              simp only [sliceLen, List.getElem?_toArray, List.getElem?_cons_zero]
              omega
          · clear hy hR
            gi_wp2
            refine bodyPost_ret (results_none rfl _ _ _) rfl ?_
            exact ⟨⟨_, rfl⟩, .inr hX3⟩
    · have hb : (x.bad == 0) = false := by simpa using hbad
      have HDr : Hid (D = (q, x)) := Lib.hid (by
        rcases HD.out with ⟨h, _⟩ | ⟨_, h⟩
        · exact absurd h hbad
        · exact h)
      clear hbad
      gi_wp2
      go_end0
      exact ⟨⟨_, rfl⟩, .inl ⟨⟨v, by rw [HDr.out]; exact HI.out⟩, HK.out⟩⟩
end Go.Proofs.Ytjomoannlpadnaa
