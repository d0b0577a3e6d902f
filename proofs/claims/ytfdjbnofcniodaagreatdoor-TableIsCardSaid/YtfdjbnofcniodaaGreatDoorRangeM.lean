/- A range over a function whose body may write maps: over whatever program. -/
import Derived.Test.YtfdjbnofcniodaaGreatDoorNames
import Derived.Maps.OwnSet
namespace Go.Proofs.YtfdjbnofcniodaaGreatDoor
set_option linter.unusedVariables false
open Go.RowKit

/-- whatever is neither cells nor a map lies as it lay -/
structure KeepsLoops (W W' : World) : Prop where
  size : W.heap.size ≤ W'.heap.size
  same : ∀ (k : Nat) (o : Obj), W.heap[k]? = some o → o.isCells = false → (∀ es c, o ≠ .map es c) → W'.heap[k]? = some o
theorem KeepsLoops.trans {A B C : World} (h : KeepsLoops A B) (k : KeepsLoops B C) : KeepsLoops A C :=
  ⟨Nat.le_trans h.size k.size, fun i o hi ho hm => k.same i o (h.same i o hi ho hm) ho hm⟩
theorem KeepsLoops.ext {W W' : World} (h : Ext W W') : KeepsLoops W W' := ⟨h.size, fun _ _ hk _ _ => (h.block (Array.getElem?_eq_some_iff.1 hk).1).trans hk⟩
theorem KeepsLoops.turned {W W' : World} {b : Nat} (h : W.mapTurned W' b) : KeepsLoops W W' := by
  have hg := h.grown
  refine ⟨hg.size, fun k o hk hc hm => ?_⟩
  have hlt := (Array.getElem?_eq_some_iff.1 hk).1
  refine (hg.block k hlt ?_).trans hk
  intro e
  injection e with e
  subst e
  obtain ⟨es, c, _, _, hb, _⟩ := h
  rw [hb] at hk
  injection hk with hk
  exact hm es c hk.symm

/-- how the body of a round may be left -/
def leftByM (J1 : World → Prop) (Jx : Code → World → Prop) (W : World) : Exit → Act → World → Prop
  | .normal, _, W' => KeepsLoops W W' ∧ J1 W'
  | .ret, _, W' => KeepsLoops W W' ∧ Jx .ret W'
  | .exit id, _, W' => KeepsLoops W W' ∧ Jx (.exit id) W'
  | _, _, _ => False

/-- the iterator: whatever the book-keeping K, X is: yield's contract given, it ends in Jd, or in X where a round has left -/
def IteratesM {α : Type} (P : Program) (n : Nat) (gf : Nat) (lb : Array Value) (encs : α → Array Value) (B : Nat) (J0 : World → Prop) (Jy J1 : α → World → Prop) (Jd : World → Prop) : Prop :=
  ∀ (l : Nat) (K X : World → Prop) (W : World), (∀ W1 W2, K W1 → KeepsLoops W1 W2 → K W2) →
    (∀ x W1, Jy x W1 → K W1 → YieldAt Fence.wide (n - 1) P l (encs x) W1 fun e W' => (e = .returned (.bool true) ∧ J1 x W' ∧ K W') ∨ (e = .returned (.bool false) ∧ X W')) →
    J0 W → K W → B ≤ W.heap.size → CallsIn Fence.wide n P gf (#[.func (.yield l) #[] #[]] ++ lb) W fun e W' => (∃ v, e = .returned v) ∧ ((Jd W' ∧ K W') ∨ X W')

theorem range_lawM {α : Type} {P : Program} {n : Nat} {g : Operand} {ps : Array Tmp} {assign body : Code} {Q : Exit → Act → World → Prop} {a : Act} {w : World} {gf : Nat} {lb : Array Value}
    (hg : a.eval g = .func (.func gf) #[] lb) (eg : ∀ args w, (callFunc gf args).run P w = .ok (.enter gf args) w)
    (encs : α → Array Value) (hps : ∀ x, (encs x).size = ps.size) (J0 : World → Prop) (Jy J1 : α → World → Prop) (Jd : World → Prop) (Jx : Code → World → Prop)
    (s0 : Stab w.heap.size J0) (Ja : α → World → World → Prop) (wa : α → World → World) (hka : ∀ x W, KeepsLoops W (wa x W)) (hja : ∀ x W, Jy x W → Ja x W (wa x W)) (sy : ∀ x W0, Stab w.heap.size (Ja x W0)) (s1 : ∀ x, Stab w.heap.size (J1 x)) (sd : Stab w.heap.size Jd) (sx : ∀ c, Stab w.heap.size (Jx c))
    (a₁ : α → World → Act) (h0 : ∀ W, Ext w W → W.heap.size = w.heap.size + 2 → J0 W)
    (hassign : ∀ (l : Nat) (x : α) (W : World) (K : Act → World → Prop), K (a₁ x W) (wa x W) →
      assign.wpIn (Fence.wide.inRound l) (n - 1) P (Exit.then K (fun _ _ _ => False)) { tmps := (ps.zip (encs x)).foldl (fun t (p, v) => t.setIfInBounds p v) a.tmps, defers := [] } W)
    (hbody : ∀ (l : Nat) (x : α) (W0 W : World), Ja x W0 W → body.wpIn (Fence.wide.inRound l) (n - 1) P (leftByM (J1 x) Jx W) (a₁ x W0) W)
    (hiter : IteratesM P n gf lb encs w.heap.size J0 Jy J1 Jd)
    (hdone : ∀ (W : World), Jd W → W.heap[w.heap.size]? = some (.deferred (some [])) → Q .normal { a with defers := { target := .collected w.heap.size, args := #[] } :: a.defers } W)
    (hstop : ∀ (c : Code) (W : World), Jx c W → W.heap[w.heap.size]? = some (.deferred (some [])) → c.wpIn Fence.wide (n + 1) P Q { a with defers := { target := .collected w.heap.size, args := #[] } :: a.defers } W) :
    (Code.rangeFunc g ps assign body).wpIn Fence.wide (n + 1) P Q a w := by
  refine wpIn_rangeFunc fun fn hfn => ?_
  let rec_ : LoopState → Option Code → Loop := fun st pe => { state := st, pending := pe, fn, tmps := a.tmps, params := ps, assign, body, defers := w.heap.size }
  obtain ⟨W1, hW1⟩ : ∃ W1, (w.alloc (.deferred (some []))).alloc (.loop (rec_ .ready none)) = W1 := ⟨_, rfl⟩
  have hsz : W1.heap.size = w.heap.size + 2 := by rw [← hW1]; simp
  have hx1 : Ext w W1 := by rw [← hW1]; exact (Ext.new w _).alloc _
  have hL1 : W1.heap[w.heap.size + 1]? = some (.loop (rec_ .ready none)) := by
    rw [← hW1]
    have := World.alloc_heap_new (w.alloc (.deferred (some []))) (.loop (rec_ .ready none))
    rwa [World.size_alloc] at this
  have hD1 : W1.heap[w.heap.size]? = some (.deferred (some [])) := by
    rw [← hW1]; exact (Below.heap_alloc _ _ _ (by simp)).trans (World.alloc_heap_new w _)
  refine ⟨w.heap.size + 1, [{ target := .collected w.heap.size, args := #[] }], W1, { target := .fn (.func gf) lb, args := #[.func (.yield (w.heap.size + 1)) #[] #[]] }, W1, gf,
    #[.func (.yield (w.heap.size + 1)) #[] #[]] ++ lb, W1, ?_, ?_, fun _ _ => trivial, ?_, fun h => by simp [Fence.wide] at h, ?_⟩
  · rw [← hW1]; exact run_enterLoop_outer _ _ _ _ _
  · simp only [resolve, hg]
    simp [go_sem]
  · simp [invoke, go_sem, eg]
  · refine (hiter (w.heap.size + 1) (fun W => W.heap[w.heap.size + 1]? = some (.loop (rec_ .ready none)) ∧ W.heap[w.heap.size]? = some (.deferred (some [])))
      (fun W => ∃ c, Jx c W ∧ W.heap[w.heap.size + 1]? = some (.loop (rec_ .done (some c))) ∧ W.heap[w.heap.size]? = some (.deferred (some []))) W1
      (fun A B h k => ⟨k.same _ _ h.1 rfl (fun _ _ h => by cases h), k.same _ _ h.2 rfl (fun _ _ h => by cases h)⟩) ?_ (h0 W1 hx1 hsz) ⟨hL1, hD1⟩ (by omega)).mono ?_
    · rintro x W hJ ⟨hl, hd⟩
      obtain ⟨Wa, hWa⟩ : ∃ Wa, Wa = wa x W := ⟨_, rfl⟩
      have hJa := hja x W hJ
      have hk0 := hka x W
      rw [← hWa] at hJa hk0
      refine ⟨fn, _, assign, body, run_yield (P := P) (args := encs x) hl (hps x), roundIn_of_wpIn hfn (hassign _ x W _ ?_)⟩
      rw [← hWa]
      replace hl := hk0.same _ _ hl rfl (fun _ _ h => by cases h)
      replace hd := hk0.same _ _ hd rfl (fun _ _ h => by cases h)
      have hlt : w.heap.size + 1 < Wa.heap.size := (Array.getElem?_eq_some_iff.1 hl).1
      refine ⟨_, run_beginRound hl rfl, ?_⟩
      have hl2 : (Wa.putObj (w.heap.size + 1) (.loop { rec_ .ready none with state := .busy })).heap[w.heap.size + 1]? = some (.loop { rec_ .ready none with state := .busy }) := World.putObj_heap_same hlt
      have hd2 : (Wa.putObj (w.heap.size + 1) (.loop { rec_ .ready none with state := .busy })).heap[w.heap.size]? = some (.deferred (some [])) := (World.putObj_heap_other (by omega)).trans hd
      refine wpIn_mono (hbody _ x W _ (sy x W Wa _ _ _ hJa (by omega) hl rfl)) ?_
      have fin : ∀ (jump : Option Code) (W3 : World), KeepsLoops (Wa.putObj (w.heap.size + 1) (.loop { rec_ .ready none with state := .busy })) W3 →
          W3.heap[w.heap.size + 1]? = some (.loop { rec_ .ready none with state := .busy }) ∧
          (Instr.endRound (w.heap.size + 1) jump).run P W3 = .ok (.bool jump.isNone) (W3.putObj (w.heap.size + 1) (.loop (rec_ (if jump.isNone then .ready else .done) jump))) ∧
          (W3.putObj (w.heap.size + 1) (.loop (rec_ (if jump.isNone then .ready else .done) jump))).heap[w.heap.size + 1]? = some (.loop (rec_ (if jump.isNone then .ready else .done) jump)) ∧
          (W3.putObj (w.heap.size + 1) (.loop (rec_ (if jump.isNone then .ready else .done) jump))).heap[w.heap.size]? = some (.deferred (some [])) := fun jump W3 hk => by
        have hl3 := hk.same _ _ hl2 rfl (fun _ _ h => by cases h)
        exact ⟨hl3, run_endRound (P := P) jump hl3, World.putObj_heap_same (Array.getElem?_eq_some_iff.1 hl3).1, (World.putObj_heap_other (by omega)).trans (hk.same _ _ hd2 rfl (fun _ _ h => by cases h))⟩
      rintro e a3 W3 hp
      cases e with
      | normal =>
        obtain ⟨hk, hj⟩ := hp
        obtain ⟨hl3, hr, hl4, hd4⟩ := fin none W3 hk
        exact ⟨_, _, hr, .inl ⟨rfl, s1 x _ _ _ _ hj (by omega) hl3 rfl, hl4, hd4⟩⟩
      | ret =>
        obtain ⟨hk, hj⟩ := hp
        obtain ⟨hl3, hr, hl4, hd4⟩ := fin (some .ret) W3 hk
        exact ⟨_, _, hr, .inr ⟨rfl, .ret, sx _ _ _ _ _ hj (by omega) hl3 rfl, hl4, hd4⟩⟩
      | exit id =>
        obtain ⟨hk, hj⟩ := hp
        obtain ⟨hl3, hr, hl4, hd4⟩ := fin (some (.exit id)) W3 hk
        exact ⟨_, _, hr, .inr ⟨rfl, .exit id, sx _ _ _ _ _ hj (by omega) hl3 rfl, hl4, hd4⟩⟩
      | goto t => exact hp.elim
      | panic ch => exact hp.elim
      | outgrown => exact hp.elim
    · rintro e W2 ⟨⟨v, rfl⟩, (⟨hj, hl, hd⟩ | ⟨c, hj, hl, hd⟩)⟩
      · exact ⟨none, _, run_endLoop (P := P) hl (fun h => by cases h), hdone _ (sd _ _ _ _ hj (by omega) hl rfl) ((World.putObj_heap_other (by omega)).trans hd)⟩
      · exact ⟨some c, _, run_endLoop (P := P) hl (fun h => by cases h), hstop c _ (sx _ _ _ _ _ hj (by omega) hl rfl) ((World.putObj_heap_other (by omega)).trans hd)⟩
end Go.Proofs.YtfdjbnofcniodaaGreatDoor
