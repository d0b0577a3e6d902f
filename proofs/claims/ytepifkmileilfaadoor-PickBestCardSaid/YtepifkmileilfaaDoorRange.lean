/- A range over a function whose iterator keeps a state of its own in memory, over whatever program. The iterator is walked with yield as a contract; the book-keeping (the loop's record, the block for deferred calls) is hidden behind two letters. -/
import Derived.Test.YtepifkmileilfaaDoorMem2
import Derived.RangeFuncNested
import Derived.RangeFuncBound
import Derived.RangeFuncCalls
import Derived.RangeFuncLeaves
import Derived.RangeFuncRecord
namespace Go.Proofs.YtepifkmileilfaaDoor
set_option linter.unusedVariables false
open Go.RowKit

/-- whatever is cells lies as it lay -/
structure SameCells (W W' : World) : Prop where
  size : W.heap.size ≤ W'.heap.size
  same : ∀ (k : Nat) (cs : Array Value) (t : TypeId) (m : Nat × Nat), W.heap[k]? = some (.cells cs t m) → W'.heap[k]? = some (.cells cs t m)
theorem SameCells.putObj {W : World} {l : Nat} {o : Obj} (hl : W.heap[l]? = some o) (ho : o.isCells = false) (o' : Obj) : SameCells W (W.putObj l o') :=
  ⟨by simp, fun k cs t m hk => (World.putObj_heap_other (fun e => by rw [e, hl] at hk; injection hk with hk; rw [hk] at ho; cases ho)).trans hk⟩
theorem SameCells.cell {W W' : World} (h : SameCells W W') {a : Addr} {v : Value} (hc : W.cell? a = some v) : W'.cell? a = some v := by
  obtain ⟨o, ho, hcs⟩ := cells_of_cell hc
  cases o with
  | cells cs t m => exact (World.cell?_of_block ((h.same _ _ _ _ ho).trans ho.symm)).trans hc
  | _ => cases hcs
section
variable {W W' : World} {A : Option Addr} {n size : Nat}
theorem ArrR.same {α : Type} {R : List Value → α → Prop} {xs : List α} (h : ArrR W size R A n xs) (k : SameCells W W') : ArrR W' size R A n xs :=
  ⟨h.1, fun hn => by
    obtain ⟨b, o, e, hb, hc⟩ := h.2 hn
    refine ⟨b, o, e, Nat.lt_of_lt_of_le hb k.size, fun i x hx => ?_⟩
    obtain ⟨cs, hl, hr, hcs⟩ := hc i x hx
    exact ⟨cs, hl, hr, fun j u hu => k.cell (hcs j u hu)⟩⟩
theorem Flat.same {xs : List Value} (h : Flat W size A n xs) (k : SameCells W W') : Flat W' size A n xs :=
  ⟨h.1, fun hn => by
    obtain ⟨b, o, e, hb, hc⟩ := h.2 hn
    exact ⟨b, o, e, Nat.lt_of_lt_of_le hb k.size, fun j u hu => k.cell (hc j u hu)⟩⟩
theorem own_same {base : Nat} {e : TypeId} {v : Value} {xs : List Value} (h : W.ownsRow base e size v n xs) (k : SameCells W W') : W'.ownsRow base e size v n xs := by
  refine ⟨h.1, ?_⟩
  rcases h.2 with hn | ⟨g, cap, cur, rfl, hg, hh, rest⟩
  · exact .inl hn
  · exact .inr ⟨g, cap, cur, rfl, hg, k.same _ _ _ _ hh, rest⟩
theorem Ext.putObj {w : World} (h : Ext w W) {l : Nat} (hl : w.heap.size ≤ l) (o : Obj) : Ext w (W.putObj l o) :=
  Below.grown h (grownBy_putObj' W l o) h.size fun _ e => by injection e with e; omega
end

/-- J abides a turn of a block that lies from B on and is no cells -/
def Stab (B : Nat) (J : World → Prop) : Prop := ∀ (W : World) (l : Nat) (o o' : Obj), J W → B ≤ l → W.heap[l]? = some o → o.isCells = false → J (W.putObj l o')

/-- how the body of a round may be left -/
def leftBy (J1 : World → Prop) (Jx : Code → World → Prop) (W : World) : Exit → Act → World → Prop
  | .normal, _, W' => KeepsOthers W W' ∧ J1 W'
  | .ret, _, W' => KeepsOthers W W' ∧ Jx .ret W'
  | .exit id, _, W' => KeepsOthers W W' ∧ Jx (.exit id) W'
  | _, _, _ => False

/-- the iterator: whatever the book-keeping K, X is: yield's contract given, it ends in Jd, or in X where a round has left -/
def Iterates {α : Type} (P : Program) (n : Nat) (gf : Nat) (lb : Array Value) (encs : α → Array Value) (B : Nat) (J0 : World → Prop) (Jy J1 : α → World → Prop) (Jd : World → Prop) : Prop :=
  ∀ (l : Nat) (K X : World → Prop) (W : World), (∀ W1 W2, K W1 → KeepsOthers W1 W2 → K W2) →
    (∀ x W1, Jy x W1 → K W1 → YieldAt Fence.wide (n - 1) P l (encs x) W1 fun e W' => (e = .returned (.bool true) ∧ J1 x W' ∧ K W') ∨ (e = .returned (.bool false) ∧ X W')) →
    J0 W → K W → B ≤ W.heap.size → CallsIn Fence.wide n P gf (#[.func (.yield l) #[] #[]] ++ lb) W fun e W' => (∃ v, e = .returned v) ∧ ((Jd W' ∧ K W') ∨ X W')

theorem range_law {α : Type} {P : Program} {n : Nat} {g : Operand} {ps : Array Tmp} {assign body : Code} {Q : Exit → Act → World → Prop} {a : Act} {w : World} {gf : Nat} {lb : Array Value}
    (hg : a.eval g = .func (.func gf) #[] lb) (eg : ∀ args w, (callFunc gf args).run P w = .ok (.enter gf args) w)
    (encs : α → Array Value) (hps : ∀ x, (encs x).size = ps.size) (J0 : World → Prop) (Jy J1 : α → World → Prop) (Jd : World → Prop) (Jx : Code → World → Prop)
    (s0 : Stab w.heap.size J0) (sy : ∀ x, Stab w.heap.size (Jy x)) (s1 : ∀ x, Stab w.heap.size (J1 x)) (sd : Stab w.heap.size Jd) (sx : ∀ c, Stab w.heap.size (Jx c))
    (a₁ : α → Act) (h0 : ∀ W, Ext w W → W.heap.size = w.heap.size + 2 → J0 W)
    (hassign : ∀ (l : Nat) (x : α) (W : World) (K : Act → World → Prop), K (a₁ x) W →
      assign.wpIn (Fence.wide.inRound l) (n - 1) P (Exit.then K (fun _ _ _ => False)) { tmps := (ps.zip (encs x)).foldl (fun t (p, v) => t.setIfInBounds p v) a.tmps, defers := [] } W)
    (hbody : ∀ (l : Nat) (x : α) (W : World), Jy x W → body.wpIn (Fence.wide.inRound l) (n - 1) P (leftBy (J1 x) Jx W) (a₁ x) W)
    (hiter : Iterates P n gf lb encs w.heap.size J0 Jy J1 Jd)
    (hdone : ∀ (W : World), Jd W → W.heap[w.heap.size]? = some (.deferred (some [])) → Q .normal { a with defers := { target := .collected w.heap.size, args := #[] } :: a.defers } W)
    (hstop : ∀ (c : Code) (W : World), Jx c W → W.heap[w.heap.size]? = some (.deferred (some [])) → c.wpIn Fence.wide (n + 1) P Q { a with defers := { target := .collected w.heap.size, args := #[] } :: a.defers } W) :
    (Code.rangeFunc g ps assign body).wpIn Fence.wide (n + 1) P Q a w := by
  refine wpIn_rangeFunc fun fn hfn => ?_
  let rec_ : LoopState → Option Code → Loop := fun st pe => { state := st, pending := pe, fn, tmps := a.tmps, params := ps, assign, body, defers := w.heap.size }
  obtain ⟨W1, hW1⟩ : ∃ W1, (w.alloc (.deferred (some []))).alloc (.loop (rec_ .ready none)) = W1 := ⟨_, rfl⟩
  have hsz : W1.heap.size = w.heap.size + 2 := by rw [← hW1]; simp
  have hx1 : Ext w W1 := by rw [← hW1]; exact (Ext.new w _).alloc _
  have hL1 : W1.heap[w.heap.size + 1]? = some (.loop (rec_ .ready none)) := by
    rw [← hW1]
    have := World.alloc_heap_new (w.alloc (.deferred (some []))) (.loop (rec_ .ready none))
    rwa [World.size_alloc] at this
  have hD1 : W1.heap[w.heap.size]? = some (.deferred (some [])) := by
    rw [← hW1]; exact (Below.heap_alloc _ _ _ (by simp)).trans (World.alloc_heap_new w _)
  refine ⟨w.heap.size + 1, [{ target := .collected w.heap.size, args := #[] }], W1, { target := .fn (.func gf) lb, args := #[.func (.yield (w.heap.size + 1)) #[] #[]] }, W1, gf,
    #[.func (.yield (w.heap.size + 1)) #[] #[]] ++ lb, W1, ?_, ?_, fun _ _ => trivial, ?_, fun h => by simp [Fence.wide] at h, ?_⟩
  · rw [← hW1]; exact run_enterLoop_outer _ _ _ _ _
  · simp only [resolve, hg]
    simp [go_sem]
  · simp [invoke, go_sem, eg]
  · refine (hiter (w.heap.size + 1) (fun W => W.heap[w.heap.size + 1]? = some (.loop (rec_ .ready none)) ∧ W.heap[w.heap.size]? = some (.deferred (some [])))
      (fun W => ∃ c, Jx c W ∧ W.heap[w.heap.size + 1]? = some (.loop (rec_ .done (some c))) ∧ W.heap[w.heap.size]? = some (.deferred (some []))) W1
      (fun A B h k => ⟨k.same _ _ h.1 rfl, k.same _ _ h.2 rfl⟩) ?_ (h0 W1 hx1 hsz) ⟨hL1, hD1⟩ (by omega)).mono ?_
    · rintro x W hJ ⟨hl, hd⟩
      have hlt : w.heap.size + 1 < W.heap.size := (Array.getElem?_eq_some_iff.1 hl).1
      refine ⟨fn, _, assign, body, run_yield (P := P) (args := encs x) hl (hps x), roundIn_of_wpIn hfn (hassign _ x W _ ⟨_, run_beginRound hl rfl, ?_⟩)⟩
      have hl2 : (W.putObj (w.heap.size + 1) (.loop { rec_ .ready none with state := .busy })).heap[w.heap.size + 1]? = some (.loop { rec_ .ready none with state := .busy }) := World.putObj_heap_same hlt
      have hd2 : (W.putObj (w.heap.size + 1) (.loop { rec_ .ready none with state := .busy })).heap[w.heap.size]? = some (.deferred (some [])) := (World.putObj_heap_other (by omega)).trans hd
      refine wpIn_mono (hbody _ x _ (sy x W _ _ _ hJ (by omega) hl rfl)) ?_
      have fin : ∀ (jump : Option Code) (W3 : World), KeepsOthers (W.putObj (w.heap.size + 1) (.loop { rec_ .ready none with state := .busy })) W3 →
          W3.heap[w.heap.size + 1]? = some (.loop { rec_ .ready none with state := .busy }) ∧
          (Instr.endRound (w.heap.size + 1) jump).run P W3 = .ok (.bool jump.isNone) (W3.putObj (w.heap.size + 1) (.loop (rec_ (if jump.isNone then .ready else .done) jump))) ∧
          (W3.putObj (w.heap.size + 1) (.loop (rec_ (if jump.isNone then .ready else .done) jump))).heap[w.heap.size + 1]? = some (.loop (rec_ (if jump.isNone then .ready else .done) jump)) ∧
          (W3.putObj (w.heap.size + 1) (.loop (rec_ (if jump.isNone then .ready else .done) jump))).heap[w.heap.size]? = some (.deferred (some [])) := fun jump W3 hk => by
        have hl3 := hk.same _ _ hl2 rfl
        exact ⟨hl3, run_endRound (P := P) jump hl3, World.putObj_heap_same (Array.getElem?_eq_some_iff.1 hl3).1, (World.putObj_heap_other (by omega)).trans (hk.same _ _ hd2 rfl)⟩
      rintro e a3 W3 hp
      cases e with
      | normal =>
        obtain ⟨hk, hj⟩ := hp
        obtain ⟨hl3, hr, hl4, hd4⟩ := fin none W3 hk
        exact ⟨_, _, hr, .inl ⟨rfl, s1 x _ _ _ _ hj (by omega) hl3 rfl, hl4, hd4⟩⟩
      | ret =>
        obtain ⟨hk, hj⟩ := hp
        obtain ⟨hl3, hr, hl4, hd4⟩ := fin (some .ret) W3 hk
        exact ⟨_, _, hr, .inr ⟨rfl, .ret, sx _ _ _ _ _ hj (by omega) hl3 rfl, hl4, hd4⟩⟩
      | exit id =>
        obtain ⟨hk, hj⟩ := hp
        obtain ⟨hl3, hr, hl4, hd4⟩ := fin (some (.exit id)) W3 hk
        exact ⟨_, _, hr, .inr ⟨rfl, .exit id, sx _ _ _ _ _ hj (by omega) hl3 rfl, hl4, hd4⟩⟩
      | goto t => exact hp.elim
      | panic ch => exact hp.elim
      | outgrown => exact hp.elim
    · rintro e W2 ⟨⟨v, rfl⟩, (⟨hj, hl, hd⟩ | ⟨c, hj, hl, hd⟩)⟩
      · exact ⟨none, _, run_endLoop (P := P) hl (fun h => by cases h), hdone _ (sd _ _ _ _ hj (by omega) hl rfl) ((World.putObj_heap_other (by omega)).trans hd)⟩
      · exact ⟨some c, _, run_endLoop (P := P) hl (fun h => by cases h), hstop c _ (sx _ _ _ _ _ hj (by omega) hl rfl) ((World.putObj_heap_other (by omega)).trans hd)⟩
end Go.Proofs.YtepifkmileilfaaDoor
