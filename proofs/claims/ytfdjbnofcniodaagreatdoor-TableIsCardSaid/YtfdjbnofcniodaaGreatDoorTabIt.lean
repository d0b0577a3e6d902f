/- slices.Backward over resources: the iterator. -/
import Derived.Test.YtfdjbnofcniodaaGreatDoorMapK
import Derived.Test.YtfdjbnofcniodaaGreatDoorRangeM
import Derived.Test.YtfdjbnofcniodaaGreatDoorNames
namespace Go.Proofs.YtfdjbnofcniodaaGreatDoor
set_option linter.unusedVariables false
open Go.RowKit Go.Maps

/-- a map holds what is found by key -/
def Holds (w : World) (l : List Rs) (f : Ky → Option Value) : Prop := ∀ k, (getT l k = none → f k = none) ∧ ∀ r, getT l k = some r → ∃ B m d B' m' d', f k = some (rsVal r B m d B' m' d') ∧ RsV All w r B m d B' m' d'
theorem Holds.nil_ (w : World) : Holds w [] (fun _ => none) := fun k => ⟨fun _ => rfl, fun r h => by cases h⟩
theorem Holds.up {w w' : World} {l : List Rs} {f : Ky → Option Value} (h : Holds w l f) (he : Ext w w') : Holds w' l f := fun k => ⟨(h k).1, fun r hr => by
  obtain ⟨B, m, d, B', m', d', h1, h2⟩ := (h k).2 r hr
  exact ⟨B, m, d, B', m', d', h1, h2.up he⟩⟩
theorem getT_drop {l : List Rs} {j : Nat} {r : Rs} (h : l[j]? = some r) (k : Ky) : getT (l.drop j) k = if r.key = k then some r else getT (l.drop (j + 1)) k := by
  obtain ⟨hj, he⟩ := List.getElem?_eq_some_iff.1 h
  rw [List.drop_eq_getElem_cons hj, he]
  unfold getT
  rw [List.find?_cons]
  by_cases e : r.key = k
  · rw [decide_eq_true e, if_pos e]
  · rw [decide_eq_false e, if_neg e]
theorem Holds.step {w : World} {l : List Rs} {j : Nat} {r : Rs} {f : Ky → Option Value} (h : Holds w (l.drop (j + 1)) f) (hl : l[j]? = some r) {B : Option Addr} {m d : Nat} {B' : Option Addr} {m' d' : Nat} (hv : RsV All w r B m d B' m' d') :
    Holds w (l.drop j) (fun k' => if k' = r.key then some (rsVal r B m d B' m' d') else f k') := fun k => by
  rw [getT_drop hl]
  by_cases e : r.key = k
  · subst e
    simp only [if_true]
    exact ⟨(fun h => by cases h), fun x hx => by injection hx with hx; subst hx; exact ⟨B, m, d, B', m', d', rfl, hv⟩⟩
  · rw [if_neg e]
    simp only [if_neg (Ne.symm e)]
    exact h k

structure IxI (w : World) (sl : Value) (W : World) : Prop where
  ext : Ext w W
  out : W.heap[w.heap.size + 1]? = some (.cells #[.map (some w.heap.size)] 136 (0, 0))
  cap : W.heap[w.heap.size + 2]? = some (.cells #[sl] 42 (0, 0))
theorem IxI.up {w W W' : World} {sl : Value} (h : IxI w sl W) (he : Ext W W') : IxI w sl W' :=
  ⟨h.ext.trans he, (he.block (Array.getElem?_eq_some_iff.1 h.out).1).trans h.out, (he.block (Array.getElem?_eq_some_iff.1 h.cap).1).trans h.cap⟩
/-- the resources from j on are in the map -/
def IxJ (w : World) (sl : Value) (n : Nat) (l : List Rs) (j : Nat) (W : World) : Prop := ∃ f, MapOf W w.heap.size (n - j) f ∧ Holds w (l.drop j) f ∧ IxI w sl W
structure Yl where
  k : Nat
  r : Rs
  B : Option Addr
  m : Nat
  d : Nat
  B' : Option Addr
  m' : Nat
  d' : Nat
def Yl.enc (y : Yl) : Array Value := #[.int .i64 y.k, .agg #[.int .i64 y.r.kind, .string y.r.name, .int .i64 y.r.ver, .int .i64 y.r.port, .string y.r.to, .slice y.B y.m y.d, .slice y.B' y.m' y.d']]
def IxY (w : World) (sl : Value) (n : Nat) (l : List Rs) (y : Yl) (W : World) : Prop := IxJ w sl n l (y.k + 1) W ∧ y.k < n ∧ l[y.k]? = some y.r ∧ RsV All w y.r y.B y.m y.d y.B' y.m' y.d'
def IxX (c : Code) (W : World) : Prop := False
theorem IxJ.stab {w : World} {sl : Value} {n : Nat} {l : List Rs} {j B : Nat} (hB : w.heap.size + 3 ≤ B) : Stab B (IxJ w sl n l j) := fun W q o o' ⟨f, h1, h2, h3⟩ hl ho hc => by
  have k := SameCells.putObj ho hc o'
  exact ⟨f, h1.blk (World.putObj_heap_other (by omega)), h2, h3.ext.putObj (by omega) o', k.same _ _ _ _ h3.out, k.same _ _ _ _ h3.cap⟩
/-- where the iterator stands -/
def ItS (j : Nat) (i : Value) : Prop := (∃ p : Nat, j = p + 1 ∧ i = .int .i64 (p : Int)) ∨ (j = 0 ∧ i = .int .i64 (-1))
def ItL (w : World) (sl : Value) (n : Nat) (l : List Rs) (K : World → Prop) (i : Value) (W : World) : Prop := ∃ j, j ≤ n ∧ ItS j i ∧ IxJ w sl n l j W ∧ K W
def itM : Value → Nat
  | .int _ x => (x + 1).toNat
  | _ => 0

theorem back_any (A : Option Addr) (n c : Nat) (w : World) : Calls Tryz.prog 178 #[.slice A n c] w fun e w' => e = .returned (.func (.func 213) #[] #[.pointer (some ⟨w.heap.size, 0, none⟩)]) ∧ w' = w.alloc (.cells #[.slice A n c] 42) := by
  have hmf : ∀ (fn : Fn) (first cap : Array Value) (w : World), (Instr.makeFunc fn first cap).run Tryz.prog w = .ok (.func fn first cap) w := fun _ _ _ _ => rfl
  go_enter Tryz.func178, Tryz.ntmps178
  go_wp2_with fail
  go_ret
  exact ⟨rfl, rfl⟩

attribute [local go_sem] Oper.semAt_some
set_option maxRecDepth 100000 in
set_option maxHeartbeats 4000000 in
theorem back_iter (nn : Nat) (w : World) (A : Option Addr) (n c : Nat) (l : List Rs) (b : Nat) (hn : n ≤ 1000000) (hA : ResL All w A n l) :
    IteratesM Tryz.prog nn 213 #[.pointer (some ⟨w.heap.size + 2, 0, none⟩)] Yl.enc b (IxJ w (.slice A n c) n l n) (IxY w (.slice A n c) n l) (fun y => IxJ w (.slice A n c) n l y.k) (IxJ w (.slice A n c) n l 0) := by
  intro lp K X W hKk hY h0 hK hBs
  have HY := Lib.hid hY
  have HA := Lib.hid hA
  have hp0 : W.cell? ⟨w.heap.size + 2, 0, none⟩ = some (.slice A n c) := by obtain ⟨f, -, -, h3⟩ := h0; exact (blk_rules h3.cap).1 0
  have H0 : Hid (∀ i, ItS n i → ItL w (.slice A n c) n l K i W) := Lib.hid (fun i hi => ⟨n, Nat.le_refl _, hi, h0, hK⟩)
  clear hKk hY h0 hK hA
  have noDepth : Fence.wide.depth.isSome = true → 1 ≤ nn := fun h => by simp [Fence.wide] at h
  have hw1 : IntKind.i64.wrap ((n : Int) - 1) = (n : Int) - 1 := by rw [IntKind.wrap_i64]; omega
  have HST : Hid (ItS n (.int .i64 ((n : Int) - 1))) := Lib.hid (by
    cases n with
    | zero => exact .inr ⟨rfl, rfl⟩
    | succ p => exact .inl ⟨p, rfl, by congr 1; omega⟩)
  refine callsIn_of_wp Tryz.func213 rfl trivial ?_ rfl
  simp only [Tryz.ntmps213, List.size_toArray, List.length_cons, List.length_nil, Nat.reduceAdd, Nat.reduceSub, Array.replicate_succ, Array.replicate_zero, List.push_toArray, List.append_toArray, List.nil_append, List.cons_append]
  gi_wp2
  gi_loopw [3] (fun i wr => ItL w (.slice A n c) n l K i wr) (fun i _ => itM i)
  case atStart => exact H0.out _ HST.out
  case round =>
    obtain ⟨j, hj, hS, hJ, hK⟩ := hrel
    rcases hS with ⟨p, rfl, rfl⟩ | ⟨rfl, rfl⟩
    · have HJ := Lib.hid hJ
      have HK := Lib.hid hK
      obtain ⟨fm, -, -, h3⟩ := hJ
      have hcp : wr.cell? ⟨w.heap.size + 2, 0, none⟩ = some (.slice A n c) := (blk_rules h3.cap).1 0
      have HE := Lib.hid h3.ext
      obtain ⟨bb, off, r, B, m, d, B', m', d', rfl, hbl0, -, hx, hv, d0, d1, d2, d3, d4, d5, d6⟩ := ResL.at_ HA.out (show p < n by omega)
      have HX := Lib.hid hx
      have HV := Lib.hid hv
      have i1 : (0 : Int) ≤ (p : Int) := by omega
      have i2 : (p : Int) < (n : Int) := by omega
      have t0 : wr.cell? ⟨bb, off + p * 7, none⟩ = some (.int .i64 r.kind) := (HE.out.cell hbl0).trans d0
      have t1 : wr.cell? ⟨bb, off + p * 7 + 1, none⟩ = some (.string r.name) := (HE.out.cell hbl0).trans d1
      have t2 : wr.cell? ⟨bb, off + p * 7 + 2, none⟩ = some (.int .i64 r.ver) := (HE.out.cell hbl0).trans d2
      have t3 : wr.cell? ⟨bb, off + p * 7 + 3, none⟩ = some (.int .i64 r.port) := (HE.out.cell hbl0).trans d3
      have t4 : wr.cell? ⟨bb, off + p * 7 + 4, none⟩ = some (.string r.to) := (HE.out.cell hbl0).trans d4
      have t5 : wr.cell? ⟨bb, off + p * 7 + 5, none⟩ = some (.slice B m d) := (HE.out.cell hbl0).trans d5
      have t6 : wr.cell? ⟨bb, off + p * 7 + 6, none⟩ = some (.slice B' m' d') := (HE.out.cell hbl0).trans d6
      have hw2 : IntKind.i64.wrap ((p : Int) - 1) = (p : Int) - 1 := by rw [IntKind.wrap_i64]; omega
      clear h3 hx hv d0 d1 d2 d3 d4 d5 d6 hK hp0
      obtain ⟨fn, tmps, assign, body, hy, hR⟩ := HY.out ⟨p, r, B, m, d, B', m', d'⟩ wr ⟨HJ.out, (by show p < n; omega), HX.out, HV.out⟩ HK.out
      dsimp only [Yl.enc] at hy
      gi_wp2
      refine ⟨noDepth, hR.mono ?_⟩
      rintro e W3 (⟨rfl, hJ3, hK3⟩ | ⟨rfl, hX3⟩)
      · have HR : Hid (ItL w (.slice (some ⟨bb, off, none⟩) n c) n l K (.int .i64 ((p : Int) - 1)) W3) := Lib.hid (by
          refine ⟨p, by omega, ?_, hJ3, hK3⟩
          cases p with
          | zero => exact .inr ⟨rfl, rfl⟩
          | succ q => exact .inl ⟨q, rfl, by congr 1; omega⟩)
        clear hJ3 hK3 hy hR t0 t1 t2 t3 t4 t5 t6 hcp
        gi_wp2
        go_roundw
        case rel => exact HR.out
        case measure => simp [itM]
      · have HXX := Lib.hid hX3
        clear hX3 hy hR
        gi_wp2
        refine bodyPost_ret (results_none rfl _ _ _) rfl ?_
        exact ⟨⟨_, rfl⟩, .inr HXX.out⟩
    · have HF : Hid (IxJ w (.slice A n c) n l 0 wr ∧ K wr) := Lib.hid ⟨hJ, hK⟩
      clear hJ hK
      gi_wp2
      refine bodyPost_end (results_none rfl _ _ _) rfl ?_
      exact ⟨⟨_, rfl⟩, .inl HF.out⟩
end Go.Proofs.YtfdjbnofcniodaaGreatDoor
