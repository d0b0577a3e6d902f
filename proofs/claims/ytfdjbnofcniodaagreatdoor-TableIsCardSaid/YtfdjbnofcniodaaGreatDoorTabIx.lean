/- What package table's index makes: a map of resources by key. -/
import Derived.Test.YtfdjbnofcniodaaGreatDoorTabIt
import Derived.Stop.RegionWithIn
import Derived.Maps.OwnIn
namespace Go.Proofs.YtfdjbnofcniodaaGreatDoor
set_option linter.unusedVariables false
open Go.RowKit Go.Maps

def IxPost (w : World) (l : List Rs) (n : Nat) (e : Ending) (w' : World) : Prop := ∃ f, e = .returned (.map (some w.heap.size)) ∧ MapOf w' w.heap.size n f ∧ Holds w l f ∧ Ext w w'
theorem IxJ.put {w w5 w6 : World} {sl : Value} {n : Nat} {l : List Rs} {y : Yl} {f : Ky → Option Value} (hI : IxI w sl w5) (hH : Holds w (l.drop (y.k + 1)) f) (hk : y.k < n) (hx : l[y.k]? = some y.r) (hv : RsV All w y.r y.B y.m y.d y.B' y.m' y.d')
    (hm : MapOf w6 w.heap.size (n - (y.k + 1) + 1) (fun k' => if k' = y.r.key then some (rsVal y.r y.B y.m y.d y.B' y.m' y.d') else f k')) (ht : w5.mapTurned w6 w.heap.size) : IxJ w sl n l y.k w6 := by
  have hg := ht.grown
  have e1 : n - (y.k + 1) + 1 = n - y.k := by omega
  rw [e1] at hm
  refine ⟨_, hm, hH.step hx hv, Below.grown hI.ext hg hI.ext.size fun _ e => (by injection e with e; omega), ?_, ?_⟩
  · exact (hg.block _ (Array.getElem?_eq_some_iff.1 hI.out).1 (fun e => by injection e with e; omega)).trans hI.out
  · exact (hg.block _ (Array.getElem?_eq_some_iff.1 hI.cap).1 (fun e => by injection e with e; omega)).trans hI.cap

def IxA (w : World) (sl : Value) (n : Nat) (l : List Rs) (y : Yl) (W0 W : World) : Prop := IxY w sl n l y W ∧ W.heap[W0.heap.size]? = some (.cells #[.int .i64 y.r.kind, .string y.r.name, .int .i64 y.r.ver, .int .i64 y.r.port, .string y.r.to, .slice y.B y.m y.d, .slice y.B' y.m' y.d'] 34 (0, 0))
def Yl.box (y : Yl) (W : World) : World := W.alloc (.cells #[.int .i64 y.r.kind, .string y.r.name, .int .i64 y.r.ver, .int .i64 y.r.port, .string y.r.to, .slice y.B y.m y.d, .slice y.B' y.m' y.d'] 34)
theorem IxY.up {w W W' : World} {sl : Value} {n : Nat} {l : List Rs} {y : Yl} (h : IxY w sl n l y W) (he : Ext W W') : IxY w sl n l y W' := by
  obtain ⟨⟨f, h1, h2, h3⟩, h4⟩ := h
  exact ⟨⟨f, h1.up he, h2, h3.up he⟩, h4⟩
attribute [local go_sem] Oper.semAt_some
set_option maxRecDepth 100000 in
set_option maxHeartbeats 8000000 in
theorem index_any (A : Option Addr) (n c : Nat) (l : List Rs) (w : World) (hn : n ≤ 1000000) (hA : ResL All w A n l) (hwf : ∀ x ∈ l, wfK x.key) :
    Calls Tryz.prog 109 #[.slice A n c] w (IxPost w l n) := by
  have HA := Lib.hid hA
  have HWF := Lib.hid hwf
  have hmm := @run_makeMap Tryz.prog
  clear hA hwf
  refine (callsIn_wide (n := 5)).1 ?_
  refine callsIn_of_wp_marks Tryz.func109 rfl trivial ?_ rfl
  simp only [Tryz.ntmps109, List.size_toArray, List.length_cons, List.length_nil, Nat.reduceAdd, Nat.reduceSub, Array.replicate_succ, Array.replicate_zero, List.push_toArray, List.append_toArray, List.nil_append, List.cons_append]
  gi_wp2
  refine ⟨trivial, ?_⟩
  refine (callsIn_wide.2 (back_any A n c _)).mono ?_
  rintro e w4 ⟨rfl, hw4⟩
  have hs : ((w.alloc (.map #[] 0)).alloc (.cells #[.map (some w.heap.size)] 136)).heap.size = w.heap.size + 2 := by simp only [World.size_alloc]
  rw [hs]
  have h2 := two_blocks w (.map #[] 0) (.cells #[.map (some w.heap.size)] 136)
  have hI : IxI w (.slice A n c) w4 := by
    refine ⟨by rw [hw4]; exact ((Ext.new w _).alloc _).alloc _, ?_, ?_⟩
    · rw [hw4]; exact ((Ext.new _ _).block (by rw [hs]; omega)).trans h2.2
    · rw [hw4]; have h3 := heap_alloc_new ((w.alloc (.map #[] 0)).alloc (.cells #[.map (some w.heap.size)] 136)) (.cells #[.slice A n c] 42); rw [hs] at h3; exact h3
  have hM : MapOf w4 w.heap.size 0 (fun _ => none) := by
    refine (MapOf.made w).blk ?_
    rw [hw4, (Ext.new _ _).block (b := w.heap.size) (by rw [hs]; omega), h2.1, heap_alloc_new]
  have hJ0 : IxJ w (.slice A n c) n l n w4 := ⟨fun _ => none, by rw [Nat.sub_self]; exact hM, by rw [List.drop_of_length_le (Nat.le_of_eq HA.out.len)]; exact Holds.nil_ w, hI⟩
  have hs4 : w4.heap.size = w.heap.size + 3 := by rw [hw4]; simp only [World.size_alloc]
  have HJ0 := Lib.hid hJ0
  have HS4 := Lib.hid hs4
  clear hw4 hs h2 hI hM hJ0
  gi_wp2
  refine range_lawM (α := Yl) (n := 4) (gf := 213) (lb := #[.pointer (some ⟨w.heap.size + 2, 0, none⟩)]) rfl (enters_of Tryz.func213 (by kernel_rfl) rfl) Yl.enc (fun _ => rfl)
    (IxJ w (.slice A n c) n l n) (IxY w (.slice A n c) n l) (fun y => IxJ w (.slice A n c) n l y.k) (IxJ w (.slice A n c) n l 0) IxX
    ?s0 (IxA w (.slice A n c) n l) Yl.box ?hka ?hja ?sy ?s1 ?sd ?sx ?a1 ?h0 ?assign ?body ?iter ?done ?stop
  case assign =>
    intro l y W K hK
    dsimp only [Yl.enc]
    gi_wp2
    exact hK
  case s0 => exact IxJ.stab (by have := HS4.out; omega)
  case hka => exact fun y W => KeepsLoops.ext (Ext.new _ _)
  case hja => exact fun y W h => ⟨h.up (Ext.new _ _), heap_alloc_new W _⟩
  case sy =>
    rintro y W0 W q o o' ⟨⟨h1, h2⟩, h3⟩ hl ho hc
    exact ⟨⟨IxJ.stab (by have := HS4.out; omega) W q o o' h1 hl ho hc, h2⟩, (SameCells.putObj ho hc o').same _ _ _ _ h3⟩
  case s1 => exact fun y => IxJ.stab (by have := HS4.out; omega)
  case sd => exact IxJ.stab (by have := HS4.out; omega)
  case sx => exact fun c W q o o' h => h.elim
  case h0 =>
    intro W hx _
    obtain ⟨f, h1, h2, h3⟩ := HJ0.out
    exact ⟨f, h1.up hx, h2, h3.up hx⟩
  case iter => exact back_iter 4 w A n c l _ hn HA.out
  case body =>
    rintro lp y W0 W ⟨⟨⟨f, hM, hH, hI⟩, hk, hx, hv⟩, hB⟩
    have HM := Lib.hid hM
    have HH := Lib.hid hH
    have HI := Lib.hid hI
    have HX := Lib.hid hx
    have HV := Lib.hid hv
    have hwk := HWF.out y.r (List.mem_of_getElem? hx)
    have HWK := Lib.hid hwk
    have hzW : W0.heap.size < W.heap.size := (Array.getElem?_eq_some_iff.1 hB).1
    have hzo : w.heap.size + 1 < W.heap.size := (Array.getElem?_eq_some_iff.1 hI.out).1
    obtain ⟨qb, -⟩ := blk_rules hB
    obtain ⟨qo, -⟩ := blk_rules hI.out
    have m0 : ∀ w', Ext W.drew w' → w'.cell? ⟨w.heap.size + 1, 0, none⟩ = some (.map (some w.heap.size)) := fun w' h => (((Ext.refl W).drew.trans h).cell hzo).trans (qo 0)
    have t0 : ∀ w', Ext W.drew w' → w'.cell? ⟨W0.heap.size, 0, none⟩ = some (.int .i64 y.r.kind) := fun w' h => (((Ext.refl W).drew.trans h).cell hzW).trans (qb 0)
    have t1 : ∀ w', Ext W.drew w' → w'.cell? ⟨W0.heap.size, 1, none⟩ = some (.string y.r.name) := fun w' h => (((Ext.refl W).drew.trans h).cell hzW).trans (qb 1)
    have t2 : ∀ w', Ext W.drew w' → w'.cell? ⟨W0.heap.size, 2, none⟩ = some (.int .i64 y.r.ver) := fun w' h => (((Ext.refl W).drew.trans h).cell hzW).trans (qb 2)
    have t3 : ∀ w', Ext W.drew w' → w'.cell? ⟨W0.heap.size, 3, none⟩ = some (.int .i64 y.r.port) := fun w' h => (((Ext.refl W).drew.trans h).cell hzW).trans (qb 3)
    have t4 : ∀ w', Ext W.drew w' → w'.cell? ⟨W0.heap.size, 4, none⟩ = some (.string y.r.to) := fun w' h => (((Ext.refl W).drew.trans h).cell hzW).trans (qb 4)
    have t5 : ∀ w', Ext W.drew w' → w'.cell? ⟨W0.heap.size, 5, none⟩ = some (.slice y.B y.m y.d) := fun w' h => (((Ext.refl W).drew.trans h).cell hzW).trans (qb 5)
    have t6 : ∀ w', Ext W.drew w' → w'.cell? ⟨W0.heap.size, 6, none⟩ = some (.slice y.B' y.m' y.d') := fun w' h => (((Ext.refl W).drew.trans h).cell hzW).trans (qb 6)
    have x0 : Ext W.drew W.drew := Ext.refl _
    clear qb qo hM hH hI hx hv hwk hB
    gi_wp2
    gi_region_with (refine ⟨trivial, ?_⟩
                    refine (callsIn_wide.2 (key_any y.r y.B y.m y.d y.B' y.m' y.d' _)).mono ?_
                    rintro e w5 ⟨rfl, hb5⟩
                    obtain ⟨w6, hrun, hm6, ht6⟩ := (HM.out.up ((Ext.refl W).drew.trans hb5)).store (by unfold maxLen; omega) HWK.out (rsVal y.r y.B y.m y.d y.B' y.m' y.d')
                    unfold rsVal kVal Rs.key at hrun)
    all_goals exact ⟨(KeepsLoops.ext ((Ext.refl W).drew.trans hb5)).trans (KeepsLoops.turned ht6), IxJ.put (HI.out.up ((Ext.refl W).drew.trans hb5)) HH.out hk HX.out HV.out hm6 ht6⟩
  case done =>
    rintro W ⟨f, hM, hH, hI⟩ hK
    obtain ⟨qo, -⟩ := blk_rules hI.out
    have q1 := qo 0
    have HM := Lib.hid hM
    have HH := Lib.hid hH
    have HI := Lib.hid hI
    have HKD := Lib.hid hK
    clear hM hH hI hK qo
    gi_wp2
    refine ⟨by simp, .inl ⟨_, _, rfl, run_takeDeferred HKD.out, ?_⟩⟩
    refine ⟨_, show (results _ _).run _ _ = .ok (.map (some w.heap.size)) _ from (by simp [results, Tryz.results109, go_sem]), ?_⟩
    have hs4 := HS4.out
    exact ⟨f, rfl, HM.out.blk (World.putObj_heap_other (by omega)), HH.out, HI.out.ext.putObj (by omega) _⟩
  case stop => exact fun c W h => h.elim
end Go.Proofs.YtfdjbnofcniodaaGreatDoor
