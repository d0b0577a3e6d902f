/- What package table's filter, is, Kind, Get, Keys, Without, Same compute. -/
import Derived.Test.YtfdjbnofcniodaaGreatDoorAlike
import Derived.Test.YtfdjbnofcniodaaGreatDoorDelAll
import Derived.Test.YtfdjbnofcniodaaGreatDoorDel2
import Derived.Test.YtfdjbnofcniodaaGreatDoorEqR
import Derived.Test.YtfdjbnofcniodaaGreatDoorTablePlain
import Derived.Lib.AppendZeros
namespace Go.Proofs.YtfdjbnofcniodaaGreatDoor
set_option linter.unusedVariables false
open Go.RowKit

abbrev All : Nat → Prop := fun _ => True
/-- some resources, in a slice of whatever memory -/
def GivesL (w : World) (l : List Rs) (e : Ending) (w' : World) : Prop := ∃ A n c, e = .returned (.slice A n c) ∧ SlW A n c ∧ ResL All w' A n l ∧ Ext w w'
def GivesK (w : World) (l : List Ky) (e : Ending) (w' : World) : Prop := ∃ A n c, e = .returned (.slice A n c) ∧ SlW A n c ∧ KeyL All w' A n l ∧ Ext w w'
theorem GivesL.up {w0 w w' : World} {l : List Rs} {e : Ending} (h : GivesL w l e w') (he : Ext w0 w) : GivesL w0 l e w' := by
  obtain ⟨A, n, c, h1, h2, h3, h4⟩ := h; exact ⟨A, n, c, h1, h2, h3, he.trans h4⟩
theorem tab_snoc {α : Type} {p : α → Bool} {l : List α} {k : Nat} {x : α} (h : l[k]? = some x) (hp : p x = true) : (l.take (k + 1)).filter p = (l.take k).filter p ++ [x] := by
  rw [take_snoc_of h, List.filter_append]; simp [hp]
theorem tab_skip {α : Type} {p : α → Bool} {l : List α} {k : Nat} {x : α} (h : l[k]? = some x) (hp : p x = false) : (l.take (k + 1)).filter p = (l.take k).filter p := by
  rw [take_snoc_of h, List.filter_append]; simp [hp]
theorem tab_le {α : Type} (p : α → Bool) (l : List α) (k : Nat) : ((l.take k).filter p).length ≤ k :=
  Nat.le_trans (List.length_filter_le _ _) (by rw [List.length_take]; omega)
theorem flat_k1 (w : World) (cs : List Value) (t : TypeId) {k : Nat} (h : cs.length = k) : Flat (w.alloc (.cells cs.toArray t)) k (some ⟨w.heap.size, 0, none⟩) 1 cs :=
  ⟨by rw [h, Nat.one_mul], fun _ => ⟨w.heap.size, 0, rfl, by simp, fun j u hu => by
    rw [cell_of_row _ _ _ cs.toArray t (0, 0) (heap_alloc_new w _), Nat.zero_add]; simpa using hu⟩⟩
theorem box_at {w w1 : World} {cs : Array Value} {t : TypeId} (h : Ext (w.alloc (.cells cs t)) w1) : w1.heap[w.heap.size]? = some (.cells cs t (0, 0)) := (box1b h).1

/-- a function value that tells whether p holds of one of some -/
def PredRs (w0 : World) (F : Nat) (caps : Array Value) (p : Rs → Bool) (l : List Rs) : Prop :=
  Enters F ∧ ∀ r ∈ l, ∀ (B : Option Addr) (m d : Nat) (B' : Option Addr) (m' d' : Nat) (w : World), Ext w0 w → RsV All w r B m d B' m' d' → Calls Tryz.prog F (#[(rsVal r B m d B' m' d')] ++ caps) w fun e w' => e = .returned (.bool (p r)) ∧ Ext w w'
theorem predR_rs {w0 : World} {F : Nat} {caps : Array Value} {p : Rs → Bool} (h : PredR All w0 F caps p) (l : List Rs) : PredRs w0 F caps p l := ⟨h.1, fun r _ => h.2 r⟩
set_option maxRecDepth 100000 in
set_option maxHeartbeats 4000000 in
theorem filter_any (F : Nat) (caps : Array Value) (p : Rs → Bool) (A : Option Addr) (n c : Nat) (l : List Rs) (w : World) (hn : n ≤ 1000000) (hA : ResL All w A n l) (hF : PredRs w F caps p l) :
    Calls Tryz.prog 110 #[.slice A n c, .func (.func F) #[] caps] w (GivesL w (l.filter p)) := by
  have HA := Lib.hid hA
  have HF := Lib.hid hF
  clear hA hF
  go_enter Tryz.func110, Tryz.ntmps110
  go_wp2_with fail
  go_loopw [5, 10] (fun v i wr => ∃ (k : Nat) (us : List Value), k ≤ n ∧ i = .int .i64 k ∧ Hid (wr.ownsRow w.heap.size 34 7 v ((l.take k).filter p).length us) ∧ Hid (RowsOf (RsQ All w) 7 us ((l.take k).filter p)) ∧ Hid (Ext w wr)) (fun _ i _ => n - (intOf i).toNat)
  case atStart => exact ⟨0, [], Nat.zero_le _, by go_num, Lib.hid (by simpa using own_nil), Lib.hid (show RowsOf (RsQ All w) 7 [] [] from rfl), Lib.hid (Ext.refl _)⟩
  case round =>
    obtain ⟨k, us, hk, rfl, HW, HU, HE⟩ := hrel
    by_cases hlt : k < n
    · obtain ⟨b, off, r, B, m, d, B', m', d', rfl, hbl0, -, hx, hv, d0, d1, d2, d3, d4, d5, d6⟩ := ResL.at_ HA.out hlt
      have HV := Lib.hid hv
      have HX := Lib.hid hx
      have hbl : b < wr.heap.size := Nat.lt_of_lt_of_le hbl0 HE.out.size
      have hcnt := tab_le p l k
      have i1 : (0 : Int) ≤ (k : Int) := by omega
      have i2 : (k : Int) < (n : Int) := by omega
      have t0 : wr.cell? ⟨b, off + k * 7, none⟩ = some (.int .i64 r.kind) := (HE.out.cell hbl0).trans d0
      have t1 : wr.cell? ⟨b, off + k * 7 + 1, none⟩ = some (.string r.name) := (HE.out.cell hbl0).trans d1
      have t2 : wr.cell? ⟨b, off + k * 7 + 2, none⟩ = some (.int .i64 r.ver) := (HE.out.cell hbl0).trans d2
      have t3 : wr.cell? ⟨b, off + k * 7 + 3, none⟩ = some (.int .i64 r.port) := (HE.out.cell hbl0).trans d3
      have t4 : wr.cell? ⟨b, off + k * 7 + 4, none⟩ = some (.string r.to) := (HE.out.cell hbl0).trans d4
      have t5 : wr.cell? ⟨b, off + k * 7 + 5, none⟩ = some (.slice B m d) := (HE.out.cell hbl0).trans d5
      have t6 : wr.cell? ⟨b, off + k * 7 + 6, none⟩ = some (.slice B' m' d') := (HE.out.cell hbl0).trans d6
      clear hx hv d0 d1 d2 d3 d4 d5 d6
      go_wp2_with fail
      rw [HF.out.1, Oper.upon_enter]
      refine (HF.out.2 r (List.mem_of_getElem? HX.out) B m d B' m' d' _ (HE.out.alloc _) (HV.out.up (HE.out.alloc _))).mono ?_
      rintro e w4 ⟨rfl, hb4⟩
      have K4 := Lib.hid (box_at hb4)
      have E4 := Lib.hid ((HE.out.alloc _).trans hb4)
      have HW4 := Lib.hid (own_up HW.out ((Ext.new wr _).trans hb4))
      have hz4 : wr.heap.size < w4.heap.size := (Array.getElem?_eq_some_iff.1 K4.out).1
      clear hb4 t0 t1 t2 t3 t4 t5 t6
      obtain ⟨q0, q1⟩ := blk_rules K4.out
      cases hp : p r with
      | true =>
        have HFS : Hid ((l.take (k + 1)).filter p = (l.take k).filter p ++ [r]) := Lib.hid (tab_snoc HX.out hp)
        have hFk := flat_k1 w4 [.int .i64 r.kind, .string r.name, .int .i64 r.ver, .int .i64 r.port, .string r.to, .slice B m d, .slice B' m' d'] 34 rfl
        have hOW := own_up HW4.out (Ext.new w4 (.cells #[.int .i64 r.kind, .string r.name, .int .i64 r.ver, .int .i64 r.port, .string r.to, .slice B m d, .slice B' m' d'] 34))
        obtain ⟨v', w5, hrun, hown5, hg5, _⟩ := run_append_flat elem_res 42 hOW 1 hFk (by simp [Value.oneCell']) (by omega) (by omega) (by have h9 := E4.out.size; rw [World.size_alloc]; omega) (fun h => by cases h)
        have HRUN := Lib.hid hrun
        have E5 : Hid (Ext w w5) := Lib.hid ((E4.out.alloc (.cells #[.int .i64 r.kind, .string r.name, .int .i64 r.ver, .int .i64 r.port, .string r.to, .slice B m d, .slice B' m' d'] 34)).grown hg5 hOW (Nat.le_refl _))
        have HW5 : Hid (w5.ownsRow w.heap.size 34 7 v' ((l.take (k + 1)).filter p).length (us ++ [.int .i64 r.kind, .string r.name, .int .i64 r.ver, .int .i64 r.port, .string r.to, .slice B m d, .slice B' m' d'])) := Lib.hid (by rw [HFS.out, List.length_append]; exact hown5)
        have hRr : RsQ All w [.int .i64 r.kind, .string r.name, .int .i64 r.ver, .int .i64 r.port, .string r.to, .slice B m d, .slice B' m' d'] r := ⟨_, _, _, _, _, _, rfl, HV.out⟩
        have HU5 : Hid (RowsOf (RsQ All w) 7 (us ++ [.int .i64 r.kind, .string r.name, .int .i64 r.ver, .int .i64 r.port, .string r.to, .slice B m d, .slice B' m' d']) ((l.take (k + 1)).filter p)) := Lib.hid (by rw [HFS.out]; exact RowsOf.snoc rfl hRr HU.out)
        clear hp hFk hOW hRr hown5 hg5 hrun
        go_wp2_with (refine Lib.wpList_append_run _ rfl _ _ _ _ rfl _ _ rfl rfl v' w5 HRUN.out ?_)
        clear q0 q1
        go_roundw
        case rel => exact ⟨k + 1, _, by omega, by go_num, HW5, HU5, E5⟩
        case measure => simp [intOf]; omega
      | false =>
        have HFS : Hid ((l.take (k + 1)).filter p = (l.take k).filter p) := Lib.hid (tab_skip HX.out hp)
        have hw5 := HW4.out
        rw [← HFS.out] at hw5
        have HW5 := Lib.hid hw5
        have HU5 : Hid (RowsOf (RsQ All w) 7 us ((l.take (k + 1)).filter p)) := Lib.hid (by rw [HFS.out]; exact HU.out)
        clear hw5 hp
        go_wp2_with fail
        clear q0 q1
        go_roundw
        case rel => exact ⟨k + 1, _, by omega, by go_num, HW5, HU5, E4⟩
        case measure => simp [intOf]; omega
    · obtain rfl : n = k := by omega
      have HT : Hid ((l.take n).filter p = l.filter p) := Lib.hid (by rw [List.take_of_length_le (Nat.le_of_eq HA.out.len)])
      obtain ⟨Aw, cw, rfl, hw1, hw2, hw3, hwF⟩ := own_flat HW.out
      have HS : Hid (SlW Aw ((l.take n).filter p).length cw) := Lib.hid ⟨hw1, hw2, hw3⟩
      have HL : Hid (ResL All wr Aw ((l.take n).filter p).length (l.filter p)) := Lib.hid ((congrArg (fun z => ArrQ All wr 7 (RsQ All wr) Aw ((l.take n).filter p).length z) HT.out).mp (hwF.arrQ (S := All) (HU.out.mono (fun _ _ h => h.keep HE.out.keep)) (by omega) (fun _ _ _ _ => trivial)))
      clear hwF hw1 hw2 hw3
      go_wp2_with fail
      go_ret
      exact ⟨Aw, _, cw, rfl, HS.out, HL.out, HE.out⟩

/-- seven cells are stored into a box: the box, and what is beside it -/
theorem set7 {w V : World} {p : Nat} {T : TypeId} {x0 x1 x2 x3 x4 x5 x6 : Value} (h : w.heap[p]? = some (.cells #[x0, x1, x2, x3, x4, x5, x6] T (0, 0))) (a0 a1 a2 a3 a4 a5 a6 : Value)
    (hV : ((((((w.setCell ⟨p, 0, none⟩ a0).setCell ⟨p, 1, none⟩ a1).setCell ⟨p, 2, none⟩ a2).setCell ⟨p, 3, none⟩ a3).setCell ⟨p, 4, none⟩ a4).setCell ⟨p, 5, none⟩ a5).setCell ⟨p, 6, none⟩ a6 = V) :
    V.heap[p]? = some (.cells #[a0, a1, a2, a3, a4, a5, a6] T (0, 0)) ∧ (∀ a : World, Ext a w → a.heap.size ≤ p → Ext a V) ∧ V.heap.size = w.heap.size := by
  subst hV
  refine ⟨?_, fun a h hp => ?_, by simp only [size_set]⟩
  · have e0 := h
    have e1 : (w.setCell ⟨p, 0, none⟩ a0).heap[p]? = some (.cells #[a0, x1, x2, x3, x4, x5, x6] T (0, 0)) := blk_set (i := 0) e0 a0
    have e2 : ((w.setCell ⟨p, 0, none⟩ a0).setCell ⟨p, 1, none⟩ a1).heap[p]? = some (.cells #[a0, a1, x2, x3, x4, x5, x6] T (0, 0)) := blk_set (i := 1) e1 a1
    have e3 : (((w.setCell ⟨p, 0, none⟩ a0).setCell ⟨p, 1, none⟩ a1).setCell ⟨p, 2, none⟩ a2).heap[p]? = some (.cells #[a0, a1, a2, x3, x4, x5, x6] T (0, 0)) := blk_set (i := 2) e2 a2
    have e4 : ((((w.setCell ⟨p, 0, none⟩ a0).setCell ⟨p, 1, none⟩ a1).setCell ⟨p, 2, none⟩ a2).setCell ⟨p, 3, none⟩ a3).heap[p]? = some (.cells #[a0, a1, a2, a3, x4, x5, x6] T (0, 0)) := blk_set (i := 3) e3 a3
    have e5 : (((((w.setCell ⟨p, 0, none⟩ a0).setCell ⟨p, 1, none⟩ a1).setCell ⟨p, 2, none⟩ a2).setCell ⟨p, 3, none⟩ a3).setCell ⟨p, 4, none⟩ a4).heap[p]? = some (.cells #[a0, a1, a2, a3, a4, x5, x6] T (0, 0)) := blk_set (i := 4) e4 a4
    have e6 : ((((((w.setCell ⟨p, 0, none⟩ a0).setCell ⟨p, 1, none⟩ a1).setCell ⟨p, 2, none⟩ a2).setCell ⟨p, 3, none⟩ a3).setCell ⟨p, 4, none⟩ a4).setCell ⟨p, 5, none⟩ a5).heap[p]? = some (.cells #[a0, a1, a2, a3, a4, a5, x6] T (0, 0)) := blk_set (i := 5) e5 a5
    have e7 : (((((((w.setCell ⟨p, 0, none⟩ a0).setCell ⟨p, 1, none⟩ a1).setCell ⟨p, 2, none⟩ a2).setCell ⟨p, 3, none⟩ a3).setCell ⟨p, 4, none⟩ a4).setCell ⟨p, 5, none⟩ a5).setCell ⟨p, 6, none⟩ a6).heap[p]? = some (.cells #[a0, a1, a2, a3, a4, a5, a6] T (0, 0)) := blk_set (i := 6) e6 a6
    exact e7
  · have k0 := h
    have k1 := k0.set (p := ⟨p, 0, none⟩) hp a0
    have k2 := k1.set (p := ⟨p, 1, none⟩) hp a1
    have k3 := k2.set (p := ⟨p, 2, none⟩) hp a2
    have k4 := k3.set (p := ⟨p, 3, none⟩) hp a3
    have k5 := k4.set (p := ⟨p, 4, none⟩) hp a4
    have k6 := k5.set (p := ⟨p, 5, none⟩) hp a5
    have k7 := k6.set (p := ⟨p, 6, none⟩) hp a6
    exact k7
theorem tab0_V (S : Nat → Prop) (w : World) : RsV S w rs0 none 0 0 none 0 0 := ⟨by decide, by decide, SlW.nil_, SlW.nil_, ArrQ.nil_, ArrQ.nil_⟩
set_option maxHeartbeats 400000 in
theorem is_any (k : Ky) (w : World) : Calls Tryz.prog 107 #[.agg #[.int .i64 k.kind, .string k.name]] w fun e w' => e = .returned (.func (.func 177) #[] #[.pointer (some ⟨w.heap.size, 0, none⟩)]) ∧ w' = w.alloc (.cells #[.int .i64 k.kind, .string k.name] 38) := by
  have hmf : ∀ (fn : Fn) (first cap : Array Value) (w : World), (Instr.makeFunc fn first cap).run Tryz.prog w = .ok (.func fn first cap) w := fun _ _ _ _ => rfl
  go_enter Tryz.func107, Tryz.ntmps107
  go_wp2_with fail
  go_ret
  exact ⟨rfl, rfl⟩

set_option maxRecDepth 100000 in
set_option maxHeartbeats 2000000 in
theorem is1_pred (k : Ky) (g : Nat) (w0 : World) (hg : w0.heap[g]? = some (.cells #[.int .i64 k.kind, .string k.name] 38 (0, 0))) : PredR All w0 177 #[.pointer (some ⟨g, 0, none⟩)] (fun r => decide (r.key = k)) := by
  refine ⟨Tryz.call177, fun r B m d B' m' d' w he hv => ?_⟩
  show Calls Tryz.prog 177 #[rsVal r B m d B' m' d', .pointer (some ⟨g, 0, none⟩)] w _
  have hgl : g < w0.heap.size := (Array.getElem?_eq_some_iff.1 hg).1
  have hgw : w.heap[g]? = some (.cells #[.int .i64 k.kind, .string k.name] 38 (0, 0)) := (he.block hgl).trans hg
  have hglw : g < w.heap.size := Nat.lt_of_lt_of_le hgl he.size
  have HG := Lib.hid hgw
  clear hgw hg hv he
  obtain ⟨rk, rn, rv, rp, rt, rr, rh⟩ := r
  obtain ⟨kk, kn⟩ := k
  unfold rsVal
  simp only
  simp only at HG
  go_enter Tryz.func177, Tryz.ntmps177
  go_wp2_with fail
  have KB := Lib.hid (heap_alloc_new w (.cells #[.int .i64 rk, .string rn, .int .i64 rv, .int .i64 rp, .string rt, .slice B m d, .slice B' m' d'] 34))
  have KG := Lib.hid (((Ext.new w (.cells #[.int .i64 rk, .string rn, .int .i64 rv, .int .i64 rp, .string rt, .slice B m d, .slice B' m' d'] 34)).block hglw).trans HG.out)
  have EW := Lib.hid (Ext.new w (.cells #[.int .i64 rk, .string rn, .int .i64 rv, .int .i64 rp, .string rt, .slice B m d, .slice B' m' d'] 34))
  have hzW : w.heap.size < (w.alloc (.cells #[.int .i64 rk, .string rn, .int .i64 rv, .int .i64 rp, .string rt, .slice B m d, .slice B' m' d'] 34)).heap.size := by simp
  generalize w.alloc (.cells #[.int .i64 rk, .string rn, .int .i64 rv, .int .i64 rp, .string rt, .slice B m d, .slice B' m' d'] 34) = W at KB KG EW hzW ⊢
  have hgW : g < W.heap.size := by omega
  obtain ⟨hk0', -⟩ := blk_rules KG.out
  have hk0 := hk0' 0
  have hk1 := hk0' 1
  obtain ⟨qb, -⟩ := blk_rules KB.out
  clear hk0'
  by_cases hkd : rk = kk
  · subst hkd
    by_cases hnm : rn = kn
    · subst hnm
      have HR : Hid (decide (Rs.key ⟨rk, rn, rv, rp, rt, rr, rh⟩ = (⟨rk, rn⟩ : Ky)) = true) := Lib.hid (decide_eq_true rfl)

      have t0 : ∀ w', Ext W.drew w' → w'.cell? ⟨w.heap.size, 0, none⟩ = some (.int .i64 rk) := fun w' h => (((Ext.refl W).drew.trans h).cell hzW).trans (qb 0)
      have t1 : ∀ w', Ext W.drew w' → w'.cell? ⟨w.heap.size, 1, none⟩ = some (.string rn) := fun w' h => (((Ext.refl W).drew.trans h).cell hzW).trans (qb 1)
      have t2 : ∀ w', Ext W.drew w' → w'.cell? ⟨w.heap.size, 2, none⟩ = some (.int .i64 rv) := fun w' h => (((Ext.refl W).drew.trans h).cell hzW).trans (qb 2)
      have t3 : ∀ w', Ext W.drew w' → w'.cell? ⟨w.heap.size, 3, none⟩ = some (.int .i64 rp) := fun w' h => (((Ext.refl W).drew.trans h).cell hzW).trans (qb 3)
      have t4 : ∀ w', Ext W.drew w' → w'.cell? ⟨w.heap.size, 4, none⟩ = some (.string rt) := fun w' h => (((Ext.refl W).drew.trans h).cell hzW).trans (qb 4)
      have t5 : ∀ w', Ext W.drew w' → w'.cell? ⟨w.heap.size, 5, none⟩ = some (.slice B m d) := fun w' h => (((Ext.refl W).drew.trans h).cell hzW).trans (qb 5)
      have t6 : ∀ w', Ext W.drew w' → w'.cell? ⟨w.heap.size, 6, none⟩ = some (.slice B' m' d') := fun w' h => (((Ext.refl W).drew.trans h).cell hzW).trans (qb 6)
      have g0 : ∀ w', Ext W.drew w' → w'.cell? ⟨g, 0, none⟩ = some (.int .i64 rk) := fun w' h => (((Ext.refl W).drew.trans h).cell hgW).trans hk0
      have g1 : ∀ w', Ext W.drew w' → w'.cell? ⟨g, 1, none⟩ = some (.string rn) := fun w' h => (((Ext.refl W).drew.trans h).cell hgW).trans hk1
      clear qb
      go_wp2_with fail
      have hSw : Ext W.drew W.drew := Ext.refl _
      refine wpS_begin (Ext W.drew) (by kernel_rfl) ?_
      refine wpS_take 0 (v := ?_) hSw rfl (by kernel_rfl) (by kernel_rfl) (by kernel_rfl) (by rfl) (fun w' hin => ?_) ?_
      rotate_left
      · (try simp only [] at hin); go_simp <;> with_reducible rfl
      try simp only [Act.put, List.setIfInBounds_toArray, List.set_cons_zero, List.set_cons_succ]
      refine wpS_take 2 (v := ?_) hSw rfl (by kernel_rfl) (by kernel_rfl) (by kernel_rfl) (by rfl) (fun w' hin => ?_) ?_
      rotate_left
      · (try simp only [] at hin); go_simp <;> with_reducible rfl
      try simp only [Act.put, List.setIfInBounds_toArray, List.set_cons_zero, List.set_cons_succ]
      refine wpS_one 1 rfl (by kernel_rfl) (by rfl) (fun K hK => ?_)
      go_simp
      refine (key_any ⟨rk, rn, rv, rp, rt, rr, rh⟩ B m d B' m' d' _).mono ?_
      rintro e w5 ⟨rfl, hb5⟩
      simp only []
      refine hK.out _ _ (Ext W.drew) (fun _ h => h) (hSw.trans hb5) (fun hSw => ?_)
      clear hK K
      try simp only [Act.put, List.setIfInBounds_toArray, List.set_cons_zero, List.set_cons_succ]
      refine wpS_take 3 (v := ?_) hSw rfl (by kernel_rfl) (by kernel_rfl) (by kernel_rfl) (by rfl) (fun w' hin => ?_) ?_
      rotate_left
      · (try simp only [] at hin); go_simp <;> with_reducible rfl
      try simp only [Act.put, List.setIfInBounds_toArray, List.set_cons_zero, List.set_cons_succ]
      refine wpS_take 4 (v := ?_) hSw rfl (by kernel_rfl) (by kernel_rfl) (by kernel_rfl) (by rfl) (fun w' hin => ?_) ?_
      rotate_left
      · (try simp only [] at hin); go_simp <;> with_reducible rfl
      try simp only [Act.put, List.setIfInBounds_toArray, List.set_cons_zero, List.set_cons_succ]
      refine wpS_done (by kernel_rfl) ?_
      go_wp2_with fail
      go_ret
      exact ⟨ret_bool HR.out.symm, EW.out.trans ((Ext.refl W).drew.trans hSw)⟩
    · have hq : ¬ rn.toList = kn.toList := fun e => hnm (tx_inj (by rw [← tx_toList, ← tx_toList]; exact e))
      have HR : Hid (decide (Rs.key ⟨rk, rn, rv, rp, rt, rr, rh⟩ = (⟨rk, kn⟩ : Ky)) = false) := Lib.hid (decide_eq_false fun e => hnm (by injection e))
      have t0 : ∀ w', Ext W.drew w' → w'.cell? ⟨w.heap.size, 0, none⟩ = some (.int .i64 rk) := fun w' h => (((Ext.refl W).drew.trans h).cell hzW).trans (qb 0)
      have t1 : ∀ w', Ext W.drew w' → w'.cell? ⟨w.heap.size, 1, none⟩ = some (.string rn) := fun w' h => (((Ext.refl W).drew.trans h).cell hzW).trans (qb 1)
      have t2 : ∀ w', Ext W.drew w' → w'.cell? ⟨w.heap.size, 2, none⟩ = some (.int .i64 rv) := fun w' h => (((Ext.refl W).drew.trans h).cell hzW).trans (qb 2)
      have t3 : ∀ w', Ext W.drew w' → w'.cell? ⟨w.heap.size, 3, none⟩ = some (.int .i64 rp) := fun w' h => (((Ext.refl W).drew.trans h).cell hzW).trans (qb 3)
      have t4 : ∀ w', Ext W.drew w' → w'.cell? ⟨w.heap.size, 4, none⟩ = some (.string rt) := fun w' h => (((Ext.refl W).drew.trans h).cell hzW).trans (qb 4)
      have t5 : ∀ w', Ext W.drew w' → w'.cell? ⟨w.heap.size, 5, none⟩ = some (.slice B m d) := fun w' h => (((Ext.refl W).drew.trans h).cell hzW).trans (qb 5)
      have t6 : ∀ w', Ext W.drew w' → w'.cell? ⟨w.heap.size, 6, none⟩ = some (.slice B' m' d') := fun w' h => (((Ext.refl W).drew.trans h).cell hzW).trans (qb 6)
      have g0 : ∀ w', Ext W.drew w' → w'.cell? ⟨g, 0, none⟩ = some (.int .i64 rk) := fun w' h => (((Ext.refl W).drew.trans h).cell hgW).trans hk0
      have g1 : ∀ w', Ext W.drew w' → w'.cell? ⟨g, 1, none⟩ = some (.string kn) := fun w' h => (((Ext.refl W).drew.trans h).cell hgW).trans hk1
      clear qb
      go_wp2_with fail
      have hSw : Ext W.drew W.drew := Ext.refl _
      refine wpS_begin (Ext W.drew) (by kernel_rfl) ?_
      refine wpS_take 0 (v := ?_) hSw rfl (by kernel_rfl) (by kernel_rfl) (by kernel_rfl) (by rfl) (fun w' hin => ?_) ?_
      rotate_left
      · (try simp only [] at hin); go_simp <;> with_reducible rfl
      try simp only [Act.put, List.setIfInBounds_toArray, List.set_cons_zero, List.set_cons_succ]
      refine wpS_take 2 (v := ?_) hSw rfl (by kernel_rfl) (by kernel_rfl) (by kernel_rfl) (by rfl) (fun w' hin => ?_) ?_
      rotate_left
      · (try simp only [] at hin); go_simp <;> with_reducible rfl
      try simp only [Act.put, List.setIfInBounds_toArray, List.set_cons_zero, List.set_cons_succ]
      refine wpS_one 1 rfl (by kernel_rfl) (by rfl) (fun K hK => ?_)
      go_simp
      refine (key_any ⟨rk, rn, rv, rp, rt, rr, rh⟩ B m d B' m' d' _).mono ?_
      rintro e w5 ⟨rfl, hb5⟩
      simp only []
      refine hK.out _ _ (Ext W.drew) (fun _ h => h) (hSw.trans hb5) (fun hSw => ?_)
      clear hK K
      try simp only [Act.put, List.setIfInBounds_toArray, List.set_cons_zero, List.set_cons_succ]
      refine wpS_take 3 (v := ?_) hSw rfl (by kernel_rfl) (by kernel_rfl) (by kernel_rfl) (by rfl) (fun w' hin => ?_) ?_
      rotate_left
      · (try simp only [] at hin); go_simp <;> with_reducible rfl
      try simp only [Act.put, List.setIfInBounds_toArray, List.set_cons_zero, List.set_cons_succ]
      refine wpS_take 4 (v := ?_) hSw rfl (by kernel_rfl) (by kernel_rfl) (by kernel_rfl) (by rfl) (fun w' hin => ?_) ?_
      rotate_left
      · (try simp only [] at hin); go_simp <;> with_reducible rfl
      try simp only [Act.put, List.setIfInBounds_toArray, List.set_cons_zero, List.set_cons_succ]
      refine wpS_done (by kernel_rfl) ?_
      go_wp2_with fail
      go_ret
      exact ⟨ret_bool HR.out.symm, EW.out.trans ((Ext.refl W).drew.trans hSw)⟩
  · have hq : (rk == kk) = false := by simpa using hkd
    have HR : Hid (decide (Rs.key ⟨rk, rn, rv, rp, rt, rr, rh⟩ = (⟨kk, kn⟩ : Ky)) = false) := Lib.hid (decide_eq_false fun e => hkd (by injection e))
    have t0 : ∀ w', Ext W.drew w' → w'.cell? ⟨w.heap.size, 0, none⟩ = some (.int .i64 rk) := fun w' h => (((Ext.refl W).drew.trans h).cell hzW).trans (qb 0)
    have t1 : ∀ w', Ext W.drew w' → w'.cell? ⟨w.heap.size, 1, none⟩ = some (.string rn) := fun w' h => (((Ext.refl W).drew.trans h).cell hzW).trans (qb 1)
    have t2 : ∀ w', Ext W.drew w' → w'.cell? ⟨w.heap.size, 2, none⟩ = some (.int .i64 rv) := fun w' h => (((Ext.refl W).drew.trans h).cell hzW).trans (qb 2)
    have t3 : ∀ w', Ext W.drew w' → w'.cell? ⟨w.heap.size, 3, none⟩ = some (.int .i64 rp) := fun w' h => (((Ext.refl W).drew.trans h).cell hzW).trans (qb 3)
    have t4 : ∀ w', Ext W.drew w' → w'.cell? ⟨w.heap.size, 4, none⟩ = some (.string rt) := fun w' h => (((Ext.refl W).drew.trans h).cell hzW).trans (qb 4)
    have t5 : ∀ w', Ext W.drew w' → w'.cell? ⟨w.heap.size, 5, none⟩ = some (.slice B m d) := fun w' h => (((Ext.refl W).drew.trans h).cell hzW).trans (qb 5)
    have t6 : ∀ w', Ext W.drew w' → w'.cell? ⟨w.heap.size, 6, none⟩ = some (.slice B' m' d') := fun w' h => (((Ext.refl W).drew.trans h).cell hzW).trans (qb 6)
    have g0 : ∀ w', Ext W.drew w' → w'.cell? ⟨g, 0, none⟩ = some (.int .i64 kk) := fun w' h => (((Ext.refl W).drew.trans h).cell hgW).trans hk0
    have g1 : ∀ w', Ext W.drew w' → w'.cell? ⟨g, 1, none⟩ = some (.string kn) := fun w' h => (((Ext.refl W).drew.trans h).cell hgW).trans hk1
    clear qb
    go_wp2_with fail
    have hSw : Ext W.drew W.drew := Ext.refl _
    refine wpS_begin (Ext W.drew) (by kernel_rfl) ?_
    refine wpS_take 0 (v := ?_) hSw rfl (by kernel_rfl) (by kernel_rfl) (by kernel_rfl) (by rfl) (fun w' hin => ?_) ?_
    rotate_left
    · (try simp only [] at hin); go_simp <;> with_reducible rfl
    try simp only [Act.put, List.setIfInBounds_toArray, List.set_cons_zero, List.set_cons_succ]
    refine wpS_take 2 (v := ?_) hSw rfl (by kernel_rfl) (by kernel_rfl) (by kernel_rfl) (by rfl) (fun w' hin => ?_) ?_
    rotate_left
    · (try simp only [] at hin); go_simp <;> with_reducible rfl
    try simp only [Act.put, List.setIfInBounds_toArray, List.set_cons_zero, List.set_cons_succ]
    refine wpS_one 1 rfl (by kernel_rfl) (by rfl) (fun K hK => ?_)
    go_simp
    refine (key_any ⟨rk, rn, rv, rp, rt, rr, rh⟩ B m d B' m' d' _).mono ?_
    rintro e w5 ⟨rfl, hb5⟩
    simp only []
    refine hK.out _ _ (Ext W.drew) (fun _ h => h) (hSw.trans hb5) (fun hSw => ?_)
    clear hK K
    try simp only [Act.put, List.setIfInBounds_toArray, List.set_cons_zero, List.set_cons_succ]
    refine wpS_take 3 (v := ?_) hSw rfl (by kernel_rfl) (by kernel_rfl) (by kernel_rfl) (by rfl) (fun w' hin => ?_) ?_
    rotate_left
    · (try simp only [] at hin); go_simp <;> with_reducible rfl
    try simp only [Act.put, List.setIfInBounds_toArray, List.set_cons_zero, List.set_cons_succ]
    refine wpS_take 4 (v := ?_) hSw rfl (by kernel_rfl) (by kernel_rfl) (by kernel_rfl) (by rfl) (fun w' hin => ?_) ?_
    rotate_left
    · (try simp only [] at hin); go_simp <;> with_reducible rfl
    try simp only [Act.put, List.setIfInBounds_toArray, List.set_cons_zero, List.set_cons_succ]
    refine wpS_done (by kernel_rfl) ?_
    go_wp2_with fail
    go_ret
    exact ⟨ret_bool HR.out.symm, EW.out.trans ((Ext.refl W).drew.trans hSw)⟩
set_option maxRecDepth 100000 in
set_option maxHeartbeats 1000000 in
theorem kind1_pred (k : Int) (g : Nat) (w0 : World) (hg : w0.heap[g]? = some (.cells #[.int .i64 k] 3 (0, 0))) : PredR All w0 123 #[.pointer (some ⟨g, 0, none⟩)] (fun r => decide (r.kind = k)) := by
  refine ⟨Tryz.call123, fun r B m d B' m' d' w he hv => ?_⟩
  show Calls Tryz.prog 123 #[rsVal r B m d B' m' d', .pointer (some ⟨g, 0, none⟩)] w _
  have hgl : g < w0.heap.size := (Array.getElem?_eq_some_iff.1 hg).1
  have hgc : w.cell? ⟨g, 0, none⟩ = some (.int .i64 k) := (blk_rules ((he.block hgl).trans hg)).1 0
  have hglw : g < w.heap.size := Nat.lt_of_lt_of_le hgl he.size
  have HR : Hid ((r.kind == k) = decide (r.kind = k)) := Lib.hid (by rw [Bool.eq_iff_iff]; simp)
  clear he hv hg
  unfold rsVal
  go_enter Tryz.func123, Tryz.ntmps123
  go_wp2_with fail
  go_ret
  exact ⟨ret_bool HR.out, Ext.new _ _⟩
set_option maxRecDepth 100000 in
set_option maxHeartbeats 1000000 in
theorem kind_any (k : Int) (A : Option Addr) (n c : Nat) (l : List Rs) (w : World) (hn : n ≤ 1000000) (hA : ResL All w A n l) :
    Calls Tryz.prog 43 #[.slice A n c, .int .i64 k] w (GivesL w (kindT l k)) := by
  have hmf : ∀ (fn : Fn) (first cap : Array Value) (w : World), (Instr.makeFunc fn first cap).run Tryz.prog w = .ok (.func fn first cap) w := fun _ _ _ _ => rfl
  have HA := Lib.hid hA
  clear hA
  go_enter Tryz.func43, Tryz.ntmps43
  go_wp2_with fail
  refine (filter_any 123 _ (fun r => decide (r.kind = k)) A n c l _ hn (HA.out.keep (Ext.new _ _).keep) (predR_rs (kind1_pred k w.heap.size _ (heap_alloc_new w _)) _)).mono ?_
  rintro e w1 ⟨B, m, d, rfl, h1, h2, h3⟩
  go_wp2_with fail
  go_ret
  exact ⟨B, m, d, rfl, h1, h2, (Ext.new _ _).trans h3⟩

/-- the one of a key, if there is one -/
def GivesO (w : World) (o : Option Rs) (e : Ending) (w' : World) : Prop := ∃ r B m d B' m' d', e = .returned (.tuple #[rsVal r B m d B' m' d', .bool o.isSome]) ∧ o.getD rs0 = r ∧ RsV All w' r B m d B' m' d' ∧ Ext w w'
theorem find_idx {p : Rs → Bool} {l : List Rs} (h : l.any p = true) : ∃ i x, l[i]? = some x ∧ idxB p l = (i : Nat) ∧ l.find? p = some x := by
  have hlt : l.findIdx p < l.length := List.findIdx_lt_length_of_exists (by simpa using List.any_eq_true.1 h)
  refine ⟨l.findIdx p, l[l.findIdx p], List.getElem?_eq_getElem hlt, by unfold idxB; rw [if_pos h], ?_⟩
  rw [List.find?_eq_some_iff_getElem]
  exact ⟨List.findIdx_getElem, l.findIdx p, hlt, rfl, fun j hj => by simpa using List.not_of_lt_findIdx hj⟩
theorem find_no {p : Rs → Bool} {l : List Rs} (h : l.any p = false) : idxB p l = -1 ∧ l.find? p = none := by
  refine ⟨idx_none h, ?_⟩
  rw [List.find?_eq_none]
  intro x hx; rw [List.any_eq_false] at h; exact h x hx
set_option maxRecDepth 100000 in
set_option maxHeartbeats 4000000 in
theorem get_any (k : Ky) (A : Option Addr) (n c : Nat) (l : List Rs) (w : World) (hn : n ≤ 1000000) (hA : ResL All w A n l) :
    Calls Tryz.prog 33 #[.slice A n c, .agg #[.int .i64 k.kind, .string k.name]] w (GivesO w (getT l k)) := by
  have hmf : ∀ (fn : Fn) (first cap : Array Value) (w : World), (Instr.makeFunc fn first cap).run Tryz.prog w = .ok (.func fn first cap) w := fun _ _ _ _ => rfl
  have HA := Lib.hid hA
  clear hA
  go_enter Tryz.func33, Tryz.ntmps33
  go_wp2_with fail
  refine (is_any k _).mono ?_
  rintro e w1 ⟨rfl, hw1⟩
  have E0 := Lib.hid ((Ext.new w (.cells #[.int .i64 k.kind, .string k.name] 38)).alloc (.cells #[.int .i64 0, .string ⟨#[]⟩, .int .i64 0, .int .i64 0, .string ⟨#[]⟩, .slice none 0 0, .slice none 0 0] 34))
  have KR0 := Lib.hid (two_blocks w (.cells #[.int .i64 k.kind, .string k.name] 38) (.cells #[.int .i64 0, .string ⟨#[]⟩, .int .i64 0, .int .i64 0, .string ⟨#[]⟩, .slice none 0 0, .slice none 0 0] 34)).2
  have hz0 : w.heap.size + 1 < ((w.alloc (.cells #[.int .i64 k.kind, .string k.name] 38)).alloc (.cells #[.int .i64 0, .string ⟨#[]⟩, .int .i64 0, .int .i64 0, .string ⟨#[]⟩, .slice none 0 0, .slice none 0 0] 34)).heap.size := by simp
  generalize (w.alloc (.cells #[.int .i64 k.kind, .string k.name] 38)).alloc (.cells #[.int .i64 0, .string ⟨#[]⟩, .int .i64 0, .int .i64 0, .string ⟨#[]⟩, .slice none 0 0, .slice none 0 0] 34) = W0 at hw1 E0 KR0 hz0 ⊢
  have hP := is1_pred k W0.heap.size w1 (by rw [hw1]; exact heap_alloc_new W0 _)
  have E1 : Hid (Ext w w1) := Lib.hid (by rw [hw1]; exact E0.out.alloc _)
  have KR1 : Hid (w1.heap[w.heap.size + 1]? = some (.cells #[.int .i64 0, .string ⟨#[]⟩, .int .i64 0, .int .i64 0, .string ⟨#[]⟩, .slice none 0 0, .slice none 0 0] 34 (0, 0))) := Lib.hid (by rw [hw1]; exact ((Ext.new W0 _).block hz0).trans KR0.out)
  have HP := Lib.hid hP
  clear hw1 hP KR0 E0
  go_wp2_with fail
  refine (indexR_any (T := All) All 177 _ (fun r => decide (r.key = k)) A n c l _ (by unfold maxLen; omega) (ResL.keep HA.out E1.out.keep) HP.out).mono ?_
  rintro e w2 ⟨rfl, hb2⟩
  have E2 := Lib.hid (E1.out.trans hb2)
  have KR2 := Lib.hid ((hb2.block (Array.getElem?_eq_some_iff.1 KR1.out).1).trans KR1.out)
  have hz2 : w.heap.size + 1 < w2.heap.size := (Array.getElem?_eq_some_iff.1 KR2.out).1
  clear hb2
  obtain ⟨r0, r1⟩ := blk_rules KR2.out
  cases ha : l.any (fun r => decide (r.key = k)) with
  | false =>
    obtain ⟨hI, hG⟩ := find_no ha
    rw [hI]
    have HG : Hid (getT l k = none) := Lib.hid hG
    clear ha hI hG
    go_wp2_with fail
    generalize hVV : ((((((w2.setCell ⟨w.heap.size + 1, 0, none⟩ (.int .i64 0)).setCell ⟨w.heap.size + 1, 1, none⟩ (.string ⟨#[]⟩)).setCell ⟨w.heap.size + 1, 2, none⟩ (.int .i64 0)).setCell ⟨w.heap.size + 1, 3, none⟩ (.int .i64 0)).setCell ⟨w.heap.size + 1, 4, none⟩ (.string ⟨#[]⟩)).setCell ⟨w.heap.size + 1, 5, none⟩ (.slice none 0 0)).setCell ⟨w.heap.size + 1, 6, none⟩ (.slice none 0 0) = V
    obtain ⟨bV, oV, -⟩ := set7 KR2.out (.int .i64 0) (.string ⟨#[]⟩) (.int .i64 0) (.int .i64 0) (.string ⟨#[]⟩) (.slice none 0 0) (.slice none 0 0) hVV
    have OV := oV w E2.out (by omega)
    clear hVV oV
    obtain ⟨z0, -⟩ := blk_rules bV
    rw [HG.out]
    exact bodyPost_ret (v := .tuple #[.agg #[.int .i64 0, .string ⟨#[]⟩, .int .i64 0, .int .i64 0, .string ⟨#[]⟩, .slice none 0 0, .slice none 0 0], .bool false]) (by simp [results, Tryz.results33, go_sem, z0]) rfl ⟨rs0, none, 0, 0, none, 0, 0, rfl, rfl, tab0_V _ _, OV⟩
  | true =>
    obtain ⟨i, x, hx, hI, hG⟩ := find_idx ha
    rw [hI]
    have HG : Hid (getT l k = some x) := Lib.hid hG
    have hin : i < n := by have := (List.getElem?_eq_some_iff.1 hx).1; rw [HA.out.len] at this; exact this
    obtain ⟨b, off, r, B, m, d, B', m', d', rfl, hbl0, -, hx', hv, d0, d1, d2, d3, d4, d5, d6⟩ := ResL.at_ HA.out hin
    obtain rfl : x = r := by rw [hx'] at hx; exact (Option.some.inj hx).symm
    have HV := Lib.hid hv
    have i1 : (0 : Int) ≤ (i : Int) := by omega
    have i2 : (i : Int) < (n : Int) := by omega
    have hbl : b < w2.heap.size := Nat.lt_of_lt_of_le hbl0 E2.out.size
    have t0 : w2.cell? ⟨b, off + i * 7, none⟩ = some (.int .i64 x.kind) := (E2.out.cell hbl0).trans d0
    have t1 : w2.cell? ⟨b, off + i * 7 + 1, none⟩ = some (.string x.name) := (E2.out.cell hbl0).trans d1
    have t2 : w2.cell? ⟨b, off + i * 7 + 2, none⟩ = some (.int .i64 x.ver) := (E2.out.cell hbl0).trans d2
    have t3 : w2.cell? ⟨b, off + i * 7 + 3, none⟩ = some (.int .i64 x.port) := (E2.out.cell hbl0).trans d3
    have t4 : w2.cell? ⟨b, off + i * 7 + 4, none⟩ = some (.string x.to) := (E2.out.cell hbl0).trans d4
    have t5 : w2.cell? ⟨b, off + i * 7 + 5, none⟩ = some (.slice B m d) := (E2.out.cell hbl0).trans d5
    have t6 : w2.cell? ⟨b, off + i * 7 + 6, none⟩ = some (.slice B' m' d') := (E2.out.cell hbl0).trans d6
    clear ha hI hG hx hx' hv d0 d1 d2 d3 d4 d5 d6
    go_wp2_with fail
    generalize hVV : ((((((w2.setCell ⟨w.heap.size + 1, 0, none⟩ (.int .i64 x.kind)).setCell ⟨w.heap.size + 1, 1, none⟩ (.string x.name)).setCell ⟨w.heap.size + 1, 2, none⟩ (.int .i64 x.ver)).setCell ⟨w.heap.size + 1, 3, none⟩ (.int .i64 x.port)).setCell ⟨w.heap.size + 1, 4, none⟩ (.string x.to)).setCell ⟨w.heap.size + 1, 5, none⟩ (.slice B m d)).setCell ⟨w.heap.size + 1, 6, none⟩ (.slice B' m' d') = V
    obtain ⟨bV, oV, -⟩ := set7 KR2.out (.int .i64 x.kind) (.string x.name) (.int .i64 x.ver) (.int .i64 x.port) (.string x.to) (.slice B m d) (.slice B' m' d') hVV
    have OV := oV w E2.out (by omega)
    clear hVV oV
    obtain ⟨z0, -⟩ := blk_rules bV
    rw [HG.out]
    exact bodyPost_ret (v := .tuple #[.agg #[.int .i64 x.kind, .string x.name, .int .i64 x.ver, .int .i64 x.port, .string x.to, .slice B m d, .slice B' m' d'], .bool true]) (by simp [results, Tryz.results33, go_sem, z0]) rfl ⟨x, B, m, d, B', m', d', rfl, rfl, HV.out.up OV, OV⟩

set_option maxRecDepth 100000 in
set_option maxHeartbeats 4000000 in
theorem keys_any (A : Option Addr) (n c : Nat) (l : List Rs) (w : World) (hn : n ≤ 1000000) (hA : ResL All w A n l) :
    Calls Tryz.prog 45 #[.slice A n c] w fun e w' => ∃ v us, e = .returned v ∧ w'.ownsRow w.heap.size 38 2 v n us ∧ RowsOf KyQ 2 us (l.map Rs.key) ∧ Ext w w' := by
  have HA := Lib.hid hA
  clear hA
  go_enter Tryz.func45, Tryz.ntmps45
  go_wp2_with fail
  go_loopw [3, 8] (fun v i wr => ∃ (k : Nat) (us : List Value), k ≤ n ∧ i = .int .i64 k ∧ Hid (wr.ownsRow w.heap.size 38 2 v k us) ∧ Hid (RowsOf KyQ 2 us ((l.take k).map Rs.key)) ∧ Hid (Ext w wr)) (fun _ i _ => n - (intOf i).toNat)
  case atStart => exact ⟨0, [], Nat.zero_le _, by go_num, Lib.hid own_nil, Lib.hid (show RowsOf KyQ 2 [] [] from rfl), Lib.hid (Ext.refl _)⟩
  case round =>
    obtain ⟨k, us, hk, rfl, HW, HU, HE⟩ := hrel
    by_cases hlt : k < n
    · obtain ⟨b, off, r, B, m, d, B', m', d', rfl, hbl0, -, hx, hv, d0, d1, d2, d3, d4, d5, d6⟩ := ResL.at_ HA.out hlt
      have hsz := hv.nm
      have HX := Lib.hid hx
      have hbl : b < wr.heap.size := Nat.lt_of_lt_of_le hbl0 HE.out.size
      have i1 : (0 : Int) ≤ (k : Int) := by omega
      have i2 : (k : Int) < (n : Int) := by omega
      have t0 : wr.cell? ⟨b, off + k * 7, none⟩ = some (.int .i64 r.kind) := (HE.out.cell hbl0).trans d0
      have t1 : wr.cell? ⟨b, off + k * 7 + 1, none⟩ = some (.string r.name) := (HE.out.cell hbl0).trans d1
      have t2 : wr.cell? ⟨b, off + k * 7 + 2, none⟩ = some (.int .i64 r.ver) := (HE.out.cell hbl0).trans d2
      have t3 : wr.cell? ⟨b, off + k * 7 + 3, none⟩ = some (.int .i64 r.port) := (HE.out.cell hbl0).trans d3
      have t4 : wr.cell? ⟨b, off + k * 7 + 4, none⟩ = some (.string r.to) := (HE.out.cell hbl0).trans d4
      have t5 : wr.cell? ⟨b, off + k * 7 + 5, none⟩ = some (.slice B m d) := (HE.out.cell hbl0).trans d5
      have t6 : wr.cell? ⟨b, off + k * 7 + 6, none⟩ = some (.slice B' m' d') := (HE.out.cell hbl0).trans d6
      clear hx hv d0 d1 d2 d3 d4 d5 d6
      go_wp2_with fail
      refine (key_any r B m d B' m' d' _).mono ?_
      rintro e w4 ⟨rfl, hb4⟩
      have E4 := Lib.hid ((HE.out.alloc _).trans hb4)
      have HW4 := Lib.hid (own_up HW.out ((Ext.new wr _).trans hb4))
      clear hb4 t0 t1 t2 t3 t4 t5 t6
      have hFk := flat_k1 w4 [.int .i64 r.kind, .string r.name] 38 rfl
      have hOW := own_up HW4.out (Ext.new w4 (.cells #[.int .i64 r.kind, .string r.name] 38))
      obtain ⟨v', w5, hrun, hown5, hg5, _⟩ := run_append_flat elem_key 46 hOW 1 hFk (by simp [Value.oneCell']) (by omega) (by omega) (by have h9 := E4.out.size; rw [World.size_alloc]; omega) (fun h => by cases h)
      have HRUN := Lib.hid hrun
      have E5 : Hid (Ext w w5) := Lib.hid ((E4.out.alloc (.cells #[.int .i64 r.kind, .string r.name] 38)).grown hg5 hOW (Nat.le_refl _))
      have HW5 := Lib.hid hown5
      have HU5 : Hid (RowsOf KyQ 2 (us ++ [.int .i64 r.kind, .string r.name]) ((l.take (k + 1)).map Rs.key)) := Lib.hid (by rw [take_snoc_of HX.out, List.map_append]; exact RowsOf.snoc (R := KyQ) (cs := [.int .i64 r.kind, .string r.name]) rfl (show KyQ _ r.key from ⟨rfl, hsz⟩) HU.out)
      clear hFk hOW hown5 hg5 hrun
      go_wp2_with (refine Lib.wpList_append_run _ rfl _ _ _ _ rfl _ _ rfl rfl v' w5 HRUN.out ?_)
      go_roundw
      case rel => exact ⟨k + 1, _, by omega, by go_num, HW5, HU5, E5⟩
      case measure => simp [intOf]; omega
    · obtain rfl : n = k := by omega
      have HU2 : Hid (RowsOf KyQ 2 us (l.map Rs.key)) := Lib.hid (by have := HU.out; rwa [List.take_of_length_le (Nat.le_of_eq HA.out.len)] at this)
      go_wp2_with fail
      go_ret
      exact ⟨_, us, rfl, HW.out, HU2.out, HE.out⟩
set_option maxRecDepth 100000 in
set_option maxHeartbeats 2000000 in
theorem without_any (k : Ky) (A : Option Addr) (n c : Nat) (l : List Rs) (w : World) (hsl : SlW A n c) (hn : n ≤ 1000000) (hA : ResL All w A n l) :
    Calls Tryz.prog 41 #[.slice A n c, .agg #[.int .i64 k.kind, .string k.name]] w (GivesL w (withoutT l k)) := by
  obtain ⟨us, hfl, hU0⟩ := hA.arr.rows (by omega)
  have HFl := Lib.hid hfl
  have HU := Lib.hid hU0
  have H1 := Lib.hid (rowsR_one HU.out)
  have HS := Lib.hid hsl
  clear hfl hU0 hA hsl
  go_enter Tryz.func41, Tryz.ntmps41
  go_wp2_with fail
  have KB := Lib.hid (heap_alloc_new w (.cells #[.int .i64 k.kind, .string k.name] 38))
  have EW := Lib.hid (Ext.new w (.cells #[.int .i64 k.kind, .string k.name] 38))
  have hzW : w.heap.size < (w.alloc (.cells #[.int .i64 k.kind, .string k.name] 38)).heap.size := by simp
  generalize w.alloc (.cells #[.int .i64 k.kind, .string k.name] 38) = W at KB EW hzW ⊢
  obtain ⟨qb, -⟩ := blk_rules KB.out
  have t0 : ∀ w', Ext W.drew w' → w'.cell? ⟨w.heap.size, 0, none⟩ = some (.int .i64 k.kind) := fun w' h => (((Ext.refl W).drew.trans h).cell hzW).trans (qb 0)
  have t1 : ∀ w', Ext W.drew w' → w'.cell? ⟨w.heap.size, 1, none⟩ = some (.string k.name) := fun w' h => (((Ext.refl W).drew.trans h).cell hzW).trans (qb 1)
  clear qb
  have hSw : Ext W.drew W.drew := Ext.refl _
  refine wpS_begin (Ext W.drew) (by kernel_rfl) ?_
  refine wpS_take 0 (v := ?_) hSw rfl (by kernel_rfl) (by kernel_rfl) (by kernel_rfl) (by rfl) (fun w' hin => ?_) ?_
  rotate_left
  · (try simp only [] at hin); go_simp <;> with_reducible rfl
  try simp only [Act.put, List.setIfInBounds_toArray, List.set_cons_zero, List.set_cons_succ]
  refine wpS_take 2 (v := ?_) hSw rfl (by kernel_rfl) (by kernel_rfl) (by kernel_rfl) (by rfl) (fun w' hin => ?_) ?_
  rotate_left
  · (try simp only [] at hin); go_simp <;> with_reducible rfl
  try simp only [Act.put, List.setIfInBounds_toArray, List.set_cons_zero, List.set_cons_succ]
  refine wpS_one 1 rfl (by kernel_rfl) (by rfl) (fun K hK => ?_)
  go_simp
  refine (cloneR_any A n c us _ (HFl.out.up (EW.out.drew)) H1.out HS.out.2.2 hn).mono ?_
  rintro e w1 ⟨v1, rfl, hown1, hb1⟩
  have HO1 := Lib.hid hown1
  have E1 := Lib.hid hb1
  simp only []
  refine hK.out _ _ (Ext W.drew) (fun _ h => h) (E1.out) (fun hSw => ?_)
  clear hK K
  try simp only [Act.put, List.setIfInBounds_toArray, List.set_cons_zero, List.set_cons_succ]
  refine wpS_one 3 rfl (by kernel_rfl) (by rfl) (fun K hK => ?_)
  go_simp
  refine (is_any k _).mono ?_
  rintro e w2 ⟨rfl, hw2⟩
  have E2 : Hid (Ext w1 w2) := Lib.hid (by rw [hw2]; exact Ext.new _ _)
  have HQ : Hid (w2.heap[w1.heap.size]? = some (.cells #[.int .i64 k.kind, .string k.name] 38 (0, 0))) := Lib.hid (by rw [hw2]; exact heap_alloc_new w1 _)
  clear hw2
  simp only []
  refine hK.out _ _ (Ext W.drew) (fun _ h => h) (E1.out.trans E2.out) (fun hSw => ?_)
  clear hK K
  try simp only [Act.put, List.setIfInBounds_toArray, List.set_cons_zero, List.set_cons_succ]
  refine wpS_one 4 rfl (by kernel_rfl) (by rfl) (fun K hK => ?_)
  go_simp
  refine (deleteQ_any All 177 _ (fun r => decide (r.key = k)) v1 n us l W.drew w2 (E1.out.trans E2.out) hn (own_up HO1.out E2.out) (HU.out.mono (fun _ _ h => h.keep EW.out.drew.keep)) w1.heap.size _ HQ.out (fun b hb => by have := (HO1.out.lt b hb).2; omega)
    ⟨Tryz.call177, fun r B m d B' m' d' wx _ hq hv => (is1_pred k w1.heap.size wx hq).2 r B m d B' m' d' wx (Ext.refl _) hv⟩).mono ?_
  rintro e w3 ⟨C, p, f, rfl, h1, h2, h3⟩
  have HOUT : Hid (GivesL w (withoutT l k) (.returned (.slice C p f)) w3) := Lib.hid ⟨C, p, f, rfl, h1, ArrQ.weak (ArrR.q h2) (fun _ _ h => RsQ.keep h h3.keep) (fun _ _ _ => trivial), EW.out.drew.trans h3⟩
  simp only []
  refine hK.out _ _ (Ext W.drew) (fun _ h => h) (h3) (fun hSw => ?_)
  clear hK K
  try simp only [Act.put, List.setIfInBounds_toArray, List.set_cons_zero, List.set_cons_succ]
  refine wpS_take 5 (v := ?_) hSw rfl (by kernel_rfl) (by kernel_rfl) (by kernel_rfl) (by rfl) (fun w' hin => ?_) ?_
  rotate_left
  · (try simp only [] at hin); go_simp <;> with_reducible rfl
  try simp only [Act.put, List.setIfInBounds_toArray, List.set_cons_zero, List.set_cons_succ]
  refine wpS_done (by kernel_rfl) ?_
  go_wp2_with fail
  go_ret
  exact HOUT.out
theorem tabSame_any (A B : Option Addr) (n c m d : Nat) (l l' : List Rs) (w : World) (hm : n ≤ maxLen) (hm' : m ≤ maxLen) (hA : ResL All w A n l) (hB : ResL All w B m l') :
    Calls Tryz.prog 49 #[.slice A n c, .slice B m d] w fun e w' => e = .returned (.bool (decide (l = l'))) ∧ Ext w w' := by
  have HA := Lib.hid hA
  have HB := Lib.hid hB
  clear hA hB
  go_enter Tryz.func49, Tryz.ntmps49
  go_wp2_with fail
  refine (equalFR_any All (T := All) (T' := All) 112 A B n c m d l l' w hm hm' HA.out HB.out (same_same All w)).mono ?_
  rintro e w1 ⟨rfl, hb1⟩
  have E1 := Lib.hid hb1
  go_wp2_with fail
  go_ret
  exact ⟨rfl, E1.out⟩
end Go.Proofs.YtfdjbnofcniodaaGreatDoor
