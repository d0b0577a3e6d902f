/- table's filter and Kind: what is kept is read in an older world. -/
import Derived.Test.YtepifkmileilfaaDoorTab1
namespace Go.Proofs.YtepifkmileilfaaDoor
set_option linter.unusedVariables false
open Go.RowKit

def GivesQ (w0 w : World) (l : List Rs) (e : Ending) (w' : World) : Prop := ∃ A n c, e = .returned (.slice A n c) ∧ SlW A n c ∧ ArrQ All w' 7 (RsQ All w0) A n l ∧ Ext w w'
set_option maxRecDepth 100000 in
set_option maxHeartbeats 4000000 in
theorem filterQ_any (F : Nat) (caps : Array Value) (p : Rs → Bool) (A : Option Addr) (n c : Nat) (l : List Rs) (w0 w : World) (he0 : Ext w0 w) (hn : n ≤ 1000000) (hA : ArrQ All w 7 (RsQ All w0) A n l) (hF : PredRs w F caps p l) :
    Calls Tryd.prog 85 #[.slice A n c, .func (.func F) #[] caps] w (GivesQ w0 w (l.filter p)) := by
  have HA := Lib.hid hA
  have HE0 := Lib.hid he0
  have HF := Lib.hid hF
  clear hA hF he0
  go_enter Tryd.func85, Tryd.ntmps85
  go_wp2_with fail
  go_loopw [5, 10] (fun v i wr => ∃ (k : Nat) (us : List Value), k ≤ n ∧ i = .int .i64 k ∧ Hid (wr.ownsRow w.heap.size 36 7 v ((l.take k).filter p).length us) ∧ Hid (RowsOf (RsQ All w0) 7 us ((l.take k).filter p)) ∧ Hid (Ext w wr)) (fun _ i _ => n - (intOf i).toNat)
  case atStart => exact ⟨0, [], Nat.zero_le _, by go_num, Lib.hid (by simpa using own_nil), Lib.hid (show RowsOf (RsQ All w0) 7 [] [] from rfl), Lib.hid (Ext.refl _)⟩
  case round =>
    obtain ⟨k, us, hk, rfl, HW, HU, HE⟩ := hrel
    by_cases hlt : k < n
    · obtain ⟨b, off, r, B, m, d, B', m', d', rfl, hbl0, -, hx, hv, d0, d1, d2, d3, d4, d5, d6⟩ := ResL.at_ HA.out hlt
      have HV := Lib.hid hv
      have HX := Lib.hid hx
      have hbl : b < wr.heap.size := Nat.lt_of_lt_of_le hbl0 HE.out.size
      have hcnt := tab_le p l k
      have i1 : (0 : Int) ≤ (k : Int) := by omega
      have i2 : (k : Int) < (n : Int) := by omega
      have t0 : wr.cell? ⟨b, off + k * 7, none⟩ = some (.int .i64 r.kind) := (HE.out.cell hbl0).trans d0
      have t1 : wr.cell? ⟨b, off + k * 7 + 1, none⟩ = some (.string r.name) := (HE.out.cell hbl0).trans d1
      have t2 : wr.cell? ⟨b, off + k * 7 + 2, none⟩ = some (.int .i64 r.ver) := (HE.out.cell hbl0).trans d2
      have t3 : wr.cell? ⟨b, off + k * 7 + 3, none⟩ = some (.int .i64 r.port) := (HE.out.cell hbl0).trans d3
      have t4 : wr.cell? ⟨b, off + k * 7 + 4, none⟩ = some (.string r.to) := (HE.out.cell hbl0).trans d4
      have t5 : wr.cell? ⟨b, off + k * 7 + 5, none⟩ = some (.slice B m d) := (HE.out.cell hbl0).trans d5
      have t6 : wr.cell? ⟨b, off + k * 7 + 6, none⟩ = some (.slice B' m' d') := (HE.out.cell hbl0).trans d6
      clear hx hv d0 d1 d2 d3 d4 d5 d6
      go_wp2_with fail
      rw [HF.out.1, Oper.upon_enter]
      refine (HF.out.2 r (List.mem_of_getElem? HX.out) B m d B' m' d' _ (HE.out.alloc _) (HV.out.up (HE0.out.trans (HE.out.alloc _)))).mono ?_
      rintro e w4 ⟨rfl, hb4⟩
      have K4 := Lib.hid (box_at hb4)
      have E4 := Lib.hid ((HE.out.alloc _).trans hb4)
      have HW4 := Lib.hid (own_up HW.out ((Ext.new wr _).trans hb4))
      have hz4 : wr.heap.size < w4.heap.size := (Array.getElem?_eq_some_iff.1 K4.out).1
      clear hb4 t0 t1 t2 t3 t4 t5 t6
      obtain ⟨q0, q1⟩ := blk_rules K4.out
      cases hp : p r with
      | true =>
        have HFS : Hid ((l.take (k + 1)).filter p = (l.take k).filter p ++ [r]) := Lib.hid (tab_snoc HX.out hp)
        have hFk := flat_k1 w4 [.int .i64 r.kind, .string r.name, .int .i64 r.ver, .int .i64 r.port, .string r.to, .slice B m d, .slice B' m' d'] 36 rfl
        have hOW := own_up HW4.out (Ext.new w4 (.cells #[.int .i64 r.kind, .string r.name, .int .i64 r.ver, .int .i64 r.port, .string r.to, .slice B m d, .slice B' m' d'] 36))
        obtain ⟨v', w5, hrun, hown5, hg5, _⟩ := run_append_flat elem_res 48 hOW 1 hFk (by simp [Value.oneCell']) (by omega) (by omega) (by have h9 := E4.out.size; rw [World.size_alloc]; omega) (fun h => by cases h)
        have HRUN := Lib.hid hrun
        have E5 : Hid (Ext w w5) := Lib.hid ((E4.out.alloc (.cells #[.int .i64 r.kind, .string r.name, .int .i64 r.ver, .int .i64 r.port, .string r.to, .slice B m d, .slice B' m' d'] 36)).grown hg5 hOW (Nat.le_refl _))
        have HW5 : Hid (w5.ownsRow w.heap.size 36 7 v' ((l.take (k + 1)).filter p).length (us ++ [.int .i64 r.kind, .string r.name, .int .i64 r.ver, .int .i64 r.port, .string r.to, .slice B m d, .slice B' m' d'])) := Lib.hid (by rw [HFS.out, List.length_append]; exact hown5)
        have hRr : RsQ All w0 [.int .i64 r.kind, .string r.name, .int .i64 r.ver, .int .i64 r.port, .string r.to, .slice B m d, .slice B' m' d'] r := ⟨_, _, _, _, _, _, rfl, HV.out⟩
        have HU5 : Hid (RowsOf (RsQ All w0) 7 (us ++ [.int .i64 r.kind, .string r.name, .int .i64 r.ver, .int .i64 r.port, .string r.to, .slice B m d, .slice B' m' d']) ((l.take (k + 1)).filter p)) := Lib.hid (by rw [HFS.out]; exact RowsOf.snoc rfl hRr HU.out)
        clear hp hFk hOW hRr hown5 hg5 hrun
        go_wp2_with (refine Lib.wpList_append_run _ rfl _ _ _ _ rfl _ _ rfl rfl v' w5 HRUN.out ?_)
        clear q0 q1
        go_roundw
        case rel => exact ⟨k + 1, _, by omega, by go_num, HW5, HU5, E5⟩
        case measure => simp [intOf]; omega
      | false =>
        have HFS : Hid ((l.take (k + 1)).filter p = (l.take k).filter p) := Lib.hid (tab_skip HX.out hp)
        have hw5 := HW4.out
        rw [← HFS.out] at hw5
        have HW5 := Lib.hid hw5
        have HU5 : Hid (RowsOf (RsQ All w0) 7 us ((l.take (k + 1)).filter p)) := Lib.hid (by rw [HFS.out]; exact HU.out)
        clear hw5 hp
        go_wp2_with fail
        clear q0 q1
        go_roundw
        case rel => exact ⟨k + 1, _, by omega, by go_num, HW5, HU5, E4⟩
        case measure => simp [intOf]; omega
    · obtain rfl : n = k := by omega
      have HT : Hid ((l.take n).filter p = l.filter p) := Lib.hid (by rw [List.take_of_length_le (Nat.le_of_eq HA.out.len)])
      obtain ⟨Aw, cw, rfl, hw1, hw2, hw3, hwF⟩ := own_flat HW.out
      have HS : Hid (SlW Aw ((l.take n).filter p).length cw) := Lib.hid ⟨hw1, hw2, hw3⟩
      have HL : Hid (ArrQ All wr 7 (RsQ All w0) Aw ((l.take n).filter p).length (l.filter p)) := Lib.hid ((congrArg (fun z => ArrQ All wr 7 (RsQ All w0) Aw ((l.take n).filter p).length z) HT.out).mp (hwF.arrQ (S := All) HU.out (by omega) (fun _ _ _ _ => trivial)))
      clear hwF hw1 hw2 hw3
      go_wp2_with fail
      go_ret
      exact ⟨Aw, _, cw, rfl, HS.out, HL.out, HE.out⟩

set_option maxRecDepth 100000 in
set_option maxHeartbeats 1000000 in
theorem kindQ_any (k : Int) (A : Option Addr) (n c : Nat) (l : List Rs) (w0 w : World) (he0 : Ext w0 w) (hn : n ≤ 1000000) (hA : ArrQ All w 7 (RsQ All w0) A n l) :
    Calls Tryd.prog 32 #[.slice A n c, .int .i64 k] w (GivesQ w0 w (kindT l k)) := by
  have hmf : ∀ (fn : Fn) (first cap : Array Value) (w : World), (Instr.makeFunc fn first cap).run Tryd.prog w = .ok (.func fn first cap) w := fun _ _ _ _ => rfl
  have HA := Lib.hid hA
  clear hA
  go_enter Tryd.func32, Tryd.ntmps32
  go_wp2_with fail
  refine (filterQ_any 86 _ (fun r => decide (r.kind = k)) A n c l w0 _ (he0.trans (Ext.new _ _)) hn (ArrQ.keep HA.out (fun _ _ _ h => h) (Ext.new _ _).keep) (predR_rs (kind1_pred k w.heap.size _ (heap_alloc_new w _)) _)).mono ?_
  rintro e w1 ⟨B, m, d, rfl, h1, h2, h3⟩
  go_wp2_with fail
  go_ret
  exact ⟨B, m, d, rfl, h1, h2, (Ext.new _ _).trans h3⟩
end Go.Proofs.YtepifkmileilfaaDoor
