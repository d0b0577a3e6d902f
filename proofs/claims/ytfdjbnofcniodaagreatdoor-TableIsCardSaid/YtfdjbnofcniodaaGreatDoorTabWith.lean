/- What package table's With computes. -/
import Derived.Test.YtfdjbnofcniodaaGreatDoorTabCat
import Derived.Test.YtfdjbnofcniodaaGreatDoorTabDiff
import Derived.Test.YtfdjbnofcniodaaGreatDoorCmp
import Derived.Test.YtfdjbnofcniodaaGreatDoorGround
namespace Go.Proofs.YtfdjbnofcniodaaGreatDoor
set_option linter.unusedVariables false
open Go.RowKit

set_option maxRecDepth 100000 in
set_option maxHeartbeats 2000000 in
theorem with11_pred (key : Ky) (c : Int) (gk gc : Nat) (w0 : World) (hk : w0.heap[gk]? = some (.cells #[.int .i64 key.kind, .string key.name] 38 (0, 0))) (hc : w0.heap[gc]? = some (.cells #[.int .i64 c] 3 (0, 0))) :
    PredR All w0 118 #[.pointer (some ⟨gk, 0, none⟩), .pointer (some ⟨gc, 0, none⟩)] (fun x => decide (cmpK x.key key = c)) := by
  refine ⟨Tryz.call118, fun r B m d B' m' d' w he hv => ?_⟩
  show Calls Tryz.prog 118 #[rsVal r B m d B' m' d', .pointer (some ⟨gk, 0, none⟩), .pointer (some ⟨gc, 0, none⟩)] w _
  have hkl : gk < w0.heap.size := (Array.getElem?_eq_some_iff.1 hk).1
  have hcl : gc < w0.heap.size := (Array.getElem?_eq_some_iff.1 hc).1
  have HK := Lib.hid ((he.block hkl).trans hk)
  have HC := Lib.hid ((he.block hcl).trans hc)
  have hkw : gk < w.heap.size := Nat.lt_of_lt_of_le hkl he.size
  have hcw : gc < w.heap.size := Nat.lt_of_lt_of_le hcl he.size
  clear hk hc he hv
  unfold rsVal
  go_enter Tryz.func118, Tryz.ntmps118
  go_wp2_with fail
  have KB := Lib.hid (heap_alloc_new w (.cells #[.int .i64 r.kind, .string r.name, .int .i64 r.ver, .int .i64 r.port, .string r.to, .slice B m d, .slice B' m' d'] 34))
  have EW := Lib.hid (Ext.new w (.cells #[.int .i64 r.kind, .string r.name, .int .i64 r.ver, .int .i64 r.port, .string r.to, .slice B m d, .slice B' m' d'] 34))
  have hzW : w.heap.size < (w.alloc (.cells #[.int .i64 r.kind, .string r.name, .int .i64 r.ver, .int .i64 r.port, .string r.to, .slice B m d, .slice B' m' d'] 34)).heap.size := by simp
  have KK := Lib.hid (((Ext.new w (.cells #[.int .i64 r.kind, .string r.name, .int .i64 r.ver, .int .i64 r.port, .string r.to, .slice B m d, .slice B' m' d'] 34)).block hkw).trans HK.out)
  have KC := Lib.hid (((Ext.new w (.cells #[.int .i64 r.kind, .string r.name, .int .i64 r.ver, .int .i64 r.port, .string r.to, .slice B m d, .slice B' m' d'] 34)).block hcw).trans HC.out)
  generalize w.alloc (.cells #[.int .i64 r.kind, .string r.name, .int .i64 r.ver, .int .i64 r.port, .string r.to, .slice B m d, .slice B' m' d'] 34) = W at KB EW hzW KK KC ⊢
  have hkW : gk < W.heap.size := by omega
  have hcW : gc < W.heap.size := by omega
  obtain ⟨qb, -⟩ := blk_rules KB.out
  obtain ⟨qk, -⟩ := blk_rules KK.out
  obtain ⟨qc, -⟩ := blk_rules KC.out
  have t0 : ∀ w', Ext W.drew w' → w'.cell? ⟨w.heap.size, 0, none⟩ = some (.int .i64 r.kind) := fun w' h => (((Ext.refl W).drew.trans h).cell hzW).trans (qb 0)
  have t1 : ∀ w', Ext W.drew w' → w'.cell? ⟨w.heap.size, 1, none⟩ = some (.string r.name) := fun w' h => (((Ext.refl W).drew.trans h).cell hzW).trans (qb 1)
  have t2 : ∀ w', Ext W.drew w' → w'.cell? ⟨w.heap.size, 2, none⟩ = some (.int .i64 r.ver) := fun w' h => (((Ext.refl W).drew.trans h).cell hzW).trans (qb 2)
  have t3 : ∀ w', Ext W.drew w' → w'.cell? ⟨w.heap.size, 3, none⟩ = some (.int .i64 r.port) := fun w' h => (((Ext.refl W).drew.trans h).cell hzW).trans (qb 3)
  have t4 : ∀ w', Ext W.drew w' → w'.cell? ⟨w.heap.size, 4, none⟩ = some (.string r.to) := fun w' h => (((Ext.refl W).drew.trans h).cell hzW).trans (qb 4)
  have t5 : ∀ w', Ext W.drew w' → w'.cell? ⟨w.heap.size, 5, none⟩ = some (.slice B m d) := fun w' h => (((Ext.refl W).drew.trans h).cell hzW).trans (qb 5)
  have t6 : ∀ w', Ext W.drew w' → w'.cell? ⟨w.heap.size, 6, none⟩ = some (.slice B' m' d') := fun w' h => (((Ext.refl W).drew.trans h).cell hzW).trans (qb 6)
  have k0 : ∀ w', Ext W.drew w' → w'.cell? ⟨gk, 0, none⟩ = some (.int .i64 key.kind) := fun w' h => (((Ext.refl W).drew.trans h).cell hkW).trans (qk 0)
  have k1 : ∀ w', Ext W.drew w' → w'.cell? ⟨gk, 1, none⟩ = some (.string key.name) := fun w' h => (((Ext.refl W).drew.trans h).cell hkW).trans (qk 1)
  have c0 : ∀ w', Ext W.drew w' → w'.cell? ⟨gc, 0, none⟩ = some (.int .i64 c) := fun w' h => (((Ext.refl W).drew.trans h).cell hcW).trans (qc 0)
  have HR : Hid ((cmpK r.key key == c) = decide (cmpK r.key key = c)) := Lib.hid (by rw [Bool.eq_iff_iff]; simp)
  clear qb qk qc
  go_wp2_with fail
  have hSw : Ext W.drew W.drew := Ext.refl _
  refine wpS_begin (Ext W.drew) (by kernel_rfl) ?_
  refine wpS_take 0 (v := ?_) hSw rfl (by kernel_rfl) (by kernel_rfl) (by kernel_rfl) (by rfl) (fun w' hin => ?_) ?_
  rotate_left
  · (try simp only [] at hin); go_simp <;> with_reducible rfl
  try simp only [Act.put, List.setIfInBounds_toArray, List.set_cons_zero, List.set_cons_succ]
  refine wpS_take 2 (v := ?_) hSw rfl (by kernel_rfl) (by kernel_rfl) (by kernel_rfl) (by rfl) (fun w' hin => ?_) ?_
  rotate_left
  · (try simp only [] at hin); go_simp <;> with_reducible rfl
  try simp only [Act.put, List.setIfInBounds_toArray, List.set_cons_zero, List.set_cons_succ]
  refine wpS_take 4 (v := ?_) hSw rfl (by kernel_rfl) (by kernel_rfl) (by kernel_rfl) (by rfl) (fun w' hin => ?_) ?_
  rotate_left
  · (try simp only [] at hin); go_simp <;> with_reducible rfl
  try simp only [Act.put, List.setIfInBounds_toArray, List.set_cons_zero, List.set_cons_succ]
  refine wpS_one 1 rfl (by kernel_rfl) (by rfl) (fun K hK => ?_)
  go_simp
  refine (key_any r B m d B' m' d' _).mono ?_
  rintro e w5 ⟨rfl, hb5⟩
  have E5 : Ext W.drew w5 := hSw.trans hb5
  simp only []
  refine hK.out _ _ (Ext W.drew) (fun _ h => h) (E5) (fun hSw => ?_)
  clear hK K
  try simp only [Act.put, List.setIfInBounds_toArray, List.set_cons_zero, List.set_cons_succ]
  refine wpS_one 3 rfl (by kernel_rfl) (by rfl) (fun K hK => ?_)
  go_simp
  refine (cmp_any r.key key _).mono ?_
  rintro e w6 ⟨rfl, hb6⟩
  have E6 : Ext W.drew w6 := E5.trans hb6
  obtain ⟨v, hv⟩ : ∃ v, v = cmpK r.key key := ⟨_, rfl⟩
  have HRv : Hid ((v == c) = decide (cmpK r.key key = c)) := Lib.hid (by rw [hv]; exact HR.out)
  rw [← hv]
  clear hv
  simp only []
  refine hK.out _ _ (Ext W.drew) (fun _ h => h) (E6) (fun hSw => ?_)
  clear hK K
  try simp only [Act.put, List.setIfInBounds_toArray, List.set_cons_zero, List.set_cons_succ]
  refine wpS_take 5 (v := ?_) hSw rfl (by kernel_rfl) (by kernel_rfl) (by kernel_rfl) (by rfl) (fun w' hin => ?_) ?_
  rotate_left
  · (try simp only [] at hin); go_simp <;> with_reducible rfl
  try simp only [Act.put, List.setIfInBounds_toArray, List.set_cons_zero, List.set_cons_succ]
  refine wpS_take 6 (v := ?_) hSw rfl (by kernel_rfl) (by kernel_rfl) (by kernel_rfl) (by rfl) (fun w' hin => ?_) ?_
  rotate_left
  · (try simp only [] at hin); go_simp <;> with_reducible rfl
  try simp only [Act.put, List.setIfInBounds_toArray, List.set_cons_zero, List.set_cons_succ]
  refine wpS_done (by kernel_rfl) ?_
  go_wp2_with fail
  go_ret
  exact ⟨ret_bool HRv.out, EW.out.trans ((Ext.refl W).drew.trans hSw)⟩
set_option maxRecDepth 100000 in
set_option maxHeartbeats 2000000 in
theorem side_any (key : Ky) (x : Int) (gl gk : Nat) (A : Option Addr) (n c : Nat) (l : List Rs) (w : World) (hn : n ≤ 1000000) (hA : ResL All w A n l) (hl : w.heap[gl]? = some (.cells #[.slice A n c] 42 (0, 0))) (hk : w.heap[gk]? = some (.cells #[.int .i64 key.kind, .string key.name] 38 (0, 0))) :
    Calls Tryz.prog 117 #[.int .i64 x, .pointer (some ⟨gl, 0, none⟩), .pointer (some ⟨gk, 0, none⟩)] w (GivesL w (l.filter (fun y => decide (cmpK y.key key = x)))) := by
  have hmf : ∀ (fn : Fn) (first cap : Array Value) (w : World), (Instr.makeFunc fn first cap).run Tryz.prog w = .ok (.func fn first cap) w := fun _ _ _ _ => rfl
  have HA := Lib.hid hA
  have hlw : gl < w.heap.size := (Array.getElem?_eq_some_iff.1 hl).1
  have hkw : gk < w.heap.size := (Array.getElem?_eq_some_iff.1 hk).1
  have l0 : w.cell? ⟨gl, 0, none⟩ = some (.slice A n c) := (blk_rules hl).1 0
  have HK := Lib.hid hk
  clear hA hk hl
  go_enter Tryz.func117, Tryz.ntmps117
  go_wp2_with fail
  refine (filter_any 118 _ (fun y => decide (cmpK y.key key = x)) A n c l _ hn (HA.out.keep (Ext.new _ _).keep) (predR_rs (with11_pred key x gk w.heap.size _ (((Ext.new w _).block hkw).trans HK.out) (heap_alloc_new w _)) _)).mono ?_
  rintro e w1 ⟨C, p, f, rfl, h1, h2, h3⟩
  go_wp2_with fail
  go_ret
  exact ⟨C, p, f, rfl, h1, h2, (Ext.new _ _).trans h3⟩

theorem flat_at {w : World} {q : Nat} {cs : List Value} {t : TypeId} {k : Nat} (hq : w.heap[q]? = some (.cells cs.toArray t (0, 0))) (h : cs.length = k) : Flat w k (some ⟨q, 0, none⟩) 1 cs :=
  ⟨by rw [h, Nat.one_mul], fun _ => ⟨q, 0, rfl, (Array.getElem?_eq_some_iff.1 hq).1, fun j u hu => by
    rw [cell_of_row _ _ _ cs.toArray t (0, 0) hq, Nat.zero_add]; simpa using hu⟩⟩
set_option maxRecDepth 100000 in
set_option maxHeartbeats 2000000 in
theorem concat3_any (A1 : Option Addr) (n1 c1 : Nat) (l1 : List Rs) (q : Nat) (r : Rs) (B : Option Addr) (m d : Nat) (B' : Option Addr) (m' d' : Nat) (A3 : Option Addr) (n3 c3 : Nat) (l3 : List Rs) (w0 w : World) (he : Ext w0 w)
    (hs1 : SlW A1 n1 c1) (h1 : ResL All w A1 n1 l1) (hq : w.heap[q]? = some (.cells #[.int .i64 r.kind, .string r.name, .int .i64 r.ver, .int .i64 r.port, .string r.to, .slice B m d, .slice B' m' d'] 34 (0, 0))) (hv : RsV All w r B m d B' m' d') (hs3 : SlW A3 n3 c3) (h3 : ResL All w A3 n3 l3) (hs : n1 + 1 + n3 ≤ 1000000) :
    Calls Tryz.prog 119 #[.slice (some ⟨w.heap.size, 0, none⟩) 3 3] (w.alloc (.cells #[.slice A1 n1 c1, .slice (some ⟨q, 0, none⟩) 1 1, .slice A3 n3 c3] 42)) (GivesL w0 (l1 ++ [r] ++ l3)) := by
  obtain ⟨us1, hf1, hU1⟩ := h1.arr.rows (by omega)
  obtain ⟨us3, hf3, hU3⟩ := h3.arr.rows (by omega)
  have EA : Ext w (w.alloc (.cells #[.slice A1 n1 c1, .slice (some ⟨q, 0, none⟩) 1 1, .slice A3 n3 c3] 42)) := Ext.new _ _
  have hA : ArrR (w.alloc (.cells #[.slice A1 n1 c1, .slice (some ⟨q, 0, none⟩) 1 1, .slice A3 n3 c3] 42)) 1 (fun cs p => cs = [Value.slice p.1 p.2.1 p.2.2]) (some ⟨w.heap.size, 0, none⟩) 3 [(A1, n1, c1), (some ⟨q, 0, none⟩, 1, 1), (A3, n3, c3)] := by
    refine ArrR.of_block (heap_alloc_new w _) rfl fun k p hp => ?_
    match k, hp with
    | 0, hp => cases hp; exact ⟨_, rfl, rfl, fun j u hu => by match j, hu with | 0, hu => exact hu⟩
    | 1, hp => cases hp; exact ⟨_, rfl, rfl, fun j u hu => by match j, hu with | 0, hu => exact hu⟩
    | 2, hp => cases hp; exact ⟨_, rfl, rfl, fun j u hu => by match j, hu with | 0, hu => exact hu⟩
  have hc : cntP [(A1, n1, c1), (some ⟨q, 0, none⟩, 1, 1), (A3, n3, c3)] 3 = n1 + 1 + n3 := by simp [cntP]; omega
  refine (concat_res (some ⟨w.heap.size, 0, none⟩) 3 3 [(A1, n1, c1), (some ⟨q, 0, none⟩, 1, 1), (A3, n3, c3)] [us1, [.int .i64 r.kind, .string r.name, .int .i64 r.ver, .int .i64 r.port, .string r.to, .slice B m d, .slice B' m' d'], us3] _ hA rfl ?_ (by rw [hc]; exact hs) (by omega)).mono ?_
  · intro i p hp
    match i, hp with
    | 0, hp => cases hp; exact ⟨hs1.2.2, us1, rfl, hf1.up EA, rowsR_one hU1⟩
    | 1, hp => cases hp; exact ⟨(fun h => by cases h), [.int .i64 r.kind, .string r.name, .int .i64 r.ver, .int .i64 r.port, .string r.to, .slice B m d, .slice B' m' d'], rfl, (flat_at (cs := [.int .i64 r.kind, .string r.name, .int .i64 r.ver, .int .i64 r.port, .string r.to, .slice B m d, .slice B' m' d']) hq rfl).up EA, by simp [Value.oneCell']⟩
    | 2, hp => cases hp; exact ⟨hs3.2.2, us3, rfl, hf3.up EA, rowsR_one hU3⟩
  · rintro e w1 ⟨v, rfl, hown, hb⟩
    rw [hc] at hown
    obtain ⟨A, c, rfl, hw1, hw2, hw3, hwF⟩ := own_flat hown
    have hRr : RsQ All w [.int .i64 r.kind, .string r.name, .int .i64 r.ver, .int .i64 r.port, .string r.to, .slice B m d, .slice B' m' d'] r := ⟨_, _, _, _, _, _, rfl, hv⟩
    have hU : RowsOf (RsQ All w) 7 ([us1, [.int .i64 r.kind, .string r.name, .int .i64 r.ver, .int .i64 r.port, .string r.to, .slice B m d, .slice B' m' d'], us3].flatten) (l1 ++ [r] ++ l3) := by
      have h9 := (hU1.app (RowsOf.snoc (R := RsQ All w) (xs := []) (us := []) rfl hRr rfl)).app hU3
      simpa using h9
    have E1 := EA.trans hb
    exact ⟨A, _, c, rfl, ⟨hw1, hw2, hw3⟩, hwF.arrQ (S := All) (hU.mono (fun _ _ h => RsQ.keep h E1.keep)) (by omega) (fun _ _ _ _ => trivial), he.trans E1⟩

set_option maxRecDepth 100000 in
set_option maxHeartbeats 8000000 in
theorem with_any (A : Option Addr) (n c : Nat) (l : List Rs) (r : Rs) (B : Option Addr) (m d : Nat) (B' : Option Addr) (m' d' : Nat) (w : World) (hn : n ≤ 400000) (hA : ResL All w A n l) (hv : RsV All w r B m d B' m' d') :
    Calls Tryz.prog 39 #[.slice A n c, rsVal r B m d B' m' d'] w (GivesL w (withT l r)) := by
  have hmf : ∀ (fn : Fn) (first cap : Array Value) (w : World), (Instr.makeFunc fn first cap).run Tryz.prog w = .ok (.func fn first cap) w := fun _ _ _ _ => rfl
  have HA := Lib.hid hA
  have HV := Lib.hid hv
  have hlA : l.length = n := hA.len
  have hle1 : (belowT l r.key).length ≤ n := by rw [← hlA]; exact List.length_filter_le _ _
  have hle3 : (aboveT l r.key).length ≤ n := by rw [← hlA]; exact List.length_filter_le _ _
  clear hA hv
  unfold rsVal
  go_enter Tryz.func39, Tryz.ntmps39
  go_wp2_with fail
  refine (key_any r B m d B' m' d' _).mono ?_
  rintro e w1 ⟨rfl, hb1⟩
  have hsz : ((w.alloc (.cells #[.slice A n c] 42)).alloc (.cells #[.int .i64 r.kind, .string r.name, .int .i64 r.ver, .int .i64 r.port, .string r.to, .slice B m d, .slice B' m' d'] 34)).heap.size = w.heap.size + 2 := by simp only [World.size_alloc]
  have K1L := Lib.hid ((hb1.block (by rw [hsz]; omega)).trans (two_blocks w (.cells #[.slice A n c] 42) (.cells #[.int .i64 r.kind, .string r.name, .int .i64 r.ver, .int .i64 r.port, .string r.to, .slice B m d, .slice B' m' d'] 34)).1)
  have K1R := Lib.hid ((hb1.block (by rw [hsz]; omega)).trans (two_blocks w (.cells #[.slice A n c] 42) (.cells #[.int .i64 r.kind, .string r.name, .int .i64 r.ver, .int .i64 r.port, .string r.to, .slice B m d, .slice B' m' d'] 34)).2)
  have E1 := Lib.hid (((Ext.new w (.cells #[.slice A n c] 42)).alloc (.cells #[.int .i64 r.kind, .string r.name, .int .i64 r.ver, .int .i64 r.port, .string r.to, .slice B m d, .slice B' m' d'] 34)).trans hb1)
  have hz1 : w.heap.size + 1 < w1.heap.size := (Array.getElem?_eq_some_iff.1 K1R.out).1
  clear hb1 hsz
  go_wp2_with fail
  have KL := Lib.hid (((Ext.new w1 (.cells #[.int .i64 r.kind, .string r.name] 38)).block (by omega)).trans K1L.out)
  have KR := Lib.hid (((Ext.new w1 (.cells #[.int .i64 r.kind, .string r.name] 38)).block hz1).trans K1R.out)
  have KK := Lib.hid (heap_alloc_new w1 (.cells #[.int .i64 r.kind, .string r.name] 38))
  have EW := Lib.hid (E1.out.trans (Ext.new w1 (.cells #[.int .i64 r.kind, .string r.name] 38)))
  have hzW : w1.heap.size < (w1.alloc (.cells #[.int .i64 r.kind, .string r.name] 38)).heap.size := by simp
  generalize w1.alloc (.cells #[.int .i64 r.kind, .string r.name] 38) = W at KL KR KK EW hzW ⊢
  have hzR : w.heap.size + 1 < W.heap.size := by omega
  have hzL : w.heap.size < W.heap.size := by omega
  obtain ⟨qb, -⟩ := blk_rules KR.out
  have t0 : ∀ w', Ext W.drew w' → w'.cell? ⟨w.heap.size + 1, 0, none⟩ = some (.int .i64 r.kind) := fun w' h => (((Ext.refl W).drew.trans h).cell hzR).trans (qb 0)
  have t1 : ∀ w', Ext W.drew w' → w'.cell? ⟨w.heap.size + 1, 1, none⟩ = some (.string r.name) := fun w' h => (((Ext.refl W).drew.trans h).cell hzR).trans (qb 1)
  have t2 : ∀ w', Ext W.drew w' → w'.cell? ⟨w.heap.size + 1, 2, none⟩ = some (.int .i64 r.ver) := fun w' h => (((Ext.refl W).drew.trans h).cell hzR).trans (qb 2)
  have t3 : ∀ w', Ext W.drew w' → w'.cell? ⟨w.heap.size + 1, 3, none⟩ = some (.int .i64 r.port) := fun w' h => (((Ext.refl W).drew.trans h).cell hzR).trans (qb 3)
  have t4 : ∀ w', Ext W.drew w' → w'.cell? ⟨w.heap.size + 1, 4, none⟩ = some (.string r.to) := fun w' h => (((Ext.refl W).drew.trans h).cell hzR).trans (qb 4)
  have t5 : ∀ w', Ext W.drew w' → w'.cell? ⟨w.heap.size + 1, 5, none⟩ = some (.slice B m d) := fun w' h => (((Ext.refl W).drew.trans h).cell hzR).trans (qb 5)
  have t6 : ∀ w', Ext W.drew w' → w'.cell? ⟨w.heap.size + 1, 6, none⟩ = some (.slice B' m' d') := fun w' h => (((Ext.refl W).drew.trans h).cell hzR).trans (qb 6)
  have UP : ∀ {w' : World}, Ext W.drew w' → ResL All w' A n l ∧ w'.heap[w.heap.size]? = some (.cells #[.slice A n c] 42 (0, 0)) ∧ w'.heap[w1.heap.size]? = some (.cells #[.int .i64 r.kind, .string r.name] 38 (0, 0)) := fun h =>
    ⟨ResL.keep HA.out (EW.out.trans ((Ext.refl W).drew.trans h)).keep, (((Ext.refl W).drew.trans h).block hzL).trans KL.out, (((Ext.refl W).drew.trans h).block hzW).trans KK.out⟩
  clear qb
  go_wp2_with fail
  have hSw : Ext W.drew W.drew := Ext.refl _
  refine wpS_begin (Ext W.drew) (by kernel_rfl) ?_
  refine wpS_take 0 (v := ?_) hSw rfl (by kernel_rfl) (by kernel_rfl) (by kernel_rfl) (by rfl) (fun w' hin => ?_) ?_
  rotate_left
  · (try simp only [] at hin); go_simp <;> with_reducible rfl
  try simp only [Act.put, List.setIfInBounds_toArray, List.set_cons_zero, List.set_cons_succ]
  refine wpS_take 2 (v := ?_) hSw rfl (by kernel_rfl) (by kernel_rfl) (by kernel_rfl) (by rfl) (fun w' hin => ?_) ?_
  rotate_left
  · (try simp only [] at hin); go_simp <;> with_reducible rfl
  try simp only [Act.put, List.setIfInBounds_toArray, List.set_cons_zero, List.set_cons_succ]
  refine wpS_take 4 (v := ?_) hSw rfl (by kernel_rfl) (by kernel_rfl) (by kernel_rfl) (by rfl) (fun w' hin => ?_) ?_
  rotate_left
  · (try simp only [] at hin); go_simp <;> with_reducible rfl
  try simp only [Act.put, List.setIfInBounds_toArray, List.set_cons_zero, List.set_cons_succ]
  refine wpS_two 1 3 rfl rfl (by kernel_rfl) (by rfl) (by rfl) (fun K hK => ?_) (fun K hK => ?_)
  · go_simp
    refine (side_any r.key (-1) w.heap.size w1.heap.size A n c l _ (by omega) (UP hSw).1 (UP hSw).2.1 (UP hSw).2.2).mono ?_
    rintro e w5 ⟨A1, n1, c1, rfl, hs1, h1, hbw5⟩
    have Ew5 : Ext W.drew w5 := Ext.trans hSw hbw5
    simp only []
    refine hK.out _ _ (Ext W.drew) (fun _ h => h) Ew5 (fun hSw => ?_)
    clear hK K
    try simp only [Act.put, List.setIfInBounds_toArray, List.set_cons_zero, List.set_cons_succ]
    refine wpS_two 3 5 rfl rfl (by kernel_rfl) (by rfl) (by rfl) (fun K hK => ?_) (fun K hK => ?_)
    · go_simp
      refine hK.out _ _ (Ext W.drew) (fun _ h => h) (Ew5.trans (Ext.new _ _)) (fun hSw => ?_)
      clear hK K
      try simp only [Act.put, List.setIfInBounds_toArray, List.set_cons_zero, List.set_cons_succ]
      refine wpS_one 5 rfl (by kernel_rfl) (by rfl) (fun K hK => ?_)
      go_simp
      refine (side_any r.key 1 w.heap.size w1.heap.size A n c l _ (by omega) (UP hSw).1 (UP hSw).2.1 (UP hSw).2.2).mono ?_
      rintro e w6 ⟨A3, n3, c3, rfl, hs3, h3, hbw6⟩
      have Ew6 : Ext W.drew w6 := Ext.trans hSw hbw6
      simp only []
      refine hK.out _ _ (Ext W.drew) (fun _ h => h) Ew6 (fun hSw => ?_)
      clear hK K
      try simp only [Act.put, List.setIfInBounds_toArray, List.set_cons_zero, List.set_cons_succ]
      have hqf := box_at hbw6
      have h1f : ResL All w6 A1 n1 (belowT l r.key) := ResL.keep h1 ((Ext.new w5 (.cells #[.int .i64 r.kind, .string r.name, .int .i64 r.ver, .int .i64 r.port, .string r.to, .slice B m d, .slice B' m' d'] 34)).trans hbw6).keep
      have h3f : ResL All w6 A3 n3 (aboveT l r.key) := h3
      have EWf := Ew6
      clear h1 h3 hbw5 hbw6 Ew5 Ew6 UP
      generalize w6 = Wf at hqf h1f h3f EWf hSw ⊢
      have EE : Ext w Wf := EW.out.trans ((Ext.refl W).drew.trans EWf)
      have hn1 : n1 ≤ n := by have h8 : (belowT l r.key).length = n1 := h1f.len; omega
      have hn3 : n3 ≤ n := by have h8 : (aboveT l r.key).length = n3 := h3f.len; omega
      refine wpS_one 6 rfl (by kernel_rfl) (by rfl) (fun K hK => ?_)
      go_simp
      refine hK.out _ _ (Ext W.drew) (fun _ h => h) (EWf.trans (Ext.new _ _)) (fun hSw => ?_)
      clear hK K
      try simp only [Act.put, List.setIfInBounds_toArray, List.set_cons_zero, List.set_cons_succ]
      refine wpS_one 7 rfl (by kernel_rfl) (by rfl) (fun K hK => ?_)
      go_simp
      refine (concat3_any A1 n1 c1 (belowT l r.key) w5.heap.size r B m d B' m' d' A3 n3 c3 (aboveT l r.key) W.drew Wf EWf hs1 h1f hqf (HV.out.up EE) hs3 h3f (by omega)).mono ?_
      rintro e w9 ⟨A9, n9, c9, rfl, hs9, h9, E9⟩
      simp only []
      refine hK.out _ _ (Ext W.drew) (fun _ h => h) E9 (fun hSw => ?_)
      clear hK K
      try simp only [Act.put, List.setIfInBounds_toArray, List.set_cons_zero, List.set_cons_succ]
      refine wpS_take 8 (v := ?_) hSw rfl (by kernel_rfl) (by kernel_rfl) (by kernel_rfl) (by rfl) (fun w' hin => ?_) ?_
      rotate_left
      · (try simp only [] at hin); go_simp <;> with_reducible rfl
      try simp only [Act.put, List.setIfInBounds_toArray, List.set_cons_zero, List.set_cons_succ]
      refine wpS_done (by kernel_rfl) ?_
      clear t0 t1 t2 t3 t4 t5 t6 hSw
      go_wp2_with fail
      go_ret
      exact ⟨A9, n9, c9, rfl, hs9, h9, EW.out.trans ((Ext.refl W).drew.trans E9)⟩
    · go_simp
      refine (side_any r.key 1 w.heap.size w1.heap.size A n c l _ (by omega) (UP hSw).1 (UP hSw).2.1 (UP hSw).2.2).mono ?_
      rintro e w6 ⟨A3, n3, c3, rfl, hs3, h3, hbw6⟩
      have Ew6 : Ext W.drew w6 := Ext.trans hSw hbw6
      simp only []
      refine hK.out _ _ (Ext W.drew) (fun _ h => h) Ew6 (fun hSw => ?_)
      clear hK K
      try simp only [Act.put, List.setIfInBounds_toArray, List.set_cons_zero, List.set_cons_succ]
      refine wpS_one 3 rfl (by kernel_rfl) (by rfl) (fun K hK => ?_)
      go_simp
      refine hK.out _ _ (Ext W.drew) (fun _ h => h) (Ew6.trans (Ext.new _ _)) (fun hSw => ?_)
      clear hK K
      try simp only [Act.put, List.setIfInBounds_toArray, List.set_cons_zero, List.set_cons_succ]
      have hqf := heap_alloc_new w6 (.cells #[.int .i64 r.kind, .string r.name, .int .i64 r.ver, .int .i64 r.port, .string r.to, .slice B m d, .slice B' m' d'] 34)
      have h1f : ResL All (w6.alloc (.cells #[.int .i64 r.kind, .string r.name, .int .i64 r.ver, .int .i64 r.port, .string r.to, .slice B m d, .slice B' m' d'] 34)) A1 n1 (belowT l r.key) := ResL.keep h1 (hbw6.trans (Ext.new w6 (.cells #[.int .i64 r.kind, .string r.name, .int .i64 r.ver, .int .i64 r.port, .string r.to, .slice B m d, .slice B' m' d'] 34))).keep
      have h3f : ResL All (w6.alloc (.cells #[.int .i64 r.kind, .string r.name, .int .i64 r.ver, .int .i64 r.port, .string r.to, .slice B m d, .slice B' m' d'] 34)) A3 n3 (aboveT l r.key) := ResL.keep h3 (Ext.new w6 (.cells #[.int .i64 r.kind, .string r.name, .int .i64 r.ver, .int .i64 r.port, .string r.to, .slice B m d, .slice B' m' d'] 34)).keep
      have EWf := Ew6.trans (Ext.new w6 (.cells #[.int .i64 r.kind, .string r.name, .int .i64 r.ver, .int .i64 r.port, .string r.to, .slice B m d, .slice B' m' d'] 34))
      clear h1 h3 hbw5 hbw6 Ew5 Ew6 UP
      generalize w6.alloc (.cells #[.int .i64 r.kind, .string r.name, .int .i64 r.ver, .int .i64 r.port, .string r.to, .slice B m d, .slice B' m' d'] 34) = Wf at hqf h1f h3f EWf hSw ⊢
      have EE : Ext w Wf := EW.out.trans ((Ext.refl W).drew.trans EWf)
      have hn1 : n1 ≤ n := by have h8 : (belowT l r.key).length = n1 := h1f.len; omega
      have hn3 : n3 ≤ n := by have h8 : (aboveT l r.key).length = n3 := h3f.len; omega
      refine wpS_one 6 rfl (by kernel_rfl) (by rfl) (fun K hK => ?_)
      go_simp
      refine hK.out _ _ (Ext W.drew) (fun _ h => h) (EWf.trans (Ext.new _ _)) (fun hSw => ?_)
      clear hK K
      try simp only [Act.put, List.setIfInBounds_toArray, List.set_cons_zero, List.set_cons_succ]
      refine wpS_one 7 rfl (by kernel_rfl) (by rfl) (fun K hK => ?_)
      go_simp
      refine (concat3_any A1 n1 c1 (belowT l r.key) w6.heap.size r B m d B' m' d' A3 n3 c3 (aboveT l r.key) W.drew Wf EWf hs1 h1f hqf (HV.out.up EE) hs3 h3f (by omega)).mono ?_
      rintro e w9 ⟨A9, n9, c9, rfl, hs9, h9, E9⟩
      simp only []
      refine hK.out _ _ (Ext W.drew) (fun _ h => h) E9 (fun hSw => ?_)
      clear hK K
      try simp only [Act.put, List.setIfInBounds_toArray, List.set_cons_zero, List.set_cons_succ]
      refine wpS_take 8 (v := ?_) hSw rfl (by kernel_rfl) (by kernel_rfl) (by kernel_rfl) (by rfl) (fun w' hin => ?_) ?_
      rotate_left
      · (try simp only [] at hin); go_simp <;> with_reducible rfl
      try simp only [Act.put, List.setIfInBounds_toArray, List.set_cons_zero, List.set_cons_succ]
      refine wpS_done (by kernel_rfl) ?_
      clear t0 t1 t2 t3 t4 t5 t6 hSw
      go_wp2_with fail
      go_ret
      exact ⟨A9, n9, c9, rfl, hs9, h9, EW.out.trans ((Ext.refl W).drew.trans E9)⟩
  · go_simp
    refine hK.out _ _ (Ext W.drew) (fun _ h => h) (Ext.new _ _) (fun hSw => ?_)
    clear hK K
    try simp only [Act.put, List.setIfInBounds_toArray, List.set_cons_zero, List.set_cons_succ]
    refine wpS_one 1 rfl (by kernel_rfl) (by rfl) (fun K hK => ?_)
    go_simp
    refine (side_any r.key (-1) w.heap.size w1.heap.size A n c l _ (by omega) (UP hSw).1 (UP hSw).2.1 (UP hSw).2.2).mono ?_
    rintro e w5 ⟨A1, n1, c1, rfl, hs1, h1, hbw5⟩
    have Ew5 : Ext W.drew w5 := Ext.trans hSw hbw5
    simp only []
    refine hK.out _ _ (Ext W.drew) (fun _ h => h) Ew5 (fun hSw => ?_)
    clear hK K
    try simp only [Act.put, List.setIfInBounds_toArray, List.set_cons_zero, List.set_cons_succ]
    refine wpS_one 5 rfl (by kernel_rfl) (by rfl) (fun K hK => ?_)
    go_simp
    refine (side_any r.key 1 w.heap.size w1.heap.size A n c l _ (by omega) (UP hSw).1 (UP hSw).2.1 (UP hSw).2.2).mono ?_
    rintro e w6 ⟨A3, n3, c3, rfl, hs3, h3, hbw6⟩
    have Ew6 : Ext W.drew w6 := Ext.trans hSw hbw6
    simp only []
    refine hK.out _ _ (Ext W.drew) (fun _ h => h) Ew6 (fun hSw => ?_)
    clear hK K
    try simp only [Act.put, List.setIfInBounds_toArray, List.set_cons_zero, List.set_cons_succ]
    have hqz := box_at (w := W.drew) hbw5
    have hqf := (hbw6.block (Array.getElem?_eq_some_iff.1 hqz).1).trans hqz
    have h1f : ResL All w6 A1 n1 (belowT l r.key) := ResL.keep h1 hbw6.keep
    have h3f : ResL All w6 A3 n3 (aboveT l r.key) := h3
    have EWf := Ew6
    clear h1 h3 hbw5 hbw6 Ew5 Ew6 UP hqz
    generalize w6 = Wf at hqf h1f h3f EWf hSw ⊢
    have EE : Ext w Wf := EW.out.trans ((Ext.refl W).drew.trans EWf)
    have hn1 : n1 ≤ n := by have h8 : (belowT l r.key).length = n1 := h1f.len; omega
    have hn3 : n3 ≤ n := by have h8 : (aboveT l r.key).length = n3 := h3f.len; omega
    refine wpS_one 6 rfl (by kernel_rfl) (by rfl) (fun K hK => ?_)
    go_simp
    refine hK.out _ _ (Ext W.drew) (fun _ h => h) (EWf.trans (Ext.new _ _)) (fun hSw => ?_)
    clear hK K
    try simp only [Act.put, List.setIfInBounds_toArray, List.set_cons_zero, List.set_cons_succ]
    refine wpS_one 7 rfl (by kernel_rfl) (by rfl) (fun K hK => ?_)
    go_simp
    refine (concat3_any A1 n1 c1 (belowT l r.key) W.heap.size r B m d B' m' d' A3 n3 c3 (aboveT l r.key) W.drew Wf EWf hs1 h1f hqf (HV.out.up EE) hs3 h3f (by omega)).mono ?_
    rintro e w9 ⟨A9, n9, c9, rfl, hs9, h9, E9⟩
    simp only []
    refine hK.out _ _ (Ext W.drew) (fun _ h => h) E9 (fun hSw => ?_)
    clear hK K
    try simp only [Act.put, List.setIfInBounds_toArray, List.set_cons_zero, List.set_cons_succ]
    refine wpS_take 8 (v := ?_) hSw rfl (by kernel_rfl) (by kernel_rfl) (by kernel_rfl) (by rfl) (fun w' hin => ?_) ?_
    rotate_left
    · (try simp only [] at hin); go_simp <;> with_reducible rfl
    try simp only [Act.put, List.setIfInBounds_toArray, List.set_cons_zero, List.set_cons_succ]
    refine wpS_done (by kernel_rfl) ?_
    clear t0 t1 t2 t3 t4 t5 t6 hSw
    go_wp2_with fail
    go_ret
    exact ⟨A9, n9, c9, rfl, hs9, h9, EW.out.trans ((Ext.refl W).drew.trans E9)⟩
end Go.Proofs.YtfdjbnofcniodaaGreatDoor
