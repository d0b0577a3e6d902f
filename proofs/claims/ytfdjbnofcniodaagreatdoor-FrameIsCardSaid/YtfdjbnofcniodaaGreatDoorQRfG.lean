/- What the document's Get of layer 10 gets. -/
import Derived.Test.YtfdjbnofcniodaaGreatDoorQRf2
import Derived.Test.YtfdjbnofcniodaaGreatDoorQRf3
import Derived.Test.YtfdjbnofcniodaaGreatDoorQRef04u
import Derived.Test.YtfdjbnofcniodaaGreatDoorQFrGetA
namespace Go.Proofs.YtfdjbnofcniodaaGreatDoor
open Lib (hid)
set_option maxHeartbeats 32000000
set_option maxRecDepth 100000
set_option linter.unusedVariables false
open Go.RowKit
theorem setE2 {w V : World} {p : Nat} {T : TypeId} {x0 x1 : Value} (h : w.heap[p]? = some (.cells #[x0, x1] T (0, 0))) (a0 a1 : Value)
  (hV : ((w.setCell ⟨p, 0, none⟩ a0).setCell ⟨p, 1, none⟩ a1).drew = V) : V.heap[p]? = some (.cells #[a0, a1] T (0, 0)) ∧ ∀ a : World, Ext a w → a.heap.size ≤ p → Ext a V := by
 subst hV
 exact ⟨blk_set (i := 1) (blk_set (i := 0) h a0) a1, fun a he hp => (Ext.set (Ext.set he (p := ⟨p, 0, none⟩) hp a0) (p := ⟨p, 1, none⟩) hp a1).drew⟩
theorem RfAt.same {w : World} {g : Nat} {r : Rd} {A : Option Addr} {n c : Nat} {e : Int} (h : RfAt w g r) (hg : w.heap[g]? = some (.cells #[.slice A n c, .int .i64 e] 29 (0, 0))) : (A = none → c = 0) ∧ n ≤ c ∧ c ≤ 9223372036854775807 ∧ Byts w A n r.b := by
 obtain ⟨A', n', c', h1, h2, h3, h4, h5, -⟩ := h
 rw [h1] at hg
 injection hg with hg
 injection hg with hg
 obtain ⟨⟨rfl, rfl, rfl⟩, -⟩ : (A' = A ∧ n' = n ∧ c' = c) ∧ r.e = e := by simpa using hg
 exact ⟨h2, h3, h4, h5⟩
theorem done_pos {r : Rd} (h : 0 < r.b.length) (he : r.e = 0) : r.done = 2 := by unfold Rd.done; rw [if_pos ⟨h, he⟩]
theorem done_emp {r : Rd} (h : ¬ 0 < r.b.length) (he : r.e = 0) : r.done = 0 := by unfold Rd.done; rw [if_neg (fun x => h x.1), he]
theorem refDone_any (A : Option Addr) (n c : Nat) (rd : Rd) (w : World) (hA : Byts w A n rd.b) (hn : n ≤ 9223372036854775807) :
  Calls Tryz.prog 137 #[.agg #[.slice A n c, .int .i64 rd.e]] w fun e w' => ∃ x : Int, e = .returned (.tuple #[.agg #[.slice A n c, .int .i64 x], .int .i64 rd.done]) ∧ Ext w w' := by
 have HL := hid hA.len
 clear hA
 by_cases he : rd.e = 0; rotate_left
 ·have hb : (rd.e == 0) = false := by simpa using he
  have HD : Hid (rd.done = rd.e) := hid (Rd.done_err he)
  clear he
  go_enter Tryz.func137, Tryz.ntmps137
  go_wp2_with fail
  have HK1 := hid (two_blocks w (.cells #[.slice A n c, .int .i64 rd.e] 29) (.cells #[.slice none 0 0, .int .i64 0] 29)).1
  have HK2 := hid (two_blocks w (.cells #[.slice A n c, .int .i64 rd.e] 29) (.cells #[.slice none 0 0, .int .i64 0] 29)).2
  have EW := hid ((Ext.new w (.cells #[.slice A n c, .int .i64 rd.e] 29)).alloc (.cells #[.slice none 0 0, .int .i64 0] 29))
  generalize (w.alloc (.cells #[.slice A n c, .int .i64 rd.e] 29)).alloc (.cells #[.slice none 0 0, .int .i64 0] 29) = W at HK1 HK2 EW ⊢
  have c0 : ∀ w' : World, w'.heap[w.heap.size]? = some (.cells #[.slice A n c, .int .i64 rd.e] 29 (0, 0)) → w'.cell? ⟨w.heap.size, 0, none⟩ = some (.slice A n c) := fun w' h => (blk_rules h).1 0
  have c1 : ∀ w' : World, w'.heap[w.heap.size]? = some (.cells #[.slice A n c, .int .i64 rd.e] 29 (0, 0)) → w'.cell? ⟨w.heap.size, 1, none⟩ = some (.int .i64 rd.e) := fun w' h => (blk_rules h).1 1
  obtain ⟨z0, z1⟩ := blk_rules HK2.out
  have hz2 : w.heap.size + 1 < W.heap.size := (Array.getElem?_eq_some_iff.1 HK2.out).1
  have hSw : W.drew.heap[w.heap.size]? = some (.cells #[.slice A n c, .int .i64 rd.e] 29 (0, 0)) := HK1.out
  refine wpS_begin ((fun w' : World => w'.heap[w.heap.size]? = some (.cells #[.slice A n c, .int .i64 rd.e] 29 (0, 0)))) (by kernel_rfl) ?_
  refine wpS_tk 0 ?_ hSw rfl (fun w' hin => ?_) ?_; rotate_left
  ·(try simp only [] at hin); go_simp <;> with_reducible rfl
  try simp only [lyr]
  refine wpS_tk 1 ?_ hSw rfl (fun w' hin => ?_) ?_; rotate_left
  ·(try simp only [] at hin); go_simp <;> with_reducible rfl
  try simp only [lyr]
  refine wpS_tk 2 ?_ hSw rfl (fun w' hin => ?_) ?_; rotate_left
  ·(try simp only [] at hin); go_simp <;> with_reducible rfl
  try simp only [lyr]
  refine wpS_on 3 rfl (fun K hK => ?_)
  go_simp
  skip
  refine hK.out _ _ ((fun w' : World => w'.heap[w.heap.size]? = some (.cells #[.slice A n c, .int .i64 rd.e] 29 (0, 0)))) (fun _ h => h) (((blk_far (g := w.heap.size) (g' := w.heap.size + 1) (i := 1) (by omega) _).trans (blk_far (g := w.heap.size) (g' := w.heap.size + 1) (i := 0) (by omega) _)).trans HK1.out) (fun hSw => ?_)
  clear hK K
  try simp only [lyr]
  refine wpS_tk 4 ?_ hSw rfl (fun w' hin => ?_) ?_; rotate_left
  ·(try simp only [] at hin); go_simp <;> with_reducible rfl
  try simp only [lyr]
  refine wpS_done (by kernel_rfl) ?_
  clear c0 c1 z0 z1 hSw
  generalize hV : ((W.setCell ⟨w.heap.size + 1, 0, none⟩ (.slice A n c)).setCell ⟨w.heap.size + 1, 1, none⟩ (.int .i64 rd.e)).drew = V
  obtain ⟨bV, eV⟩ := setE2 (w := W) HK2.out (.slice A n c) (.int .i64 rd.e) hV
  clear hV
  obtain ⟨y0, -⟩ := blk_rules bV
  go_wp2_with fail
  exact bodyPost_ret (v := .tuple #[.agg #[.slice A n c, .int .i64 rd.e], .int .i64 rd.e]) (by simp [results, Tryz.results137, go_sem, y0]) rfl ⟨rd.e, by rw [HD.out], eV w EW.out (by omega)⟩
 obtain ⟨bs, er⟩ := rd
 obtain rfl : er = 0 := he
 try simp only [] at HL ⊢
 by_cases h0 : 0 < n; rotate_left
 ·have HD : Hid ((Rd.mk bs 0).done = 0) := hid (done_emp (by have := HL.out; show ¬ 0 < bs.length; omega) rfl)
  have h1 : ¬ (0 : Int) < (n : Int) := by omega
  go_enter Tryz.func137, Tryz.ntmps137
  go_wp2_with fail
  have HK1 := hid (two_blocks w (.cells #[.slice A n c, .int .i64 0] 29) (.cells #[.slice none 0 0, .int .i64 0] 29)).1
  have HK2 := hid (two_blocks w (.cells #[.slice A n c, .int .i64 0] 29) (.cells #[.slice none 0 0, .int .i64 0] 29)).2
  have EW := hid ((Ext.new w (.cells #[.slice A n c, .int .i64 0] 29)).alloc (.cells #[.slice none 0 0, .int .i64 0] 29))
  generalize (w.alloc (.cells #[.slice A n c, .int .i64 0] 29)).alloc (.cells #[.slice none 0 0, .int .i64 0] 29) = W at HK1 HK2 EW ⊢
  have c0 : ∀ w' : World, w'.heap[w.heap.size]? = some (.cells #[.slice A n c, .int .i64 0] 29 (0, 0)) → w'.cell? ⟨w.heap.size, 0, none⟩ = some (.slice A n c) := fun w' h => (blk_rules h).1 0
  have c1 : ∀ w' : World, w'.heap[w.heap.size]? = some (.cells #[.slice A n c, .int .i64 0] 29 (0, 0)) → w'.cell? ⟨w.heap.size, 1, none⟩ = some (.int .i64 0) := fun w' h => (blk_rules h).1 1
  obtain ⟨z0, z1⟩ := blk_rules HK2.out
  have hz2 : w.heap.size + 1 < W.heap.size := (Array.getElem?_eq_some_iff.1 HK2.out).1
  have hSw : W.drew.heap[w.heap.size]? = some (.cells #[.slice A n c, .int .i64 0] 29 (0, 0)) := HK1.out
  refine wpS_begin ((fun w' : World => w'.heap[w.heap.size]? = some (.cells #[.slice A n c, .int .i64 0] 29 (0, 0)))) (by kernel_rfl) ?_
  refine wpS_tk 0 ?_ hSw rfl (fun w' hin => ?_) ?_; rotate_left
  ·(try simp only [] at hin); go_simp <;> with_reducible rfl
  try simp only [lyr]
  refine wpS_tk 1 ?_ hSw rfl (fun w' hin => ?_) ?_; rotate_left
  ·(try simp only [] at hin); go_simp <;> with_reducible rfl
  try simp only [lyr]
  refine wpS_tk 2 ?_ hSw rfl (fun w' hin => ?_) ?_; rotate_left
  ·(try simp only [] at hin); go_simp <;> with_reducible rfl
  try simp only [lyr]
  refine wpS_on 3 rfl (fun K hK => ?_)
  go_simp
  skip
  refine hK.out _ _ ((fun w' : World => w'.heap[w.heap.size]? = some (.cells #[.slice A n c, .int .i64 0] 29 (0, 0)))) (fun _ h => h) (((blk_far (g := w.heap.size) (g' := w.heap.size + 1) (i := 1) (by omega) _).trans (blk_far (g := w.heap.size) (g' := w.heap.size + 1) (i := 0) (by omega) _)).trans HK1.out) (fun hSw => ?_)
  clear hK K
  try simp only [lyr]
  refine wpS_tk 4 ?_ hSw rfl (fun w' hin => ?_) ?_; rotate_left
  ·(try simp only [] at hin); go_simp <;> with_reducible rfl
  try simp only [lyr]
  refine wpS_done (by kernel_rfl) ?_
  clear c0 c1 z0 z1 hSw
  generalize hV : ((W.setCell ⟨w.heap.size + 1, 0, none⟩ (.slice A n c)).setCell ⟨w.heap.size + 1, 1, none⟩ (.int .i64 0)).drew = V
  obtain ⟨bV, eV⟩ := setE2 (w := W) HK2.out (.slice A n c) (.int .i64 0) hV
  clear hV
  obtain ⟨y0, -⟩ := blk_rules bV
  go_wp2_with fail
  exact bodyPost_ret (v := .tuple #[.agg #[.slice A n c, .int .i64 0], .int .i64 0]) (by simp [results, Tryz.results137, go_sem, y0]) rfl ⟨0, by rw [HD.out], eV w EW.out (by omega)⟩
 ·have HD : Hid ((Rd.mk bs 0).done = 2) := hid (done_pos (by have := HL.out; show 0 < bs.length; omega) rfl)
  have h1 : (0 : Int) < (n : Int) := by omega
  go_enter Tryz.func137, Tryz.ntmps137
  go_wp2_with fail
  have HK1 := hid (two_blocks w (.cells #[.slice A n c, .int .i64 2] 29) (.cells #[.slice none 0 0, .int .i64 0] 29)).1
  have HK2 := hid (two_blocks w (.cells #[.slice A n c, .int .i64 2] 29) (.cells #[.slice none 0 0, .int .i64 0] 29)).2
  have EW := hid ((Ext.new w (.cells #[.slice A n c, .int .i64 2] 29)).alloc (.cells #[.slice none 0 0, .int .i64 0] 29))
  generalize (w.alloc (.cells #[.slice A n c, .int .i64 2] 29)).alloc (.cells #[.slice none 0 0, .int .i64 0] 29) = W at HK1 HK2 EW ⊢
  have c0 : ∀ w' : World, w'.heap[w.heap.size]? = some (.cells #[.slice A n c, .int .i64 2] 29 (0, 0)) → w'.cell? ⟨w.heap.size, 0, none⟩ = some (.slice A n c) := fun w' h => (blk_rules h).1 0
  have c1 : ∀ w' : World, w'.heap[w.heap.size]? = some (.cells #[.slice A n c, .int .i64 2] 29 (0, 0)) → w'.cell? ⟨w.heap.size, 1, none⟩ = some (.int .i64 2) := fun w' h => (blk_rules h).1 1
  obtain ⟨z0, z1⟩ := blk_rules HK2.out
  have hz2 : w.heap.size + 1 < W.heap.size := (Array.getElem?_eq_some_iff.1 HK2.out).1
  have hSw : W.drew.heap[w.heap.size]? = some (.cells #[.slice A n c, .int .i64 2] 29 (0, 0)) := HK1.out
  refine wpS_begin ((fun w' : World => w'.heap[w.heap.size]? = some (.cells #[.slice A n c, .int .i64 2] 29 (0, 0)))) (by kernel_rfl) ?_
  refine wpS_tk 0 ?_ hSw rfl (fun w' hin => ?_) ?_; rotate_left
  ·(try simp only [] at hin); go_simp <;> with_reducible rfl
  try simp only [lyr]
  refine wpS_tk 1 ?_ hSw rfl (fun w' hin => ?_) ?_; rotate_left
  ·(try simp only [] at hin); go_simp <;> with_reducible rfl
  try simp only [lyr]
  refine wpS_tk 2 ?_ hSw rfl (fun w' hin => ?_) ?_; rotate_left
  ·(try simp only [] at hin); go_simp <;> with_reducible rfl
  try simp only [lyr]
  refine wpS_on 3 rfl (fun K hK => ?_)
  go_simp
  skip
  refine hK.out _ _ ((fun w' : World => w'.heap[w.heap.size]? = some (.cells #[.slice A n c, .int .i64 2] 29 (0, 0)))) (fun _ h => h) (((blk_far (g := w.heap.size) (g' := w.heap.size + 1) (i := 1) (by omega) _).trans (blk_far (g := w.heap.size) (g' := w.heap.size + 1) (i := 0) (by omega) _)).trans HK1.out) (fun hSw => ?_)
  clear hK K
  try simp only [lyr]
  refine wpS_tk 4 ?_ hSw rfl (fun w' hin => ?_) ?_; rotate_left
  ·(try simp only [] at hin); go_simp <;> with_reducible rfl
  try simp only [lyr]
  refine wpS_done (by kernel_rfl) ?_
  clear c0 c1 z0 z1 hSw
  generalize hV : ((W.setCell ⟨w.heap.size + 1, 0, none⟩ (.slice A n c)).setCell ⟨w.heap.size + 1, 1, none⟩ (.int .i64 2)).drew = V
  obtain ⟨bV, eV⟩ := setE2 (w := W) HK2.out (.slice A n c) (.int .i64 2) hV
  clear hV
  obtain ⟨y0, -⟩ := blk_rules bV
  go_wp2_with fail
  exact bodyPost_ret (v := .tuple #[.agg #[.slice A n c, .int .i64 2], .int .i64 2]) (by simp [results, Tryz.results137, go_sem, y0]) rfl ⟨2, by rw [HD.out], eV w EW.out (by omega)⟩
theorem done_zero {r : Rd} (h : r.done = 0) : r.e = 0 := by
 unfold Rd.done at h
 split at h
 ·cases h
 ·exact h
set_option linter.unusedVariables false
open Go.RowKit
theorem refGet10_any (A : Option Addr) (n c : Nat) (bs : List UInt8) (w : World) (hB : Byts w A n bs) (hc : A = none → c = 0) (hnc : n ≤ c) (hcm : c ≤ 9223372036854775807) :
  Calls Tryz.prog 67 #[.slice A n c] w (FGet w (getF bs)) := by
 have HR0 : Hid (RfAt ((w.alloc (.cells #[.int .i64 0, .int .i64 0, .int .i64 0, .int .i64 0, .int .i64 0, .slice none 0 0, .slice none 0 0, .int .i64 0, .slice none 0 0, .slice none 0 0] 87)).alloc (.cells #[.slice A n c, .int .i64 0] 29)) (w.heap.size + 1) ⟨bs, 0⟩) := hid (by
  have h1 := (RfAt.box (w := w.alloc (.cells #[.int .i64 0, .int .i64 0, .int .i64 0, .int .i64 0, .int .i64 0, .slice none 0 0, .slice none 0 0, .int .i64 0, .slice none 0 0, .slice none 0 0] 87)) 0 (ArrR.up hB (Ext.new _ _)) hc hnc hcm)
  rw [World.size_alloc] at h1; exact h1)
 have hk4 : f0T bs = 0 ∨ f0T bs = 1 ∨ f0T bs = 2 ∨ f0T bs = 3 := by have := f0T_le bs; omega
 obtain ⟨K, hK⟩ : ∃ K : Int, K = ((f0T bs : Nat) : Int) := ⟨_, rfl⟩
 have HKK := hid hK
 have HKn : Hid ((((Rd.mk bs 0).num 3).2 : Nat) = K) := hid hK.symm
 have HOF : Hid (∀ (r : Rd) (f : Fr), takeF0 ⟨bs, 0⟩ = (r, f) → getF bs = if r.done ≠ 0 then (fr0, r.done) else if saneF f ≠ 0 then (fr0, saneF f) else (f, 0)) := hid (fun r f h => getF_of h)
 have HF0 := hid (@f0_hello bs)
 have HF1 := hid (@f0_push bs)
 have HF2 := hid (@f0_ack bs)
 have HF3 := hid (@f0_drain bs)
 clear hB hK
 go_enter Tryz.func67, Tryz.ntmps67
 go_wp2_with fail
 have HKR0 : Hid (((w.alloc (.cells #[.int .i64 0, .int .i64 0, .int .i64 0, .int .i64 0, .int .i64 0, .slice none 0 0, .slice none 0 0, .int .i64 0, .slice none 0 0, .slice none 0 0] 87)).alloc (.cells #[.slice A n c, .int .i64 0] 29)).heap[w.heap.size]? = some (.cells #[.int .i64 0, .int .i64 0, .int .i64 0, .int .i64 0, .int .i64 0, .slice none 0 0, .slice none 0 0, .int .i64 0, .slice none 0 0, .slice none 0 0] 87 (0, 0))) := hid (((Ext.new _ _).block (b := w.heap.size) (by simp)).trans (heap_alloc_new w _))
 have HO0 : Hid (Only (w.heap.size + 1) w ((w.alloc (.cells #[.int .i64 0, .int .i64 0, .int .i64 0, .int .i64 0, .int .i64 0, .slice none 0 0, .slice none 0 0, .int .i64 0, .slice none 0 0, .slice none 0 0] 87)).alloc (.cells #[.slice A n c, .int .i64 0] 29))) := hid (Only.of_ext ((Ext.new w _).alloc _))
 have hz0 : w.heap.size < ((w.alloc (.cells #[.int .i64 0, .int .i64 0, .int .i64 0, .int .i64 0, .int .i64 0, .slice none 0 0, .slice none 0 0, .int .i64 0, .slice none 0 0, .slice none 0 0] 87)).alloc (.cells #[.slice A n c, .int .i64 0] 29)).heap.size := by simp only [World.size_alloc]; omega
 have hg0 : w.heap.size + 1 < ((w.alloc (.cells #[.int .i64 0, .int .i64 0, .int .i64 0, .int .i64 0, .int .i64 0, .slice none 0 0, .slice none 0 0, .int .i64 0, .slice none 0 0, .slice none 0 0] 87)).alloc (.cells #[.slice A n c, .int .i64 0] 29)).heap.size := by simp only [World.size_alloc]; omega
 generalize (w.alloc (.cells #[.int .i64 0, .int .i64 0, .int .i64 0, .int .i64 0, .int .i64 0, .slice none 0 0, .slice none 0 0, .int .i64 0, .slice none 0 0, .slice none 0 0] 87)).alloc (.cells #[.slice A n c, .int .i64 0] 29) = w0 at HR0 HKR0 HO0 hz0 hg0 ⊢
 refine (refNum10_any (w.heap.size + 1) ⟨bs, 0⟩ 3 _ HR0.out).mono ?_
 rintro e w1 ⟨rfl, hr1, ho1⟩
 have HR1 := hid hr1
 have HKR1 := hid ((ho1.blk (b := w.heap.size) (by omega) (by omega)).trans HKR0.out)
 have HO1 := hid (HO0.out.trans ho1)
 have hz1 : w.heap.size < w1.heap.size := Nat.lt_of_lt_of_le hz0 ho1.size
 rw [HKn.out]
 clear hr1 ho1
 have hg1 : w.heap.size + 1 < w1.heap.size := HR1.out.lt
 go_wp2_with fail
 have HKR2 : Hid ((w1.alloc (.cells #[.int .i64 K, .int .i64 0, .int .i64 0, .int .i64 0, .int .i64 0, .slice none 0 0, .slice none 0 0, .int .i64 0, .slice none 0 0, .slice none 0 0] 87)).heap[w.heap.size]? = some (.cells #[.int .i64 0, .int .i64 0, .int .i64 0, .int .i64 0, .int .i64 0, .slice none 0 0, .slice none 0 0, .int .i64 0, .slice none 0 0, .slice none 0 0] 87 (0, 0))) := hid (((Ext.new w1 (.cells #[.int .i64 K, .int .i64 0, .int .i64 0, .int .i64 0, .int .i64 0, .slice none 0 0, .slice none 0 0, .int .i64 0, .slice none 0 0, .slice none 0 0] 87)).block (b := w.heap.size) (by omega)).trans HKR1.out)
 have HKF2 : Hid ((w1.alloc (.cells #[.int .i64 K, .int .i64 0, .int .i64 0, .int .i64 0, .int .i64 0, .slice none 0 0, .slice none 0 0, .int .i64 0, .slice none 0 0, .slice none 0 0] 87)).heap[w1.heap.size]? = some (.cells #[.int .i64 K, .int .i64 0, .int .i64 0, .int .i64 0, .int .i64 0, .slice none 0 0, .slice none 0 0, .int .i64 0, .slice none 0 0, .slice none 0 0] 87 (0, 0))) := hid (heap_alloc_new w1 _)
 have HR2 := hid (HR1.out.up (Ext.new w1 (.cells #[.int .i64 K, .int .i64 0, .int .i64 0, .int .i64 0, .int .i64 0, .slice none 0 0, .slice none 0 0, .int .i64 0, .slice none 0 0, .slice none 0 0] 87)))
 have HO2 := hid (HO1.out.trans (Only.of_ext (Ext.new w1 (.cells #[.int .i64 K, .int .i64 0, .int .i64 0, .int .i64 0, .int .i64 0, .slice none 0 0, .slice none 0 0, .int .i64 0, .slice none 0 0, .slice none 0 0] 87))))
 have hz2 : w1.heap.size < (w1.alloc (.cells #[.int .i64 K, .int .i64 0, .int .i64 0, .int .i64 0, .int .i64 0, .slice none 0 0, .slice none 0 0, .int .i64 0, .slice none 0 0, .slice none 0 0] 87)).heap.size := by simp
 generalize w1.alloc (.cells #[.int .i64 K, .int .i64 0, .int .i64 0, .int .i64 0, .int .i64 0, .slice none 0 0, .slice none 0 0, .int .i64 0, .slice none 0 0, .slice none 0 0] 87) = w2 at HKR2 HKF2 HR2 HO2 hz2 ⊢
 obtain ⟨q, hq⟩ : ∃ q, q = w1.heap.size := ⟨_, rfl⟩
 rw [← hq] at HKF2 hz2 ⊢
 have hgq : w.heap.size + 1 < q := by omega
 clear hq hg0 hz0 hz1 hg1
 refine (refNum10_any (w.heap.size + 1) _ 2147483647 _ HR2.out).mono ?_
 rintro e w3 ⟨rfl, hr3, ho3⟩
 have HR3 := hid hr3
 have HKR3 := hid ((ho3.blk (b := w.heap.size) (by omega) (by omega)).trans HKR2.out)
 have HKF3 := hid ((ho3.blk (b := q) (by omega) (by omega)).trans HKF2.out)
 have HO3 := hid (HO2.out.trans ho3)
 have hz3 : q < w3.heap.size := Nat.lt_of_lt_of_le hz2 ho3.size
 clear hr3 ho3
 have HE0 : Hid ((((Rd.mk bs 0).num 3).1.num 2147483647).2 = f0E bs) := hid rfl
 rw [show (((Rd.mk bs 0).num 3).1.num 2147483647).1 = f0R bs from rfl] at HR3
 rw [HE0.out]
 rcases hk4 with hk | hk | hk | hk
 ·have b0 : (K == 0) = true := by rw [HKK.out, hk]; rfl
  have b1 : (K == 1) = false := by rw [HKK.out, hk]; rfl
  have b2 : (K == 2) = false := by rw [HKK.out, hk]; rfl
  have b3 : (K == 3) = false := by rw [HKK.out, hk]; rfl
  have b4 : ¬ (2 : Int) ≤ K := by have h := HKK.out; rw [hk] at h; omega
  have hK0 : K = 0 := by rw [HKK.out, hk]; rfl
  have HKe : Hid (K = 0) := hid hK0
  clear hK0
  obtain ⟨qF0, qF1⟩ := blk_rules HKF3.out
  go_wp2_with fail
  clear qF0 qF1
  have HKR4 := hid ((blk_far (g := w.heap.size) (g' := q) (i := 1) (by omega) (.int .i64 (f0E bs : Nat))).trans HKR3.out)
  have HKF4 : Hid (_ = some (Obj.cells #[.int .i64 K, .int .i64 (f0E bs : Nat), .int .i64 0, .int .i64 0, .int .i64 0, .slice none 0 0, .slice none 0 0, .int .i64 0, .slice none 0 0, .slice none 0 0] 87 (0, 0))) := hid (blk_set (i := 1) HKF3.out (.int .i64 (f0E bs : Nat)))
  have HR4 := hid (HR3.out.setFar (p := q) (i := 1) (by omega) (.int .i64 (f0E bs : Nat)))
  have HO4 := hid (HO3.out.setNew (p := q) (i := 1) (by omega) (.int .i64 (f0E bs : Nat)))
  have hz4 : q < (w3.setCell ⟨q, 1, none⟩ (.int .i64 (f0E bs : Nat))).heap.size := by rw [size_set]; exact hz3
  generalize w3.setCell ⟨q, 1, none⟩ (.int .i64 (f0E bs : Nat)) = w4 at HKR4 HKF4 HR4 HO4 hz4 ⊢
  have HTF := hid (HF0.out hk)
  clear hk
  refine (refNum10_any (w.heap.size + 1) _ 64 _ HR4.out).mono ?_
  rintro e w5 ⟨rfl, hr5, ho5⟩
  have HR5 := hid hr5
  have HKR5 := hid ((ho5.blk (b := w.heap.size) (by omega) (by omega)).trans HKR4.out)
  have HKF5 := hid ((ho5.blk (b := q) (by omega) (by omega)).trans HKF4.out)
  have HO5 := hid (HO4.out.trans ho5)
  have hz5 : q < w5.heap.size := Nat.lt_of_lt_of_le hz4 ho5.size
  clear hr5 ho5
  have hN64 : ((f0R bs).num 64).2 ≤ 64 := by have := Rd.num_le (f0R bs) 64; rw [show bnd 64 = 64 from rfl] at this; omega
  have HNZ := hid (num_zero (f0R bs) 64)
  have HSB : Hid (someB takeM 64 (f0R bs) = someL takeM ((f0R bs).num 64).2 ((f0R bs).num 64).1 []) := hid rfl
  obtain ⟨N, hNe⟩ : ∃ N, N = ((f0R bs).num 64).2 := ⟨_, rfl⟩
  obtain ⟨r0, hre⟩ : ∃ r0, r0 = ((f0R bs).num 64).1 := ⟨_, rfl⟩
  rw [← hNe, ← hre] at HSB
  have HST : Hid (r0.e ≠ 0 → N = 0) := hid (by rw [hre, hNe]; exact HNZ.out)
  rw [← hre] at HR5
  rw [← hNe] at hN64 ⊢
  clear hNe hre HNZ
  obtain ⟨base, hbs⟩ : ∃ base, base = w5.heap.size := ⟨_, rfl⟩
  have hqb : q < base := by rw [hbs]; exact hz5
  have hb0 : base ≤ w5.heap.size := by rw [hbs]; exact Nat.le_refl _
  clear hbs
  go_wp2_with fail
  go_loopw [7] (fun i wr => ∃ (k : Nat) (rk : Rd) (acc : List (Ky × Int)) (us : List Value) (Av : Option Addr) (cv : Nat), k ≤ N ∧ i = .int .i64 k ∧ Hid (LoopR takeM N r0 k rk acc) ∧ Hid (acc.length = k) ∧ Hid (wr.heap[w.heap.size]? = some (.cells #[.int .i64 0, .int .i64 0, .int .i64 0, .int .i64 0, .int .i64 0, .slice none 0 0, .slice none 0 0, .int .i64 0, .slice none 0 0, .slice none 0 0] 87 (0, 0))) ∧ Hid (wr.heap[q]? = some (.cells #[.int .i64 K, .int .i64 (f0E bs : Nat), .int .i64 0, .int .i64 0, .int .i64 0, .slice none 0 0, .slice none 0 0, .int .i64 0, .slice Av k cv, .slice none 0 0] 87 (0, 0))) ∧ Hid (wr.ownsRow base 151 3 (.slice Av k cv) k us) ∧ Hid (RowsOf MkQ 3 us acc) ∧ Hid (RfAt wr (w.heap.size + 1) rk) ∧ Hid (Only (w.heap.size + 1) w wr) ∧ base ≤ wr.heap.size) (fun i _ => N - (intOf i).toNat)
  case atStart => exact ⟨0, r0, [], [], none, 0, Nat.zero_le _, by go_num, hid (loopR_start takeM HST.out), hid rfl, HKR5, HKF5, hid own_nil, hid rfl, HR5, HO5, hb0⟩
  case round =>
   obtain ⟨k, rk, acc, us, Av, cv, hk, rfl, HL, HA, KR, KQ, HW, HU, HRk, HO, hbr⟩ := hrel
   have hqr : q < wr.heap.size := (Array.getElem?_eq_some_iff.1 KQ.out).1
   have hgr : w.heap.size + 1 < wr.heap.size := by omega
   obtain ⟨Ag, ng, cg, g0, g1⟩ := HRk.out.cells2
   by_cases hgo : k < N ∧ rk.e = 0
   ·obtain ⟨hlt, he⟩ := hgo
    have HE := hid he
    rw [he] at g1
    clear he
    have i1 : (k : Int) < (N : Int) := by omega
    go_wp2_with fail
    clear g0 g1
    refine (refTakeKey_takes (w.heap.size + 1) rk _ HRk.out).mono ?_
    rintro e v1 ⟨rfl, hnm, hr, ho⟩
    have HNM := hid hnm
    have HR1 := hid hr
    have KR1 := hid ((ho.blk (b := w.heap.size) (by omega) (by omega)).trans KR.out)
    have KQ1 := hid ((ho.blk (b := q) hqr (by omega)).trans KQ.out)
    have HW1 := hid (own_only HW.out ho (by omega))
    have hl1 : wr.heap.size ≤ v1.heap.size := ho.size
    have HO1 := hid (HO.out.trans ho)
    clear hr ho hnm
    go_wp2_with fail
    refine (refNum10_any (w.heap.size + 1) _ 2147483647 _ (HR1.out.up (Ext.new _ _))).mono ?_
    rintro e v2 ⟨rfl, hr, ho⟩
    have HR2 := hid hr
    have XB : Ext v1 (v1.alloc (.cells #[.int .i64 (takeK rk).2.kind, .string (takeK rk).2.name, .int .i64 0] 151)) := Ext.new _ _
    have hbx : v1.heap.size < (v1.alloc (.cells #[.int .i64 (takeK rk).2.kind, .string (takeK rk).2.name, .int .i64 0] 151)).heap.size := by simp
    have KB2 := hid ((ho.blk (b := v1.heap.size) hbx (by omega)).trans (heap_alloc_new v1 _))
    have KR2 := hid ((ho.blk (b := w.heap.size) (by omega) (by omega)).trans ((XB.block (b := w.heap.size) (by omega)).trans KR1.out))
    have KQ2 := hid ((ho.blk (b := q) (by omega) (by omega)).trans ((XB.block (b := q) (by omega)).trans KQ1.out))
    have HW2 := hid (own_only (own_up HW1.out XB) ho (by omega))
    have hl2 : v1.heap.size < v2.heap.size := Nat.lt_of_lt_of_le hbx ho.size
    have HO2 := hid (HO1.out.trans ((Only.of_ext XB).trans ho))
    clear hr ho XB
    have KB3 : Hid (_ = _) := hid (blk_set (i := 2) KB2.out (.int .i64 (((takeK rk).1.num 2147483647).2 : Nat)))
    have KR3 : Hid (_ = _) := hid ((blk_far (g := w.heap.size) (g' := v1.heap.size) (i := 2) (by omega) (.int .i64 (((takeK rk).1.num 2147483647).2 : Nat))).trans KR2.out)
    have KQ3 : Hid (_ = _) := hid ((blk_far (g := q) (g' := v1.heap.size) (i := 2) (by omega) (.int .i64 (((takeK rk).1.num 2147483647).2 : Nat))).trans KQ2.out)
    have HR3 := hid (HR2.out.setFar (p := v1.heap.size) (i := 2) (by omega) (.int .i64 (((takeK rk).1.num 2147483647).2 : Nat)))
    have HO3 := hid (HO2.out.setNew (p := v1.heap.size) (i := 2) (by omega) (.int .i64 (((takeK rk).1.num 2147483647).2 : Nat)))
    have HW3 := hid (own_setV (p := v1.heap.size) (i := 2) (u := .int .i64 (((takeK rk).1.num 2147483647).2 : Nat)) HW2.out (fun b hb => by have := (HW1.out.lt b hb).2; omega))
    have hl3 : (v2.setCell ⟨v1.heap.size, 2, none⟩ (.int .i64 (((takeK rk).1.num 2147483647).2 : Nat))).heap.size = v2.heap.size := size_set _ _ _
    have hFk := flat_k (v2.setCell ⟨v1.heap.size, 2, none⟩ (.int .i64 (((takeK rk).1.num 2147483647).2 : Nat))) [.int .i64 (takeK rk).2.kind, .string (takeK rk).2.name, .int .i64 (((takeK rk).1.num 2147483647).2 : Nat)] 151 rfl
    have hOW := own_up HW3.out (Ext.new _ (.cells #[.int .i64 (takeK rk).2.kind, .string (takeK rk).2.name, .int .i64 (((takeK rk).1.num 2147483647).2 : Nat)] 151))
    obtain ⟨v', v4, hrun, hown4, hg4, hnw⟩ := run_append_flat elem_mark10 85 hOW 1 hFk (by simp [Value.oneCell']) (by omega) (by omega) (by simp only [World.size_alloc, hl3]; omega) (fun h => by cases h)
    obtain ⟨A4, c4, rfl, -, -, -, -⟩ := own_flat hown4
    simp only [hl3] at hrun
    have HRUN := hid hrun
    have GA : ∀ b, b < base → v4.heap[b]? = (v2.setCell ⟨v1.heap.size, 2, none⟩ (.int .i64 (((takeK rk).1.num 2147483647).2 : Nat))).heap[b]? := fun b hb => (hg4.block b (by simp only [World.size_alloc, hl3]; omega) (fun e' => by have := (hOW.lt b e'.symm).1; omega)).trans ((Ext.new _ _).block (by rw [hl3]; omega))
    have KR4 := hid ((GA w.heap.size (by omega)).trans KR3.out)
    have KQ4 := hid ((GA q hqb).trans KQ3.out)
    have HR4 := hid (rfat_grown (HR3.out.up (Ext.new _ (.cells #[.int .i64 (takeK rk).2.kind, .string (takeK rk).2.name, .int .i64 (((takeK rk).1.num 2147483647).2 : Nat)] 151))) hg4 hOW (by omega))
    have HO4 := hid (only_grown HO3.out (Ext.new _ (.cells #[.int .i64 (takeK rk).2.kind, .string (takeK rk).2.name, .int .i64 (((takeK rk).1.num 2147483647).2 : Nat)] 151)) hg4 hOW (by omega))
    have hl4 : base ≤ v4.heap.size := by have h9 := hg4.size; simp only [World.size_alloc, hl3] at h9; omega
    have HW4 := hid hown4
    have hu4 : MkQ [.int .i64 (takeK rk).2.kind, .string (takeK rk).2.name, .int .i64 (((takeK rk).1.num 2147483647).2 : Nat)] (takeM rk).2 := ⟨by rw [takeM_snd], by rw [takeM_snd]; exact HNM.out⟩
    have HU4 := hid (RowsOf.snoc rfl hu4 HU.out)
    have HL4 := hid (loopR_step HL.out hlt HE.out (y := (takeM rk).2) (fun _ => rfl))
    have HA4 : Hid ((acc ++ [(takeM rk).2]).length = k + 1) := hid (by rw [List.length_append, HA.out]; rfl)
    clear hFk hOW hrun hown4 hg4 hnw GA hu4
    obtain ⟨qb0, qb1⟩ := blk_rules KB2.out
    obtain ⟨qq0, qq1⟩ := blk_rules KQ2.out
    obtain ⟨qs0, qs1⟩ := blk_rules KQ4.out
    go_wp2_with (refine Lib.wpList_append_run _ rfl _ _ _ _ rfl _ _ rfl rfl _ v4 HRUN.out ?_)
    clear qb0 qb1 qq0 qq1 qs0 qs1
    go_roundw
    case rel => exact ⟨k + 1, _, _, _, A4, c4, by omega, by go_num, HL4, HA4, hid ((blk_far (g := w.heap.size) (g' := q) (i := 8) (by omega) _).trans KR4.out), hid (blk_set (i := 8) KQ4.out _), hid (own_setR (p := q) (i := 8) HW4.out hqb), HU4, hid (HR4.out.setFar (p := q) (i := 8) hgq _), hid (HO4.out.setNew (p := q) (i := 8) (by omega) _), by rw [size_set]; omega⟩
    case measure => simp [intOf]; omega
   ·have HEND := hid (loopR_end HL.out hk hgo)
    obtain ⟨A9, c9, e9, h1, h2, h3, hF⟩ := own_flat HW.out
    injection e9 with e1 e2 e3
    subst e1 e3
    have HH_9 : Hid (MkL (fun b => q + 1 ≤ b) wr Av k acc) := hid (hF.arrQ (S := fun b => q + 1 ≤ b) HU.out (by omega) (fun b o e hb => by subst e; have := (HW.out.lt b rfl).1; omega))
    have HSHH : Hid (SlW Av k cv) := hid ⟨h1, h2, h3⟩
    have HGO := hid hgo
    clear hgo hF h1 h2 h3
    have HTx : Hid ((takeF0 ⟨bs, 0⟩).1 = rk ∧ (rk.e = 0 → (takeF0 ⟨bs, 0⟩).2 = ⟨0, (f0E bs : Nat), 0, 0, 0, [], [], 0, acc, []⟩)) := hid (by
     rw [HTF.out, HSB.out]
     exact ⟨HEND.out.1, fun h => by rw [HEND.out.2 h]⟩)
    clear g0 g1
    obtain ⟨qs0, qs1⟩ := blk_rules KQ.out
    have HR9 := HRk
    have HKR9 := KR
    have HKF9 := KQ
    have HO9 := HO
    rename World => w9
    have hz9 : q < w9.heap.size := hqr
    by_cases hlt : k < N
    ·have hne : (rk.e == 0) = false := by rw [beq_eq_false_iff_ne]; exact fun h => HGO.out ⟨hlt, h⟩
     have i1 : (k : Int) < (N : Int) := by omega
     have HT : Hid ((takeF0 ⟨bs, 0⟩).1 = rk ∧ (rk.e = 0 → takeF0 ⟨bs, 0⟩ = (rk, ⟨K, (f0E bs : Nat), 0, 0, 0, [], [], 0, acc, []⟩))) := hid ⟨HTx.out.1, fun h => by rw [HKe.out]; exact Prod.ext HTx.out.1 (HTx.out.2 h)⟩
     obtain ⟨Ag, ng, cg, hgg, hgn, hgc, hgm, hgB, -⟩ := HR9.out
     obtain ⟨g0, g1⟩ := blk_rules hgg
     have hgl : w.heap.size + 1 < w9.heap.size := by omega
     go_wp2_with fail
     clear g0 g1 hgg
     refine (refDone_any Ag ng cg rk _ hgB (by omega)).mono ?_
     rintro e w10 ⟨ex, rfl, hb⟩
     obtain ⟨D, hD⟩ : ∃ D, D = rk.done := ⟨_, rfl⟩
     rw [← hD]
     have HD := hid hD
     clear hD hgB hgn hgc hgm hgl
     have HKR10 := hid ((hb.block (b := w.heap.size) (by omega)).trans HKR9.out)
     have HKF10 := hid ((hb.block (b := q) (by omega)).trans HKF9.out)
     have HO10 := hid (HO9.out.trans (Only.of_ext hb))
     have hz10 : q < w10.heap.size := Nat.lt_of_lt_of_le hz9 hb.size
     have HH_10 := hid (MkL.keep HH_9.out (hb.keep))
     clear hb
     by_cases hd : D = 0
     ·have hd1 : (D == 0) = true := by simpa using hd
      have HG0 : Hid (getF bs = if saneF ⟨K, (f0E bs : Nat), 0, 0, 0, [], [], 0, acc, []⟩ ≠ 0 then (fr0, saneF ⟨K, (f0E bs : Nat), 0, 0, 0, [], [], 0, acc, []⟩) else (⟨K, (f0E bs : Nat), 0, 0, 0, [], [], 0, acc, []⟩, 0)) := hid (by rw [HOF.out _ _ (HT.out.2 (done_zero (by rw [← HD.out]; exact hd))), if_neg (by rw [← HD.out]; simpa using hd)])
      clear hd
      obtain ⟨qF0, qF1⟩ := blk_rules HKF10.out
      go_wp2_with fail
      clear qF0 qF1
      have hbA := Ext.new w10 (.cells #[.slice Ag ng cg, .int .i64 ex] 29)
      have HKRA := hid ((hbA.block (b := w.heap.size) (by omega)).trans HKR10.out)
      have HKFA := hid ((hbA.block (b := q) (by omega)).trans HKF10.out)
      have HOA := hid (HO10.out.trans (Only.of_ext hbA))
      have hzA : q < (w10.alloc (.cells #[.slice Ag ng cg, .int .i64 ex] 29)).heap.size := Nat.lt_of_lt_of_le hz10 hbA.size
      have HH_A := hid (MkL.keep HH_10.out (hbA.keep))
      clear hbA
      generalize w10.alloc (.cells #[.slice Ag ng cg, .int .i64 ex] 29) = wA at HKRA HKFA HOA hzA HH_A ⊢
      refine (refSane10_any (fun b => q + 1 ≤ b) ⟨K, (f0E bs : Nat), 0, 0, 0, [], [], 0, acc, []⟩ ⟨⟨none, 0, 0⟩, ⟨none, 0, 0⟩, ⟨Av, k, cv⟩, ⟨none, 0, 0⟩⟩ _ ⟨SlW.nil_, SlW.nil_, HSHH.out, SlW.nil_, ArrQ.nil_, ArrQ.nil_, HH_A.out, ArrQ.nil_⟩).mono ?_
      rintro e wB ⟨rfl, hb⟩
      have HKRB := hid ((hb.block (b := w.heap.size) (by omega)).trans HKRA.out)
      have HKFB := hid ((hb.block (b := q) (by omega)).trans HKFA.out)
      have HOB := hid (HOA.out.trans (Only.of_ext hb))
      have HH_B := hid (MkL.keep HH_A.out (hb.keep))
      have hzB : q < wB.heap.size := Nat.lt_of_lt_of_le hzA hb.size
      clear hb
      obtain ⟨E, hE⟩ : ∃ E, E = saneF ⟨K, (f0E bs : Nat), 0, 0, 0, [], [], 0, acc, []⟩ := ⟨_, rfl⟩
      rw [← hE] at HG0 ⊢
      clear hE HT
      by_cases he : E = 0
      ·have he1 : (E != 0) = false := by simpa using he
       have HG1 : Hid (getF bs = (⟨K, (f0E bs : Nat), 0, 0, 0, [], [], 0, acc, []⟩, 0)) := hid (by rw [HG0.out, if_neg (by simpa using he)])
       clear he
       obtain ⟨qF0, qF1⟩ := blk_rules HKFB.out
       obtain ⟨qR0, qR1⟩ := blk_rules HKRB.out
       go_wp2_with fail
       clear qF0 qF1 qR0 qR1
       generalize hVV : (((((((((wB.setCell ⟨w.heap.size, 0, none⟩ (.int .i64 K)).setCell ⟨w.heap.size, 1, none⟩ (.int .i64 (f0E bs : Nat))).setCell ⟨w.heap.size, 2, none⟩ (.int .i64 0)).setCell ⟨w.heap.size, 3, none⟩ (.int .i64 0)).setCell ⟨w.heap.size, 4, none⟩ (.int .i64 0)).setCell ⟨w.heap.size, 5, none⟩ (.slice none 0 0)).setCell ⟨w.heap.size, 6, none⟩ (.slice none 0 0)).setCell ⟨w.heap.size, 7, none⟩ (.int .i64 0)).setCell ⟨w.heap.size, 8, none⟩ (.slice Av k cv)).setCell ⟨w.heap.size, 9, none⟩ (.slice none 0 0) = V
       obtain ⟨bV, oV, kV⟩ := set10 HKRB.out (.int .i64 K) (.int .i64 (f0E bs : Nat)) (.int .i64 0) (.int .i64 0) (.int .i64 0) (.slice none 0 0) (.slice none 0 0) (.int .i64 0) (.slice Av k cv) (.slice none 0 0) hVV
       have OV := Only.ext (Ext.refl w) (oV HOB.out (Nat.le_refl _)) (Nat.le_succ _)
       clear hVV oV
       obtain ⟨z0, -⟩ := blk_rules bV
       refine bodyPost_ret (v := .tuple #[.agg #[.int .i64 K, .int .i64 (f0E bs : Nat), .int .i64 0, .int .i64 0, .int .i64 0, .slice none 0 0, .slice none 0 0, .int .i64 0, .slice Av k cv, .slice none 0 0], .int .i64 0]) (by simp [results, Tryz.results67, go_sem, z0]) rfl ?_
       exact fget_out (x := (⟨K, (f0E bs : Nat), 0, 0, 0, [], [], 0, acc, []⟩, 0)) (s := ⟨⟨none, 0, 0⟩, ⟨none, 0, 0⟩, ⟨Av, k, cv⟩, ⟨none, 0, 0⟩⟩) HG1.out (FrV.all (FrV.keep (S := fun b => q + 1 ≤ b) ⟨SlW.nil_, SlW.nil_, HSHH.out, SlW.nil_, ArrQ.nil_, ArrQ.nil_, HH_B.out, ArrQ.nil_⟩ (kV _ (fun b hb => by omega)))) OV
      ·have he1 : (E != 0) = true := by simpa using he
       have HG1 : Hid (getF bs = (fr0, E)) := hid (by rw [HG0.out, if_pos (by simpa using he)])
       clear he
       obtain ⟨qR0, qR1⟩ := blk_rules HKRB.out
       go_wp2_with fail
       clear qR0 qR1
       generalize hVV : (((((((((wB.setCell ⟨w.heap.size, 0, none⟩ (.int .i64 0)).setCell ⟨w.heap.size, 1, none⟩ (.int .i64 0)).setCell ⟨w.heap.size, 2, none⟩ (.int .i64 0)).setCell ⟨w.heap.size, 3, none⟩ (.int .i64 0)).setCell ⟨w.heap.size, 4, none⟩ (.int .i64 0)).setCell ⟨w.heap.size, 5, none⟩ (.slice none 0 0)).setCell ⟨w.heap.size, 6, none⟩ (.slice none 0 0)).setCell ⟨w.heap.size, 7, none⟩ (.int .i64 0)).setCell ⟨w.heap.size, 8, none⟩ (.slice none 0 0)).setCell ⟨w.heap.size, 9, none⟩ (.slice none 0 0) = V
       obtain ⟨bV, oV, kV⟩ := set10 HKRB.out (.int .i64 0) (.int .i64 0) (.int .i64 0) (.int .i64 0) (.int .i64 0) (.slice none 0 0) (.slice none 0 0) (.int .i64 0) (.slice none 0 0) (.slice none 0 0) hVV
       have OV := Only.ext (Ext.refl w) (oV HOB.out (Nat.le_refl _)) (Nat.le_succ _)
       clear hVV oV
       obtain ⟨z0, -⟩ := blk_rules bV
       refine bodyPost_ret (v := .tuple #[.agg #[.int .i64 0, .int .i64 0, .int .i64 0, .int .i64 0, .int .i64 0, .slice none 0 0, .slice none 0 0, .int .i64 0, .slice none 0 0, .slice none 0 0], .int .i64 E]) (by simp [results, Tryz.results67, go_sem, z0]) rfl ?_
       exact fget_out (x := (fr0, E)) (s := nilS) HG1.out (FrV.nil_ _ _ _ _ _ _ _ _) OV
     ·have hd1 : (D == 0) = false := by simpa using hd
      have hd2 : (D != 0) = true := by simpa using hd
      have HG0 : Hid (getF bs = (fr0, D)) := hid (by rw [HOF.out rk (takeF0 ⟨bs, 0⟩).2 (Prod.ext HT.out.1 rfl), if_pos (by rw [← HD.out]; simpa using hd), ← HD.out])
      clear hd HT
      obtain ⟨qR0, qR1⟩ := blk_rules HKR10.out
      have hRk : w.heap.size < w10.heap.size := by omega
      go_wp2_with fail
      clear qR0 qR1 hRk
      generalize hVV : (((((((((w10.setCell ⟨w.heap.size, 0, none⟩ (.int .i64 0)).setCell ⟨w.heap.size, 1, none⟩ (.int .i64 0)).setCell ⟨w.heap.size, 2, none⟩ (.int .i64 0)).setCell ⟨w.heap.size, 3, none⟩ (.int .i64 0)).setCell ⟨w.heap.size, 4, none⟩ (.int .i64 0)).setCell ⟨w.heap.size, 5, none⟩ (.slice none 0 0)).setCell ⟨w.heap.size, 6, none⟩ (.slice none 0 0)).setCell ⟨w.heap.size, 7, none⟩ (.int .i64 0)).setCell ⟨w.heap.size, 8, none⟩ (.slice none 0 0)).setCell ⟨w.heap.size, 9, none⟩ (.slice none 0 0) = V
      obtain ⟨bV, oV, kV⟩ := set10 HKR10.out (.int .i64 0) (.int .i64 0) (.int .i64 0) (.int .i64 0) (.int .i64 0) (.slice none 0 0) (.slice none 0 0) (.int .i64 0) (.slice none 0 0) (.slice none 0 0) hVV
      have OV := Only.ext (Ext.refl w) (oV HO10.out (Nat.le_refl _)) (Nat.le_succ _)
      clear hVV oV
      have hzV : w.heap.size < V.heap.size := (Array.getElem?_eq_some_iff.1 bV).1
      obtain ⟨y0, -⟩ := blk_rules (((Ext.new V (.cells #[.slice Ag ng cg, .int .i64 ex] 29)).block hzV).trans bV)
      refine bodyPost_ret (v := .tuple #[.agg #[.int .i64 0, .int .i64 0, .int .i64 0, .int .i64 0, .int .i64 0, .slice none 0 0, .slice none 0 0, .int .i64 0, .slice none 0 0, .slice none 0 0], .int .i64 D]) (by simp [results, Tryz.results67, go_sem, y0]) rfl ?_
      exact fget_out (x := (fr0, D)) (s := nilS) HG0.out (FrV.nil_ _ _ _ _ _ _ _ _) (OV.alloc _)
    ·have hne : ¬ (k : Int) < (N : Int) := by omega
     have HT : Hid ((takeF0 ⟨bs, 0⟩).1 = rk ∧ (rk.e = 0 → takeF0 ⟨bs, 0⟩ = (rk, ⟨K, (f0E bs : Nat), 0, 0, 0, [], [], 0, acc, []⟩))) := hid ⟨HTx.out.1, fun h => by rw [HKe.out]; exact Prod.ext HTx.out.1 (HTx.out.2 h)⟩
     obtain ⟨Ag, ng, cg, hgg, hgn, hgc, hgm, hgB, -⟩ := HR9.out
     obtain ⟨g0, g1⟩ := blk_rules hgg
     have hgl : w.heap.size + 1 < w9.heap.size := by omega
     go_wp2_with fail
     clear g0 g1 hgg
     refine (refDone_any Ag ng cg rk _ hgB (by omega)).mono ?_
     rintro e w10 ⟨ex, rfl, hb⟩
     obtain ⟨D, hD⟩ : ∃ D, D = rk.done := ⟨_, rfl⟩
     rw [← hD]
     have HD := hid hD
     clear hD hgB hgn hgc hgm hgl
     have HKR10 := hid ((hb.block (b := w.heap.size) (by omega)).trans HKR9.out)
     have HKF10 := hid ((hb.block (b := q) (by omega)).trans HKF9.out)
     have HO10 := hid (HO9.out.trans (Only.of_ext hb))
     have hz10 : q < w10.heap.size := Nat.lt_of_lt_of_le hz9 hb.size
     have HH_10 := hid (MkL.keep HH_9.out (hb.keep))
     clear hb
     by_cases hd : D = 0
     ·have hd1 : (D == 0) = true := by simpa using hd
      have HG0 : Hid (getF bs = if saneF ⟨K, (f0E bs : Nat), 0, 0, 0, [], [], 0, acc, []⟩ ≠ 0 then (fr0, saneF ⟨K, (f0E bs : Nat), 0, 0, 0, [], [], 0, acc, []⟩) else (⟨K, (f0E bs : Nat), 0, 0, 0, [], [], 0, acc, []⟩, 0)) := hid (by rw [HOF.out _ _ (HT.out.2 (done_zero (by rw [← HD.out]; exact hd))), if_neg (by rw [← HD.out]; simpa using hd)])
      clear hd
      obtain ⟨qF0, qF1⟩ := blk_rules HKF10.out
      go_wp2_with fail
      clear qF0 qF1
      have hbA := Ext.new w10 (.cells #[.slice Ag ng cg, .int .i64 ex] 29)
      have HKRA := hid ((hbA.block (b := w.heap.size) (by omega)).trans HKR10.out)
      have HKFA := hid ((hbA.block (b := q) (by omega)).trans HKF10.out)
      have HOA := hid (HO10.out.trans (Only.of_ext hbA))
      have hzA : q < (w10.alloc (.cells #[.slice Ag ng cg, .int .i64 ex] 29)).heap.size := Nat.lt_of_lt_of_le hz10 hbA.size
      have HH_A := hid (MkL.keep HH_10.out (hbA.keep))
      clear hbA
      generalize w10.alloc (.cells #[.slice Ag ng cg, .int .i64 ex] 29) = wA at HKRA HKFA HOA hzA HH_A ⊢
      refine (refSane10_any (fun b => q + 1 ≤ b) ⟨K, (f0E bs : Nat), 0, 0, 0, [], [], 0, acc, []⟩ ⟨⟨none, 0, 0⟩, ⟨none, 0, 0⟩, ⟨Av, k, cv⟩, ⟨none, 0, 0⟩⟩ _ ⟨SlW.nil_, SlW.nil_, HSHH.out, SlW.nil_, ArrQ.nil_, ArrQ.nil_, HH_A.out, ArrQ.nil_⟩).mono ?_
      rintro e wB ⟨rfl, hb⟩
      have HKRB := hid ((hb.block (b := w.heap.size) (by omega)).trans HKRA.out)
      have HKFB := hid ((hb.block (b := q) (by omega)).trans HKFA.out)
      have HOB := hid (HOA.out.trans (Only.of_ext hb))
      have HH_B := hid (MkL.keep HH_A.out (hb.keep))
      have hzB : q < wB.heap.size := Nat.lt_of_lt_of_le hzA hb.size
      clear hb
      obtain ⟨E, hE⟩ : ∃ E, E = saneF ⟨K, (f0E bs : Nat), 0, 0, 0, [], [], 0, acc, []⟩ := ⟨_, rfl⟩
      rw [← hE] at HG0 ⊢
      clear hE HT
      by_cases he : E = 0
      ·have he1 : (E != 0) = false := by simpa using he
       have HG1 : Hid (getF bs = (⟨K, (f0E bs : Nat), 0, 0, 0, [], [], 0, acc, []⟩, 0)) := hid (by rw [HG0.out, if_neg (by simpa using he)])
       clear he
       obtain ⟨qF0, qF1⟩ := blk_rules HKFB.out
       obtain ⟨qR0, qR1⟩ := blk_rules HKRB.out
       go_wp2_with fail
       clear qF0 qF1 qR0 qR1
       generalize hVV : (((((((((wB.setCell ⟨w.heap.size, 0, none⟩ (.int .i64 K)).setCell ⟨w.heap.size, 1, none⟩ (.int .i64 (f0E bs : Nat))).setCell ⟨w.heap.size, 2, none⟩ (.int .i64 0)).setCell ⟨w.heap.size, 3, none⟩ (.int .i64 0)).setCell ⟨w.heap.size, 4, none⟩ (.int .i64 0)).setCell ⟨w.heap.size, 5, none⟩ (.slice none 0 0)).setCell ⟨w.heap.size, 6, none⟩ (.slice none 0 0)).setCell ⟨w.heap.size, 7, none⟩ (.int .i64 0)).setCell ⟨w.heap.size, 8, none⟩ (.slice Av k cv)).setCell ⟨w.heap.size, 9, none⟩ (.slice none 0 0) = V
       obtain ⟨bV, oV, kV⟩ := set10 HKRB.out (.int .i64 K) (.int .i64 (f0E bs : Nat)) (.int .i64 0) (.int .i64 0) (.int .i64 0) (.slice none 0 0) (.slice none 0 0) (.int .i64 0) (.slice Av k cv) (.slice none 0 0) hVV
       have OV := Only.ext (Ext.refl w) (oV HOB.out (Nat.le_refl _)) (Nat.le_succ _)
       clear hVV oV
       obtain ⟨z0, -⟩ := blk_rules bV
       refine bodyPost_ret (v := .tuple #[.agg #[.int .i64 K, .int .i64 (f0E bs : Nat), .int .i64 0, .int .i64 0, .int .i64 0, .slice none 0 0, .slice none 0 0, .int .i64 0, .slice Av k cv, .slice none 0 0], .int .i64 0]) (by simp [results, Tryz.results67, go_sem, z0]) rfl ?_
       exact fget_out (x := (⟨K, (f0E bs : Nat), 0, 0, 0, [], [], 0, acc, []⟩, 0)) (s := ⟨⟨none, 0, 0⟩, ⟨none, 0, 0⟩, ⟨Av, k, cv⟩, ⟨none, 0, 0⟩⟩) HG1.out (FrV.all (FrV.keep (S := fun b => q + 1 ≤ b) ⟨SlW.nil_, SlW.nil_, HSHH.out, SlW.nil_, ArrQ.nil_, ArrQ.nil_, HH_B.out, ArrQ.nil_⟩ (kV _ (fun b hb => by omega)))) OV
      ·have he1 : (E != 0) = true := by simpa using he
       have HG1 : Hid (getF bs = (fr0, E)) := hid (by rw [HG0.out, if_pos (by simpa using he)])
       clear he
       obtain ⟨qR0, qR1⟩ := blk_rules HKRB.out
       go_wp2_with fail
       clear qR0 qR1
       generalize hVV : (((((((((wB.setCell ⟨w.heap.size, 0, none⟩ (.int .i64 0)).setCell ⟨w.heap.size, 1, none⟩ (.int .i64 0)).setCell ⟨w.heap.size, 2, none⟩ (.int .i64 0)).setCell ⟨w.heap.size, 3, none⟩ (.int .i64 0)).setCell ⟨w.heap.size, 4, none⟩ (.int .i64 0)).setCell ⟨w.heap.size, 5, none⟩ (.slice none 0 0)).setCell ⟨w.heap.size, 6, none⟩ (.slice none 0 0)).setCell ⟨w.heap.size, 7, none⟩ (.int .i64 0)).setCell ⟨w.heap.size, 8, none⟩ (.slice none 0 0)).setCell ⟨w.heap.size, 9, none⟩ (.slice none 0 0) = V
       obtain ⟨bV, oV, kV⟩ := set10 HKRB.out (.int .i64 0) (.int .i64 0) (.int .i64 0) (.int .i64 0) (.int .i64 0) (.slice none 0 0) (.slice none 0 0) (.int .i64 0) (.slice none 0 0) (.slice none 0 0) hVV
       have OV := Only.ext (Ext.refl w) (oV HOB.out (Nat.le_refl _)) (Nat.le_succ _)
       clear hVV oV
       obtain ⟨z0, -⟩ := blk_rules bV
       refine bodyPost_ret (v := .tuple #[.agg #[.int .i64 0, .int .i64 0, .int .i64 0, .int .i64 0, .int .i64 0, .slice none 0 0, .slice none 0 0, .int .i64 0, .slice none 0 0, .slice none 0 0], .int .i64 E]) (by simp [results, Tryz.results67, go_sem, z0]) rfl ?_
       exact fget_out (x := (fr0, E)) (s := nilS) HG1.out (FrV.nil_ _ _ _ _ _ _ _ _) OV
     ·have hd1 : (D == 0) = false := by simpa using hd
      have hd2 : (D != 0) = true := by simpa using hd
      have HG0 : Hid (getF bs = (fr0, D)) := hid (by rw [HOF.out rk (takeF0 ⟨bs, 0⟩).2 (Prod.ext HT.out.1 rfl), if_pos (by rw [← HD.out]; simpa using hd), ← HD.out])
      clear hd HT
      obtain ⟨qR0, qR1⟩ := blk_rules HKR10.out
      have hRk : w.heap.size < w10.heap.size := by omega
      go_wp2_with fail
      clear qR0 qR1 hRk
      generalize hVV : (((((((((w10.setCell ⟨w.heap.size, 0, none⟩ (.int .i64 0)).setCell ⟨w.heap.size, 1, none⟩ (.int .i64 0)).setCell ⟨w.heap.size, 2, none⟩ (.int .i64 0)).setCell ⟨w.heap.size, 3, none⟩ (.int .i64 0)).setCell ⟨w.heap.size, 4, none⟩ (.int .i64 0)).setCell ⟨w.heap.size, 5, none⟩ (.slice none 0 0)).setCell ⟨w.heap.size, 6, none⟩ (.slice none 0 0)).setCell ⟨w.heap.size, 7, none⟩ (.int .i64 0)).setCell ⟨w.heap.size, 8, none⟩ (.slice none 0 0)).setCell ⟨w.heap.size, 9, none⟩ (.slice none 0 0) = V
      obtain ⟨bV, oV, kV⟩ := set10 HKR10.out (.int .i64 0) (.int .i64 0) (.int .i64 0) (.int .i64 0) (.int .i64 0) (.slice none 0 0) (.slice none 0 0) (.int .i64 0) (.slice none 0 0) (.slice none 0 0) hVV
      have OV := Only.ext (Ext.refl w) (oV HO10.out (Nat.le_refl _)) (Nat.le_succ _)
      clear hVV oV
      have hzV : w.heap.size < V.heap.size := (Array.getElem?_eq_some_iff.1 bV).1
      obtain ⟨y0, -⟩ := blk_rules (((Ext.new V (.cells #[.slice Ag ng cg, .int .i64 ex] 29)).block hzV).trans bV)
      refine bodyPost_ret (v := .tuple #[.agg #[.int .i64 0, .int .i64 0, .int .i64 0, .int .i64 0, .int .i64 0, .slice none 0 0, .slice none 0 0, .int .i64 0, .slice none 0 0, .slice none 0 0], .int .i64 D]) (by simp [results, Tryz.results67, go_sem, y0]) rfl ?_
      exact fget_out (x := (fr0, D)) (s := nilS) HG0.out (FrV.nil_ _ _ _ _ _ _ _ _) (OV.alloc _)
 ·have b0 : (K == 0) = false := by rw [HKK.out, hk]; rfl
  have b1 : (K == 1) = true := by rw [HKK.out, hk]; rfl
  have b2 : (K == 2) = false := by rw [HKK.out, hk]; rfl
  have b3 : (K == 3) = false := by rw [HKK.out, hk]; rfl
  have b4 : ¬ (2 : Int) ≤ K := by have h := HKK.out; rw [hk] at h; omega
  have hK1 : K = 1 := by rw [HKK.out, hk]; rfl
  have HKe : Hid (K = 1) := hid hK1
  clear hK1
  obtain ⟨qF0, qF1⟩ := blk_rules HKF3.out
  go_wp2_with fail
  clear qF0 qF1
  have HKR4 := hid ((blk_far (g := w.heap.size) (g' := q) (i := 1) (by omega) (.int .i64 (f0E bs : Nat))).trans HKR3.out)
  have HKF4 : Hid (_ = some (Obj.cells #[.int .i64 K, .int .i64 (f0E bs : Nat), .int .i64 0, .int .i64 0, .int .i64 0, .slice none 0 0, .slice none 0 0, .int .i64 0, .slice none 0 0, .slice none 0 0] 87 (0, 0))) := hid (blk_set (i := 1) HKF3.out (.int .i64 (f0E bs : Nat)))
  have HR4 := hid (HR3.out.setFar (p := q) (i := 1) (by omega) (.int .i64 (f0E bs : Nat)))
  have HO4 := hid (HO3.out.setNew (p := q) (i := 1) (by omega) (.int .i64 (f0E bs : Nat)))
  have hz4 : q < (w3.setCell ⟨q, 1, none⟩ (.int .i64 (f0E bs : Nat))).heap.size := by rw [size_set]; exact hz3
  generalize w3.setCell ⟨q, 1, none⟩ (.int .i64 (f0E bs : Nat)) = w4 at HKR4 HKF4 HR4 HO4 hz4 ⊢
  refine (refNum10_any (w.heap.size + 1) _ 3 _ HR4.out).mono ?_
  rintro e w5 ⟨rfl, hr5, ho5⟩
  have HR5 := hid hr5
  have HKR5 := hid ((ho5.blk (b := w.heap.size) (by omega) (by omega)).trans HKR4.out)
  have HKF5 := hid ((ho5.blk (b := q) (by omega) (by omega)).trans HKF4.out)
  have HO5 := hid (HO4.out.trans ho5)
  have hz5 : q < w5.heap.size := Nat.lt_of_lt_of_le hz4 ho5.size
  clear hr5 ho5
  obtain ⟨qF0, qF1⟩ := blk_rules HKF5.out
  go_wp2_with fail
  clear qF0 qF1
  have HKR6 := hid ((blk_far (g := w.heap.size) (g' := q) (i := 2) (by omega) (.int .i64 ((((f0R bs).num 3).2 : Nat) : Int))).trans HKR5.out)
  have HKF6 : Hid (_ = some (Obj.cells #[.int .i64 K, .int .i64 (f0E bs : Nat), .int .i64 ((((f0R bs).num 3).2 : Nat) : Int), .int .i64 0, .int .i64 0, .slice none 0 0, .slice none 0 0, .int .i64 0, .slice none 0 0, .slice none 0 0] 87 (0, 0))) := hid (blk_set (i := 2) HKF5.out (.int .i64 ((((f0R bs).num 3).2 : Nat) : Int)))
  have HR6 := hid (HR5.out.setFar (p := q) (i := 2) (by omega) (.int .i64 ((((f0R bs).num 3).2 : Nat) : Int)))
  have HO6 := hid (HO5.out.setNew (p := q) (i := 2) (by omega) (.int .i64 ((((f0R bs).num 3).2 : Nat) : Int)))
  have hz6 : q < (w5.setCell ⟨q, 2, none⟩ (.int .i64 ((((f0R bs).num 3).2 : Nat) : Int))).heap.size := by rw [size_set]; exact hz5
  generalize w5.setCell ⟨q, 2, none⟩ (.int .i64 ((((f0R bs).num 3).2 : Nat) : Int)) = w6 at HKR6 HKF6 HR6 HO6 hz6 ⊢
  refine (refNum10_any (w.heap.size + 1) _ 2147483647 _ HR6.out).mono ?_
  rintro e w7 ⟨rfl, hr7, ho7⟩
  have HR7 := hid hr7
  have HKR7 := hid ((ho7.blk (b := w.heap.size) (by omega) (by omega)).trans HKR6.out)
  have HKF7 := hid ((ho7.blk (b := q) (by omega) (by omega)).trans HKF6.out)
  have HO7 := hid (HO6.out.trans ho7)
  have hz7 : q < w7.heap.size := Nat.lt_of_lt_of_le hz6 ho7.size
  clear hr7 ho7
  obtain ⟨qF0, qF1⟩ := blk_rules HKF7.out
  go_wp2_with fail
  clear qF0 qF1
  have HKR8 := hid ((blk_far (g := w.heap.size) (g' := q) (i := 3) (by omega) (.int .i64 (((((f0R bs).num 3).1.num 2147483647).2 : Nat) : Int))).trans HKR7.out)
  have HKF8 : Hid (_ = some (Obj.cells #[.int .i64 K, .int .i64 (f0E bs : Nat), .int .i64 ((((f0R bs).num 3).2 : Nat) : Int), .int .i64 (((((f0R bs).num 3).1.num 2147483647).2 : Nat) : Int), .int .i64 0, .slice none 0 0, .slice none 0 0, .int .i64 0, .slice none 0 0, .slice none 0 0] 87 (0, 0))) := hid (blk_set (i := 3) HKF7.out (.int .i64 (((((f0R bs).num 3).1.num 2147483647).2 : Nat) : Int)))
  have HR8 := hid (HR7.out.setFar (p := q) (i := 3) (by omega) (.int .i64 (((((f0R bs).num 3).1.num 2147483647).2 : Nat) : Int)))
  have HO8 := hid (HO7.out.setNew (p := q) (i := 3) (by omega) (.int .i64 (((((f0R bs).num 3).1.num 2147483647).2 : Nat) : Int)))
  have hz8 : q < (w7.setCell ⟨q, 3, none⟩ (.int .i64 (((((f0R bs).num 3).1.num 2147483647).2 : Nat) : Int))).heap.size := by rw [size_set]; exact hz7
  generalize w7.setCell ⟨q, 3, none⟩ (.int .i64 (((((f0R bs).num 3).1.num 2147483647).2 : Nat) : Int)) = w8 at HKR8 HKF8 HR8 HO8 hz8 ⊢
  refine (refTakeAll_any (w.heap.size + 1) _ _ HR8.out).mono ?_
  rintro e w9 ⟨AHA, nHA, cHA, rfl, hsl, harr, hr9, ho9⟩
  have HR9 := hid hr9
  have HKR9 := hid ((ho9.blk (b := w.heap.size) (by omega) (by omega)).trans HKR8.out)
  have HKF9 := hid ((ho9.blk (b := q) (by omega) (by omega)).trans HKF8.out)
  have HO9 := hid (HO8.out.trans ho9)
  have hz9 : q < w9.heap.size := Nat.lt_of_lt_of_le hz8 ho9.size
  have HA_9 : Hid (ResL (fun b => q + 1 ≤ b) w9 AHA nHA _) := hid (ResL.weak harr (fun b _ hb => by omega))
  have HSHA := hid hsl
  clear harr hsl
  clear hr9 ho9
  obtain ⟨qF0, qF1⟩ := blk_rules HKF9.out
  go_wp2_with fail
  clear qF0 qF1
  have HKR10 := hid ((blk_far (g := w.heap.size) (g' := q) (i := 5) (by omega) (.slice AHA nHA cHA)).trans HKR9.out)
  have HKF10 : Hid (_ = some (Obj.cells #[.int .i64 K, .int .i64 (f0E bs : Nat), .int .i64 ((((f0R bs).num 3).2 : Nat) : Int), .int .i64 (((((f0R bs).num 3).1.num 2147483647).2 : Nat) : Int), .int .i64 0, .slice AHA nHA cHA, .slice none 0 0, .int .i64 0, .slice none 0 0, .slice none 0 0] 87 (0, 0))) := hid (blk_set (i := 5) HKF9.out (.slice AHA nHA cHA))
  have HR10 := hid (HR9.out.setFar (p := q) (i := 5) (by omega) (.slice AHA nHA cHA))
  have HO10 := hid (HO9.out.setNew (p := q) (i := 5) (by omega) (.slice AHA nHA cHA))
  have hz10 : q < (w9.setCell ⟨q, 5, none⟩ (.slice AHA nHA cHA)).heap.size := by rw [size_set]; exact hz9
  have HA_10 := hid (ResL.keep HA_9.out (Keep.setFar (p := q) (i := 5) (fun b hb => by omega) (.slice AHA nHA cHA)))
  generalize w9.setCell ⟨q, 5, none⟩ (.slice AHA nHA cHA) = w10 at HKR10 HKF10 HR10 HO10 hz10 HA_10 ⊢
  refine (refTakeKeys_any (w.heap.size + 1) _ _ HR10.out).mono ?_
  rintro e w11 ⟨AHG, nHG, cHG, rfl, hsl, harr, hr11, ho11⟩
  have HR11 := hid hr11
  have HKR11 := hid ((ho11.blk (b := w.heap.size) (by omega) (by omega)).trans HKR10.out)
  have HKF11 := hid ((ho11.blk (b := q) (by omega) (by omega)).trans HKF10.out)
  have HO11 := hid (HO10.out.trans ho11)
  have hz11 : q < w11.heap.size := Nat.lt_of_lt_of_le hz10 ho11.size
  have HA_11 := hid (ResL.keep HA_10.out (Only.keepGe (lo := q + 1) ho11 (by omega)))
  have HG_11 : Hid (KeyL (fun b => q + 1 ≤ b) w11 AHG nHG _) := hid (ArrQ.weak harr (fun _ _ h => h) (fun b _ hb => by omega))
  have HSHG := hid hsl
  clear harr hsl
  clear hr11 ho11
  obtain ⟨rr, hrr⟩ : ∃ rr, rr = (someB takeK 64 (someB takeR 64 (((f0R bs).num 3).1.num 2147483647).1).1).1 := ⟨_, rfl⟩
  rw [← hrr] at HR11
  have HRR := hid hrr
  clear hrr
  obtain ⟨Ag, ng, cg, hgg, -, -, -, -, -⟩ := HR11.out
  have HKG11 := hid hgg
  obtain ⟨g0, g1⟩ := blk_rules hgg
  have hgl : w.heap.size + 1 < w11.heap.size := by omega
  clear hgg
  obtain ⟨qF0, qF1⟩ := blk_rules HKF11.out
  go_wp2_with fail
  clear qF0 qF1
  clear g0 g1 hgl
  have HKR12 := hid ((blk_far (g := w.heap.size) (g' := q) (i := 6) (by omega) (.slice AHG nHG cHG)).trans HKR11.out)
  have HKG12 := hid ((blk_far (g := w.heap.size + 1) (g' := q) (i := 6) (by omega) (.slice AHG nHG cHG)).trans HKG11.out)
  have HKF12 : Hid (_ = some (Obj.cells #[.int .i64 K, .int .i64 (f0E bs : Nat), .int .i64 ((((f0R bs).num 3).2 : Nat) : Int), .int .i64 (((((f0R bs).num 3).1.num 2147483647).2 : Nat) : Int), .int .i64 0, .slice AHA nHA cHA, .slice AHG nHG cHG, .int .i64 0, .slice none 0 0, .slice none 0 0] 87 (0, 0))) := hid (blk_set (i := 6) HKF11.out (.slice AHG nHG cHG))
  have HR12 := hid (HR11.out.setFar (p := q) (i := 6) (by omega) (.slice AHG nHG cHG))
  have HO12 := hid (HO11.out.setNew (p := q) (i := 6) (by omega) (.slice AHG nHG cHG))
  have hz12 : q < (w11.setCell ⟨q, 6, none⟩ (.slice AHG nHG cHG)).heap.size := by rw [size_set]; exact hz11
  have HA_12 := hid (ResL.keep HA_11.out (Keep.setFar (p := q) (i := 6) (fun b hb => by omega) (.slice AHG nHG cHG)))
  have HG_12 := hid (KeyL.keep HG_11.out (Keep.setFar (p := q) (i := 6) (fun b hb => by omega) (.slice AHG nHG cHG)))
  generalize w11.setCell ⟨q, 6, none⟩ (.slice AHG nHG cHG) = w12 at HKR12 HKG12 HKF12 HR12 HO12 hz12 HA_12 HG_12 ⊢
  have HT : Hid (takeF0 ⟨bs, 0⟩ = ((someB takeK 64 (someB takeR 64 (((f0R bs).num 3).1.num 2147483647).1).1).1, ⟨K, (f0E bs : Nat), ((((f0R bs).num 3).2 : Nat) : Int), (((((f0R bs).num 3).1.num 2147483647).2 : Nat) : Int), 0, (someB takeR 64 (((f0R bs).num 3).1.num 2147483647).1).2, (someB takeK 64 (someB takeR 64 (((f0R bs).num 3).1.num 2147483647).1).1).2, 0, [], []⟩)) := hid (by rw [HKe.out]; exact HF1.out hk)
  clear hk
  rw [← HRR.out] at HT
  clear HRR
  obtain ⟨hgn, hgc, hgm, hgB⟩ := HR12.out.same HKG12.out
  have hgl := True.intro
  refine (refDone_any Ag ng cg rr _ hgB (by omega)).mono ?_
  rintro e w13 ⟨ex, rfl, hb⟩
  obtain ⟨D, hD⟩ : ∃ D, D = rr.done := ⟨_, rfl⟩
  rw [← hD]
  have HD := hid hD
  clear hD hgB hgn hgc hgm hgl
  have HKR13 := hid ((hb.block (b := w.heap.size) (by omega)).trans HKR12.out)
  have HKF13 := hid ((hb.block (b := q) (by omega)).trans HKF12.out)
  have HO13 := hid (HO12.out.trans (Only.of_ext hb))
  have hz13 : q < w13.heap.size := Nat.lt_of_lt_of_le hz12 hb.size
  have HA_13 := hid (ResL.keep HA_12.out (hb.keep))
  have HG_13 := hid (KeyL.keep HG_12.out (hb.keep))
  clear hb
  by_cases hd : D = 0
  ·have hd1 : (D == 0) = true := by simpa using hd
   have HG0 : Hid (getF bs = if saneF ⟨K, (f0E bs : Nat), ((((f0R bs).num 3).2 : Nat) : Int), (((((f0R bs).num 3).1.num 2147483647).2 : Nat) : Int), 0, (someB takeR 64 (((f0R bs).num 3).1.num 2147483647).1).2, (someB takeK 64 (someB takeR 64 (((f0R bs).num 3).1.num 2147483647).1).1).2, 0, [], []⟩ ≠ 0 then (fr0, saneF ⟨K, (f0E bs : Nat), ((((f0R bs).num 3).2 : Nat) : Int), (((((f0R bs).num 3).1.num 2147483647).2 : Nat) : Int), 0, (someB takeR 64 (((f0R bs).num 3).1.num 2147483647).1).2, (someB takeK 64 (someB takeR 64 (((f0R bs).num 3).1.num 2147483647).1).1).2, 0, [], []⟩) else (⟨K, (f0E bs : Nat), ((((f0R bs).num 3).2 : Nat) : Int), (((((f0R bs).num 3).1.num 2147483647).2 : Nat) : Int), 0, (someB takeR 64 (((f0R bs).num 3).1.num 2147483647).1).2, (someB takeK 64 (someB takeR 64 (((f0R bs).num 3).1.num 2147483647).1).1).2, 0, [], []⟩, 0)) := hid (by rw [HOF.out _ _ HT.out, if_neg (by rw [← HD.out]; simpa using hd)])
   clear hd
   obtain ⟨qF0, qF1⟩ := blk_rules HKF13.out
   go_wp2_with fail
   clear qF0 qF1
   have hbA := Ext.new w13 (.cells #[.slice Ag ng cg, .int .i64 ex] 29)
   have HKRA := hid ((hbA.block (b := w.heap.size) (by omega)).trans HKR13.out)
   have HKFA := hid ((hbA.block (b := q) (by omega)).trans HKF13.out)
   have HOA := hid (HO13.out.trans (Only.of_ext hbA))
   have hzA : q < (w13.alloc (.cells #[.slice Ag ng cg, .int .i64 ex] 29)).heap.size := Nat.lt_of_lt_of_le hz13 hbA.size
   have HA_A := hid (ResL.keep HA_13.out (hbA.keep))
   have HG_A := hid (KeyL.keep HG_13.out (hbA.keep))
   clear hbA
   generalize w13.alloc (.cells #[.slice Ag ng cg, .int .i64 ex] 29) = wA at HKRA HKFA HOA hzA HA_A HG_A ⊢
   refine (refSane10_any (fun b => q + 1 ≤ b) ⟨K, (f0E bs : Nat), ((((f0R bs).num 3).2 : Nat) : Int), (((((f0R bs).num 3).1.num 2147483647).2 : Nat) : Int), 0, (someB takeR 64 (((f0R bs).num 3).1.num 2147483647).1).2, (someB takeK 64 (someB takeR 64 (((f0R bs).num 3).1.num 2147483647).1).1).2, 0, [], []⟩ ⟨⟨AHA, nHA, cHA⟩, ⟨AHG, nHG, cHG⟩, ⟨none, 0, 0⟩, ⟨none, 0, 0⟩⟩ _ ⟨HSHA.out, HSHG.out, SlW.nil_, SlW.nil_, HA_A.out, HG_A.out, ArrQ.nil_, ArrQ.nil_⟩).mono ?_
   rintro e wB ⟨rfl, hb⟩
   have HKRB := hid ((hb.block (b := w.heap.size) (by omega)).trans HKRA.out)
   have HKFB := hid ((hb.block (b := q) (by omega)).trans HKFA.out)
   have HOB := hid (HOA.out.trans (Only.of_ext hb))
   have HA_B := hid (ResL.keep HA_A.out (hb.keep))
   have HG_B := hid (KeyL.keep HG_A.out (hb.keep))
   have hzB : q < wB.heap.size := Nat.lt_of_lt_of_le hzA hb.size
   clear hb
   obtain ⟨E, hE⟩ : ∃ E, E = saneF ⟨K, (f0E bs : Nat), ((((f0R bs).num 3).2 : Nat) : Int), (((((f0R bs).num 3).1.num 2147483647).2 : Nat) : Int), 0, (someB takeR 64 (((f0R bs).num 3).1.num 2147483647).1).2, (someB takeK 64 (someB takeR 64 (((f0R bs).num 3).1.num 2147483647).1).1).2, 0, [], []⟩ := ⟨_, rfl⟩
   rw [← hE] at HG0 ⊢
   clear hE HT
   by_cases he : E = 0
   ·have he1 : (E != 0) = false := by simpa using he
    have HG1 : Hid (getF bs = (⟨K, (f0E bs : Nat), ((((f0R bs).num 3).2 : Nat) : Int), (((((f0R bs).num 3).1.num 2147483647).2 : Nat) : Int), 0, (someB takeR 64 (((f0R bs).num 3).1.num 2147483647).1).2, (someB takeK 64 (someB takeR 64 (((f0R bs).num 3).1.num 2147483647).1).1).2, 0, [], []⟩, 0)) := hid (by rw [HG0.out, if_neg (by simpa using he)])
    clear he
    obtain ⟨qF0, qF1⟩ := blk_rules HKFB.out
    obtain ⟨qR0, qR1⟩ := blk_rules HKRB.out
    go_wp2_with fail
    clear qF0 qF1 qR0 qR1
    generalize hVV : (((((((((wB.setCell ⟨w.heap.size, 0, none⟩ (.int .i64 K)).setCell ⟨w.heap.size, 1, none⟩ (.int .i64 (f0E bs : Nat))).setCell ⟨w.heap.size, 2, none⟩ (.int .i64 ((((f0R bs).num 3).2 : Nat) : Int))).setCell ⟨w.heap.size, 3, none⟩ (.int .i64 (((((f0R bs).num 3).1.num 2147483647).2 : Nat) : Int))).setCell ⟨w.heap.size, 4, none⟩ (.int .i64 0)).setCell ⟨w.heap.size, 5, none⟩ (.slice AHA nHA cHA)).setCell ⟨w.heap.size, 6, none⟩ (.slice AHG nHG cHG)).setCell ⟨w.heap.size, 7, none⟩ (.int .i64 0)).setCell ⟨w.heap.size, 8, none⟩ (.slice none 0 0)).setCell ⟨w.heap.size, 9, none⟩ (.slice none 0 0) = V
    obtain ⟨bV, oV, kV⟩ := set10 HKRB.out (.int .i64 K) (.int .i64 (f0E bs : Nat)) (.int .i64 ((((f0R bs).num 3).2 : Nat) : Int)) (.int .i64 (((((f0R bs).num 3).1.num 2147483647).2 : Nat) : Int)) (.int .i64 0) (.slice AHA nHA cHA) (.slice AHG nHG cHG) (.int .i64 0) (.slice none 0 0) (.slice none 0 0) hVV
    have OV := Only.ext (Ext.refl w) (oV HOB.out (Nat.le_refl _)) (Nat.le_succ _)
    clear hVV oV
    obtain ⟨z0, -⟩ := blk_rules bV
    refine bodyPost_ret (v := .tuple #[.agg #[.int .i64 K, .int .i64 (f0E bs : Nat), .int .i64 ((((f0R bs).num 3).2 : Nat) : Int), .int .i64 (((((f0R bs).num 3).1.num 2147483647).2 : Nat) : Int), .int .i64 0, .slice AHA nHA cHA, .slice AHG nHG cHG, .int .i64 0, .slice none 0 0, .slice none 0 0], .int .i64 0]) (by simp [results, Tryz.results67, go_sem, z0]) rfl ?_
    exact fget_out (x := (⟨K, (f0E bs : Nat), ((((f0R bs).num 3).2 : Nat) : Int), (((((f0R bs).num 3).1.num 2147483647).2 : Nat) : Int), 0, (someB takeR 64 (((f0R bs).num 3).1.num 2147483647).1).2, (someB takeK 64 (someB takeR 64 (((f0R bs).num 3).1.num 2147483647).1).1).2, 0, [], []⟩, 0)) (s := ⟨⟨AHA, nHA, cHA⟩, ⟨AHG, nHG, cHG⟩, ⟨none, 0, 0⟩, ⟨none, 0, 0⟩⟩) HG1.out (FrV.all (FrV.keep (S := fun b => q + 1 ≤ b) ⟨HSHA.out, HSHG.out, SlW.nil_, SlW.nil_, HA_B.out, HG_B.out, ArrQ.nil_, ArrQ.nil_⟩ (kV _ (fun b hb => by omega)))) OV
   ·have he1 : (E != 0) = true := by simpa using he
    have HG1 : Hid (getF bs = (fr0, E)) := hid (by rw [HG0.out, if_pos (by simpa using he)])
    clear he
    obtain ⟨qR0, qR1⟩ := blk_rules HKRB.out
    go_wp2_with fail
    clear qR0 qR1
    generalize hVV : (((((((((wB.setCell ⟨w.heap.size, 0, none⟩ (.int .i64 0)).setCell ⟨w.heap.size, 1, none⟩ (.int .i64 0)).setCell ⟨w.heap.size, 2, none⟩ (.int .i64 0)).setCell ⟨w.heap.size, 3, none⟩ (.int .i64 0)).setCell ⟨w.heap.size, 4, none⟩ (.int .i64 0)).setCell ⟨w.heap.size, 5, none⟩ (.slice none 0 0)).setCell ⟨w.heap.size, 6, none⟩ (.slice none 0 0)).setCell ⟨w.heap.size, 7, none⟩ (.int .i64 0)).setCell ⟨w.heap.size, 8, none⟩ (.slice none 0 0)).setCell ⟨w.heap.size, 9, none⟩ (.slice none 0 0) = V
    obtain ⟨bV, oV, kV⟩ := set10 HKRB.out (.int .i64 0) (.int .i64 0) (.int .i64 0) (.int .i64 0) (.int .i64 0) (.slice none 0 0) (.slice none 0 0) (.int .i64 0) (.slice none 0 0) (.slice none 0 0) hVV
    have OV := Only.ext (Ext.refl w) (oV HOB.out (Nat.le_refl _)) (Nat.le_succ _)
    clear hVV oV
    obtain ⟨z0, -⟩ := blk_rules bV
    refine bodyPost_ret (v := .tuple #[.agg #[.int .i64 0, .int .i64 0, .int .i64 0, .int .i64 0, .int .i64 0, .slice none 0 0, .slice none 0 0, .int .i64 0, .slice none 0 0, .slice none 0 0], .int .i64 E]) (by simp [results, Tryz.results67, go_sem, z0]) rfl ?_
    exact fget_out (x := (fr0, E)) (s := nilS) HG1.out (FrV.nil_ _ _ _ _ _ _ _ _) OV
  ·have hd1 : (D == 0) = false := by simpa using hd
   have hd2 : (D != 0) = true := by simpa using hd
   have HG0 : Hid (getF bs = (fr0, D)) := hid (by rw [HOF.out _ _ HT.out, if_pos (by rw [← HD.out]; simpa using hd), ← HD.out])
   clear hd HT
   obtain ⟨qR0, qR1⟩ := blk_rules HKR13.out
   have hRk : w.heap.size < w13.heap.size := by omega
   go_wp2_with fail
   clear qR0 qR1 hRk
   generalize hVV : (((((((((w13.setCell ⟨w.heap.size, 0, none⟩ (.int .i64 0)).setCell ⟨w.heap.size, 1, none⟩ (.int .i64 0)).setCell ⟨w.heap.size, 2, none⟩ (.int .i64 0)).setCell ⟨w.heap.size, 3, none⟩ (.int .i64 0)).setCell ⟨w.heap.size, 4, none⟩ (.int .i64 0)).setCell ⟨w.heap.size, 5, none⟩ (.slice none 0 0)).setCell ⟨w.heap.size, 6, none⟩ (.slice none 0 0)).setCell ⟨w.heap.size, 7, none⟩ (.int .i64 0)).setCell ⟨w.heap.size, 8, none⟩ (.slice none 0 0)).setCell ⟨w.heap.size, 9, none⟩ (.slice none 0 0) = V
   obtain ⟨bV, oV, kV⟩ := set10 HKR13.out (.int .i64 0) (.int .i64 0) (.int .i64 0) (.int .i64 0) (.int .i64 0) (.slice none 0 0) (.slice none 0 0) (.int .i64 0) (.slice none 0 0) (.slice none 0 0) hVV
   have OV := Only.ext (Ext.refl w) (oV HO13.out (Nat.le_refl _)) (Nat.le_succ _)
   clear hVV oV
   have hzV : w.heap.size < V.heap.size := (Array.getElem?_eq_some_iff.1 bV).1
   obtain ⟨y0, -⟩ := blk_rules (((Ext.new V (.cells #[.slice Ag ng cg, .int .i64 ex] 29)).block hzV).trans bV)
   refine bodyPost_ret (v := .tuple #[.agg #[.int .i64 0, .int .i64 0, .int .i64 0, .int .i64 0, .int .i64 0, .slice none 0 0, .slice none 0 0, .int .i64 0, .slice none 0 0, .slice none 0 0], .int .i64 D]) (by simp [results, Tryz.results67, go_sem, y0]) rfl ?_
   exact fget_out (x := (fr0, D)) (s := nilS) HG0.out (FrV.nil_ _ _ _ _ _ _ _ _) (OV.alloc _)
 ·have b0 : (K == 0) = false := by rw [HKK.out, hk]; rfl
  have b1 : (K == 1) = false := by rw [HKK.out, hk]; rfl
  have b2 : (K == 2) = true := by rw [HKK.out, hk]; rfl
  have b3 : (K == 3) = false := by rw [HKK.out, hk]; rfl
  have b4 : (2 : Int) ≤ K := by have h := HKK.out; rw [hk] at h; omega
  have hK2 : K = 2 := by rw [HKK.out, hk]; rfl
  have HKe : Hid (K = 2) := hid hK2
  clear hK2
  obtain ⟨qF0, qF1⟩ := blk_rules HKF3.out
  go_wp2_with fail
  clear qF0 qF1
  have HKR4 := hid ((blk_far (g := w.heap.size) (g' := q) (i := 1) (by omega) (.int .i64 (f0E bs : Nat))).trans HKR3.out)
  have HKF4 : Hid (_ = some (Obj.cells #[.int .i64 K, .int .i64 (f0E bs : Nat), .int .i64 0, .int .i64 0, .int .i64 0, .slice none 0 0, .slice none 0 0, .int .i64 0, .slice none 0 0, .slice none 0 0] 87 (0, 0))) := hid (blk_set (i := 1) HKF3.out (.int .i64 (f0E bs : Nat)))
  have HR4 := hid (HR3.out.setFar (p := q) (i := 1) (by omega) (.int .i64 (f0E bs : Nat)))
  have HO4 := hid (HO3.out.setNew (p := q) (i := 1) (by omega) (.int .i64 (f0E bs : Nat)))
  have hz4 : q < (w3.setCell ⟨q, 1, none⟩ (.int .i64 (f0E bs : Nat))).heap.size := by rw [size_set]; exact hz3
  generalize w3.setCell ⟨q, 1, none⟩ (.int .i64 (f0E bs : Nat)) = w4 at HKR4 HKF4 HR4 HO4 hz4 ⊢
  refine (refNum10_any (w.heap.size + 1) _ 3 _ HR4.out).mono ?_
  rintro e w5 ⟨rfl, hr5, ho5⟩
  have HR5 := hid hr5
  have HKR5 := hid ((ho5.blk (b := w.heap.size) (by omega) (by omega)).trans HKR4.out)
  have HKF5 := hid ((ho5.blk (b := q) (by omega) (by omega)).trans HKF4.out)
  have HO5 := hid (HO4.out.trans ho5)
  have hz5 : q < w5.heap.size := Nat.lt_of_lt_of_le hz4 ho5.size
  clear hr5 ho5
  obtain ⟨qF0, qF1⟩ := blk_rules HKF5.out
  go_wp2_with fail
  clear qF0 qF1
  have HKR6 := hid ((blk_far (g := w.heap.size) (g' := q) (i := 2) (by omega) (.int .i64 ((((f0R bs).num 3).2 : Nat) : Int))).trans HKR5.out)
  have HKF6 : Hid (_ = some (Obj.cells #[.int .i64 K, .int .i64 (f0E bs : Nat), .int .i64 ((((f0R bs).num 3).2 : Nat) : Int), .int .i64 0, .int .i64 0, .slice none 0 0, .slice none 0 0, .int .i64 0, .slice none 0 0, .slice none 0 0] 87 (0, 0))) := hid (blk_set (i := 2) HKF5.out (.int .i64 ((((f0R bs).num 3).2 : Nat) : Int)))
  have HR6 := hid (HR5.out.setFar (p := q) (i := 2) (by omega) (.int .i64 ((((f0R bs).num 3).2 : Nat) : Int)))
  have HO6 := hid (HO5.out.setNew (p := q) (i := 2) (by omega) (.int .i64 ((((f0R bs).num 3).2 : Nat) : Int)))
  have hz6 : q < (w5.setCell ⟨q, 2, none⟩ (.int .i64 ((((f0R bs).num 3).2 : Nat) : Int))).heap.size := by rw [size_set]; exact hz5
  generalize w5.setCell ⟨q, 2, none⟩ (.int .i64 ((((f0R bs).num 3).2 : Nat) : Int)) = w6 at HKR6 HKF6 HR6 HO6 hz6 ⊢
  refine (refNum10_any (w.heap.size + 1) _ 2147483647 _ HR6.out).mono ?_
  rintro e w7 ⟨rfl, hr7, ho7⟩
  have HR7 := hid hr7
  have HKR7 := hid ((ho7.blk (b := w.heap.size) (by omega) (by omega)).trans HKR6.out)
  have HKF7 := hid ((ho7.blk (b := q) (by omega) (by omega)).trans HKF6.out)
  have HO7 := hid (HO6.out.trans ho7)
  have hz7 : q < w7.heap.size := Nat.lt_of_lt_of_le hz6 ho7.size
  clear hr7 ho7
  obtain ⟨qF0, qF1⟩ := blk_rules HKF7.out
  go_wp2_with fail
  clear qF0 qF1
  have HKR8 := hid ((blk_far (g := w.heap.size) (g' := q) (i := 3) (by omega) (.int .i64 (((((f0R bs).num 3).1.num 2147483647).2 : Nat) : Int))).trans HKR7.out)
  have HKF8 : Hid (_ = some (Obj.cells #[.int .i64 K, .int .i64 (f0E bs : Nat), .int .i64 ((((f0R bs).num 3).2 : Nat) : Int), .int .i64 (((((f0R bs).num 3).1.num 2147483647).2 : Nat) : Int), .int .i64 0, .slice none 0 0, .slice none 0 0, .int .i64 0, .slice none 0 0, .slice none 0 0] 87 (0, 0))) := hid (blk_set (i := 3) HKF7.out (.int .i64 (((((f0R bs).num 3).1.num 2147483647).2 : Nat) : Int)))
  have HR8 := hid (HR7.out.setFar (p := q) (i := 3) (by omega) (.int .i64 (((((f0R bs).num 3).1.num 2147483647).2 : Nat) : Int)))
  have HO8 := hid (HO7.out.setNew (p := q) (i := 3) (by omega) (.int .i64 (((((f0R bs).num 3).1.num 2147483647).2 : Nat) : Int)))
  have hz8 : q < (w7.setCell ⟨q, 3, none⟩ (.int .i64 (((((f0R bs).num 3).1.num 2147483647).2 : Nat) : Int))).heap.size := by rw [size_set]; exact hz7
  generalize w7.setCell ⟨q, 3, none⟩ (.int .i64 (((((f0R bs).num 3).1.num 2147483647).2 : Nat) : Int)) = w8 at HKR8 HKF8 HR8 HO8 hz8 ⊢
  refine (refNum10_any (w.heap.size + 1) _ 15 _ HR8.out).mono ?_
  rintro e w9 ⟨rfl, hr9, ho9⟩
  have HR9 := hid hr9
  have HKR9 := hid ((ho9.blk (b := w.heap.size) (by omega) (by omega)).trans HKR8.out)
  have HKF9 := hid ((ho9.blk (b := q) (by omega) (by omega)).trans HKF8.out)
  have HO9 := hid (HO8.out.trans ho9)
  have hz9 : q < w9.heap.size := Nat.lt_of_lt_of_le hz8 ho9.size
  clear hr9 ho9
  obtain ⟨qF0, qF1⟩ := blk_rules HKF9.out
  go_wp2_with fail
  clear qF0 qF1
  have HKR10 := hid ((blk_far (g := w.heap.size) (g' := q) (i := 7) (by omega) (.int .i64 ((((((f0R bs).num 3).1.num 2147483647).1.num 15).2 : Nat) : Int))).trans HKR9.out)
  have HKF10 : Hid (_ = some (Obj.cells #[.int .i64 K, .int .i64 (f0E bs : Nat), .int .i64 ((((f0R bs).num 3).2 : Nat) : Int), .int .i64 (((((f0R bs).num 3).1.num 2147483647).2 : Nat) : Int), .int .i64 0, .slice none 0 0, .slice none 0 0, .int .i64 ((((((f0R bs).num 3).1.num 2147483647).1.num 15).2 : Nat) : Int), .slice none 0 0, .slice none 0 0] 87 (0, 0))) := hid (blk_set (i := 7) HKF9.out (.int .i64 ((((((f0R bs).num 3).1.num 2147483647).1.num 15).2 : Nat) : Int)))
  have HR10 := hid (HR9.out.setFar (p := q) (i := 7) (by omega) (.int .i64 ((((((f0R bs).num 3).1.num 2147483647).1.num 15).2 : Nat) : Int)))
  have HO10 := hid (HO9.out.setNew (p := q) (i := 7) (by omega) (.int .i64 ((((((f0R bs).num 3).1.num 2147483647).1.num 15).2 : Nat) : Int)))
  have hz10 : q < (w9.setCell ⟨q, 7, none⟩ (.int .i64 ((((((f0R bs).num 3).1.num 2147483647).1.num 15).2 : Nat) : Int))).heap.size := by rw [size_set]; exact hz9
  generalize w9.setCell ⟨q, 7, none⟩ (.int .i64 ((((((f0R bs).num 3).1.num 2147483647).1.num 15).2 : Nat) : Int)) = w10 at HKR10 HKF10 HR10 HO10 hz10 ⊢
  refine (refNum10_any (w.heap.size + 1) _ 2147483647 _ HR10.out).mono ?_
  rintro e w11 ⟨rfl, hr11, ho11⟩
  have HR11 := hid hr11
  have HKR11 := hid ((ho11.blk (b := w.heap.size) (by omega) (by omega)).trans HKR10.out)
  have HKF11 := hid ((ho11.blk (b := q) (by omega) (by omega)).trans HKF10.out)
  have HO11 := hid (HO10.out.trans ho11)
  have hz11 : q < w11.heap.size := Nat.lt_of_lt_of_le hz10 ho11.size
  clear hr11 ho11
  obtain ⟨qF0, qF1⟩ := blk_rules HKF11.out
  go_wp2_with fail
  clear qF0 qF1
  have HKR12 := hid ((blk_far (g := w.heap.size) (g' := q) (i := 4) (by omega) (.int .i64 (((((((f0R bs).num 3).1.num 2147483647).1.num 15).1.num 2147483647).2 : Nat) : Int))).trans HKR11.out)
  have HKF12 : Hid (_ = some (Obj.cells #[.int .i64 K, .int .i64 (f0E bs : Nat), .int .i64 ((((f0R bs).num 3).2 : Nat) : Int), .int .i64 (((((f0R bs).num 3).1.num 2147483647).2 : Nat) : Int), .int .i64 (((((((f0R bs).num 3).1.num 2147483647).1.num 15).1.num 2147483647).2 : Nat) : Int), .slice none 0 0, .slice none 0 0, .int .i64 ((((((f0R bs).num 3).1.num 2147483647).1.num 15).2 : Nat) : Int), .slice none 0 0, .slice none 0 0] 87 (0, 0))) := hid (blk_set (i := 4) HKF11.out (.int .i64 (((((((f0R bs).num 3).1.num 2147483647).1.num 15).1.num 2147483647).2 : Nat) : Int)))
  have HR12 := hid (HR11.out.setFar (p := q) (i := 4) (by omega) (.int .i64 (((((((f0R bs).num 3).1.num 2147483647).1.num 15).1.num 2147483647).2 : Nat) : Int)))
  have HO12 := hid (HO11.out.setNew (p := q) (i := 4) (by omega) (.int .i64 (((((((f0R bs).num 3).1.num 2147483647).1.num 15).1.num 2147483647).2 : Nat) : Int)))
  have hz12 : q < (w11.setCell ⟨q, 4, none⟩ (.int .i64 (((((((f0R bs).num 3).1.num 2147483647).1.num 15).1.num 2147483647).2 : Nat) : Int))).heap.size := by rw [size_set]; exact hz11
  generalize w11.setCell ⟨q, 4, none⟩ (.int .i64 (((((((f0R bs).num 3).1.num 2147483647).1.num 15).1.num 2147483647).2 : Nat) : Int)) = w12 at HKR12 HKF12 HR12 HO12 hz12 ⊢
  refine (refTakeKeys_any (w.heap.size + 1) _ _ HR12.out).mono ?_
  rintro e w13 ⟨AHG, nHG, cHG, rfl, hsl, harr, hr13, ho13⟩
  have HR13 := hid hr13
  have HKR13 := hid ((ho13.blk (b := w.heap.size) (by omega) (by omega)).trans HKR12.out)
  have HKF13 := hid ((ho13.blk (b := q) (by omega) (by omega)).trans HKF12.out)
  have HO13 := hid (HO12.out.trans ho13)
  have hz13 : q < w13.heap.size := Nat.lt_of_lt_of_le hz12 ho13.size
  have HG_13 : Hid (KeyL (fun b => q + 1 ≤ b) w13 AHG nHG _) := hid (ArrQ.weak harr (fun _ _ h => h) (fun b _ hb => by omega))
  have HSHG := hid hsl
  clear harr hsl
  clear hr13 ho13
  obtain ⟨rr, hrr⟩ : ∃ rr, rr = (someB takeK 64 (((((f0R bs).num 3).1.num 2147483647).1.num 15).1.num 2147483647).1).1 := ⟨_, rfl⟩
  rw [← hrr] at HR13
  have HRR := hid hrr
  clear hrr
  obtain ⟨Ag, ng, cg, hgg, -, -, -, -, -⟩ := HR13.out
  have HKG13 := hid hgg
  obtain ⟨g0, g1⟩ := blk_rules hgg
  have hgl : w.heap.size + 1 < w13.heap.size := by omega
  clear hgg
  obtain ⟨qF0, qF1⟩ := blk_rules HKF13.out
  go_wp2_with fail
  clear qF0 qF1
  clear g0 g1 hgl
  have HKR14 := hid ((blk_far (g := w.heap.size) (g' := q) (i := 9) (by omega) (.slice AHG nHG cHG)).trans HKR13.out)
  have HKG14 := hid ((blk_far (g := w.heap.size + 1) (g' := q) (i := 9) (by omega) (.slice AHG nHG cHG)).trans HKG13.out)
  have HKF14 : Hid (_ = some (Obj.cells #[.int .i64 K, .int .i64 (f0E bs : Nat), .int .i64 ((((f0R bs).num 3).2 : Nat) : Int), .int .i64 (((((f0R bs).num 3).1.num 2147483647).2 : Nat) : Int), .int .i64 (((((((f0R bs).num 3).1.num 2147483647).1.num 15).1.num 2147483647).2 : Nat) : Int), .slice none 0 0, .slice none 0 0, .int .i64 ((((((f0R bs).num 3).1.num 2147483647).1.num 15).2 : Nat) : Int), .slice none 0 0, .slice AHG nHG cHG] 87 (0, 0))) := hid (blk_set (i := 9) HKF13.out (.slice AHG nHG cHG))
  have HR14 := hid (HR13.out.setFar (p := q) (i := 9) (by omega) (.slice AHG nHG cHG))
  have HO14 := hid (HO13.out.setNew (p := q) (i := 9) (by omega) (.slice AHG nHG cHG))
  have hz14 : q < (w13.setCell ⟨q, 9, none⟩ (.slice AHG nHG cHG)).heap.size := by rw [size_set]; exact hz13
  have HG_14 := hid (KeyL.keep HG_13.out (Keep.setFar (p := q) (i := 9) (fun b hb => by omega) (.slice AHG nHG cHG)))
  generalize w13.setCell ⟨q, 9, none⟩ (.slice AHG nHG cHG) = w14 at HKR14 HKG14 HKF14 HR14 HO14 hz14 HG_14 ⊢
  have HT : Hid (takeF0 ⟨bs, 0⟩ = ((someB takeK 64 (((((f0R bs).num 3).1.num 2147483647).1.num 15).1.num 2147483647).1).1, ⟨K, (f0E bs : Nat), ((((f0R bs).num 3).2 : Nat) : Int), (((((f0R bs).num 3).1.num 2147483647).2 : Nat) : Int), (((((((f0R bs).num 3).1.num 2147483647).1.num 15).1.num 2147483647).2 : Nat) : Int), [], [], ((((((f0R bs).num 3).1.num 2147483647).1.num 15).2 : Nat) : Int), [], (someB takeK 64 (((((f0R bs).num 3).1.num 2147483647).1.num 15).1.num 2147483647).1).2⟩)) := hid (by rw [HKe.out]; exact HF2.out hk)
  clear hk
  rw [← HRR.out] at HT
  clear HRR
  obtain ⟨hgn, hgc, hgm, hgB⟩ := HR14.out.same HKG14.out
  have hgl := True.intro
  refine (refDone_any Ag ng cg rr _ hgB (by omega)).mono ?_
  rintro e w15 ⟨ex, rfl, hb⟩
  obtain ⟨D, hD⟩ : ∃ D, D = rr.done := ⟨_, rfl⟩
  rw [← hD]
  have HD := hid hD
  clear hD hgB hgn hgc hgm hgl
  have HKR15 := hid ((hb.block (b := w.heap.size) (by omega)).trans HKR14.out)
  have HKF15 := hid ((hb.block (b := q) (by omega)).trans HKF14.out)
  have HO15 := hid (HO14.out.trans (Only.of_ext hb))
  have hz15 : q < w15.heap.size := Nat.lt_of_lt_of_le hz14 hb.size
  have HG_15 := hid (KeyL.keep HG_14.out (hb.keep))
  clear hb
  by_cases hd : D = 0
  ·have hd1 : (D == 0) = true := by simpa using hd
   have HG0 : Hid (getF bs = if saneF ⟨K, (f0E bs : Nat), ((((f0R bs).num 3).2 : Nat) : Int), (((((f0R bs).num 3).1.num 2147483647).2 : Nat) : Int), (((((((f0R bs).num 3).1.num 2147483647).1.num 15).1.num 2147483647).2 : Nat) : Int), [], [], ((((((f0R bs).num 3).1.num 2147483647).1.num 15).2 : Nat) : Int), [], (someB takeK 64 (((((f0R bs).num 3).1.num 2147483647).1.num 15).1.num 2147483647).1).2⟩ ≠ 0 then (fr0, saneF ⟨K, (f0E bs : Nat), ((((f0R bs).num 3).2 : Nat) : Int), (((((f0R bs).num 3).1.num 2147483647).2 : Nat) : Int), (((((((f0R bs).num 3).1.num 2147483647).1.num 15).1.num 2147483647).2 : Nat) : Int), [], [], ((((((f0R bs).num 3).1.num 2147483647).1.num 15).2 : Nat) : Int), [], (someB takeK 64 (((((f0R bs).num 3).1.num 2147483647).1.num 15).1.num 2147483647).1).2⟩) else (⟨K, (f0E bs : Nat), ((((f0R bs).num 3).2 : Nat) : Int), (((((f0R bs).num 3).1.num 2147483647).2 : Nat) : Int), (((((((f0R bs).num 3).1.num 2147483647).1.num 15).1.num 2147483647).2 : Nat) : Int), [], [], ((((((f0R bs).num 3).1.num 2147483647).1.num 15).2 : Nat) : Int), [], (someB takeK 64 (((((f0R bs).num 3).1.num 2147483647).1.num 15).1.num 2147483647).1).2⟩, 0)) := hid (by rw [HOF.out _ _ HT.out, if_neg (by rw [← HD.out]; simpa using hd)])
   clear hd
   obtain ⟨qF0, qF1⟩ := blk_rules HKF15.out
   go_wp2_with fail
   clear qF0 qF1
   have hbA := Ext.new w15 (.cells #[.slice Ag ng cg, .int .i64 ex] 29)
   have HKRA := hid ((hbA.block (b := w.heap.size) (by omega)).trans HKR15.out)
   have HKFA := hid ((hbA.block (b := q) (by omega)).trans HKF15.out)
   have HOA := hid (HO15.out.trans (Only.of_ext hbA))
   have hzA : q < (w15.alloc (.cells #[.slice Ag ng cg, .int .i64 ex] 29)).heap.size := Nat.lt_of_lt_of_le hz15 hbA.size
   have HG_A := hid (KeyL.keep HG_15.out (hbA.keep))
   clear hbA
   generalize w15.alloc (.cells #[.slice Ag ng cg, .int .i64 ex] 29) = wA at HKRA HKFA HOA hzA HG_A ⊢
   refine (refSane10_any (fun b => q + 1 ≤ b) ⟨K, (f0E bs : Nat), ((((f0R bs).num 3).2 : Nat) : Int), (((((f0R bs).num 3).1.num 2147483647).2 : Nat) : Int), (((((((f0R bs).num 3).1.num 2147483647).1.num 15).1.num 2147483647).2 : Nat) : Int), [], [], ((((((f0R bs).num 3).1.num 2147483647).1.num 15).2 : Nat) : Int), [], (someB takeK 64 (((((f0R bs).num 3).1.num 2147483647).1.num 15).1.num 2147483647).1).2⟩ ⟨⟨none, 0, 0⟩, ⟨none, 0, 0⟩, ⟨none, 0, 0⟩, ⟨AHG, nHG, cHG⟩⟩ _ ⟨SlW.nil_, SlW.nil_, SlW.nil_, HSHG.out, ArrQ.nil_, ArrQ.nil_, ArrQ.nil_, HG_A.out⟩).mono ?_
   rintro e wB ⟨rfl, hb⟩
   have HKRB := hid ((hb.block (b := w.heap.size) (by omega)).trans HKRA.out)
   have HKFB := hid ((hb.block (b := q) (by omega)).trans HKFA.out)
   have HOB := hid (HOA.out.trans (Only.of_ext hb))
   have HG_B := hid (KeyL.keep HG_A.out (hb.keep))
   have hzB : q < wB.heap.size := Nat.lt_of_lt_of_le hzA hb.size
   clear hb
   obtain ⟨E, hE⟩ : ∃ E, E = saneF ⟨K, (f0E bs : Nat), ((((f0R bs).num 3).2 : Nat) : Int), (((((f0R bs).num 3).1.num 2147483647).2 : Nat) : Int), (((((((f0R bs).num 3).1.num 2147483647).1.num 15).1.num 2147483647).2 : Nat) : Int), [], [], ((((((f0R bs).num 3).1.num 2147483647).1.num 15).2 : Nat) : Int), [], (someB takeK 64 (((((f0R bs).num 3).1.num 2147483647).1.num 15).1.num 2147483647).1).2⟩ := ⟨_, rfl⟩
   rw [← hE] at HG0 ⊢
   clear hE HT
   by_cases he : E = 0
   ·have he1 : (E != 0) = false := by simpa using he
    have HG1 : Hid (getF bs = (⟨K, (f0E bs : Nat), ((((f0R bs).num 3).2 : Nat) : Int), (((((f0R bs).num 3).1.num 2147483647).2 : Nat) : Int), (((((((f0R bs).num 3).1.num 2147483647).1.num 15).1.num 2147483647).2 : Nat) : Int), [], [], ((((((f0R bs).num 3).1.num 2147483647).1.num 15).2 : Nat) : Int), [], (someB takeK 64 (((((f0R bs).num 3).1.num 2147483647).1.num 15).1.num 2147483647).1).2⟩, 0)) := hid (by rw [HG0.out, if_neg (by simpa using he)])
    clear he
    obtain ⟨qF0, qF1⟩ := blk_rules HKFB.out
    obtain ⟨qR0, qR1⟩ := blk_rules HKRB.out
    go_wp2_with fail
    clear qF0 qF1 qR0 qR1
    generalize hVV : (((((((((wB.setCell ⟨w.heap.size, 0, none⟩ (.int .i64 K)).setCell ⟨w.heap.size, 1, none⟩ (.int .i64 (f0E bs : Nat))).setCell ⟨w.heap.size, 2, none⟩ (.int .i64 ((((f0R bs).num 3).2 : Nat) : Int))).setCell ⟨w.heap.size, 3, none⟩ (.int .i64 (((((f0R bs).num 3).1.num 2147483647).2 : Nat) : Int))).setCell ⟨w.heap.size, 4, none⟩ (.int .i64 (((((((f0R bs).num 3).1.num 2147483647).1.num 15).1.num 2147483647).2 : Nat) : Int))).setCell ⟨w.heap.size, 5, none⟩ (.slice none 0 0)).setCell ⟨w.heap.size, 6, none⟩ (.slice none 0 0)).setCell ⟨w.heap.size, 7, none⟩ (.int .i64 ((((((f0R bs).num 3).1.num 2147483647).1.num 15).2 : Nat) : Int))).setCell ⟨w.heap.size, 8, none⟩ (.slice none 0 0)).setCell ⟨w.heap.size, 9, none⟩ (.slice AHG nHG cHG) = V
    obtain ⟨bV, oV, kV⟩ := set10 HKRB.out (.int .i64 K) (.int .i64 (f0E bs : Nat)) (.int .i64 ((((f0R bs).num 3).2 : Nat) : Int)) (.int .i64 (((((f0R bs).num 3).1.num 2147483647).2 : Nat) : Int)) (.int .i64 (((((((f0R bs).num 3).1.num 2147483647).1.num 15).1.num 2147483647).2 : Nat) : Int)) (.slice none 0 0) (.slice none 0 0) (.int .i64 ((((((f0R bs).num 3).1.num 2147483647).1.num 15).2 : Nat) : Int)) (.slice none 0 0) (.slice AHG nHG cHG) hVV
    have OV := Only.ext (Ext.refl w) (oV HOB.out (Nat.le_refl _)) (Nat.le_succ _)
    clear hVV oV
    obtain ⟨z0, -⟩ := blk_rules bV
    refine bodyPost_ret (v := .tuple #[.agg #[.int .i64 K, .int .i64 (f0E bs : Nat), .int .i64 ((((f0R bs).num 3).2 : Nat) : Int), .int .i64 (((((f0R bs).num 3).1.num 2147483647).2 : Nat) : Int), .int .i64 (((((((f0R bs).num 3).1.num 2147483647).1.num 15).1.num 2147483647).2 : Nat) : Int), .slice none 0 0, .slice none 0 0, .int .i64 ((((((f0R bs).num 3).1.num 2147483647).1.num 15).2 : Nat) : Int), .slice none 0 0, .slice AHG nHG cHG], .int .i64 0]) (by simp [results, Tryz.results67, go_sem, z0]) rfl ?_
    exact fget_out (x := (⟨K, (f0E bs : Nat), ((((f0R bs).num 3).2 : Nat) : Int), (((((f0R bs).num 3).1.num 2147483647).2 : Nat) : Int), (((((((f0R bs).num 3).1.num 2147483647).1.num 15).1.num 2147483647).2 : Nat) : Int), [], [], ((((((f0R bs).num 3).1.num 2147483647).1.num 15).2 : Nat) : Int), [], (someB takeK 64 (((((f0R bs).num 3).1.num 2147483647).1.num 15).1.num 2147483647).1).2⟩, 0)) (s := ⟨⟨none, 0, 0⟩, ⟨none, 0, 0⟩, ⟨none, 0, 0⟩, ⟨AHG, nHG, cHG⟩⟩) HG1.out (FrV.all (FrV.keep (S := fun b => q + 1 ≤ b) ⟨SlW.nil_, SlW.nil_, SlW.nil_, HSHG.out, ArrQ.nil_, ArrQ.nil_, ArrQ.nil_, HG_B.out⟩ (kV _ (fun b hb => by omega)))) OV
   ·have he1 : (E != 0) = true := by simpa using he
    have HG1 : Hid (getF bs = (fr0, E)) := hid (by rw [HG0.out, if_pos (by simpa using he)])
    clear he
    obtain ⟨qR0, qR1⟩ := blk_rules HKRB.out
    go_wp2_with fail
    clear qR0 qR1
    generalize hVV : (((((((((wB.setCell ⟨w.heap.size, 0, none⟩ (.int .i64 0)).setCell ⟨w.heap.size, 1, none⟩ (.int .i64 0)).setCell ⟨w.heap.size, 2, none⟩ (.int .i64 0)).setCell ⟨w.heap.size, 3, none⟩ (.int .i64 0)).setCell ⟨w.heap.size, 4, none⟩ (.int .i64 0)).setCell ⟨w.heap.size, 5, none⟩ (.slice none 0 0)).setCell ⟨w.heap.size, 6, none⟩ (.slice none 0 0)).setCell ⟨w.heap.size, 7, none⟩ (.int .i64 0)).setCell ⟨w.heap.size, 8, none⟩ (.slice none 0 0)).setCell ⟨w.heap.size, 9, none⟩ (.slice none 0 0) = V
    obtain ⟨bV, oV, kV⟩ := set10 HKRB.out (.int .i64 0) (.int .i64 0) (.int .i64 0) (.int .i64 0) (.int .i64 0) (.slice none 0 0) (.slice none 0 0) (.int .i64 0) (.slice none 0 0) (.slice none 0 0) hVV
    have OV := Only.ext (Ext.refl w) (oV HOB.out (Nat.le_refl _)) (Nat.le_succ _)
    clear hVV oV
    obtain ⟨z0, -⟩ := blk_rules bV
    refine bodyPost_ret (v := .tuple #[.agg #[.int .i64 0, .int .i64 0, .int .i64 0, .int .i64 0, .int .i64 0, .slice none 0 0, .slice none 0 0, .int .i64 0, .slice none 0 0, .slice none 0 0], .int .i64 E]) (by simp [results, Tryz.results67, go_sem, z0]) rfl ?_
    exact fget_out (x := (fr0, E)) (s := nilS) HG1.out (FrV.nil_ _ _ _ _ _ _ _ _) OV
  ·have hd1 : (D == 0) = false := by simpa using hd
   have hd2 : (D != 0) = true := by simpa using hd
   have HG0 : Hid (getF bs = (fr0, D)) := hid (by rw [HOF.out _ _ HT.out, if_pos (by rw [← HD.out]; simpa using hd), ← HD.out])
   clear hd HT
   obtain ⟨qR0, qR1⟩ := blk_rules HKR15.out
   have hRk : w.heap.size < w15.heap.size := by omega
   go_wp2_with fail
   clear qR0 qR1 hRk
   generalize hVV : (((((((((w15.setCell ⟨w.heap.size, 0, none⟩ (.int .i64 0)).setCell ⟨w.heap.size, 1, none⟩ (.int .i64 0)).setCell ⟨w.heap.size, 2, none⟩ (.int .i64 0)).setCell ⟨w.heap.size, 3, none⟩ (.int .i64 0)).setCell ⟨w.heap.size, 4, none⟩ (.int .i64 0)).setCell ⟨w.heap.size, 5, none⟩ (.slice none 0 0)).setCell ⟨w.heap.size, 6, none⟩ (.slice none 0 0)).setCell ⟨w.heap.size, 7, none⟩ (.int .i64 0)).setCell ⟨w.heap.size, 8, none⟩ (.slice none 0 0)).setCell ⟨w.heap.size, 9, none⟩ (.slice none 0 0) = V
   obtain ⟨bV, oV, kV⟩ := set10 HKR15.out (.int .i64 0) (.int .i64 0) (.int .i64 0) (.int .i64 0) (.int .i64 0) (.slice none 0 0) (.slice none 0 0) (.int .i64 0) (.slice none 0 0) (.slice none 0 0) hVV
   have OV := Only.ext (Ext.refl w) (oV HO15.out (Nat.le_refl _)) (Nat.le_succ _)
   clear hVV oV
   have hzV : w.heap.size < V.heap.size := (Array.getElem?_eq_some_iff.1 bV).1
   obtain ⟨y0, -⟩ := blk_rules (((Ext.new V (.cells #[.slice Ag ng cg, .int .i64 ex] 29)).block hzV).trans bV)
   refine bodyPost_ret (v := .tuple #[.agg #[.int .i64 0, .int .i64 0, .int .i64 0, .int .i64 0, .int .i64 0, .slice none 0 0, .slice none 0 0, .int .i64 0, .slice none 0 0, .slice none 0 0], .int .i64 D]) (by simp [results, Tryz.results67, go_sem, y0]) rfl ?_
   exact fget_out (x := (fr0, D)) (s := nilS) HG0.out (FrV.nil_ _ _ _ _ _ _ _ _) (OV.alloc _)
 ·have b0 : (K == 0) = false := by rw [HKK.out, hk]; rfl
  have b1 : (K == 1) = false := by rw [HKK.out, hk]; rfl
  have b2 : (K == 2) = false := by rw [HKK.out, hk]; rfl
  have b3 : (K == 3) = true := by rw [HKK.out, hk]; rfl
  have b4 : (2 : Int) ≤ K := by have h := HKK.out; rw [hk] at h; omega
  have hK3 : K = 3 := by rw [HKK.out, hk]; rfl
  have HKe : Hid (K = 3) := hid hK3
  clear hK3
  obtain ⟨qF0, qF1⟩ := blk_rules HKF3.out
  go_wp2_with fail
  clear qF0 qF1
  have HKR4 := hid ((blk_far (g := w.heap.size) (g' := q) (i := 1) (by omega) (.int .i64 (f0E bs : Nat))).trans HKR3.out)
  have HKF4 : Hid (_ = some (Obj.cells #[.int .i64 K, .int .i64 (f0E bs : Nat), .int .i64 0, .int .i64 0, .int .i64 0, .slice none 0 0, .slice none 0 0, .int .i64 0, .slice none 0 0, .slice none 0 0] 87 (0, 0))) := hid (blk_set (i := 1) HKF3.out (.int .i64 (f0E bs : Nat)))
  have HR4 := hid (HR3.out.setFar (p := q) (i := 1) (by omega) (.int .i64 (f0E bs : Nat)))
  have HO4 := hid (HO3.out.setNew (p := q) (i := 1) (by omega) (.int .i64 (f0E bs : Nat)))
  have hz4 : q < (w3.setCell ⟨q, 1, none⟩ (.int .i64 (f0E bs : Nat))).heap.size := by rw [size_set]; exact hz3
  generalize w3.setCell ⟨q, 1, none⟩ (.int .i64 (f0E bs : Nat)) = w4 at HKR4 HKF4 HR4 HO4 hz4 ⊢
  refine (refNum10_any (w.heap.size + 1) _ 2147483647 _ HR4.out).mono ?_
  rintro e w5 ⟨rfl, hr5, ho5⟩
  have HR5 := hid hr5
  have HKR5 := hid ((ho5.blk (b := w.heap.size) (by omega) (by omega)).trans HKR4.out)
  have HKF5 := hid ((ho5.blk (b := q) (by omega) (by omega)).trans HKF4.out)
  have HO5 := hid (HO4.out.trans ho5)
  have hz5 : q < w5.heap.size := Nat.lt_of_lt_of_le hz4 ho5.size
  clear hr5 ho5
  obtain ⟨qF0, qF1⟩ := blk_rules HKF5.out
  go_wp2_with fail
  clear qF0 qF1
  have HKR6 := hid ((blk_far (g := w.heap.size) (g' := q) (i := 4) (by omega) (.int .i64 ((((f0R bs).num 2147483647).2 : Nat) : Int))).trans HKR5.out)
  have HKF6 : Hid (_ = some (Obj.cells #[.int .i64 K, .int .i64 (f0E bs : Nat), .int .i64 0, .int .i64 0, .int .i64 ((((f0R bs).num 2147483647).2 : Nat) : Int), .slice none 0 0, .slice none 0 0, .int .i64 0, .slice none 0 0, .slice none 0 0] 87 (0, 0))) := hid (blk_set (i := 4) HKF5.out (.int .i64 ((((f0R bs).num 2147483647).2 : Nat) : Int)))
  have HR6 := hid (HR5.out.setFar (p := q) (i := 4) (by omega) (.int .i64 ((((f0R bs).num 2147483647).2 : Nat) : Int)))
  have HO6 := hid (HO5.out.setNew (p := q) (i := 4) (by omega) (.int .i64 ((((f0R bs).num 2147483647).2 : Nat) : Int)))
  have hz6 : q < (w5.setCell ⟨q, 4, none⟩ (.int .i64 ((((f0R bs).num 2147483647).2 : Nat) : Int))).heap.size := by rw [size_set]; exact hz5
  generalize w5.setCell ⟨q, 4, none⟩ (.int .i64 ((((f0R bs).num 2147483647).2 : Nat) : Int)) = w6 at HKR6 HKF6 HR6 HO6 hz6 ⊢
  refine (refTakeKeys_any (w.heap.size + 1) _ _ HR6.out).mono ?_
  rintro e w7 ⟨AHG, nHG, cHG, rfl, hsl, harr, hr7, ho7⟩
  have HR7 := hid hr7
  have HKR7 := hid ((ho7.blk (b := w.heap.size) (by omega) (by omega)).trans HKR6.out)
  have HKF7 := hid ((ho7.blk (b := q) (by omega) (by omega)).trans HKF6.out)
  have HO7 := hid (HO6.out.trans ho7)
  have hz7 : q < w7.heap.size := Nat.lt_of_lt_of_le hz6 ho7.size
  have HG_7 : Hid (KeyL (fun b => q + 1 ≤ b) w7 AHG nHG _) := hid (ArrQ.weak harr (fun _ _ h => h) (fun b _ hb => by omega))
  have HSHG := hid hsl
  clear harr hsl
  clear hr7 ho7
  obtain ⟨rr, hrr⟩ : ∃ rr, rr = (someB takeK 64 ((f0R bs).num 2147483647).1).1 := ⟨_, rfl⟩
  rw [← hrr] at HR7
  have HRR := hid hrr
  clear hrr
  obtain ⟨Ag, ng, cg, hgg, -, -, -, -, -⟩ := HR7.out
  have HKG7 := hid hgg
  obtain ⟨g0, g1⟩ := blk_rules hgg
  have hgl : w.heap.size + 1 < w7.heap.size := by omega
  clear hgg
  obtain ⟨qF0, qF1⟩ := blk_rules HKF7.out
  go_wp2_with fail
  clear qF0 qF1
  clear g0 g1 hgl
  have HKR8 := hid ((blk_far (g := w.heap.size) (g' := q) (i := 9) (by omega) (.slice AHG nHG cHG)).trans HKR7.out)
  have HKG8 := hid ((blk_far (g := w.heap.size + 1) (g' := q) (i := 9) (by omega) (.slice AHG nHG cHG)).trans HKG7.out)
  have HKF8 : Hid (_ = some (Obj.cells #[.int .i64 K, .int .i64 (f0E bs : Nat), .int .i64 0, .int .i64 0, .int .i64 ((((f0R bs).num 2147483647).2 : Nat) : Int), .slice none 0 0, .slice none 0 0, .int .i64 0, .slice none 0 0, .slice AHG nHG cHG] 87 (0, 0))) := hid (blk_set (i := 9) HKF7.out (.slice AHG nHG cHG))
  have HR8 := hid (HR7.out.setFar (p := q) (i := 9) (by omega) (.slice AHG nHG cHG))
  have HO8 := hid (HO7.out.setNew (p := q) (i := 9) (by omega) (.slice AHG nHG cHG))
  have hz8 : q < (w7.setCell ⟨q, 9, none⟩ (.slice AHG nHG cHG)).heap.size := by rw [size_set]; exact hz7
  have HG_8 := hid (KeyL.keep HG_7.out (Keep.setFar (p := q) (i := 9) (fun b hb => by omega) (.slice AHG nHG cHG)))
  generalize w7.setCell ⟨q, 9, none⟩ (.slice AHG nHG cHG) = w8 at HKR8 HKG8 HKF8 HR8 HO8 hz8 HG_8 ⊢
  have HT : Hid (takeF0 ⟨bs, 0⟩ = ((someB takeK 64 ((f0R bs).num 2147483647).1).1, ⟨K, (f0E bs : Nat), 0, 0, ((((f0R bs).num 2147483647).2 : Nat) : Int), [], [], 0, [], (someB takeK 64 ((f0R bs).num 2147483647).1).2⟩)) := hid (by rw [HKe.out]; exact HF3.out hk)
  clear hk
  rw [← HRR.out] at HT
  clear HRR
  obtain ⟨hgn, hgc, hgm, hgB⟩ := HR8.out.same HKG8.out
  have hgl := True.intro
  refine (refDone_any Ag ng cg rr _ hgB (by omega)).mono ?_
  rintro e w9 ⟨ex, rfl, hb⟩
  obtain ⟨D, hD⟩ : ∃ D, D = rr.done := ⟨_, rfl⟩
  rw [← hD]
  have HD := hid hD
  clear hD hgB hgn hgc hgm hgl
  have HKR9 := hid ((hb.block (b := w.heap.size) (by omega)).trans HKR8.out)
  have HKF9 := hid ((hb.block (b := q) (by omega)).trans HKF8.out)
  have HO9 := hid (HO8.out.trans (Only.of_ext hb))
  have hz9 : q < w9.heap.size := Nat.lt_of_lt_of_le hz8 hb.size
  have HG_9 := hid (KeyL.keep HG_8.out (hb.keep))
  clear hb
  by_cases hd : D = 0
  ·have hd1 : (D == 0) = true := by simpa using hd
   have HG0 : Hid (getF bs = if saneF ⟨K, (f0E bs : Nat), 0, 0, ((((f0R bs).num 2147483647).2 : Nat) : Int), [], [], 0, [], (someB takeK 64 ((f0R bs).num 2147483647).1).2⟩ ≠ 0 then (fr0, saneF ⟨K, (f0E bs : Nat), 0, 0, ((((f0R bs).num 2147483647).2 : Nat) : Int), [], [], 0, [], (someB takeK 64 ((f0R bs).num 2147483647).1).2⟩) else (⟨K, (f0E bs : Nat), 0, 0, ((((f0R bs).num 2147483647).2 : Nat) : Int), [], [], 0, [], (someB takeK 64 ((f0R bs).num 2147483647).1).2⟩, 0)) := hid (by rw [HOF.out _ _ HT.out, if_neg (by rw [← HD.out]; simpa using hd)])
   clear hd
   obtain ⟨qF0, qF1⟩ := blk_rules HKF9.out
   go_wp2_with fail
   clear qF0 qF1
   have hbA := Ext.new w9 (.cells #[.slice Ag ng cg, .int .i64 ex] 29)
   have HKRA := hid ((hbA.block (b := w.heap.size) (by omega)).trans HKR9.out)
   have HKFA := hid ((hbA.block (b := q) (by omega)).trans HKF9.out)
   have HOA := hid (HO9.out.trans (Only.of_ext hbA))
   have hzA : q < (w9.alloc (.cells #[.slice Ag ng cg, .int .i64 ex] 29)).heap.size := Nat.lt_of_lt_of_le hz9 hbA.size
   have HG_A := hid (KeyL.keep HG_9.out (hbA.keep))
   clear hbA
   generalize w9.alloc (.cells #[.slice Ag ng cg, .int .i64 ex] 29) = wA at HKRA HKFA HOA hzA HG_A ⊢
   refine (refSane10_any (fun b => q + 1 ≤ b) ⟨K, (f0E bs : Nat), 0, 0, ((((f0R bs).num 2147483647).2 : Nat) : Int), [], [], 0, [], (someB takeK 64 ((f0R bs).num 2147483647).1).2⟩ ⟨⟨none, 0, 0⟩, ⟨none, 0, 0⟩, ⟨none, 0, 0⟩, ⟨AHG, nHG, cHG⟩⟩ _ ⟨SlW.nil_, SlW.nil_, SlW.nil_, HSHG.out, ArrQ.nil_, ArrQ.nil_, ArrQ.nil_, HG_A.out⟩).mono ?_
   rintro e wB ⟨rfl, hb⟩
   have HKRB := hid ((hb.block (b := w.heap.size) (by omega)).trans HKRA.out)
   have HKFB := hid ((hb.block (b := q) (by omega)).trans HKFA.out)
   have HOB := hid (HOA.out.trans (Only.of_ext hb))
   have HG_B := hid (KeyL.keep HG_A.out (hb.keep))
   have hzB : q < wB.heap.size := Nat.lt_of_lt_of_le hzA hb.size
   clear hb
   obtain ⟨E, hE⟩ : ∃ E, E = saneF ⟨K, (f0E bs : Nat), 0, 0, ((((f0R bs).num 2147483647).2 : Nat) : Int), [], [], 0, [], (someB takeK 64 ((f0R bs).num 2147483647).1).2⟩ := ⟨_, rfl⟩
   rw [← hE] at HG0 ⊢
   clear hE HT
   by_cases he : E = 0
   ·have he1 : (E != 0) = false := by simpa using he
    have HG1 : Hid (getF bs = (⟨K, (f0E bs : Nat), 0, 0, ((((f0R bs).num 2147483647).2 : Nat) : Int), [], [], 0, [], (someB takeK 64 ((f0R bs).num 2147483647).1).2⟩, 0)) := hid (by rw [HG0.out, if_neg (by simpa using he)])
    clear he
    obtain ⟨qF0, qF1⟩ := blk_rules HKFB.out
    obtain ⟨qR0, qR1⟩ := blk_rules HKRB.out
    go_wp2_with fail
    clear qF0 qF1 qR0 qR1
    generalize hVV : (((((((((wB.setCell ⟨w.heap.size, 0, none⟩ (.int .i64 K)).setCell ⟨w.heap.size, 1, none⟩ (.int .i64 (f0E bs : Nat))).setCell ⟨w.heap.size, 2, none⟩ (.int .i64 0)).setCell ⟨w.heap.size, 3, none⟩ (.int .i64 0)).setCell ⟨w.heap.size, 4, none⟩ (.int .i64 ((((f0R bs).num 2147483647).2 : Nat) : Int))).setCell ⟨w.heap.size, 5, none⟩ (.slice none 0 0)).setCell ⟨w.heap.size, 6, none⟩ (.slice none 0 0)).setCell ⟨w.heap.size, 7, none⟩ (.int .i64 0)).setCell ⟨w.heap.size, 8, none⟩ (.slice none 0 0)).setCell ⟨w.heap.size, 9, none⟩ (.slice AHG nHG cHG) = V
    obtain ⟨bV, oV, kV⟩ := set10 HKRB.out (.int .i64 K) (.int .i64 (f0E bs : Nat)) (.int .i64 0) (.int .i64 0) (.int .i64 ((((f0R bs).num 2147483647).2 : Nat) : Int)) (.slice none 0 0) (.slice none 0 0) (.int .i64 0) (.slice none 0 0) (.slice AHG nHG cHG) hVV
    have OV := Only.ext (Ext.refl w) (oV HOB.out (Nat.le_refl _)) (Nat.le_succ _)
    clear hVV oV
    obtain ⟨z0, -⟩ := blk_rules bV
    refine bodyPost_ret (v := .tuple #[.agg #[.int .i64 K, .int .i64 (f0E bs : Nat), .int .i64 0, .int .i64 0, .int .i64 ((((f0R bs).num 2147483647).2 : Nat) : Int), .slice none 0 0, .slice none 0 0, .int .i64 0, .slice none 0 0, .slice AHG nHG cHG], .int .i64 0]) (by simp [results, Tryz.results67, go_sem, z0]) rfl ?_
    exact fget_out (x := (⟨K, (f0E bs : Nat), 0, 0, ((((f0R bs).num 2147483647).2 : Nat) : Int), [], [], 0, [], (someB takeK 64 ((f0R bs).num 2147483647).1).2⟩, 0)) (s := ⟨⟨none, 0, 0⟩, ⟨none, 0, 0⟩, ⟨none, 0, 0⟩, ⟨AHG, nHG, cHG⟩⟩) HG1.out (FrV.all (FrV.keep (S := fun b => q + 1 ≤ b) ⟨SlW.nil_, SlW.nil_, SlW.nil_, HSHG.out, ArrQ.nil_, ArrQ.nil_, ArrQ.nil_, HG_B.out⟩ (kV _ (fun b hb => by omega)))) OV
   ·have he1 : (E != 0) = true := by simpa using he
    have HG1 : Hid (getF bs = (fr0, E)) := hid (by rw [HG0.out, if_pos (by simpa using he)])
    clear he
    obtain ⟨qR0, qR1⟩ := blk_rules HKRB.out
    go_wp2_with fail
    clear qR0 qR1
    generalize hVV : (((((((((wB.setCell ⟨w.heap.size, 0, none⟩ (.int .i64 0)).setCell ⟨w.heap.size, 1, none⟩ (.int .i64 0)).setCell ⟨w.heap.size, 2, none⟩ (.int .i64 0)).setCell ⟨w.heap.size, 3, none⟩ (.int .i64 0)).setCell ⟨w.heap.size, 4, none⟩ (.int .i64 0)).setCell ⟨w.heap.size, 5, none⟩ (.slice none 0 0)).setCell ⟨w.heap.size, 6, none⟩ (.slice none 0 0)).setCell ⟨w.heap.size, 7, none⟩ (.int .i64 0)).setCell ⟨w.heap.size, 8, none⟩ (.slice none 0 0)).setCell ⟨w.heap.size, 9, none⟩ (.slice none 0 0) = V
    obtain ⟨bV, oV, kV⟩ := set10 HKRB.out (.int .i64 0) (.int .i64 0) (.int .i64 0) (.int .i64 0) (.int .i64 0) (.slice none 0 0) (.slice none 0 0) (.int .i64 0) (.slice none 0 0) (.slice none 0 0) hVV
    have OV := Only.ext (Ext.refl w) (oV HOB.out (Nat.le_refl _)) (Nat.le_succ _)
    clear hVV oV
    obtain ⟨z0, -⟩ := blk_rules bV
    refine bodyPost_ret (v := .tuple #[.agg #[.int .i64 0, .int .i64 0, .int .i64 0, .int .i64 0, .int .i64 0, .slice none 0 0, .slice none 0 0, .int .i64 0, .slice none 0 0, .slice none 0 0], .int .i64 E]) (by simp [results, Tryz.results67, go_sem, z0]) rfl ?_
    exact fget_out (x := (fr0, E)) (s := nilS) HG1.out (FrV.nil_ _ _ _ _ _ _ _ _) OV
  ·have hd1 : (D == 0) = false := by simpa using hd
   have hd2 : (D != 0) = true := by simpa using hd
   have HG0 : Hid (getF bs = (fr0, D)) := hid (by rw [HOF.out _ _ HT.out, if_pos (by rw [← HD.out]; simpa using hd), ← HD.out])
   clear hd HT
   obtain ⟨qR0, qR1⟩ := blk_rules HKR9.out
   have hRk : w.heap.size < w9.heap.size := by omega
   go_wp2_with fail
   clear qR0 qR1 hRk
   generalize hVV : (((((((((w9.setCell ⟨w.heap.size, 0, none⟩ (.int .i64 0)).setCell ⟨w.heap.size, 1, none⟩ (.int .i64 0)).setCell ⟨w.heap.size, 2, none⟩ (.int .i64 0)).setCell ⟨w.heap.size, 3, none⟩ (.int .i64 0)).setCell ⟨w.heap.size, 4, none⟩ (.int .i64 0)).setCell ⟨w.heap.size, 5, none⟩ (.slice none 0 0)).setCell ⟨w.heap.size, 6, none⟩ (.slice none 0 0)).setCell ⟨w.heap.size, 7, none⟩ (.int .i64 0)).setCell ⟨w.heap.size, 8, none⟩ (.slice none 0 0)).setCell ⟨w.heap.size, 9, none⟩ (.slice none 0 0) = V
   obtain ⟨bV, oV, kV⟩ := set10 HKR9.out (.int .i64 0) (.int .i64 0) (.int .i64 0) (.int .i64 0) (.int .i64 0) (.slice none 0 0) (.slice none 0 0) (.int .i64 0) (.slice none 0 0) (.slice none 0 0) hVV
   have OV := Only.ext (Ext.refl w) (oV HO9.out (Nat.le_refl _)) (Nat.le_succ _)
   clear hVV oV
   have hzV : w.heap.size < V.heap.size := (Array.getElem?_eq_some_iff.1 bV).1
   obtain ⟨y0, -⟩ := blk_rules (((Ext.new V (.cells #[.slice Ag ng cg, .int .i64 ex] 29)).block hzV).trans bV)
   refine bodyPost_ret (v := .tuple #[.agg #[.int .i64 0, .int .i64 0, .int .i64 0, .int .i64 0, .int .i64 0, .slice none 0 0, .slice none 0 0, .int .i64 0, .slice none 0 0, .slice none 0 0], .int .i64 D]) (by simp [results, Tryz.results67, go_sem, y0]) rfl ?_
   exact fget_out (x := (fr0, D)) (s := nilS) HG0.out (FrV.nil_ _ _ _ _ _ _ _ _) (OV.alloc _)
end Go.Proofs.YtfdjbnofcniodaaGreatDoor
