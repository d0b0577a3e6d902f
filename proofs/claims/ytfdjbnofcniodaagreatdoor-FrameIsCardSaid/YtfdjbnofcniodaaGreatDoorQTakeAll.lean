/- What package record's takeWeight, takeHost, takeRule, fail compute. -/
import Derived.Test.YtfdjbnofcniodaaGreatDoorQSomeAll
import Derived.Test.YtfdjbnofcniodaaGreatDoorQPutAll
import Derived.Test.YtfdjbnofcniodaaGreatDoorQPlain
namespace Go.Proofs.YtfdjbnofcniodaaGreatDoor
open Lib (hid)
set_option maxHeartbeats 8000000
set_option maxRecDepth 100000
set_option linter.unusedVariables false
open Go.RowKit
theorem RdAt.setFar {w : World} {g p i : Nat} {r : Rd} (h : RdAt w g r) (hp : g < p) (u : Value) : RdAt (w.setCell ⟨p, i, none⟩ u) g r := by
 obtain ⟨A, m, c, hg, h1, h2, h3, hB, ho⟩ := h
 refine ⟨A, m, c, (blk_far (by omega) u).trans hg, h1, h2, h3, ⟨hB.1, fun hm => ?_⟩, ho⟩
 obtain ⟨b, o, e1, hbl, hc⟩ := hB.2 hm
 have hbg := ho hm b o e1
 refine ⟨b, o, e1, by simpa [World.setCell] using hbl, fun k x hx => ?_⟩
 obtain ⟨cs, a1, a2, a3⟩ := hc k x hx
 exact ⟨cs, a1, a2, fun j v hv => (World.cell?_of_block (blk_far (g := b) (Nat.ne_of_lt (Nat.lt_trans hbg hp)) u)).trans (a3 j v hv)⟩
theorem Only.setNew {w w1 : World} {g p i : Nat} (h : Only g w w1) (hp : w.heap.size ≤ p) (u : Value) : Only g w (w1.setCell ⟨p, i, none⟩ u) :=
 ⟨h.os, h.tape, h.output, by simpa [World.setCell] using h.size, fun k hk hne => (blk_far (by omega) u).trans (h.block k hk hne)⟩
theorem Keep.setFar {S : Nat → Prop} {w : World} {p i : Nat} (hS : ∀ b, S b → b ≠ p) (u : Value) : Keep S w (w.setCell ⟨p, i, none⟩ u) :=
 ⟨by rw [size_set]; exact Nat.le_refl _, fun b o hb h => World.cell?_of_block (blk_far (hS b h) u)⟩
theorem Only.blk {w w' : World} {g b : Nat} (h : Only g w w') (hb : b < w.heap.size) (hne : b ≠ g) : w'.heap[b]? = w.heap[b]? := h.block b hb (fun e => hne (by injection e))
theorem Rd.txt_le (r : Rd) (i : Int) : (r.txt i).2.length ≤ bnd i := by
 have := r.num_le i
 unfold Rd.txt
 split
 ·simp
 ·split
  ·simp
  ·simp only [List.length_take]; omega
theorem Rd.txt_max (r : Rd) (i : Int) : (bstr (r.txt i).2).size ≤ maxLen := by
 have h1 := r.txt_le i; have h2 := bnd_le i
 rw [bstr_size]; unfold maxLen; omega
theorem takeWeight_takes (g : Nat) : TakesW g 157 #[] takeW := by
 refine ⟨Tryz.call157, fun rd w hR => ?_⟩
 show Calls Tryz.prog 157 #[.pointer (some ⟨g, 0, none⟩)] w _
 have hg := hR.lt
 have HR := hid hR
 have HE1 : Hid ((takeW rd).1 = ((rd.txt 12).1.num 100).1) := hid rfl
 have HE2 : Hid ((takeW rd).2 = (mkS (rd.txt 12).2, (((rd.txt 12).1.num 100).2 : Int))) := hid rfl
 clear hR
 go_enter Tryz.func157, Tryz.ntmps157
 go_wp2_with fail
 refine (txt_any g rd 12 _ (HR.out.up (Ext.new _ _))).mono ?_
 rintro e w1 ⟨rfl, hr1, ho1⟩
 have HR1 := hid hr1
 have HO1 := hid ho1
 have HK1 := hid ((ho1.blk (b := w.heap.size) (by simp) (by omega)).trans (heap_alloc_new w _))
 clear hr1 ho1
 go_wp2_with fail
 refine (num_any g _ 100 _ HR1.out).mono ?_
 rintro e w2 ⟨rfl, hr2, ho2⟩
 have HR2 := hid hr2
 have hz1 : w.heap.size < w1.heap.size := by have := HO1.out.size; simp at this; omega
 have HO2 : Hid (Only g w w2) := hid (((Only.of_ext (Ext.new w _)).trans HO1.out).trans ho2)
 have HK2 := hid ((ho2.blk hz1 (by omega)).trans HK1.out)
 obtain ⟨q0, q1⟩ := blk_rules HK2.out
 clear hr2 ho2
 go_wp2_with fail
 generalize hV : (w2.setCell { block := w.heap.size, off := 0 } (Value.string (bstr (rd.txt 12).2))).setCell { block := w.heap.size, off := 1 } (Value.int IntKind.i64 ((((rd.txt 12).1.num 100).2 : Nat) : Int)) = V
 have BV : V.heap[w.heap.size]? = some (.cells #[.string (bstr (rd.txt 12).2), .int .i64 (((rd.txt 12).1.num 100).2 : Nat)] 166 (0, 0)) := by rw [← hV]; exact blk_set (blk_set HK2.out _) _
 have RV : RdAt V g ((rd.txt 12).1.num 100).1 := by rw [← hV]; exact (HR2.out.setFar hg _).setFar hg _
 have OV : Only g w V := by rw [← hV]; exact (HO2.out.setNew (Nat.le_refl _) _).setNew (Nat.le_refl _) _
 clear hV q0 q1
 obtain ⟨z0, -⟩ := blk_rules BV
 rw [HE1.out, HE2.out]
 exact bodyPost_ret (v := .agg #[.string (bstr (rd.txt 12).2), .int .i64 (((rd.txt 12).1.num 100).2 : Nat)]) (by simp [results, Tryz.results157, go_sem, z0]) rfl ⟨rfl, Rd.txt_max _ _, RV, OV⟩
theorem takeHost_takes (g : Nat) : TakesH g 80 #[] takeH := by
 refine ⟨Tryz.call80, fun rd w hR => ?_⟩
 show Calls Tryz.prog 80 #[.pointer (some ⟨g, 0, none⟩)] w _
 go_enter Tryz.func80, Tryz.ntmps80
 go_wp2_with fail
 refine (num_any g rd 2147483647 _ hR).mono ?_
 rintro e w1 ⟨rfl, hr1, ho1⟩
 go_wp2_with fail
 go_ret
 exact ⟨rfl, trivial, hr1, ho1⟩
def failE (r : Rd) (e : Int) : Rd := ⟨r.b, if r.e = 0 then e else r.e⟩
theorem recFail_any (g : Nat) (r : Rd) (en : Int) (w : World) (h : RdAt w g r) :
  Calls Tryz.prog 81 #[.pointer (some ⟨g, 0, none⟩), .int .i64 en] w (RdPost w g (failE r en) (.bool (decide ((failE r en).e ≠ 0)))) := by
 have H := hid h
 obtain ⟨A, n, c, hg, -⟩ := h
 obtain ⟨g0, g1⟩ := blk_rules hg
 have hgl : g < w.heap.size := (Array.getElem?_eq_some_iff.1 hg).1
 clear hg
 by_cases he : r.e = 0
 ·have hb : (r.e == 0) = true := by simpa using he
  have HE : Hid (failE r en = ⟨r.b, en⟩) := hid (by unfold failE; rw [if_pos he])
  have HQ : Hid ((en != 0) = decide (en ≠ 0)) := hid (by rw [Bool.eq_iff_iff]; simp)
  clear he
  go_enter Tryz.func81, Tryz.ntmps81
  go_wp2_with fail
  go_ret
  rw [HE.out]
  exact ⟨ret_bool HQ.out, H.out.setE en, (Only.refl g w).set _ _⟩
 ·have hb : (r.e == 0) = false := by simpa using he
  have HE : Hid (failE r en = r) := hid (by unfold failE; rw [if_neg he])
  have HQ : Hid ((r.e != 0) = decide (r.e ≠ 0)) := hid (by rw [Bool.eq_iff_iff]; simp)
  clear he
  go_enter Tryz.func81, Tryz.ntmps81
  go_wp2_with fail
  go_ret
  rw [HE.out]
  exact ⟨ret_bool HQ.out, H.out, Only.refl g w⟩
theorem takeRule_takes (g : Nat) : TakesL g 78 #[] takeRl := by
 refine ⟨Tryz.call78, fun rd w hR => ?_⟩
 show Calls Tryz.prog 78 #[.pointer (some ⟨g, 0, none⟩)] w _
 have hg := hR.lt
 have HR := hid hR
 have HE1 : Hid ((takeRl rd).1 = (someB takeW 4 ((rd.txt 40).1.txt 40).1).1) := hid rfl
 have HE2 : Hid ((takeRl rd).2 = ⟨mkS (rd.txt 40).2, mkS ((rd.txt 40).1.txt 40).2, (someB takeW 4 ((rd.txt 40).1.txt 40).1).2⟩) := hid rfl
 clear hR
 go_enter Tryz.func78, Tryz.ntmps78
 go_wp2_with fail
 refine (txt_any g rd 40 _ (HR.out.up ((Ext.new _ _).alloc _))).mono ?_
 rintro e w1 ⟨rfl, hr1, ho1⟩
 have HR1 := hid hr1
 have HKR1 : Hid (w1.heap[w.heap.size]? = some (.cells #[.string ⟨#[]⟩, .string ⟨#[]⟩, .slice none 0 0] 111 (0, 0))) := hid ((ho1.blk (b := w.heap.size) (by simp <;> omega) (by omega)).trans (two_blocks w _ _).1)
 have HKL1 : Hid (w1.heap[w.heap.size + 1]? = some (.cells #[.string ⟨#[]⟩, .string ⟨#[]⟩, .slice none 0 0] 111 (0, 0))) := hid ((ho1.blk (b := w.heap.size + 1) (by simp <;> omega) (by omega)).trans (two_blocks w _ _).2)
 have HO1 := hid ((Only.of_ext ((Ext.new _ _).alloc _)).trans ho1)
 have hz1 : w.heap.size + 1 < w1.heap.size := by have := ho1.size; simp at this; omega
 clear hr1 ho1
 obtain ⟨qL0, qL1⟩ := blk_rules HKL1.out
 go_wp2_with fail
 clear qL0 qL1
 have HKR2 := hid ((blk_far (g := w.heap.size) (g' := w.heap.size + 1) (i := 0) (by omega) (.string (bstr (rd.txt 40).2))).trans HKR1.out)
 have HKL2 : Hid (_ = some (Obj.cells #[.string (bstr (rd.txt 40).2), .string ⟨#[]⟩, .slice none 0 0] 111 (0, 0))) := hid (blk_set (i := 0) HKL1.out (.string (bstr (rd.txt 40).2)))
 have HR2 := hid (HR1.out.setFar (p := w.heap.size + 1) (i := 0) (by omega) (.string (bstr (rd.txt 40).2)))
 have HO2 := hid (HO1.out.setNew (p := w.heap.size + 1) (i := 0) (by omega) (.string (bstr (rd.txt 40).2)))
 have hz2 : w.heap.size + 1 < (w1.setCell ⟨w.heap.size + 1, 0, none⟩ (.string (bstr (rd.txt 40).2))).heap.size := by rw [size_set]; exact hz1
 generalize w1.setCell ⟨w.heap.size + 1, 0, none⟩ (.string (bstr (rd.txt 40).2)) = w2 at HKR2 HKL2 HR2 HO2 hz2 ⊢
 refine (txt_any g _ 40 _ HR2.out).mono ?_
 rintro e w3 ⟨rfl, hr3, ho3⟩
 have HR3 := hid hr3
 have HKR3 := hid ((ho3.blk (b := w.heap.size) (by omega) (by omega)).trans HKR2.out)
 have HKL3 := hid ((ho3.blk (b := w.heap.size + 1) (by omega) (by omega)).trans HKL2.out)
 have HO3 := hid (HO2.out.trans ho3)
 have hz3 : w.heap.size + 1 < w3.heap.size := Nat.lt_of_lt_of_le hz2 ho3.size
 clear hr3 ho3
 obtain ⟨qL0, qL1⟩ := blk_rules HKL3.out
 go_wp2_with fail
 clear qL0 qL1
 have HKR4 := hid ((blk_far (g := w.heap.size) (g' := w.heap.size + 1) (i := 1) (by omega) (.string (bstr ((rd.txt 40).1.txt 40).2))).trans HKR3.out)
 have HKL4 : Hid (_ = some (Obj.cells #[.string (bstr (rd.txt 40).2), .string (bstr ((rd.txt 40).1.txt 40).2), .slice none 0 0] 111 (0, 0))) := hid (blk_set (i := 1) HKL3.out (.string (bstr ((rd.txt 40).1.txt 40).2)))
 have HR4 := hid (HR3.out.setFar (p := w.heap.size + 1) (i := 1) (by omega) (.string (bstr ((rd.txt 40).1.txt 40).2)))
 have HO4 := hid (HO3.out.setNew (p := w.heap.size + 1) (i := 1) (by omega) (.string (bstr ((rd.txt 40).1.txt 40).2)))
 have hz4 : w.heap.size + 1 < (w3.setCell ⟨w.heap.size + 1, 1, none⟩ (.string (bstr ((rd.txt 40).1.txt 40).2))).heap.size := by rw [size_set]; exact hz3
 generalize w3.setCell ⟨w.heap.size + 1, 1, none⟩ (.string (bstr ((rd.txt 40).1.txt 40).2)) = w4 at HKR4 HKL4 HR4 HO4 hz4 ⊢
 refine (someW_any g _ _ takeW 4 _ _ HR4.out (takeWeight_takes g)).mono ?_
 rintro e w5 ⟨A, n, c, rfl, hsl, harr, hr5, ho5⟩
 have HR5 := hid hr5
 have HKR5 := hid ((ho5.blk (b := w.heap.size) (by omega) (by omega)).trans HKR4.out)
 have HKL5 := hid ((ho5.blk (b := w.heap.size + 1) (by omega) (by omega)).trans HKL4.out)
 have HO5 := hid (HO4.out.trans ho5)
 have hz5 : w.heap.size + 1 < w5.heap.size := Nat.lt_of_lt_of_le hz4 ho5.size
 have HA_5 := hid harr
 clear harr
 clear hr5 ho5
 obtain ⟨qL0, qL1⟩ := blk_rules HKL5.out
 obtain ⟨qR0, qR1⟩ := blk_rules HKR5.out
 go_wp2_with fail
 clear qL0 qL1 qR0 qR1
 have HKR6 := hid ((blk_far (g := w.heap.size) (g' := w.heap.size + 1) (i := 2) (by omega) (.slice A n c)).trans HKR5.out)
 have HKL6 : Hid (_ = some (Obj.cells #[.string (bstr (rd.txt 40).2), .string (bstr ((rd.txt 40).1.txt 40).2), .slice A n c] 111 (0, 0))) := hid (blk_set (i := 2) HKL5.out (.slice A n c))
 have HR6 := hid (HR5.out.setFar (p := w.heap.size + 1) (i := 2) (by omega) (.slice A n c))
 have HO6 := hid (HO5.out.setNew (p := w.heap.size + 1) (i := 2) (by omega) (.slice A n c))
 have hz6 : w.heap.size + 1 < (w5.setCell ⟨w.heap.size + 1, 2, none⟩ (.slice A n c)).heap.size := by rw [size_set]; exact hz5
 have HA_6 := hid (ArrQ.keep HA_5.out (fun _ _ _ h => h) (Keep.setFar (p := w.heap.size + 1) (i := 2) (fun b hb => by omega) (.slice A n c)))
 generalize w5.setCell ⟨w.heap.size + 1, 2, none⟩ (.slice A n c) = w6 at HKR6 HKL6 HR6 HO6 hz6 HA_6 ⊢
 have HKR7 : Hid (_ = some (Obj.cells #[.string (bstr (rd.txt 40).2), .string ⟨#[]⟩, .slice none 0 0] 111 (0, 0))) := hid (blk_set (i := 0) HKR6.out (.string (bstr (rd.txt 40).2)))
 have HKL7 := hid ((blk_far (g := w.heap.size + 1) (g' := w.heap.size) (i := 0) (by omega) (.string (bstr (rd.txt 40).2))).trans HKL6.out)
 have HR7 := hid (HR6.out.setFar (p := w.heap.size) (i := 0) (by omega) (.string (bstr (rd.txt 40).2)))
 have HO7 := hid (HO6.out.setNew (p := w.heap.size) (i := 0) (by omega) (.string (bstr (rd.txt 40).2)))
 have hz7 : w.heap.size + 1 < (w6.setCell ⟨w.heap.size, 0, none⟩ (.string (bstr (rd.txt 40).2))).heap.size := by rw [size_set]; exact hz6
 have HA_7 := hid (ArrQ.keep HA_6.out (fun _ _ _ h => h) (Keep.setFar (p := w.heap.size) (i := 0) (fun b hb => by omega) (.string (bstr (rd.txt 40).2))))
 generalize w6.setCell ⟨w.heap.size, 0, none⟩ (.string (bstr (rd.txt 40).2)) = w7 at HKR7 HKL7 HR7 HO7 hz7 HA_7 ⊢
 have HKR8 : Hid (_ = some (Obj.cells #[.string (bstr (rd.txt 40).2), .string (bstr ((rd.txt 40).1.txt 40).2), .slice none 0 0] 111 (0, 0))) := hid (blk_set (i := 1) HKR7.out (.string (bstr ((rd.txt 40).1.txt 40).2)))
 have HKL8 := hid ((blk_far (g := w.heap.size + 1) (g' := w.heap.size) (i := 1) (by omega) (.string (bstr ((rd.txt 40).1.txt 40).2))).trans HKL7.out)
 have HR8 := hid (HR7.out.setFar (p := w.heap.size) (i := 1) (by omega) (.string (bstr ((rd.txt 40).1.txt 40).2)))
 have HO8 := hid (HO7.out.setNew (p := w.heap.size) (i := 1) (by omega) (.string (bstr ((rd.txt 40).1.txt 40).2)))
 have hz8 : w.heap.size + 1 < (w7.setCell ⟨w.heap.size, 1, none⟩ (.string (bstr ((rd.txt 40).1.txt 40).2))).heap.size := by rw [size_set]; exact hz7
 have HA_8 := hid (ArrQ.keep HA_7.out (fun _ _ _ h => h) (Keep.setFar (p := w.heap.size) (i := 1) (fun b hb => by omega) (.string (bstr ((rd.txt 40).1.txt 40).2))))
 generalize w7.setCell ⟨w.heap.size, 1, none⟩ (.string (bstr ((rd.txt 40).1.txt 40).2)) = w8 at HKR8 HKL8 HR8 HO8 hz8 HA_8 ⊢
 have HKR9 : Hid (_ = some (Obj.cells #[.string (bstr (rd.txt 40).2), .string (bstr ((rd.txt 40).1.txt 40).2), .slice A n c] 111 (0, 0))) := hid (blk_set (i := 2) HKR8.out (.slice A n c))
 have HKL9 := hid ((blk_far (g := w.heap.size + 1) (g' := w.heap.size) (i := 2) (by omega) (.slice A n c)).trans HKL8.out)
 have HR9 := hid (HR8.out.setFar (p := w.heap.size) (i := 2) (by omega) (.slice A n c))
 have HO9 := hid (HO8.out.setNew (p := w.heap.size) (i := 2) (by omega) (.slice A n c))
 have hz9 : w.heap.size + 1 < (w8.setCell ⟨w.heap.size, 2, none⟩ (.slice A n c)).heap.size := by rw [size_set]; exact hz8
 have HA_9 := hid (ArrQ.keep HA_8.out (fun _ _ _ h => h) (Keep.setFar (p := w.heap.size) (i := 2) (fun b hb => by omega) (.slice A n c)))
 generalize w8.setCell ⟨w.heap.size, 2, none⟩ (.slice A n c) = w9 at HKR9 HKL9 HR9 HO9 hz9 HA_9 ⊢
 obtain ⟨z0, -⟩ := blk_rules HKR9.out
 rw [HE1.out, HE2.out]
 exact bodyPost_ret (v := .agg #[.string (bstr (rd.txt 40).2), .string (bstr ((rd.txt 40).1.txt 40).2), .slice A n c]) (by simp [results, Tryz.results78, go_sem, z0]) rfl
  ⟨A, n, c, rfl, ⟨Rd.txt_max _ _, Rd.txt_max _ _, hsl, ArrQ.weak HA_9.out (fun _ _ h => h) (fun b _ hb => by omega)⟩, HR9.out, HO9.out⟩
set_option linter.unusedVariables false
open Go.RowKit
theorem takeR_fst (rd : Rd) : (takeR rd).1 = failE (takeR0 rd).1 (saneR (takeR0 rd).2) := by
 unfold takeR checkP failE
 by_cases h : (takeR0 rd).1.e = 0
 ·rw [if_pos h, if_pos h]
  by_cases h2 : saneR (takeR0 rd).2 = 0
  ·rw [if_pos h2, h2, ← h]
  ·rw [if_neg h2]
 ·rw [if_neg h, if_neg h]
theorem takeR_snd (rd : Rd) : (takeR rd).2 = if (failE (takeR0 rd).1 (saneR (takeR0 rd).2)).e ≠ 0 then rs0 else (takeR0 rd).2 := by
 unfold takeR checkP failE
 by_cases h : (takeR0 rd).1.e = 0
 ·rw [if_pos h]; simp only []; rw [if_pos h]
  by_cases h2 : saneR (takeR0 rd).2 = 0
  ·rw [if_pos h2, if_neg (by simpa using h2)]
  ·rw [if_neg h2, if_pos h2]
 ·rw [if_neg h]; simp only []; rw [if_neg h, if_pos h]
theorem takeK_fst (rd : Rd) : (takeK rd).1 = failE (takeK0 rd).1 (chkK (takeK0 rd).2) := by
 unfold takeK checkP failE
 by_cases h : (takeK0 rd).1.e = 0
 ·rw [if_pos h, if_pos h]
  by_cases h2 : chkK (takeK0 rd).2 = 0
  ·rw [if_pos h2, h2, ← h]
  ·rw [if_neg h2]
 ·rw [if_neg h, if_neg h]
theorem takeK_snd (rd : Rd) : (takeK rd).2 = if (failE (takeK0 rd).1 (chkK (takeK0 rd).2)).e ≠ 0 then ky0 else (takeK0 rd).2 := by
 unfold takeK checkP failE
 by_cases h : (takeK0 rd).1.e = 0
 ·rw [if_pos h]; simp only []; rw [if_pos h]
  by_cases h2 : chkK (takeK0 rd).2 = 0
  ·rw [if_pos h2, if_neg (by simpa using h2)]
  ·rw [if_neg h2, if_pos h2]
 ·rw [if_neg h]; simp only []; rw [if_neg h, if_pos h]
theorem nil_max : (⟨#[]⟩ : ByteArray).size ≤ maxLen := by decide
theorem rs0_V (S : Nat → Prop) (w : World) : RsV S w rs0 none 0 0 none 0 0 := ⟨by decide, by decide, SlW.nil_, SlW.nil_, ArrQ.nil_, ArrQ.nil_⟩
theorem take_takes (g : Nat) : TakesR g 12 #[] takeR := by
 refine ⟨Tryz.call12, fun rd w hR => ?_⟩
 show Calls Tryz.prog 12 #[.pointer (some ⟨g, 0, none⟩)] w _
 have hg := hR.lt
 have HR := hid hR
 have HT1 := hid (takeR_fst rd)
 have HT2 := hid (takeR_snd rd)
 have hk4 : (rd.num 3).2 = 0 ∨ (rd.num 3).2 = 1 ∨ (rd.num 3).2 = 2 ∨ (rd.num 3).2 = 3 := by have := Rd.num_le rd 3; rw [bnd3] at this; omega
 obtain ⟨K, hK⟩ : ∃ K : Int, K = (((rd.num 3).2 : Nat) : Int) := ⟨_, rfl⟩
 have HKK := hid hK
 clear hR hK
 go_enter Tryz.func12, Tryz.ntmps12
 go_wp2_with fail
 refine (num_any g rd 3 _ (HR.out.up ((Ext.new _ _).alloc _))).mono ?_
 rintro e w1 ⟨rfl, hr1, ho1⟩
 have HR1 := hid hr1
 have HKR1 : Hid (w1.heap[w.heap.size]? = some (.cells #[.int .i64 0, .string ⟨#[]⟩, .int .i64 0, .int .i64 0, .string ⟨#[]⟩, .slice none 0 0, .slice none 0 0] 34 (0, 0))) := hid ((ho1.blk (b := w.heap.size) (by simp <;> omega) (by omega)).trans (two_blocks w _ _).1)
 have HKL1 : Hid (w1.heap[w.heap.size + 1]? = some (.cells #[.int .i64 0, .string ⟨#[]⟩, .int .i64 0, .int .i64 0, .string ⟨#[]⟩, .slice none 0 0, .slice none 0 0] 34 (0, 0))) := hid ((ho1.blk (b := w.heap.size + 1) (by simp <;> omega) (by omega)).trans (two_blocks w _ _).2)
 have HO1 := hid ((Only.of_ext ((Ext.new _ _).alloc _)).trans ho1)
 have hz1 : w.heap.size + 1 < w1.heap.size := by have := ho1.size; simp at this; omega
 rw [← HKK.out]
 clear hr1 ho1
 obtain ⟨qL0, qL1⟩ := blk_rules HKL1.out
 go_wp2_with fail
 clear qL0 qL1
 have HKR2 := hid ((blk_far (g := w.heap.size) (g' := w.heap.size + 1) (i := 0) (by omega) (.int .i64 K)).trans HKR1.out)
 have HKL2 : Hid (_ = some (Obj.cells #[.int .i64 K, .string ⟨#[]⟩, .int .i64 0, .int .i64 0, .string ⟨#[]⟩, .slice none 0 0, .slice none 0 0] 34 (0, 0))) := hid (blk_set (i := 0) HKL1.out (.int .i64 K))
 have HR2 := hid (HR1.out.setFar (p := w.heap.size + 1) (i := 0) (by omega) (.int .i64 K))
 have HO2 := hid (HO1.out.setNew (p := w.heap.size + 1) (i := 0) (by omega) (.int .i64 K))
 have hz2 : w.heap.size + 1 < (w1.setCell ⟨w.heap.size + 1, 0, none⟩ (.int .i64 K)).heap.size := by rw [size_set]; exact hz1
 generalize w1.setCell ⟨w.heap.size + 1, 0, none⟩ (.int .i64 K) = w2 at HKR2 HKL2 HR2 HO2 hz2 ⊢
 refine (txt_any g _ 12 _ HR2.out).mono ?_
 rintro e w3 ⟨rfl, hr3, ho3⟩
 have HR3 := hid hr3
 have HKR3 := hid ((ho3.blk (b := w.heap.size) (by omega) (by omega)).trans HKR2.out)
 have HKL3 := hid ((ho3.blk (b := w.heap.size + 1) (by omega) (by omega)).trans HKL2.out)
 have HO3 := hid (HO2.out.trans ho3)
 have hz3 : w.heap.size + 1 < w3.heap.size := Nat.lt_of_lt_of_le hz2 ho3.size
 clear hr3 ho3
 obtain ⟨qL0, qL1⟩ := blk_rules HKL3.out
 go_wp2_with fail
 clear qL0 qL1
 have HKR4 := hid ((blk_far (g := w.heap.size) (g' := w.heap.size + 1) (i := 1) (by omega) (.string (bstr ((rd.num 3).1.txt 12).2))).trans HKR3.out)
 have HKL4 : Hid (_ = some (Obj.cells #[.int .i64 K, .string (bstr ((rd.num 3).1.txt 12).2), .int .i64 0, .int .i64 0, .string ⟨#[]⟩, .slice none 0 0, .slice none 0 0] 34 (0, 0))) := hid (blk_set (i := 1) HKL3.out (.string (bstr ((rd.num 3).1.txt 12).2)))
 have HR4 := hid (HR3.out.setFar (p := w.heap.size + 1) (i := 1) (by omega) (.string (bstr ((rd.num 3).1.txt 12).2)))
 have HO4 := hid (HO3.out.setNew (p := w.heap.size + 1) (i := 1) (by omega) (.string (bstr ((rd.num 3).1.txt 12).2)))
 have hz4 : w.heap.size + 1 < (w3.setCell ⟨w.heap.size + 1, 1, none⟩ (.string (bstr ((rd.num 3).1.txt 12).2))).heap.size := by rw [size_set]; exact hz3
 generalize w3.setCell ⟨w.heap.size + 1, 1, none⟩ (.string (bstr ((rd.num 3).1.txt 12).2)) = w4 at HKR4 HKL4 HR4 HO4 hz4 ⊢
 refine (num_any g _ 2147483647 _ HR4.out).mono ?_
 rintro e w5 ⟨rfl, hr5, ho5⟩
 have HR5 := hid hr5
 have HKR5 := hid ((ho5.blk (b := w.heap.size) (by omega) (by omega)).trans HKR4.out)
 have HKL5 := hid ((ho5.blk (b := w.heap.size + 1) (by omega) (by omega)).trans HKL4.out)
 have HO5 := hid (HO4.out.trans ho5)
 have hz5 : w.heap.size + 1 < w5.heap.size := Nat.lt_of_lt_of_le hz4 ho5.size
 clear hr5 ho5
 rcases hk4 with hk | hk | hk | hk
 ·have b0 : (K == 0) = true := by rw [HKK.out, hk]; rfl
  have HE1 : Hid ((takeR0 rd).1 = (((((rd.num 3).1.txt 12).1.num 2147483647).1.num 65535).1.txt 12).1) := hid (by show (takeBody (rd.num 3).2 _ _ _).1 = _; unfold takeBody; rw [if_pos hk]; rfl)
  have HE2 : Hid ((takeR0 rd).2 = ⟨K, mkS ((rd.num 3).1.txt 12).2, (((((rd.num 3).1.txt 12).1.num 2147483647).2 : Nat) : Int), ((((((rd.num 3).1.txt 12).1.num 2147483647).1.num 65535).2 : Nat) : Int), mkS (((((rd.num 3).1.txt 12).1.num 2147483647).1.num 65535).1.txt 12).2, [], []⟩) := hid (by rw [HKK.out]; show (takeBody (rd.num 3).2 _ _ _).2 = _; unfold takeBody; rw [if_pos hk]; rfl)
  clear hk
  obtain ⟨qL0, qL1⟩ := blk_rules HKL5.out
  go_wp2_with fail
  clear qL0 qL1
  have HKR6 := hid ((blk_far (g := w.heap.size) (g' := w.heap.size + 1) (i := 2) (by omega) (.int .i64 (((((rd.num 3).1.txt 12).1.num 2147483647).2 : Nat) : Int))).trans HKR5.out)
  have HKL6 : Hid (_ = some (Obj.cells #[.int .i64 K, .string (bstr ((rd.num 3).1.txt 12).2), .int .i64 (((((rd.num 3).1.txt 12).1.num 2147483647).2 : Nat) : Int), .int .i64 0, .string ⟨#[]⟩, .slice none 0 0, .slice none 0 0] 34 (0, 0))) := hid (blk_set (i := 2) HKL5.out (.int .i64 (((((rd.num 3).1.txt 12).1.num 2147483647).2 : Nat) : Int)))
  have HR6 := hid (HR5.out.setFar (p := w.heap.size + 1) (i := 2) (by omega) (.int .i64 (((((rd.num 3).1.txt 12).1.num 2147483647).2 : Nat) : Int)))
  have HO6 := hid (HO5.out.setNew (p := w.heap.size + 1) (i := 2) (by omega) (.int .i64 (((((rd.num 3).1.txt 12).1.num 2147483647).2 : Nat) : Int)))
  have hz6 : w.heap.size + 1 < (w5.setCell ⟨w.heap.size + 1, 2, none⟩ (.int .i64 (((((rd.num 3).1.txt 12).1.num 2147483647).2 : Nat) : Int))).heap.size := by rw [size_set]; exact hz5
  generalize w5.setCell ⟨w.heap.size + 1, 2, none⟩ (.int .i64 (((((rd.num 3).1.txt 12).1.num 2147483647).2 : Nat) : Int)) = w6 at HKR6 HKL6 HR6 HO6 hz6 ⊢
  refine (num_any g _ 65535 _ HR6.out).mono ?_
  rintro e w7 ⟨rfl, hr7, ho7⟩
  have HR7 := hid hr7
  have HKR7 := hid ((ho7.blk (b := w.heap.size) (by omega) (by omega)).trans HKR6.out)
  have HKL7 := hid ((ho7.blk (b := w.heap.size + 1) (by omega) (by omega)).trans HKL6.out)
  have HO7 := hid (HO6.out.trans ho7)
  have hz7 : w.heap.size + 1 < w7.heap.size := Nat.lt_of_lt_of_le hz6 ho7.size
  clear hr7 ho7
  obtain ⟨qL0, qL1⟩ := blk_rules HKL7.out
  go_wp2_with fail
  clear qL0 qL1
  have HKR8 := hid ((blk_far (g := w.heap.size) (g' := w.heap.size + 1) (i := 3) (by omega) (.int .i64 ((((((rd.num 3).1.txt 12).1.num 2147483647).1.num 65535).2 : Nat) : Int))).trans HKR7.out)
  have HKL8 : Hid (_ = some (Obj.cells #[.int .i64 K, .string (bstr ((rd.num 3).1.txt 12).2), .int .i64 (((((rd.num 3).1.txt 12).1.num 2147483647).2 : Nat) : Int), .int .i64 ((((((rd.num 3).1.txt 12).1.num 2147483647).1.num 65535).2 : Nat) : Int), .string ⟨#[]⟩, .slice none 0 0, .slice none 0 0] 34 (0, 0))) := hid (blk_set (i := 3) HKL7.out (.int .i64 ((((((rd.num 3).1.txt 12).1.num 2147483647).1.num 65535).2 : Nat) : Int)))
  have HR8 := hid (HR7.out.setFar (p := w.heap.size + 1) (i := 3) (by omega) (.int .i64 ((((((rd.num 3).1.txt 12).1.num 2147483647).1.num 65535).2 : Nat) : Int)))
  have HO8 := hid (HO7.out.setNew (p := w.heap.size + 1) (i := 3) (by omega) (.int .i64 ((((((rd.num 3).1.txt 12).1.num 2147483647).1.num 65535).2 : Nat) : Int)))
  have hz8 : w.heap.size + 1 < (w7.setCell ⟨w.heap.size + 1, 3, none⟩ (.int .i64 ((((((rd.num 3).1.txt 12).1.num 2147483647).1.num 65535).2 : Nat) : Int))).heap.size := by rw [size_set]; exact hz7
  generalize w7.setCell ⟨w.heap.size + 1, 3, none⟩ (.int .i64 ((((((rd.num 3).1.txt 12).1.num 2147483647).1.num 65535).2 : Nat) : Int)) = w8 at HKR8 HKL8 HR8 HO8 hz8 ⊢
  refine (txt_any g _ 12 _ HR8.out).mono ?_
  rintro e w9 ⟨rfl, hr9, ho9⟩
  have HR9 := hid hr9
  have HKR9 := hid ((ho9.blk (b := w.heap.size) (by omega) (by omega)).trans HKR8.out)
  have HKL9 := hid ((ho9.blk (b := w.heap.size + 1) (by omega) (by omega)).trans HKL8.out)
  have HO9 := hid (HO8.out.trans ho9)
  have hz9 : w.heap.size + 1 < w9.heap.size := Nat.lt_of_lt_of_le hz8 ho9.size
  clear hr9 ho9
  obtain ⟨qL0, qL1⟩ := blk_rules HKL9.out
  go_wp2_with fail
  clear qL0 qL1
  have HKR10 := hid ((blk_far (g := w.heap.size) (g' := w.heap.size + 1) (i := 4) (by omega) (.string (bstr (((((rd.num 3).1.txt 12).1.num 2147483647).1.num 65535).1.txt 12).2))).trans HKR9.out)
  have HKL10 : Hid (_ = some (Obj.cells #[.int .i64 K, .string (bstr ((rd.num 3).1.txt 12).2), .int .i64 (((((rd.num 3).1.txt 12).1.num 2147483647).2 : Nat) : Int), .int .i64 ((((((rd.num 3).1.txt 12).1.num 2147483647).1.num 65535).2 : Nat) : Int), .string (bstr (((((rd.num 3).1.txt 12).1.num 2147483647).1.num 65535).1.txt 12).2), .slice none 0 0, .slice none 0 0] 34 (0, 0))) := hid (blk_set (i := 4) HKL9.out (.string (bstr (((((rd.num 3).1.txt 12).1.num 2147483647).1.num 65535).1.txt 12).2)))
  have HR10 := hid (HR9.out.setFar (p := w.heap.size + 1) (i := 4) (by omega) (.string (bstr (((((rd.num 3).1.txt 12).1.num 2147483647).1.num 65535).1.txt 12).2)))
  have HO10 := hid (HO9.out.setNew (p := w.heap.size + 1) (i := 4) (by omega) (.string (bstr (((((rd.num 3).1.txt 12).1.num 2147483647).1.num 65535).1.txt 12).2)))
  have hz10 : w.heap.size + 1 < (w9.setCell ⟨w.heap.size + 1, 4, none⟩ (.string (bstr (((((rd.num 3).1.txt 12).1.num 2147483647).1.num 65535).1.txt 12).2))).heap.size := by rw [size_set]; exact hz9
  generalize w9.setCell ⟨w.heap.size + 1, 4, none⟩ (.string (bstr (((((rd.num 3).1.txt 12).1.num 2147483647).1.num 65535).1.txt 12).2)) = w10 at HKR10 HKL10 HR10 HO10 hz10 ⊢
  obtain ⟨qL0, qL1⟩ := blk_rules HKL10.out
  go_wp2_with fail
  refine (resSane_any (fun _ => True) ⟨K, mkS ((rd.num 3).1.txt 12).2, (((((rd.num 3).1.txt 12).1.num 2147483647).2 : Nat) : Int), ((((((rd.num 3).1.txt 12).1.num 2147483647).1.num 65535).2 : Nat) : Int), mkS (((((rd.num 3).1.txt 12).1.num 2147483647).1.num 65535).1.txt 12).2, [], []⟩ none none 0 0 0 0 _ ⟨Rd.txt_max _ _, Rd.txt_max _ _, SlW.nil_, SlW.nil_, ArrQ.nil_, ArrQ.nil_⟩).mono ?_
  rintro e w11 ⟨rfl, hb11⟩
  have HR11 := hid (HR10.out.up hb11)
  have HKR11 : Hid (w11.heap[w.heap.size]? = some (.cells #[.int .i64 0, .string ⟨#[]⟩, .int .i64 0, .int .i64 0, .string ⟨#[]⟩, .slice none 0 0, .slice none 0 0] 34 (0, 0))) := hid ((hb11.block (b := w.heap.size) (by omega)).trans HKR10.out)
  have HKL11 : Hid (w11.heap[w.heap.size + 1]? = some (.cells #[.int .i64 K, .string (bstr ((rd.num 3).1.txt 12).2), .int .i64 (((((rd.num 3).1.txt 12).1.num 2147483647).2 : Nat) : Int), .int .i64 ((((((rd.num 3).1.txt 12).1.num 2147483647).1.num 65535).2 : Nat) : Int), .string (bstr (((((rd.num 3).1.txt 12).1.num 2147483647).1.num 65535).1.txt 12).2), .slice none 0 0, .slice none 0 0] 34 (0, 0))) := hid ((hb11.block (b := w.heap.size + 1) (by omega)).trans HKL10.out)
  have HO11 := hid (HO10.out.trans (Only.of_ext hb11))
  have hz11 : w.heap.size + 1 < w11.heap.size := Nat.lt_of_lt_of_le hz10 hb11.size
  clear hb11
  clear qL0 qL1
  go_wp2_with fail
  refine (recFail_any g _ _ _ HR11.out).mono ?_
  rintro e w12 ⟨rfl, hr12, ho12⟩
  have HR12 := hid hr12
  have HKR12 := hid ((ho12.blk (b := w.heap.size) (by omega) (by omega)).trans HKR11.out)
  have HKL12 := hid ((ho12.blk (b := w.heap.size + 1) (by omega) (by omega)).trans HKL11.out)
  have HO12 := hid (HO11.out.trans ho12)
  have hz12 : w.heap.size + 1 < w12.heap.size := Nat.lt_of_lt_of_le hz11 ho12.size
  clear hr12 ho12
  rw [← HE1.out, ← HE2.out]
  cases hf : decide ((failE (takeR0 rd).1 (saneR (takeR0 rd).2)).e ≠ 0) with
  | true =>
   have hf2 := of_decide_eq_true hf
   have HZ1 : Hid ((takeR rd).2 = rs0) := hid (by rw [HT2.out, if_pos hf2])
   clear hf hf2
   obtain ⟨qR0, qR1⟩ := blk_rules HKR12.out
   go_wp2_with fail
   clear qR0 qR1
   have HKR13 : Hid (_ = some (Obj.cells #[.int .i64 0, .string ⟨#[]⟩, .int .i64 0, .int .i64 0, .string ⟨#[]⟩, .slice none 0 0, .slice none 0 0] 34 (0, 0))) := hid (blk_set (i := 0) HKR12.out (.int .i64 0))
   have HKL13 := hid ((blk_far (g := w.heap.size + 1) (g' := w.heap.size) (i := 0) (by omega) (.int .i64 0)).trans HKL12.out)
   have HR13 := hid (HR12.out.setFar (p := w.heap.size) (i := 0) (by omega) (.int .i64 0))
   have HO13 := hid (HO12.out.setNew (p := w.heap.size) (i := 0) (by omega) (.int .i64 0))
   have hz13 : w.heap.size + 1 < (w12.setCell ⟨w.heap.size, 0, none⟩ (.int .i64 0)).heap.size := by rw [size_set]; exact hz12
   generalize w12.setCell ⟨w.heap.size, 0, none⟩ (.int .i64 0) = w13 at HKR13 HKL13 HR13 HO13 hz13 ⊢
   have HKR14 : Hid (_ = some (Obj.cells #[.int .i64 0, .string ⟨#[]⟩, .int .i64 0, .int .i64 0, .string ⟨#[]⟩, .slice none 0 0, .slice none 0 0] 34 (0, 0))) := hid (blk_set (i := 1) HKR13.out (.string ⟨#[]⟩))
   have HKL14 := hid ((blk_far (g := w.heap.size + 1) (g' := w.heap.size) (i := 1) (by omega) (.string ⟨#[]⟩)).trans HKL13.out)
   have HR14 := hid (HR13.out.setFar (p := w.heap.size) (i := 1) (by omega) (.string ⟨#[]⟩))
   have HO14 := hid (HO13.out.setNew (p := w.heap.size) (i := 1) (by omega) (.string ⟨#[]⟩))
   have hz14 : w.heap.size + 1 < (w13.setCell ⟨w.heap.size, 1, none⟩ (.string ⟨#[]⟩)).heap.size := by rw [size_set]; exact hz13
   generalize w13.setCell ⟨w.heap.size, 1, none⟩ (.string ⟨#[]⟩) = w14 at HKR14 HKL14 HR14 HO14 hz14 ⊢
   have HKR15 : Hid (_ = some (Obj.cells #[.int .i64 0, .string ⟨#[]⟩, .int .i64 0, .int .i64 0, .string ⟨#[]⟩, .slice none 0 0, .slice none 0 0] 34 (0, 0))) := hid (blk_set (i := 2) HKR14.out (.int .i64 0))
   have HKL15 := hid ((blk_far (g := w.heap.size + 1) (g' := w.heap.size) (i := 2) (by omega) (.int .i64 0)).trans HKL14.out)
   have HR15 := hid (HR14.out.setFar (p := w.heap.size) (i := 2) (by omega) (.int .i64 0))
   have HO15 := hid (HO14.out.setNew (p := w.heap.size) (i := 2) (by omega) (.int .i64 0))
   have hz15 : w.heap.size + 1 < (w14.setCell ⟨w.heap.size, 2, none⟩ (.int .i64 0)).heap.size := by rw [size_set]; exact hz14
   generalize w14.setCell ⟨w.heap.size, 2, none⟩ (.int .i64 0) = w15 at HKR15 HKL15 HR15 HO15 hz15 ⊢
   have HKR16 : Hid (_ = some (Obj.cells #[.int .i64 0, .string ⟨#[]⟩, .int .i64 0, .int .i64 0, .string ⟨#[]⟩, .slice none 0 0, .slice none 0 0] 34 (0, 0))) := hid (blk_set (i := 3) HKR15.out (.int .i64 0))
   have HKL16 := hid ((blk_far (g := w.heap.size + 1) (g' := w.heap.size) (i := 3) (by omega) (.int .i64 0)).trans HKL15.out)
   have HR16 := hid (HR15.out.setFar (p := w.heap.size) (i := 3) (by omega) (.int .i64 0))
   have HO16 := hid (HO15.out.setNew (p := w.heap.size) (i := 3) (by omega) (.int .i64 0))
   have hz16 : w.heap.size + 1 < (w15.setCell ⟨w.heap.size, 3, none⟩ (.int .i64 0)).heap.size := by rw [size_set]; exact hz15
   generalize w15.setCell ⟨w.heap.size, 3, none⟩ (.int .i64 0) = w16 at HKR16 HKL16 HR16 HO16 hz16 ⊢
   have HKR17 : Hid (_ = some (Obj.cells #[.int .i64 0, .string ⟨#[]⟩, .int .i64 0, .int .i64 0, .string ⟨#[]⟩, .slice none 0 0, .slice none 0 0] 34 (0, 0))) := hid (blk_set (i := 4) HKR16.out (.string ⟨#[]⟩))
   have HKL17 := hid ((blk_far (g := w.heap.size + 1) (g' := w.heap.size) (i := 4) (by omega) (.string ⟨#[]⟩)).trans HKL16.out)
   have HR17 := hid (HR16.out.setFar (p := w.heap.size) (i := 4) (by omega) (.string ⟨#[]⟩))
   have HO17 := hid (HO16.out.setNew (p := w.heap.size) (i := 4) (by omega) (.string ⟨#[]⟩))
   have hz17 : w.heap.size + 1 < (w16.setCell ⟨w.heap.size, 4, none⟩ (.string ⟨#[]⟩)).heap.size := by rw [size_set]; exact hz16
   generalize w16.setCell ⟨w.heap.size, 4, none⟩ (.string ⟨#[]⟩) = w17 at HKR17 HKL17 HR17 HO17 hz17 ⊢
   have HKR18 : Hid (_ = some (Obj.cells #[.int .i64 0, .string ⟨#[]⟩, .int .i64 0, .int .i64 0, .string ⟨#[]⟩, .slice none 0 0, .slice none 0 0] 34 (0, 0))) := hid (blk_set (i := 5) HKR17.out (.slice none 0 0))
   have HKL18 := hid ((blk_far (g := w.heap.size + 1) (g' := w.heap.size) (i := 5) (by omega) (.slice none 0 0)).trans HKL17.out)
   have HR18 := hid (HR17.out.setFar (p := w.heap.size) (i := 5) (by omega) (.slice none 0 0))
   have HO18 := hid (HO17.out.setNew (p := w.heap.size) (i := 5) (by omega) (.slice none 0 0))
   have hz18 : w.heap.size + 1 < (w17.setCell ⟨w.heap.size, 5, none⟩ (.slice none 0 0)).heap.size := by rw [size_set]; exact hz17
   generalize w17.setCell ⟨w.heap.size, 5, none⟩ (.slice none 0 0) = w18 at HKR18 HKL18 HR18 HO18 hz18 ⊢
   have HKR19 : Hid (_ = some (Obj.cells #[.int .i64 0, .string ⟨#[]⟩, .int .i64 0, .int .i64 0, .string ⟨#[]⟩, .slice none 0 0, .slice none 0 0] 34 (0, 0))) := hid (blk_set (i := 6) HKR18.out (.slice none 0 0))
   have HKL19 := hid ((blk_far (g := w.heap.size + 1) (g' := w.heap.size) (i := 6) (by omega) (.slice none 0 0)).trans HKL18.out)
   have HR19 := hid (HR18.out.setFar (p := w.heap.size) (i := 6) (by omega) (.slice none 0 0))
   have HO19 := hid (HO18.out.setNew (p := w.heap.size) (i := 6) (by omega) (.slice none 0 0))
   have hz19 : w.heap.size + 1 < (w18.setCell ⟨w.heap.size, 6, none⟩ (.slice none 0 0)).heap.size := by rw [size_set]; exact hz18
   generalize w18.setCell ⟨w.heap.size, 6, none⟩ (.slice none 0 0) = w19 at HKR19 HKL19 HR19 HO19 hz19 ⊢
   obtain ⟨z0, -⟩ := blk_rules HKR19.out
   rw [HT1.out, HZ1.out, HE1.out, HE2.out]
   exact bodyPost_ret (v := .agg #[.int .i64 0, .string ⟨#[]⟩, .int .i64 0, .int .i64 0, .string ⟨#[]⟩, .slice none 0 0, .slice none 0 0]) (by simp [results, Tryz.results12, go_sem, z0]) rfl
    ⟨none, 0, 0, none, 0, 0, rfl, rs0_V _ _, HR19.out, HO19.out⟩
  | false =>
   have hf2 := of_decide_eq_false hf
   have HZ1 : Hid ((takeR rd).2 = ⟨K, mkS ((rd.num 3).1.txt 12).2, (((((rd.num 3).1.txt 12).1.num 2147483647).2 : Nat) : Int), ((((((rd.num 3).1.txt 12).1.num 2147483647).1.num 65535).2 : Nat) : Int), mkS (((((rd.num 3).1.txt 12).1.num 2147483647).1.num 65535).1.txt 12).2, [], []⟩) := hid (by rw [HT2.out, if_neg hf2, HE2.out])
   clear hf hf2
   obtain ⟨qR0, qR1⟩ := blk_rules HKR12.out
   obtain ⟨qL0, qL1⟩ := blk_rules HKL12.out
   go_wp2_with fail
   clear qR0 qR1 qL0 qL1
   have HKR13 : Hid (_ = some (Obj.cells #[.int .i64 K, .string ⟨#[]⟩, .int .i64 0, .int .i64 0, .string ⟨#[]⟩, .slice none 0 0, .slice none 0 0] 34 (0, 0))) := hid (blk_set (i := 0) HKR12.out (.int .i64 K))
   have HKL13 := hid ((blk_far (g := w.heap.size + 1) (g' := w.heap.size) (i := 0) (by omega) (.int .i64 K)).trans HKL12.out)
   have HR13 := hid (HR12.out.setFar (p := w.heap.size) (i := 0) (by omega) (.int .i64 K))
   have HO13 := hid (HO12.out.setNew (p := w.heap.size) (i := 0) (by omega) (.int .i64 K))
   have hz13 : w.heap.size + 1 < (w12.setCell ⟨w.heap.size, 0, none⟩ (.int .i64 K)).heap.size := by rw [size_set]; exact hz12
   generalize w12.setCell ⟨w.heap.size, 0, none⟩ (.int .i64 K) = w13 at HKR13 HKL13 HR13 HO13 hz13 ⊢
   have HKR14 : Hid (_ = some (Obj.cells #[.int .i64 K, .string (bstr ((rd.num 3).1.txt 12).2), .int .i64 0, .int .i64 0, .string ⟨#[]⟩, .slice none 0 0, .slice none 0 0] 34 (0, 0))) := hid (blk_set (i := 1) HKR13.out (.string (bstr ((rd.num 3).1.txt 12).2)))
   have HKL14 := hid ((blk_far (g := w.heap.size + 1) (g' := w.heap.size) (i := 1) (by omega) (.string (bstr ((rd.num 3).1.txt 12).2))).trans HKL13.out)
   have HR14 := hid (HR13.out.setFar (p := w.heap.size) (i := 1) (by omega) (.string (bstr ((rd.num 3).1.txt 12).2)))
   have HO14 := hid (HO13.out.setNew (p := w.heap.size) (i := 1) (by omega) (.string (bstr ((rd.num 3).1.txt 12).2)))
   have hz14 : w.heap.size + 1 < (w13.setCell ⟨w.heap.size, 1, none⟩ (.string (bstr ((rd.num 3).1.txt 12).2))).heap.size := by rw [size_set]; exact hz13
   generalize w13.setCell ⟨w.heap.size, 1, none⟩ (.string (bstr ((rd.num 3).1.txt 12).2)) = w14 at HKR14 HKL14 HR14 HO14 hz14 ⊢
   have HKR15 : Hid (_ = some (Obj.cells #[.int .i64 K, .string (bstr ((rd.num 3).1.txt 12).2), .int .i64 (((((rd.num 3).1.txt 12).1.num 2147483647).2 : Nat) : Int), .int .i64 0, .string ⟨#[]⟩, .slice none 0 0, .slice none 0 0] 34 (0, 0))) := hid (blk_set (i := 2) HKR14.out (.int .i64 (((((rd.num 3).1.txt 12).1.num 2147483647).2 : Nat) : Int)))
   have HKL15 := hid ((blk_far (g := w.heap.size + 1) (g' := w.heap.size) (i := 2) (by omega) (.int .i64 (((((rd.num 3).1.txt 12).1.num 2147483647).2 : Nat) : Int))).trans HKL14.out)
   have HR15 := hid (HR14.out.setFar (p := w.heap.size) (i := 2) (by omega) (.int .i64 (((((rd.num 3).1.txt 12).1.num 2147483647).2 : Nat) : Int)))
   have HO15 := hid (HO14.out.setNew (p := w.heap.size) (i := 2) (by omega) (.int .i64 (((((rd.num 3).1.txt 12).1.num 2147483647).2 : Nat) : Int)))
   have hz15 : w.heap.size + 1 < (w14.setCell ⟨w.heap.size, 2, none⟩ (.int .i64 (((((rd.num 3).1.txt 12).1.num 2147483647).2 : Nat) : Int))).heap.size := by rw [size_set]; exact hz14
   generalize w14.setCell ⟨w.heap.size, 2, none⟩ (.int .i64 (((((rd.num 3).1.txt 12).1.num 2147483647).2 : Nat) : Int)) = w15 at HKR15 HKL15 HR15 HO15 hz15 ⊢
   have HKR16 : Hid (_ = some (Obj.cells #[.int .i64 K, .string (bstr ((rd.num 3).1.txt 12).2), .int .i64 (((((rd.num 3).1.txt 12).1.num 2147483647).2 : Nat) : Int), .int .i64 ((((((rd.num 3).1.txt 12).1.num 2147483647).1.num 65535).2 : Nat) : Int), .string ⟨#[]⟩, .slice none 0 0, .slice none 0 0] 34 (0, 0))) := hid (blk_set (i := 3) HKR15.out (.int .i64 ((((((rd.num 3).1.txt 12).1.num 2147483647).1.num 65535).2 : Nat) : Int)))
   have HKL16 := hid ((blk_far (g := w.heap.size + 1) (g' := w.heap.size) (i := 3) (by omega) (.int .i64 ((((((rd.num 3).1.txt 12).1.num 2147483647).1.num 65535).2 : Nat) : Int))).trans HKL15.out)
   have HR16 := hid (HR15.out.setFar (p := w.heap.size) (i := 3) (by omega) (.int .i64 ((((((rd.num 3).1.txt 12).1.num 2147483647).1.num 65535).2 : Nat) : Int)))
   have HO16 := hid (HO15.out.setNew (p := w.heap.size) (i := 3) (by omega) (.int .i64 ((((((rd.num 3).1.txt 12).1.num 2147483647).1.num 65535).2 : Nat) : Int)))
   have hz16 : w.heap.size + 1 < (w15.setCell ⟨w.heap.size, 3, none⟩ (.int .i64 ((((((rd.num 3).1.txt 12).1.num 2147483647).1.num 65535).2 : Nat) : Int))).heap.size := by rw [size_set]; exact hz15
   generalize w15.setCell ⟨w.heap.size, 3, none⟩ (.int .i64 ((((((rd.num 3).1.txt 12).1.num 2147483647).1.num 65535).2 : Nat) : Int)) = w16 at HKR16 HKL16 HR16 HO16 hz16 ⊢
   have HKR17 : Hid (_ = some (Obj.cells #[.int .i64 K, .string (bstr ((rd.num 3).1.txt 12).2), .int .i64 (((((rd.num 3).1.txt 12).1.num 2147483647).2 : Nat) : Int), .int .i64 ((((((rd.num 3).1.txt 12).1.num 2147483647).1.num 65535).2 : Nat) : Int), .string (bstr (((((rd.num 3).1.txt 12).1.num 2147483647).1.num 65535).1.txt 12).2), .slice none 0 0, .slice none 0 0] 34 (0, 0))) := hid (blk_set (i := 4) HKR16.out (.string (bstr (((((rd.num 3).1.txt 12).1.num 2147483647).1.num 65535).1.txt 12).2)))
   have HKL17 := hid ((blk_far (g := w.heap.size + 1) (g' := w.heap.size) (i := 4) (by omega) (.string (bstr (((((rd.num 3).1.txt 12).1.num 2147483647).1.num 65535).1.txt 12).2))).trans HKL16.out)
   have HR17 := hid (HR16.out.setFar (p := w.heap.size) (i := 4) (by omega) (.string (bstr (((((rd.num 3).1.txt 12).1.num 2147483647).1.num 65535).1.txt 12).2)))
   have HO17 := hid (HO16.out.setNew (p := w.heap.size) (i := 4) (by omega) (.string (bstr (((((rd.num 3).1.txt 12).1.num 2147483647).1.num 65535).1.txt 12).2)))
   have hz17 : w.heap.size + 1 < (w16.setCell ⟨w.heap.size, 4, none⟩ (.string (bstr (((((rd.num 3).1.txt 12).1.num 2147483647).1.num 65535).1.txt 12).2))).heap.size := by rw [size_set]; exact hz16
   generalize w16.setCell ⟨w.heap.size, 4, none⟩ (.string (bstr (((((rd.num 3).1.txt 12).1.num 2147483647).1.num 65535).1.txt 12).2)) = w17 at HKR17 HKL17 HR17 HO17 hz17 ⊢
   have HKR18 : Hid (_ = some (Obj.cells #[.int .i64 K, .string (bstr ((rd.num 3).1.txt 12).2), .int .i64 (((((rd.num 3).1.txt 12).1.num 2147483647).2 : Nat) : Int), .int .i64 ((((((rd.num 3).1.txt 12).1.num 2147483647).1.num 65535).2 : Nat) : Int), .string (bstr (((((rd.num 3).1.txt 12).1.num 2147483647).1.num 65535).1.txt 12).2), .slice none 0 0, .slice none 0 0] 34 (0, 0))) := hid (blk_set (i := 5) HKR17.out (.slice none 0 0))
   have HKL18 := hid ((blk_far (g := w.heap.size + 1) (g' := w.heap.size) (i := 5) (by omega) (.slice none 0 0)).trans HKL17.out)
   have HR18 := hid (HR17.out.setFar (p := w.heap.size) (i := 5) (by omega) (.slice none 0 0))
   have HO18 := hid (HO17.out.setNew (p := w.heap.size) (i := 5) (by omega) (.slice none 0 0))
   have hz18 : w.heap.size + 1 < (w17.setCell ⟨w.heap.size, 5, none⟩ (.slice none 0 0)).heap.size := by rw [size_set]; exact hz17
   generalize w17.setCell ⟨w.heap.size, 5, none⟩ (.slice none 0 0) = w18 at HKR18 HKL18 HR18 HO18 hz18 ⊢
   have HKR19 : Hid (_ = some (Obj.cells #[.int .i64 K, .string (bstr ((rd.num 3).1.txt 12).2), .int .i64 (((((rd.num 3).1.txt 12).1.num 2147483647).2 : Nat) : Int), .int .i64 ((((((rd.num 3).1.txt 12).1.num 2147483647).1.num 65535).2 : Nat) : Int), .string (bstr (((((rd.num 3).1.txt 12).1.num 2147483647).1.num 65535).1.txt 12).2), .slice none 0 0, .slice none 0 0] 34 (0, 0))) := hid (blk_set (i := 6) HKR18.out (.slice none 0 0))
   have HKL19 := hid ((blk_far (g := w.heap.size + 1) (g' := w.heap.size) (i := 6) (by omega) (.slice none 0 0)).trans HKL18.out)
   have HR19 := hid (HR18.out.setFar (p := w.heap.size) (i := 6) (by omega) (.slice none 0 0))
   have HO19 := hid (HO18.out.setNew (p := w.heap.size) (i := 6) (by omega) (.slice none 0 0))
   have hz19 : w.heap.size + 1 < (w18.setCell ⟨w.heap.size, 6, none⟩ (.slice none 0 0)).heap.size := by rw [size_set]; exact hz18
   generalize w18.setCell ⟨w.heap.size, 6, none⟩ (.slice none 0 0) = w19 at HKR19 HKL19 HR19 HO19 hz19 ⊢
   obtain ⟨z0, -⟩ := blk_rules HKR19.out
   rw [HT1.out, HZ1.out, HE1.out, HE2.out]
   exact bodyPost_ret (v := .agg #[.int .i64 K, .string (bstr ((rd.num 3).1.txt 12).2), .int .i64 (((((rd.num 3).1.txt 12).1.num 2147483647).2 : Nat) : Int), .int .i64 ((((((rd.num 3).1.txt 12).1.num 2147483647).1.num 65535).2 : Nat) : Int), .string (bstr (((((rd.num 3).1.txt 12).1.num 2147483647).1.num 65535).1.txt 12).2), .slice none 0 0, .slice none 0 0]) (by simp [results, Tryz.results12, go_sem, z0]) rfl
    ⟨none, 0, 0, none, 0, 0, rfl, ⟨Rd.txt_max _ _, Rd.txt_max _ _, SlW.nil_, SlW.nil_, ArrQ.nil_, ArrQ.nil_⟩, HR19.out, HO19.out⟩
 ·have b0 : (K == 0) = false := by rw [HKK.out, hk]; rfl
  have b1 : (K == 1) = true := by rw [HKK.out, hk]; rfl
  have HE1 : Hid ((takeR0 rd).1 = (someB takeRl 8 (((rd.num 3).1.txt 12).1.num 2147483647).1).1) := hid (by show (takeBody (rd.num 3).2 _ _ _).1 = _; unfold takeBody; rw [if_neg (by omega), if_pos hk]; rfl)
  have HE2 : Hid ((takeR0 rd).2 = ⟨K, mkS ((rd.num 3).1.txt 12).2, (((((rd.num 3).1.txt 12).1.num 2147483647).2 : Nat) : Int), 0, ⟨#[]⟩, (someB takeRl 8 (((rd.num 3).1.txt 12).1.num 2147483647).1).2, []⟩) := hid (by rw [HKK.out]; show (takeBody (rd.num 3).2 _ _ _).2 = _; unfold takeBody; rw [if_neg (by omega), if_pos hk]; rfl)
  clear hk
  obtain ⟨qL0, qL1⟩ := blk_rules HKL5.out
  go_wp2_with fail
  clear qL0 qL1
  have HKR6 := hid ((blk_far (g := w.heap.size) (g' := w.heap.size + 1) (i := 2) (by omega) (.int .i64 (((((rd.num 3).1.txt 12).1.num 2147483647).2 : Nat) : Int))).trans HKR5.out)
  have HKL6 : Hid (_ = some (Obj.cells #[.int .i64 K, .string (bstr ((rd.num 3).1.txt 12).2), .int .i64 (((((rd.num 3).1.txt 12).1.num 2147483647).2 : Nat) : Int), .int .i64 0, .string ⟨#[]⟩, .slice none 0 0, .slice none 0 0] 34 (0, 0))) := hid (blk_set (i := 2) HKL5.out (.int .i64 (((((rd.num 3).1.txt 12).1.num 2147483647).2 : Nat) : Int)))
  have HR6 := hid (HR5.out.setFar (p := w.heap.size + 1) (i := 2) (by omega) (.int .i64 (((((rd.num 3).1.txt 12).1.num 2147483647).2 : Nat) : Int)))
  have HO6 := hid (HO5.out.setNew (p := w.heap.size + 1) (i := 2) (by omega) (.int .i64 (((((rd.num 3).1.txt 12).1.num 2147483647).2 : Nat) : Int)))
  have hz6 : w.heap.size + 1 < (w5.setCell ⟨w.heap.size + 1, 2, none⟩ (.int .i64 (((((rd.num 3).1.txt 12).1.num 2147483647).2 : Nat) : Int))).heap.size := by rw [size_set]; exact hz5
  generalize w5.setCell ⟨w.heap.size + 1, 2, none⟩ (.int .i64 (((((rd.num 3).1.txt 12).1.num 2147483647).2 : Nat) : Int)) = w6 at HKR6 HKL6 HR6 HO6 hz6 ⊢
  refine (someL_any g _ _ takeRl 8 _ _ HR6.out (takeRule_takes g)).mono ?_
  rintro e w7 ⟨A, n, c, rfl, hsl, harr, hr7, ho7⟩
  have HR7 := hid hr7
  have HKR7 := hid ((ho7.blk (b := w.heap.size) (by omega) (by omega)).trans HKR6.out)
  have HKL7 := hid ((ho7.blk (b := w.heap.size + 1) (by omega) (by omega)).trans HKL6.out)
  have HO7 := hid (HO6.out.trans ho7)
  have hz7 : w.heap.size + 1 < w7.heap.size := Nat.lt_of_lt_of_le hz6 ho7.size
  have HA_7 := hid harr
  clear harr
  clear hr7 ho7
  obtain ⟨qL0, qL1⟩ := blk_rules HKL7.out
  go_wp2_with fail
  clear qL0 qL1
  have HKR8 := hid ((blk_far (g := w.heap.size) (g' := w.heap.size + 1) (i := 5) (by omega) (.slice A n c)).trans HKR7.out)
  have HKL8 : Hid (_ = some (Obj.cells #[.int .i64 K, .string (bstr ((rd.num 3).1.txt 12).2), .int .i64 (((((rd.num 3).1.txt 12).1.num 2147483647).2 : Nat) : Int), .int .i64 0, .string ⟨#[]⟩, .slice A n c, .slice none 0 0] 34 (0, 0))) := hid (blk_set (i := 5) HKL7.out (.slice A n c))
  have HR8 := hid (HR7.out.setFar (p := w.heap.size + 1) (i := 5) (by omega) (.slice A n c))
  have HO8 := hid (HO7.out.setNew (p := w.heap.size + 1) (i := 5) (by omega) (.slice A n c))
  have hz8 : w.heap.size + 1 < (w7.setCell ⟨w.heap.size + 1, 5, none⟩ (.slice A n c)).heap.size := by rw [size_set]; exact hz7
  have HA_8 := hid (ArrQ.keep HA_7.out (fun _ _ _ h => h.keep (Keep.setFar (p := w.heap.size + 1) (i := 5) (fun b hb => by omega) (.slice A n c))) (Keep.setFar (p := w.heap.size + 1) (i := 5) (fun b hb => by omega) (.slice A n c)))
  generalize w7.setCell ⟨w.heap.size + 1, 5, none⟩ (.slice A n c) = w8 at HKR8 HKL8 HR8 HO8 hz8 HA_8 ⊢
  obtain ⟨qL0, qL1⟩ := blk_rules HKL8.out
  go_wp2_with fail
  refine (resSane_any (fun b => w6.heap.size ≤ b) ⟨K, mkS ((rd.num 3).1.txt 12).2, (((((rd.num 3).1.txt 12).1.num 2147483647).2 : Nat) : Int), 0, ⟨#[]⟩, (someB takeRl 8 (((rd.num 3).1.txt 12).1.num 2147483647).1).2, []⟩ A none n c 0 0 _ ⟨Rd.txt_max _ _, nil_max, hsl, SlW.nil_, HA_8.out, ArrQ.nil_⟩).mono ?_
  rintro e w9 ⟨rfl, hb9⟩
  have HR9 := hid (HR8.out.up hb9)
  have HKR9 : Hid (w9.heap[w.heap.size]? = some (.cells #[.int .i64 0, .string ⟨#[]⟩, .int .i64 0, .int .i64 0, .string ⟨#[]⟩, .slice none 0 0, .slice none 0 0] 34 (0, 0))) := hid ((hb9.block (b := w.heap.size) (by omega)).trans HKR8.out)
  have HKL9 : Hid (w9.heap[w.heap.size + 1]? = some (.cells #[.int .i64 K, .string (bstr ((rd.num 3).1.txt 12).2), .int .i64 (((((rd.num 3).1.txt 12).1.num 2147483647).2 : Nat) : Int), .int .i64 0, .string ⟨#[]⟩, .slice A n c, .slice none 0 0] 34 (0, 0))) := hid ((hb9.block (b := w.heap.size + 1) (by omega)).trans HKL8.out)
  have HO9 := hid (HO8.out.trans (Only.of_ext hb9))
  have hz9 : w.heap.size + 1 < w9.heap.size := Nat.lt_of_lt_of_le hz8 hb9.size
  have HA_9 := hid (ArrQ.keep HA_8.out (fun _ _ _ h => h.keep hb9.keep) hb9.keep)
  clear hb9
  clear qL0 qL1
  go_wp2_with fail
  refine (recFail_any g _ _ _ HR9.out).mono ?_
  rintro e w10 ⟨rfl, hr10, ho10⟩
  have HR10 := hid hr10
  have HKR10 := hid ((ho10.blk (b := w.heap.size) (by omega) (by omega)).trans HKR9.out)
  have HKL10 := hid ((ho10.blk (b := w.heap.size + 1) (by omega) (by omega)).trans HKL9.out)
  have HO10 := hid (HO9.out.trans ho10)
  have hz10 : w.heap.size + 1 < w10.heap.size := Nat.lt_of_lt_of_le hz9 ho10.size
  have HA_10 := hid (ArrQ.keep HA_9.out (fun _ _ _ h => h.keep (Only.keepGe ho10 (by omega))) (Only.keepGe ho10 (by omega)))
  clear hr10 ho10
  rw [← HE1.out, ← HE2.out]
  cases hf : decide ((failE (takeR0 rd).1 (saneR (takeR0 rd).2)).e ≠ 0) with
  | true =>
   have hf2 := of_decide_eq_true hf
   have HZ1 : Hid ((takeR rd).2 = rs0) := hid (by rw [HT2.out, if_pos hf2])
   clear hf hf2
   obtain ⟨qR0, qR1⟩ := blk_rules HKR10.out
   go_wp2_with fail
   clear qR0 qR1
   have HKR11 : Hid (_ = some (Obj.cells #[.int .i64 0, .string ⟨#[]⟩, .int .i64 0, .int .i64 0, .string ⟨#[]⟩, .slice none 0 0, .slice none 0 0] 34 (0, 0))) := hid (blk_set (i := 0) HKR10.out (.int .i64 0))
   have HKL11 := hid ((blk_far (g := w.heap.size + 1) (g' := w.heap.size) (i := 0) (by omega) (.int .i64 0)).trans HKL10.out)
   have HR11 := hid (HR10.out.setFar (p := w.heap.size) (i := 0) (by omega) (.int .i64 0))
   have HO11 := hid (HO10.out.setNew (p := w.heap.size) (i := 0) (by omega) (.int .i64 0))
   have hz11 : w.heap.size + 1 < (w10.setCell ⟨w.heap.size, 0, none⟩ (.int .i64 0)).heap.size := by rw [size_set]; exact hz10
   generalize w10.setCell ⟨w.heap.size, 0, none⟩ (.int .i64 0) = w11 at HKR11 HKL11 HR11 HO11 hz11 ⊢
   have HKR12 : Hid (_ = some (Obj.cells #[.int .i64 0, .string ⟨#[]⟩, .int .i64 0, .int .i64 0, .string ⟨#[]⟩, .slice none 0 0, .slice none 0 0] 34 (0, 0))) := hid (blk_set (i := 1) HKR11.out (.string ⟨#[]⟩))
   have HKL12 := hid ((blk_far (g := w.heap.size + 1) (g' := w.heap.size) (i := 1) (by omega) (.string ⟨#[]⟩)).trans HKL11.out)
   have HR12 := hid (HR11.out.setFar (p := w.heap.size) (i := 1) (by omega) (.string ⟨#[]⟩))
   have HO12 := hid (HO11.out.setNew (p := w.heap.size) (i := 1) (by omega) (.string ⟨#[]⟩))
   have hz12 : w.heap.size + 1 < (w11.setCell ⟨w.heap.size, 1, none⟩ (.string ⟨#[]⟩)).heap.size := by rw [size_set]; exact hz11
   generalize w11.setCell ⟨w.heap.size, 1, none⟩ (.string ⟨#[]⟩) = w12 at HKR12 HKL12 HR12 HO12 hz12 ⊢
   have HKR13 : Hid (_ = some (Obj.cells #[.int .i64 0, .string ⟨#[]⟩, .int .i64 0, .int .i64 0, .string ⟨#[]⟩, .slice none 0 0, .slice none 0 0] 34 (0, 0))) := hid (blk_set (i := 2) HKR12.out (.int .i64 0))
   have HKL13 := hid ((blk_far (g := w.heap.size + 1) (g' := w.heap.size) (i := 2) (by omega) (.int .i64 0)).trans HKL12.out)
   have HR13 := hid (HR12.out.setFar (p := w.heap.size) (i := 2) (by omega) (.int .i64 0))
   have HO13 := hid (HO12.out.setNew (p := w.heap.size) (i := 2) (by omega) (.int .i64 0))
   have hz13 : w.heap.size + 1 < (w12.setCell ⟨w.heap.size, 2, none⟩ (.int .i64 0)).heap.size := by rw [size_set]; exact hz12
   generalize w12.setCell ⟨w.heap.size, 2, none⟩ (.int .i64 0) = w13 at HKR13 HKL13 HR13 HO13 hz13 ⊢
   have HKR14 : Hid (_ = some (Obj.cells #[.int .i64 0, .string ⟨#[]⟩, .int .i64 0, .int .i64 0, .string ⟨#[]⟩, .slice none 0 0, .slice none 0 0] 34 (0, 0))) := hid (blk_set (i := 3) HKR13.out (.int .i64 0))
   have HKL14 := hid ((blk_far (g := w.heap.size + 1) (g' := w.heap.size) (i := 3) (by omega) (.int .i64 0)).trans HKL13.out)
   have HR14 := hid (HR13.out.setFar (p := w.heap.size) (i := 3) (by omega) (.int .i64 0))
   have HO14 := hid (HO13.out.setNew (p := w.heap.size) (i := 3) (by omega) (.int .i64 0))
   have hz14 : w.heap.size + 1 < (w13.setCell ⟨w.heap.size, 3, none⟩ (.int .i64 0)).heap.size := by rw [size_set]; exact hz13
   generalize w13.setCell ⟨w.heap.size, 3, none⟩ (.int .i64 0) = w14 at HKR14 HKL14 HR14 HO14 hz14 ⊢
   have HKR15 : Hid (_ = some (Obj.cells #[.int .i64 0, .string ⟨#[]⟩, .int .i64 0, .int .i64 0, .string ⟨#[]⟩, .slice none 0 0, .slice none 0 0] 34 (0, 0))) := hid (blk_set (i := 4) HKR14.out (.string ⟨#[]⟩))
   have HKL15 := hid ((blk_far (g := w.heap.size + 1) (g' := w.heap.size) (i := 4) (by omega) (.string ⟨#[]⟩)).trans HKL14.out)
   have HR15 := hid (HR14.out.setFar (p := w.heap.size) (i := 4) (by omega) (.string ⟨#[]⟩))
   have HO15 := hid (HO14.out.setNew (p := w.heap.size) (i := 4) (by omega) (.string ⟨#[]⟩))
   have hz15 : w.heap.size + 1 < (w14.setCell ⟨w.heap.size, 4, none⟩ (.string ⟨#[]⟩)).heap.size := by rw [size_set]; exact hz14
   generalize w14.setCell ⟨w.heap.size, 4, none⟩ (.string ⟨#[]⟩) = w15 at HKR15 HKL15 HR15 HO15 hz15 ⊢
   have HKR16 : Hid (_ = some (Obj.cells #[.int .i64 0, .string ⟨#[]⟩, .int .i64 0, .int .i64 0, .string ⟨#[]⟩, .slice none 0 0, .slice none 0 0] 34 (0, 0))) := hid (blk_set (i := 5) HKR15.out (.slice none 0 0))
   have HKL16 := hid ((blk_far (g := w.heap.size + 1) (g' := w.heap.size) (i := 5) (by omega) (.slice none 0 0)).trans HKL15.out)
   have HR16 := hid (HR15.out.setFar (p := w.heap.size) (i := 5) (by omega) (.slice none 0 0))
   have HO16 := hid (HO15.out.setNew (p := w.heap.size) (i := 5) (by omega) (.slice none 0 0))
   have hz16 : w.heap.size + 1 < (w15.setCell ⟨w.heap.size, 5, none⟩ (.slice none 0 0)).heap.size := by rw [size_set]; exact hz15
   generalize w15.setCell ⟨w.heap.size, 5, none⟩ (.slice none 0 0) = w16 at HKR16 HKL16 HR16 HO16 hz16 ⊢
   have HKR17 : Hid (_ = some (Obj.cells #[.int .i64 0, .string ⟨#[]⟩, .int .i64 0, .int .i64 0, .string ⟨#[]⟩, .slice none 0 0, .slice none 0 0] 34 (0, 0))) := hid (blk_set (i := 6) HKR16.out (.slice none 0 0))
   have HKL17 := hid ((blk_far (g := w.heap.size + 1) (g' := w.heap.size) (i := 6) (by omega) (.slice none 0 0)).trans HKL16.out)
   have HR17 := hid (HR16.out.setFar (p := w.heap.size) (i := 6) (by omega) (.slice none 0 0))
   have HO17 := hid (HO16.out.setNew (p := w.heap.size) (i := 6) (by omega) (.slice none 0 0))
   have hz17 : w.heap.size + 1 < (w16.setCell ⟨w.heap.size, 6, none⟩ (.slice none 0 0)).heap.size := by rw [size_set]; exact hz16
   generalize w16.setCell ⟨w.heap.size, 6, none⟩ (.slice none 0 0) = w17 at HKR17 HKL17 HR17 HO17 hz17 ⊢
   obtain ⟨z0, -⟩ := blk_rules HKR17.out
   rw [HT1.out, HZ1.out, HE1.out, HE2.out]
   exact bodyPost_ret (v := .agg #[.int .i64 0, .string ⟨#[]⟩, .int .i64 0, .int .i64 0, .string ⟨#[]⟩, .slice none 0 0, .slice none 0 0]) (by simp [results, Tryz.results12, go_sem, z0]) rfl
    ⟨none, 0, 0, none, 0, 0, rfl, rs0_V _ _, HR17.out, HO17.out⟩
  | false =>
   have hf2 := of_decide_eq_false hf
   have HZ1 : Hid ((takeR rd).2 = ⟨K, mkS ((rd.num 3).1.txt 12).2, (((((rd.num 3).1.txt 12).1.num 2147483647).2 : Nat) : Int), 0, ⟨#[]⟩, (someB takeRl 8 (((rd.num 3).1.txt 12).1.num 2147483647).1).2, []⟩) := hid (by rw [HT2.out, if_neg hf2, HE2.out])
   clear hf hf2
   obtain ⟨qR0, qR1⟩ := blk_rules HKR10.out
   obtain ⟨qL0, qL1⟩ := blk_rules HKL10.out
   go_wp2_with fail
   clear qR0 qR1 qL0 qL1
   have HKR11 : Hid (_ = some (Obj.cells #[.int .i64 K, .string ⟨#[]⟩, .int .i64 0, .int .i64 0, .string ⟨#[]⟩, .slice none 0 0, .slice none 0 0] 34 (0, 0))) := hid (blk_set (i := 0) HKR10.out (.int .i64 K))
   have HKL11 := hid ((blk_far (g := w.heap.size + 1) (g' := w.heap.size) (i := 0) (by omega) (.int .i64 K)).trans HKL10.out)
   have HR11 := hid (HR10.out.setFar (p := w.heap.size) (i := 0) (by omega) (.int .i64 K))
   have HO11 := hid (HO10.out.setNew (p := w.heap.size) (i := 0) (by omega) (.int .i64 K))
   have hz11 : w.heap.size + 1 < (w10.setCell ⟨w.heap.size, 0, none⟩ (.int .i64 K)).heap.size := by rw [size_set]; exact hz10
   have HA_11 := hid (ArrQ.keep HA_10.out (fun _ _ _ h => h.keep (Keep.setFar (p := w.heap.size) (i := 0) (fun b hb => by omega) (.int .i64 K))) (Keep.setFar (p := w.heap.size) (i := 0) (fun b hb => by omega) (.int .i64 K)))
   generalize w10.setCell ⟨w.heap.size, 0, none⟩ (.int .i64 K) = w11 at HKR11 HKL11 HR11 HO11 hz11 HA_11 ⊢
   have HKR12 : Hid (_ = some (Obj.cells #[.int .i64 K, .string (bstr ((rd.num 3).1.txt 12).2), .int .i64 0, .int .i64 0, .string ⟨#[]⟩, .slice none 0 0, .slice none 0 0] 34 (0, 0))) := hid (blk_set (i := 1) HKR11.out (.string (bstr ((rd.num 3).1.txt 12).2)))
   have HKL12 := hid ((blk_far (g := w.heap.size + 1) (g' := w.heap.size) (i := 1) (by omega) (.string (bstr ((rd.num 3).1.txt 12).2))).trans HKL11.out)
   have HR12 := hid (HR11.out.setFar (p := w.heap.size) (i := 1) (by omega) (.string (bstr ((rd.num 3).1.txt 12).2)))
   have HO12 := hid (HO11.out.setNew (p := w.heap.size) (i := 1) (by omega) (.string (bstr ((rd.num 3).1.txt 12).2)))
   have hz12 : w.heap.size + 1 < (w11.setCell ⟨w.heap.size, 1, none⟩ (.string (bstr ((rd.num 3).1.txt 12).2))).heap.size := by rw [size_set]; exact hz11
   have HA_12 := hid (ArrQ.keep HA_11.out (fun _ _ _ h => h.keep (Keep.setFar (p := w.heap.size) (i := 1) (fun b hb => by omega) (.string (bstr ((rd.num 3).1.txt 12).2)))) (Keep.setFar (p := w.heap.size) (i := 1) (fun b hb => by omega) (.string (bstr ((rd.num 3).1.txt 12).2))))
   generalize w11.setCell ⟨w.heap.size, 1, none⟩ (.string (bstr ((rd.num 3).1.txt 12).2)) = w12 at HKR12 HKL12 HR12 HO12 hz12 HA_12 ⊢
   have HKR13 : Hid (_ = some (Obj.cells #[.int .i64 K, .string (bstr ((rd.num 3).1.txt 12).2), .int .i64 (((((rd.num 3).1.txt 12).1.num 2147483647).2 : Nat) : Int), .int .i64 0, .string ⟨#[]⟩, .slice none 0 0, .slice none 0 0] 34 (0, 0))) := hid (blk_set (i := 2) HKR12.out (.int .i64 (((((rd.num 3).1.txt 12).1.num 2147483647).2 : Nat) : Int)))
   have HKL13 := hid ((blk_far (g := w.heap.size + 1) (g' := w.heap.size) (i := 2) (by omega) (.int .i64 (((((rd.num 3).1.txt 12).1.num 2147483647).2 : Nat) : Int))).trans HKL12.out)
   have HR13 := hid (HR12.out.setFar (p := w.heap.size) (i := 2) (by omega) (.int .i64 (((((rd.num 3).1.txt 12).1.num 2147483647).2 : Nat) : Int)))
   have HO13 := hid (HO12.out.setNew (p := w.heap.size) (i := 2) (by omega) (.int .i64 (((((rd.num 3).1.txt 12).1.num 2147483647).2 : Nat) : Int)))
   have hz13 : w.heap.size + 1 < (w12.setCell ⟨w.heap.size, 2, none⟩ (.int .i64 (((((rd.num 3).1.txt 12).1.num 2147483647).2 : Nat) : Int))).heap.size := by rw [size_set]; exact hz12
   have HA_13 := hid (ArrQ.keep HA_12.out (fun _ _ _ h => h.keep (Keep.setFar (p := w.heap.size) (i := 2) (fun b hb => by omega) (.int .i64 (((((rd.num 3).1.txt 12).1.num 2147483647).2 : Nat) : Int)))) (Keep.setFar (p := w.heap.size) (i := 2) (fun b hb => by omega) (.int .i64 (((((rd.num 3).1.txt 12).1.num 2147483647).2 : Nat) : Int))))
   generalize w12.setCell ⟨w.heap.size, 2, none⟩ (.int .i64 (((((rd.num 3).1.txt 12).1.num 2147483647).2 : Nat) : Int)) = w13 at HKR13 HKL13 HR13 HO13 hz13 HA_13 ⊢
   have HKR14 : Hid (_ = some (Obj.cells #[.int .i64 K, .string (bstr ((rd.num 3).1.txt 12).2), .int .i64 (((((rd.num 3).1.txt 12).1.num 2147483647).2 : Nat) : Int), .int .i64 0, .string ⟨#[]⟩, .slice none 0 0, .slice none 0 0] 34 (0, 0))) := hid (blk_set (i := 3) HKR13.out (.int .i64 0))
   have HKL14 := hid ((blk_far (g := w.heap.size + 1) (g' := w.heap.size) (i := 3) (by omega) (.int .i64 0)).trans HKL13.out)
   have HR14 := hid (HR13.out.setFar (p := w.heap.size) (i := 3) (by omega) (.int .i64 0))
   have HO14 := hid (HO13.out.setNew (p := w.heap.size) (i := 3) (by omega) (.int .i64 0))
   have hz14 : w.heap.size + 1 < (w13.setCell ⟨w.heap.size, 3, none⟩ (.int .i64 0)).heap.size := by rw [size_set]; exact hz13
   have HA_14 := hid (ArrQ.keep HA_13.out (fun _ _ _ h => h.keep (Keep.setFar (p := w.heap.size) (i := 3) (fun b hb => by omega) (.int .i64 0))) (Keep.setFar (p := w.heap.size) (i := 3) (fun b hb => by omega) (.int .i64 0)))
   generalize w13.setCell ⟨w.heap.size, 3, none⟩ (.int .i64 0) = w14 at HKR14 HKL14 HR14 HO14 hz14 HA_14 ⊢
   have HKR15 : Hid (_ = some (Obj.cells #[.int .i64 K, .string (bstr ((rd.num 3).1.txt 12).2), .int .i64 (((((rd.num 3).1.txt 12).1.num 2147483647).2 : Nat) : Int), .int .i64 0, .string ⟨#[]⟩, .slice none 0 0, .slice none 0 0] 34 (0, 0))) := hid (blk_set (i := 4) HKR14.out (.string ⟨#[]⟩))
   have HKL15 := hid ((blk_far (g := w.heap.size + 1) (g' := w.heap.size) (i := 4) (by omega) (.string ⟨#[]⟩)).trans HKL14.out)
   have HR15 := hid (HR14.out.setFar (p := w.heap.size) (i := 4) (by omega) (.string ⟨#[]⟩))
   have HO15 := hid (HO14.out.setNew (p := w.heap.size) (i := 4) (by omega) (.string ⟨#[]⟩))
   have hz15 : w.heap.size + 1 < (w14.setCell ⟨w.heap.size, 4, none⟩ (.string ⟨#[]⟩)).heap.size := by rw [size_set]; exact hz14
   have HA_15 := hid (ArrQ.keep HA_14.out (fun _ _ _ h => h.keep (Keep.setFar (p := w.heap.size) (i := 4) (fun b hb => by omega) (.string ⟨#[]⟩))) (Keep.setFar (p := w.heap.size) (i := 4) (fun b hb => by omega) (.string ⟨#[]⟩)))
   generalize w14.setCell ⟨w.heap.size, 4, none⟩ (.string ⟨#[]⟩) = w15 at HKR15 HKL15 HR15 HO15 hz15 HA_15 ⊢
   have HKR16 : Hid (_ = some (Obj.cells #[.int .i64 K, .string (bstr ((rd.num 3).1.txt 12).2), .int .i64 (((((rd.num 3).1.txt 12).1.num 2147483647).2 : Nat) : Int), .int .i64 0, .string ⟨#[]⟩, .slice A n c, .slice none 0 0] 34 (0, 0))) := hid (blk_set (i := 5) HKR15.out (.slice A n c))
   have HKL16 := hid ((blk_far (g := w.heap.size + 1) (g' := w.heap.size) (i := 5) (by omega) (.slice A n c)).trans HKL15.out)
   have HR16 := hid (HR15.out.setFar (p := w.heap.size) (i := 5) (by omega) (.slice A n c))
   have HO16 := hid (HO15.out.setNew (p := w.heap.size) (i := 5) (by omega) (.slice A n c))
   have hz16 : w.heap.size + 1 < (w15.setCell ⟨w.heap.size, 5, none⟩ (.slice A n c)).heap.size := by rw [size_set]; exact hz15
   have HA_16 := hid (ArrQ.keep HA_15.out (fun _ _ _ h => h.keep (Keep.setFar (p := w.heap.size) (i := 5) (fun b hb => by omega) (.slice A n c))) (Keep.setFar (p := w.heap.size) (i := 5) (fun b hb => by omega) (.slice A n c)))
   generalize w15.setCell ⟨w.heap.size, 5, none⟩ (.slice A n c) = w16 at HKR16 HKL16 HR16 HO16 hz16 HA_16 ⊢
   have HKR17 : Hid (_ = some (Obj.cells #[.int .i64 K, .string (bstr ((rd.num 3).1.txt 12).2), .int .i64 (((((rd.num 3).1.txt 12).1.num 2147483647).2 : Nat) : Int), .int .i64 0, .string ⟨#[]⟩, .slice A n c, .slice none 0 0] 34 (0, 0))) := hid (blk_set (i := 6) HKR16.out (.slice none 0 0))
   have HKL17 := hid ((blk_far (g := w.heap.size + 1) (g' := w.heap.size) (i := 6) (by omega) (.slice none 0 0)).trans HKL16.out)
   have HR17 := hid (HR16.out.setFar (p := w.heap.size) (i := 6) (by omega) (.slice none 0 0))
   have HO17 := hid (HO16.out.setNew (p := w.heap.size) (i := 6) (by omega) (.slice none 0 0))
   have hz17 : w.heap.size + 1 < (w16.setCell ⟨w.heap.size, 6, none⟩ (.slice none 0 0)).heap.size := by rw [size_set]; exact hz16
   have HA_17 := hid (ArrQ.keep HA_16.out (fun _ _ _ h => h.keep (Keep.setFar (p := w.heap.size) (i := 6) (fun b hb => by omega) (.slice none 0 0))) (Keep.setFar (p := w.heap.size) (i := 6) (fun b hb => by omega) (.slice none 0 0)))
   generalize w16.setCell ⟨w.heap.size, 6, none⟩ (.slice none 0 0) = w17 at HKR17 HKL17 HR17 HO17 hz17 HA_17 ⊢
   obtain ⟨z0, -⟩ := blk_rules HKR17.out
   rw [HT1.out, HZ1.out, HE1.out, HE2.out]
   exact bodyPost_ret (v := .agg #[.int .i64 K, .string (bstr ((rd.num 3).1.txt 12).2), .int .i64 (((((rd.num 3).1.txt 12).1.num 2147483647).2 : Nat) : Int), .int .i64 0, .string ⟨#[]⟩, .slice A n c, .slice none 0 0]) (by simp [results, Tryz.results12, go_sem, z0]) rfl
    ⟨A, n, c, none, 0, 0, rfl, ⟨Rd.txt_max _ _, nil_max, hsl, SlW.nil_, ArrQ.weak HA_17.out (fun _ _ h => h.weak (fun b _ hb => by omega)) (fun b _ hb => by omega), ArrQ.nil_⟩, HR17.out, HO17.out⟩
 ·have b0 : (K == 0) = false := by rw [HKK.out, hk]; rfl
  have b1 : (K == 1) = false := by rw [HKK.out, hk]; rfl
  have b2 : (K == 2) = true := by rw [HKK.out, hk]; rfl
  have HE1 : Hid ((takeR0 rd).1 = ((((rd.num 3).1.txt 12).1.num 2147483647).1.txt 12).1) := hid (by show (takeBody (rd.num 3).2 _ _ _).1 = _; unfold takeBody; rw [if_neg (by omega), if_neg (by omega), if_pos hk]; rfl)
  have HE2 : Hid ((takeR0 rd).2 = ⟨K, mkS ((rd.num 3).1.txt 12).2, (((((rd.num 3).1.txt 12).1.num 2147483647).2 : Nat) : Int), 0, mkS ((((rd.num 3).1.txt 12).1.num 2147483647).1.txt 12).2, [], []⟩) := hid (by rw [HKK.out]; show (takeBody (rd.num 3).2 _ _ _).2 = _; unfold takeBody; rw [if_neg (by omega), if_neg (by omega), if_pos hk]; rfl)
  clear hk
  obtain ⟨qL0, qL1⟩ := blk_rules HKL5.out
  go_wp2_with fail
  clear qL0 qL1
  have HKR6 := hid ((blk_far (g := w.heap.size) (g' := w.heap.size + 1) (i := 2) (by omega) (.int .i64 (((((rd.num 3).1.txt 12).1.num 2147483647).2 : Nat) : Int))).trans HKR5.out)
  have HKL6 : Hid (_ = some (Obj.cells #[.int .i64 K, .string (bstr ((rd.num 3).1.txt 12).2), .int .i64 (((((rd.num 3).1.txt 12).1.num 2147483647).2 : Nat) : Int), .int .i64 0, .string ⟨#[]⟩, .slice none 0 0, .slice none 0 0] 34 (0, 0))) := hid (blk_set (i := 2) HKL5.out (.int .i64 (((((rd.num 3).1.txt 12).1.num 2147483647).2 : Nat) : Int)))
  have HR6 := hid (HR5.out.setFar (p := w.heap.size + 1) (i := 2) (by omega) (.int .i64 (((((rd.num 3).1.txt 12).1.num 2147483647).2 : Nat) : Int)))
  have HO6 := hid (HO5.out.setNew (p := w.heap.size + 1) (i := 2) (by omega) (.int .i64 (((((rd.num 3).1.txt 12).1.num 2147483647).2 : Nat) : Int)))
  have hz6 : w.heap.size + 1 < (w5.setCell ⟨w.heap.size + 1, 2, none⟩ (.int .i64 (((((rd.num 3).1.txt 12).1.num 2147483647).2 : Nat) : Int))).heap.size := by rw [size_set]; exact hz5
  generalize w5.setCell ⟨w.heap.size + 1, 2, none⟩ (.int .i64 (((((rd.num 3).1.txt 12).1.num 2147483647).2 : Nat) : Int)) = w6 at HKR6 HKL6 HR6 HO6 hz6 ⊢
  refine (txt_any g _ 12 _ HR6.out).mono ?_
  rintro e w7 ⟨rfl, hr7, ho7⟩
  have HR7 := hid hr7
  have HKR7 := hid ((ho7.blk (b := w.heap.size) (by omega) (by omega)).trans HKR6.out)
  have HKL7 := hid ((ho7.blk (b := w.heap.size + 1) (by omega) (by omega)).trans HKL6.out)
  have HO7 := hid (HO6.out.trans ho7)
  have hz7 : w.heap.size + 1 < w7.heap.size := Nat.lt_of_lt_of_le hz6 ho7.size
  clear hr7 ho7
  obtain ⟨qL0, qL1⟩ := blk_rules HKL7.out
  go_wp2_with fail
  clear qL0 qL1
  have HKR8 := hid ((blk_far (g := w.heap.size) (g' := w.heap.size + 1) (i := 4) (by omega) (.string (bstr ((((rd.num 3).1.txt 12).1.num 2147483647).1.txt 12).2))).trans HKR7.out)
  have HKL8 : Hid (_ = some (Obj.cells #[.int .i64 K, .string (bstr ((rd.num 3).1.txt 12).2), .int .i64 (((((rd.num 3).1.txt 12).1.num 2147483647).2 : Nat) : Int), .int .i64 0, .string (bstr ((((rd.num 3).1.txt 12).1.num 2147483647).1.txt 12).2), .slice none 0 0, .slice none 0 0] 34 (0, 0))) := hid (blk_set (i := 4) HKL7.out (.string (bstr ((((rd.num 3).1.txt 12).1.num 2147483647).1.txt 12).2)))
  have HR8 := hid (HR7.out.setFar (p := w.heap.size + 1) (i := 4) (by omega) (.string (bstr ((((rd.num 3).1.txt 12).1.num 2147483647).1.txt 12).2)))
  have HO8 := hid (HO7.out.setNew (p := w.heap.size + 1) (i := 4) (by omega) (.string (bstr ((((rd.num 3).1.txt 12).1.num 2147483647).1.txt 12).2)))
  have hz8 : w.heap.size + 1 < (w7.setCell ⟨w.heap.size + 1, 4, none⟩ (.string (bstr ((((rd.num 3).1.txt 12).1.num 2147483647).1.txt 12).2))).heap.size := by rw [size_set]; exact hz7
  generalize w7.setCell ⟨w.heap.size + 1, 4, none⟩ (.string (bstr ((((rd.num 3).1.txt 12).1.num 2147483647).1.txt 12).2)) = w8 at HKR8 HKL8 HR8 HO8 hz8 ⊢
  obtain ⟨qL0, qL1⟩ := blk_rules HKL8.out
  go_wp2_with fail
  refine (resSane_any (fun _ => True) ⟨K, mkS ((rd.num 3).1.txt 12).2, (((((rd.num 3).1.txt 12).1.num 2147483647).2 : Nat) : Int), 0, mkS ((((rd.num 3).1.txt 12).1.num 2147483647).1.txt 12).2, [], []⟩ none none 0 0 0 0 _ ⟨Rd.txt_max _ _, Rd.txt_max _ _, SlW.nil_, SlW.nil_, ArrQ.nil_, ArrQ.nil_⟩).mono ?_
  rintro e w9 ⟨rfl, hb9⟩
  have HR9 := hid (HR8.out.up hb9)
  have HKR9 : Hid (w9.heap[w.heap.size]? = some (.cells #[.int .i64 0, .string ⟨#[]⟩, .int .i64 0, .int .i64 0, .string ⟨#[]⟩, .slice none 0 0, .slice none 0 0] 34 (0, 0))) := hid ((hb9.block (b := w.heap.size) (by omega)).trans HKR8.out)
  have HKL9 : Hid (w9.heap[w.heap.size + 1]? = some (.cells #[.int .i64 K, .string (bstr ((rd.num 3).1.txt 12).2), .int .i64 (((((rd.num 3).1.txt 12).1.num 2147483647).2 : Nat) : Int), .int .i64 0, .string (bstr ((((rd.num 3).1.txt 12).1.num 2147483647).1.txt 12).2), .slice none 0 0, .slice none 0 0] 34 (0, 0))) := hid ((hb9.block (b := w.heap.size + 1) (by omega)).trans HKL8.out)
  have HO9 := hid (HO8.out.trans (Only.of_ext hb9))
  have hz9 : w.heap.size + 1 < w9.heap.size := Nat.lt_of_lt_of_le hz8 hb9.size
  clear hb9
  clear qL0 qL1
  go_wp2_with fail
  refine (recFail_any g _ _ _ HR9.out).mono ?_
  rintro e w10 ⟨rfl, hr10, ho10⟩
  have HR10 := hid hr10
  have HKR10 := hid ((ho10.blk (b := w.heap.size) (by omega) (by omega)).trans HKR9.out)
  have HKL10 := hid ((ho10.blk (b := w.heap.size + 1) (by omega) (by omega)).trans HKL9.out)
  have HO10 := hid (HO9.out.trans ho10)
  have hz10 : w.heap.size + 1 < w10.heap.size := Nat.lt_of_lt_of_le hz9 ho10.size
  clear hr10 ho10
  rw [← HE1.out, ← HE2.out]
  cases hf : decide ((failE (takeR0 rd).1 (saneR (takeR0 rd).2)).e ≠ 0) with
  | true =>
   have hf2 := of_decide_eq_true hf
   have HZ1 : Hid ((takeR rd).2 = rs0) := hid (by rw [HT2.out, if_pos hf2])
   clear hf hf2
   obtain ⟨qR0, qR1⟩ := blk_rules HKR10.out
   go_wp2_with fail
   clear qR0 qR1
   have HKR11 : Hid (_ = some (Obj.cells #[.int .i64 0, .string ⟨#[]⟩, .int .i64 0, .int .i64 0, .string ⟨#[]⟩, .slice none 0 0, .slice none 0 0] 34 (0, 0))) := hid (blk_set (i := 0) HKR10.out (.int .i64 0))
   have HKL11 := hid ((blk_far (g := w.heap.size + 1) (g' := w.heap.size) (i := 0) (by omega) (.int .i64 0)).trans HKL10.out)
   have HR11 := hid (HR10.out.setFar (p := w.heap.size) (i := 0) (by omega) (.int .i64 0))
   have HO11 := hid (HO10.out.setNew (p := w.heap.size) (i := 0) (by omega) (.int .i64 0))
   have hz11 : w.heap.size + 1 < (w10.setCell ⟨w.heap.size, 0, none⟩ (.int .i64 0)).heap.size := by rw [size_set]; exact hz10
   generalize w10.setCell ⟨w.heap.size, 0, none⟩ (.int .i64 0) = w11 at HKR11 HKL11 HR11 HO11 hz11 ⊢
   have HKR12 : Hid (_ = some (Obj.cells #[.int .i64 0, .string ⟨#[]⟩, .int .i64 0, .int .i64 0, .string ⟨#[]⟩, .slice none 0 0, .slice none 0 0] 34 (0, 0))) := hid (blk_set (i := 1) HKR11.out (.string ⟨#[]⟩))
   have HKL12 := hid ((blk_far (g := w.heap.size + 1) (g' := w.heap.size) (i := 1) (by omega) (.string ⟨#[]⟩)).trans HKL11.out)
   have HR12 := hid (HR11.out.setFar (p := w.heap.size) (i := 1) (by omega) (.string ⟨#[]⟩))
   have HO12 := hid (HO11.out.setNew (p := w.heap.size) (i := 1) (by omega) (.string ⟨#[]⟩))
   have hz12 : w.heap.size + 1 < (w11.setCell ⟨w.heap.size, 1, none⟩ (.string ⟨#[]⟩)).heap.size := by rw [size_set]; exact hz11
   generalize w11.setCell ⟨w.heap.size, 1, none⟩ (.string ⟨#[]⟩) = w12 at HKR12 HKL12 HR12 HO12 hz12 ⊢
   have HKR13 : Hid (_ = some (Obj.cells #[.int .i64 0, .string ⟨#[]⟩, .int .i64 0, .int .i64 0, .string ⟨#[]⟩, .slice none 0 0, .slice none 0 0] 34 (0, 0))) := hid (blk_set (i := 2) HKR12.out (.int .i64 0))
   have HKL13 := hid ((blk_far (g := w.heap.size + 1) (g' := w.heap.size) (i := 2) (by omega) (.int .i64 0)).trans HKL12.out)
   have HR13 := hid (HR12.out.setFar (p := w.heap.size) (i := 2) (by omega) (.int .i64 0))
   have HO13 := hid (HO12.out.setNew (p := w.heap.size) (i := 2) (by omega) (.int .i64 0))
   have hz13 : w.heap.size + 1 < (w12.setCell ⟨w.heap.size, 2, none⟩ (.int .i64 0)).heap.size := by rw [size_set]; exact hz12
   generalize w12.setCell ⟨w.heap.size, 2, none⟩ (.int .i64 0) = w13 at HKR13 HKL13 HR13 HO13 hz13 ⊢
   have HKR14 : Hid (_ = some (Obj.cells #[.int .i64 0, .string ⟨#[]⟩, .int .i64 0, .int .i64 0, .string ⟨#[]⟩, .slice none 0 0, .slice none 0 0] 34 (0, 0))) := hid (blk_set (i := 3) HKR13.out (.int .i64 0))
   have HKL14 := hid ((blk_far (g := w.heap.size + 1) (g' := w.heap.size) (i := 3) (by omega) (.int .i64 0)).trans HKL13.out)
   have HR14 := hid (HR13.out.setFar (p := w.heap.size) (i := 3) (by omega) (.int .i64 0))
   have HO14 := hid (HO13.out.setNew (p := w.heap.size) (i := 3) (by omega) (.int .i64 0))
   have hz14 : w.heap.size + 1 < (w13.setCell ⟨w.heap.size, 3, none⟩ (.int .i64 0)).heap.size := by rw [size_set]; exact hz13
   generalize w13.setCell ⟨w.heap.size, 3, none⟩ (.int .i64 0) = w14 at HKR14 HKL14 HR14 HO14 hz14 ⊢
   have HKR15 : Hid (_ = some (Obj.cells #[.int .i64 0, .string ⟨#[]⟩, .int .i64 0, .int .i64 0, .string ⟨#[]⟩, .slice none 0 0, .slice none 0 0] 34 (0, 0))) := hid (blk_set (i := 4) HKR14.out (.string ⟨#[]⟩))
   have HKL15 := hid ((blk_far (g := w.heap.size + 1) (g' := w.heap.size) (i := 4) (by omega) (.string ⟨#[]⟩)).trans HKL14.out)
   have HR15 := hid (HR14.out.setFar (p := w.heap.size) (i := 4) (by omega) (.string ⟨#[]⟩))
   have HO15 := hid (HO14.out.setNew (p := w.heap.size) (i := 4) (by omega) (.string ⟨#[]⟩))
   have hz15 : w.heap.size + 1 < (w14.setCell ⟨w.heap.size, 4, none⟩ (.string ⟨#[]⟩)).heap.size := by rw [size_set]; exact hz14
   generalize w14.setCell ⟨w.heap.size, 4, none⟩ (.string ⟨#[]⟩) = w15 at HKR15 HKL15 HR15 HO15 hz15 ⊢
   have HKR16 : Hid (_ = some (Obj.cells #[.int .i64 0, .string ⟨#[]⟩, .int .i64 0, .int .i64 0, .string ⟨#[]⟩, .slice none 0 0, .slice none 0 0] 34 (0, 0))) := hid (blk_set (i := 5) HKR15.out (.slice none 0 0))
   have HKL16 := hid ((blk_far (g := w.heap.size + 1) (g' := w.heap.size) (i := 5) (by omega) (.slice none 0 0)).trans HKL15.out)
   have HR16 := hid (HR15.out.setFar (p := w.heap.size) (i := 5) (by omega) (.slice none 0 0))
   have HO16 := hid (HO15.out.setNew (p := w.heap.size) (i := 5) (by omega) (.slice none 0 0))
   have hz16 : w.heap.size + 1 < (w15.setCell ⟨w.heap.size, 5, none⟩ (.slice none 0 0)).heap.size := by rw [size_set]; exact hz15
   generalize w15.setCell ⟨w.heap.size, 5, none⟩ (.slice none 0 0) = w16 at HKR16 HKL16 HR16 HO16 hz16 ⊢
   have HKR17 : Hid (_ = some (Obj.cells #[.int .i64 0, .string ⟨#[]⟩, .int .i64 0, .int .i64 0, .string ⟨#[]⟩, .slice none 0 0, .slice none 0 0] 34 (0, 0))) := hid (blk_set (i := 6) HKR16.out (.slice none 0 0))
   have HKL17 := hid ((blk_far (g := w.heap.size + 1) (g' := w.heap.size) (i := 6) (by omega) (.slice none 0 0)).trans HKL16.out)
   have HR17 := hid (HR16.out.setFar (p := w.heap.size) (i := 6) (by omega) (.slice none 0 0))
   have HO17 := hid (HO16.out.setNew (p := w.heap.size) (i := 6) (by omega) (.slice none 0 0))
   have hz17 : w.heap.size + 1 < (w16.setCell ⟨w.heap.size, 6, none⟩ (.slice none 0 0)).heap.size := by rw [size_set]; exact hz16
   generalize w16.setCell ⟨w.heap.size, 6, none⟩ (.slice none 0 0) = w17 at HKR17 HKL17 HR17 HO17 hz17 ⊢
   obtain ⟨z0, -⟩ := blk_rules HKR17.out
   rw [HT1.out, HZ1.out, HE1.out, HE2.out]
   exact bodyPost_ret (v := .agg #[.int .i64 0, .string ⟨#[]⟩, .int .i64 0, .int .i64 0, .string ⟨#[]⟩, .slice none 0 0, .slice none 0 0]) (by simp [results, Tryz.results12, go_sem, z0]) rfl
    ⟨none, 0, 0, none, 0, 0, rfl, rs0_V _ _, HR17.out, HO17.out⟩
  | false =>
   have hf2 := of_decide_eq_false hf
   have HZ1 : Hid ((takeR rd).2 = ⟨K, mkS ((rd.num 3).1.txt 12).2, (((((rd.num 3).1.txt 12).1.num 2147483647).2 : Nat) : Int), 0, mkS ((((rd.num 3).1.txt 12).1.num 2147483647).1.txt 12).2, [], []⟩) := hid (by rw [HT2.out, if_neg hf2, HE2.out])
   clear hf hf2
   obtain ⟨qR0, qR1⟩ := blk_rules HKR10.out
   obtain ⟨qL0, qL1⟩ := blk_rules HKL10.out
   go_wp2_with fail
   clear qR0 qR1 qL0 qL1
   have HKR11 : Hid (_ = some (Obj.cells #[.int .i64 K, .string ⟨#[]⟩, .int .i64 0, .int .i64 0, .string ⟨#[]⟩, .slice none 0 0, .slice none 0 0] 34 (0, 0))) := hid (blk_set (i := 0) HKR10.out (.int .i64 K))
   have HKL11 := hid ((blk_far (g := w.heap.size + 1) (g' := w.heap.size) (i := 0) (by omega) (.int .i64 K)).trans HKL10.out)
   have HR11 := hid (HR10.out.setFar (p := w.heap.size) (i := 0) (by omega) (.int .i64 K))
   have HO11 := hid (HO10.out.setNew (p := w.heap.size) (i := 0) (by omega) (.int .i64 K))
   have hz11 : w.heap.size + 1 < (w10.setCell ⟨w.heap.size, 0, none⟩ (.int .i64 K)).heap.size := by rw [size_set]; exact hz10
   generalize w10.setCell ⟨w.heap.size, 0, none⟩ (.int .i64 K) = w11 at HKR11 HKL11 HR11 HO11 hz11 ⊢
   have HKR12 : Hid (_ = some (Obj.cells #[.int .i64 K, .string (bstr ((rd.num 3).1.txt 12).2), .int .i64 0, .int .i64 0, .string ⟨#[]⟩, .slice none 0 0, .slice none 0 0] 34 (0, 0))) := hid (blk_set (i := 1) HKR11.out (.string (bstr ((rd.num 3).1.txt 12).2)))
   have HKL12 := hid ((blk_far (g := w.heap.size + 1) (g' := w.heap.size) (i := 1) (by omega) (.string (bstr ((rd.num 3).1.txt 12).2))).trans HKL11.out)
   have HR12 := hid (HR11.out.setFar (p := w.heap.size) (i := 1) (by omega) (.string (bstr ((rd.num 3).1.txt 12).2)))
   have HO12 := hid (HO11.out.setNew (p := w.heap.size) (i := 1) (by omega) (.string (bstr ((rd.num 3).1.txt 12).2)))
   have hz12 : w.heap.size + 1 < (w11.setCell ⟨w.heap.size, 1, none⟩ (.string (bstr ((rd.num 3).1.txt 12).2))).heap.size := by rw [size_set]; exact hz11
   generalize w11.setCell ⟨w.heap.size, 1, none⟩ (.string (bstr ((rd.num 3).1.txt 12).2)) = w12 at HKR12 HKL12 HR12 HO12 hz12 ⊢
   have HKR13 : Hid (_ = some (Obj.cells #[.int .i64 K, .string (bstr ((rd.num 3).1.txt 12).2), .int .i64 (((((rd.num 3).1.txt 12).1.num 2147483647).2 : Nat) : Int), .int .i64 0, .string ⟨#[]⟩, .slice none 0 0, .slice none 0 0] 34 (0, 0))) := hid (blk_set (i := 2) HKR12.out (.int .i64 (((((rd.num 3).1.txt 12).1.num 2147483647).2 : Nat) : Int)))
   have HKL13 := hid ((blk_far (g := w.heap.size + 1) (g' := w.heap.size) (i := 2) (by omega) (.int .i64 (((((rd.num 3).1.txt 12).1.num 2147483647).2 : Nat) : Int))).trans HKL12.out)
   have HR13 := hid (HR12.out.setFar (p := w.heap.size) (i := 2) (by omega) (.int .i64 (((((rd.num 3).1.txt 12).1.num 2147483647).2 : Nat) : Int)))
   have HO13 := hid (HO12.out.setNew (p := w.heap.size) (i := 2) (by omega) (.int .i64 (((((rd.num 3).1.txt 12).1.num 2147483647).2 : Nat) : Int)))
   have hz13 : w.heap.size + 1 < (w12.setCell ⟨w.heap.size, 2, none⟩ (.int .i64 (((((rd.num 3).1.txt 12).1.num 2147483647).2 : Nat) : Int))).heap.size := by rw [size_set]; exact hz12
   generalize w12.setCell ⟨w.heap.size, 2, none⟩ (.int .i64 (((((rd.num 3).1.txt 12).1.num 2147483647).2 : Nat) : Int)) = w13 at HKR13 HKL13 HR13 HO13 hz13 ⊢
   have HKR14 : Hid (_ = some (Obj.cells #[.int .i64 K, .string (bstr ((rd.num 3).1.txt 12).2), .int .i64 (((((rd.num 3).1.txt 12).1.num 2147483647).2 : Nat) : Int), .int .i64 0, .string ⟨#[]⟩, .slice none 0 0, .slice none 0 0] 34 (0, 0))) := hid (blk_set (i := 3) HKR13.out (.int .i64 0))
   have HKL14 := hid ((blk_far (g := w.heap.size + 1) (g' := w.heap.size) (i := 3) (by omega) (.int .i64 0)).trans HKL13.out)
   have HR14 := hid (HR13.out.setFar (p := w.heap.size) (i := 3) (by omega) (.int .i64 0))
   have HO14 := hid (HO13.out.setNew (p := w.heap.size) (i := 3) (by omega) (.int .i64 0))
   have hz14 : w.heap.size + 1 < (w13.setCell ⟨w.heap.size, 3, none⟩ (.int .i64 0)).heap.size := by rw [size_set]; exact hz13
   generalize w13.setCell ⟨w.heap.size, 3, none⟩ (.int .i64 0) = w14 at HKR14 HKL14 HR14 HO14 hz14 ⊢
   have HKR15 : Hid (_ = some (Obj.cells #[.int .i64 K, .string (bstr ((rd.num 3).1.txt 12).2), .int .i64 (((((rd.num 3).1.txt 12).1.num 2147483647).2 : Nat) : Int), .int .i64 0, .string (bstr ((((rd.num 3).1.txt 12).1.num 2147483647).1.txt 12).2), .slice none 0 0, .slice none 0 0] 34 (0, 0))) := hid (blk_set (i := 4) HKR14.out (.string (bstr ((((rd.num 3).1.txt 12).1.num 2147483647).1.txt 12).2)))
   have HKL15 := hid ((blk_far (g := w.heap.size + 1) (g' := w.heap.size) (i := 4) (by omega) (.string (bstr ((((rd.num 3).1.txt 12).1.num 2147483647).1.txt 12).2))).trans HKL14.out)
   have HR15 := hid (HR14.out.setFar (p := w.heap.size) (i := 4) (by omega) (.string (bstr ((((rd.num 3).1.txt 12).1.num 2147483647).1.txt 12).2)))
   have HO15 := hid (HO14.out.setNew (p := w.heap.size) (i := 4) (by omega) (.string (bstr ((((rd.num 3).1.txt 12).1.num 2147483647).1.txt 12).2)))
   have hz15 : w.heap.size + 1 < (w14.setCell ⟨w.heap.size, 4, none⟩ (.string (bstr ((((rd.num 3).1.txt 12).1.num 2147483647).1.txt 12).2))).heap.size := by rw [size_set]; exact hz14
   generalize w14.setCell ⟨w.heap.size, 4, none⟩ (.string (bstr ((((rd.num 3).1.txt 12).1.num 2147483647).1.txt 12).2)) = w15 at HKR15 HKL15 HR15 HO15 hz15 ⊢
   have HKR16 : Hid (_ = some (Obj.cells #[.int .i64 K, .string (bstr ((rd.num 3).1.txt 12).2), .int .i64 (((((rd.num 3).1.txt 12).1.num 2147483647).2 : Nat) : Int), .int .i64 0, .string (bstr ((((rd.num 3).1.txt 12).1.num 2147483647).1.txt 12).2), .slice none 0 0, .slice none 0 0] 34 (0, 0))) := hid (blk_set (i := 5) HKR15.out (.slice none 0 0))
   have HKL16 := hid ((blk_far (g := w.heap.size + 1) (g' := w.heap.size) (i := 5) (by omega) (.slice none 0 0)).trans HKL15.out)
   have HR16 := hid (HR15.out.setFar (p := w.heap.size) (i := 5) (by omega) (.slice none 0 0))
   have HO16 := hid (HO15.out.setNew (p := w.heap.size) (i := 5) (by omega) (.slice none 0 0))
   have hz16 : w.heap.size + 1 < (w15.setCell ⟨w.heap.size, 5, none⟩ (.slice none 0 0)).heap.size := by rw [size_set]; exact hz15
   generalize w15.setCell ⟨w.heap.size, 5, none⟩ (.slice none 0 0) = w16 at HKR16 HKL16 HR16 HO16 hz16 ⊢
   have HKR17 : Hid (_ = some (Obj.cells #[.int .i64 K, .string (bstr ((rd.num 3).1.txt 12).2), .int .i64 (((((rd.num 3).1.txt 12).1.num 2147483647).2 : Nat) : Int), .int .i64 0, .string (bstr ((((rd.num 3).1.txt 12).1.num 2147483647).1.txt 12).2), .slice none 0 0, .slice none 0 0] 34 (0, 0))) := hid (blk_set (i := 6) HKR16.out (.slice none 0 0))
   have HKL17 := hid ((blk_far (g := w.heap.size + 1) (g' := w.heap.size) (i := 6) (by omega) (.slice none 0 0)).trans HKL16.out)
   have HR17 := hid (HR16.out.setFar (p := w.heap.size) (i := 6) (by omega) (.slice none 0 0))
   have HO17 := hid (HO16.out.setNew (p := w.heap.size) (i := 6) (by omega) (.slice none 0 0))
   have hz17 : w.heap.size + 1 < (w16.setCell ⟨w.heap.size, 6, none⟩ (.slice none 0 0)).heap.size := by rw [size_set]; exact hz16
   generalize w16.setCell ⟨w.heap.size, 6, none⟩ (.slice none 0 0) = w17 at HKR17 HKL17 HR17 HO17 hz17 ⊢
   obtain ⟨z0, -⟩ := blk_rules HKR17.out
   rw [HT1.out, HZ1.out, HE1.out, HE2.out]
   exact bodyPost_ret (v := .agg #[.int .i64 K, .string (bstr ((rd.num 3).1.txt 12).2), .int .i64 (((((rd.num 3).1.txt 12).1.num 2147483647).2 : Nat) : Int), .int .i64 0, .string (bstr ((((rd.num 3).1.txt 12).1.num 2147483647).1.txt 12).2), .slice none 0 0, .slice none 0 0]) (by simp [results, Tryz.results12, go_sem, z0]) rfl
    ⟨none, 0, 0, none, 0, 0, rfl, ⟨Rd.txt_max _ _, Rd.txt_max _ _, SlW.nil_, SlW.nil_, ArrQ.nil_, ArrQ.nil_⟩, HR17.out, HO17.out⟩
 ·have b0 : (K == 0) = false := by rw [HKK.out, hk]; rfl
  have b1 : (K == 1) = false := by rw [HKK.out, hk]; rfl
  have b2 : (K == 2) = false := by rw [HKK.out, hk]; rfl
  have b3 : (K == 3) = true := by rw [HKK.out, hk]; rfl
  have HE1 : Hid ((takeR0 rd).1 = (someB takeH 8 (((rd.num 3).1.txt 12).1.num 2147483647).1).1) := hid (by show (takeBody (rd.num 3).2 _ _ _).1 = _; unfold takeBody; rw [if_neg (by omega), if_neg (by omega), if_neg (by omega)]; rfl)
  have HE2 : Hid ((takeR0 rd).2 = ⟨K, mkS ((rd.num 3).1.txt 12).2, (((((rd.num 3).1.txt 12).1.num 2147483647).2 : Nat) : Int), 0, ⟨#[]⟩, [], (someB takeH 8 (((rd.num 3).1.txt 12).1.num 2147483647).1).2⟩) := hid (by rw [HKK.out]; show (takeBody (rd.num 3).2 _ _ _).2 = _; unfold takeBody; rw [if_neg (by omega), if_neg (by omega), if_neg (by omega)]; rfl)
  clear hk
  obtain ⟨qL0, qL1⟩ := blk_rules HKL5.out
  go_wp2_with fail
  clear qL0 qL1
  have HKR6 := hid ((blk_far (g := w.heap.size) (g' := w.heap.size + 1) (i := 2) (by omega) (.int .i64 (((((rd.num 3).1.txt 12).1.num 2147483647).2 : Nat) : Int))).trans HKR5.out)
  have HKL6 : Hid (_ = some (Obj.cells #[.int .i64 K, .string (bstr ((rd.num 3).1.txt 12).2), .int .i64 (((((rd.num 3).1.txt 12).1.num 2147483647).2 : Nat) : Int), .int .i64 0, .string ⟨#[]⟩, .slice none 0 0, .slice none 0 0] 34 (0, 0))) := hid (blk_set (i := 2) HKL5.out (.int .i64 (((((rd.num 3).1.txt 12).1.num 2147483647).2 : Nat) : Int)))
  have HR6 := hid (HR5.out.setFar (p := w.heap.size + 1) (i := 2) (by omega) (.int .i64 (((((rd.num 3).1.txt 12).1.num 2147483647).2 : Nat) : Int)))
  have HO6 := hid (HO5.out.setNew (p := w.heap.size + 1) (i := 2) (by omega) (.int .i64 (((((rd.num 3).1.txt 12).1.num 2147483647).2 : Nat) : Int)))
  have hz6 : w.heap.size + 1 < (w5.setCell ⟨w.heap.size + 1, 2, none⟩ (.int .i64 (((((rd.num 3).1.txt 12).1.num 2147483647).2 : Nat) : Int))).heap.size := by rw [size_set]; exact hz5
  generalize w5.setCell ⟨w.heap.size + 1, 2, none⟩ (.int .i64 (((((rd.num 3).1.txt 12).1.num 2147483647).2 : Nat) : Int)) = w6 at HKR6 HKL6 HR6 HO6 hz6 ⊢
  refine (someH_any g _ _ takeH 8 _ _ HR6.out (takeHost_takes g)).mono ?_
  rintro e w7 ⟨A, n, c, rfl, hsl, harr, hr7, ho7⟩
  have HR7 := hid hr7
  have HKR7 := hid ((ho7.blk (b := w.heap.size) (by omega) (by omega)).trans HKR6.out)
  have HKL7 := hid ((ho7.blk (b := w.heap.size + 1) (by omega) (by omega)).trans HKL6.out)
  have HO7 := hid (HO6.out.trans ho7)
  have hz7 : w.heap.size + 1 < w7.heap.size := Nat.lt_of_lt_of_le hz6 ho7.size
  have HA_7 := hid harr
  clear harr
  clear hr7 ho7
  obtain ⟨qL0, qL1⟩ := blk_rules HKL7.out
  go_wp2_with fail
  clear qL0 qL1
  have HKR8 := hid ((blk_far (g := w.heap.size) (g' := w.heap.size + 1) (i := 6) (by omega) (.slice A n c)).trans HKR7.out)
  have HKL8 : Hid (_ = some (Obj.cells #[.int .i64 K, .string (bstr ((rd.num 3).1.txt 12).2), .int .i64 (((((rd.num 3).1.txt 12).1.num 2147483647).2 : Nat) : Int), .int .i64 0, .string ⟨#[]⟩, .slice none 0 0, .slice A n c] 34 (0, 0))) := hid (blk_set (i := 6) HKL7.out (.slice A n c))
  have HR8 := hid (HR7.out.setFar (p := w.heap.size + 1) (i := 6) (by omega) (.slice A n c))
  have HO8 := hid (HO7.out.setNew (p := w.heap.size + 1) (i := 6) (by omega) (.slice A n c))
  have hz8 : w.heap.size + 1 < (w7.setCell ⟨w.heap.size + 1, 6, none⟩ (.slice A n c)).heap.size := by rw [size_set]; exact hz7
  have HA_8 := hid (ArrQ.keep HA_7.out (fun _ _ _ h => h) (Keep.setFar (p := w.heap.size + 1) (i := 6) (fun b hb => by omega) (.slice A n c)))
  generalize w7.setCell ⟨w.heap.size + 1, 6, none⟩ (.slice A n c) = w8 at HKR8 HKL8 HR8 HO8 hz8 HA_8 ⊢
  obtain ⟨qL0, qL1⟩ := blk_rules HKL8.out
  go_wp2_with fail
  refine (resSane_any (fun b => w6.heap.size ≤ b) ⟨K, mkS ((rd.num 3).1.txt 12).2, (((((rd.num 3).1.txt 12).1.num 2147483647).2 : Nat) : Int), 0, ⟨#[]⟩, [], (someB takeH 8 (((rd.num 3).1.txt 12).1.num 2147483647).1).2⟩ none A 0 0 n c _ ⟨Rd.txt_max _ _, nil_max, SlW.nil_, hsl, ArrQ.nil_, HA_8.out⟩).mono ?_
  rintro e w9 ⟨rfl, hb9⟩
  have HR9 := hid (HR8.out.up hb9)
  have HKR9 : Hid (w9.heap[w.heap.size]? = some (.cells #[.int .i64 0, .string ⟨#[]⟩, .int .i64 0, .int .i64 0, .string ⟨#[]⟩, .slice none 0 0, .slice none 0 0] 34 (0, 0))) := hid ((hb9.block (b := w.heap.size) (by omega)).trans HKR8.out)
  have HKL9 : Hid (w9.heap[w.heap.size + 1]? = some (.cells #[.int .i64 K, .string (bstr ((rd.num 3).1.txt 12).2), .int .i64 (((((rd.num 3).1.txt 12).1.num 2147483647).2 : Nat) : Int), .int .i64 0, .string ⟨#[]⟩, .slice none 0 0, .slice A n c] 34 (0, 0))) := hid ((hb9.block (b := w.heap.size + 1) (by omega)).trans HKL8.out)
  have HO9 := hid (HO8.out.trans (Only.of_ext hb9))
  have hz9 : w.heap.size + 1 < w9.heap.size := Nat.lt_of_lt_of_le hz8 hb9.size
  have HA_9 := hid (ArrQ.keep HA_8.out (fun _ _ _ h => h) hb9.keep)
  clear hb9
  clear qL0 qL1
  go_wp2_with fail
  refine (recFail_any g _ _ _ HR9.out).mono ?_
  rintro e w10 ⟨rfl, hr10, ho10⟩
  have HR10 := hid hr10
  have HKR10 := hid ((ho10.blk (b := w.heap.size) (by omega) (by omega)).trans HKR9.out)
  have HKL10 := hid ((ho10.blk (b := w.heap.size + 1) (by omega) (by omega)).trans HKL9.out)
  have HO10 := hid (HO9.out.trans ho10)
  have hz10 : w.heap.size + 1 < w10.heap.size := Nat.lt_of_lt_of_le hz9 ho10.size
  have HA_10 := hid (ArrQ.keep HA_9.out (fun _ _ _ h => h) (Only.keepGe ho10 (by omega)))
  clear hr10 ho10
  rw [← HE1.out, ← HE2.out]
  cases hf : decide ((failE (takeR0 rd).1 (saneR (takeR0 rd).2)).e ≠ 0) with
  | true =>
   have hf2 := of_decide_eq_true hf
   have HZ1 : Hid ((takeR rd).2 = rs0) := hid (by rw [HT2.out, if_pos hf2])
   clear hf hf2
   obtain ⟨qR0, qR1⟩ := blk_rules HKR10.out
   go_wp2_with fail
   clear qR0 qR1
   have HKR11 : Hid (_ = some (Obj.cells #[.int .i64 0, .string ⟨#[]⟩, .int .i64 0, .int .i64 0, .string ⟨#[]⟩, .slice none 0 0, .slice none 0 0] 34 (0, 0))) := hid (blk_set (i := 0) HKR10.out (.int .i64 0))
   have HKL11 := hid ((blk_far (g := w.heap.size + 1) (g' := w.heap.size) (i := 0) (by omega) (.int .i64 0)).trans HKL10.out)
   have HR11 := hid (HR10.out.setFar (p := w.heap.size) (i := 0) (by omega) (.int .i64 0))
   have HO11 := hid (HO10.out.setNew (p := w.heap.size) (i := 0) (by omega) (.int .i64 0))
   have hz11 : w.heap.size + 1 < (w10.setCell ⟨w.heap.size, 0, none⟩ (.int .i64 0)).heap.size := by rw [size_set]; exact hz10
   generalize w10.setCell ⟨w.heap.size, 0, none⟩ (.int .i64 0) = w11 at HKR11 HKL11 HR11 HO11 hz11 ⊢
   have HKR12 : Hid (_ = some (Obj.cells #[.int .i64 0, .string ⟨#[]⟩, .int .i64 0, .int .i64 0, .string ⟨#[]⟩, .slice none 0 0, .slice none 0 0] 34 (0, 0))) := hid (blk_set (i := 1) HKR11.out (.string ⟨#[]⟩))
   have HKL12 := hid ((blk_far (g := w.heap.size + 1) (g' := w.heap.size) (i := 1) (by omega) (.string ⟨#[]⟩)).trans HKL11.out)
   have HR12 := hid (HR11.out.setFar (p := w.heap.size) (i := 1) (by omega) (.string ⟨#[]⟩))
   have HO12 := hid (HO11.out.setNew (p := w.heap.size) (i := 1) (by omega) (.string ⟨#[]⟩))
   have hz12 : w.heap.size + 1 < (w11.setCell ⟨w.heap.size, 1, none⟩ (.string ⟨#[]⟩)).heap.size := by rw [size_set]; exact hz11
   generalize w11.setCell ⟨w.heap.size, 1, none⟩ (.string ⟨#[]⟩) = w12 at HKR12 HKL12 HR12 HO12 hz12 ⊢
   have HKR13 : Hid (_ = some (Obj.cells #[.int .i64 0, .string ⟨#[]⟩, .int .i64 0, .int .i64 0, .string ⟨#[]⟩, .slice none 0 0, .slice none 0 0] 34 (0, 0))) := hid (blk_set (i := 2) HKR12.out (.int .i64 0))
   have HKL13 := hid ((blk_far (g := w.heap.size + 1) (g' := w.heap.size) (i := 2) (by omega) (.int .i64 0)).trans HKL12.out)
   have HR13 := hid (HR12.out.setFar (p := w.heap.size) (i := 2) (by omega) (.int .i64 0))
   have HO13 := hid (HO12.out.setNew (p := w.heap.size) (i := 2) (by omega) (.int .i64 0))
   have hz13 : w.heap.size + 1 < (w12.setCell ⟨w.heap.size, 2, none⟩ (.int .i64 0)).heap.size := by rw [size_set]; exact hz12
   generalize w12.setCell ⟨w.heap.size, 2, none⟩ (.int .i64 0) = w13 at HKR13 HKL13 HR13 HO13 hz13 ⊢
   have HKR14 : Hid (_ = some (Obj.cells #[.int .i64 0, .string ⟨#[]⟩, .int .i64 0, .int .i64 0, .string ⟨#[]⟩, .slice none 0 0, .slice none 0 0] 34 (0, 0))) := hid (blk_set (i := 3) HKR13.out (.int .i64 0))
   have HKL14 := hid ((blk_far (g := w.heap.size + 1) (g' := w.heap.size) (i := 3) (by omega) (.int .i64 0)).trans HKL13.out)
   have HR14 := hid (HR13.out.setFar (p := w.heap.size) (i := 3) (by omega) (.int .i64 0))
   have HO14 := hid (HO13.out.setNew (p := w.heap.size) (i := 3) (by omega) (.int .i64 0))
   have hz14 : w.heap.size + 1 < (w13.setCell ⟨w.heap.size, 3, none⟩ (.int .i64 0)).heap.size := by rw [size_set]; exact hz13
   generalize w13.setCell ⟨w.heap.size, 3, none⟩ (.int .i64 0) = w14 at HKR14 HKL14 HR14 HO14 hz14 ⊢
   have HKR15 : Hid (_ = some (Obj.cells #[.int .i64 0, .string ⟨#[]⟩, .int .i64 0, .int .i64 0, .string ⟨#[]⟩, .slice none 0 0, .slice none 0 0] 34 (0, 0))) := hid (blk_set (i := 4) HKR14.out (.string ⟨#[]⟩))
   have HKL15 := hid ((blk_far (g := w.heap.size + 1) (g' := w.heap.size) (i := 4) (by omega) (.string ⟨#[]⟩)).trans HKL14.out)
   have HR15 := hid (HR14.out.setFar (p := w.heap.size) (i := 4) (by omega) (.string ⟨#[]⟩))
   have HO15 := hid (HO14.out.setNew (p := w.heap.size) (i := 4) (by omega) (.string ⟨#[]⟩))
   have hz15 : w.heap.size + 1 < (w14.setCell ⟨w.heap.size, 4, none⟩ (.string ⟨#[]⟩)).heap.size := by rw [size_set]; exact hz14
   generalize w14.setCell ⟨w.heap.size, 4, none⟩ (.string ⟨#[]⟩) = w15 at HKR15 HKL15 HR15 HO15 hz15 ⊢
   have HKR16 : Hid (_ = some (Obj.cells #[.int .i64 0, .string ⟨#[]⟩, .int .i64 0, .int .i64 0, .string ⟨#[]⟩, .slice none 0 0, .slice none 0 0] 34 (0, 0))) := hid (blk_set (i := 5) HKR15.out (.slice none 0 0))
   have HKL16 := hid ((blk_far (g := w.heap.size + 1) (g' := w.heap.size) (i := 5) (by omega) (.slice none 0 0)).trans HKL15.out)
   have HR16 := hid (HR15.out.setFar (p := w.heap.size) (i := 5) (by omega) (.slice none 0 0))
   have HO16 := hid (HO15.out.setNew (p := w.heap.size) (i := 5) (by omega) (.slice none 0 0))
   have hz16 : w.heap.size + 1 < (w15.setCell ⟨w.heap.size, 5, none⟩ (.slice none 0 0)).heap.size := by rw [size_set]; exact hz15
   generalize w15.setCell ⟨w.heap.size, 5, none⟩ (.slice none 0 0) = w16 at HKR16 HKL16 HR16 HO16 hz16 ⊢
   have HKR17 : Hid (_ = some (Obj.cells #[.int .i64 0, .string ⟨#[]⟩, .int .i64 0, .int .i64 0, .string ⟨#[]⟩, .slice none 0 0, .slice none 0 0] 34 (0, 0))) := hid (blk_set (i := 6) HKR16.out (.slice none 0 0))
   have HKL17 := hid ((blk_far (g := w.heap.size + 1) (g' := w.heap.size) (i := 6) (by omega) (.slice none 0 0)).trans HKL16.out)
   have HR17 := hid (HR16.out.setFar (p := w.heap.size) (i := 6) (by omega) (.slice none 0 0))
   have HO17 := hid (HO16.out.setNew (p := w.heap.size) (i := 6) (by omega) (.slice none 0 0))
   have hz17 : w.heap.size + 1 < (w16.setCell ⟨w.heap.size, 6, none⟩ (.slice none 0 0)).heap.size := by rw [size_set]; exact hz16
   generalize w16.setCell ⟨w.heap.size, 6, none⟩ (.slice none 0 0) = w17 at HKR17 HKL17 HR17 HO17 hz17 ⊢
   obtain ⟨z0, -⟩ := blk_rules HKR17.out
   rw [HT1.out, HZ1.out, HE1.out, HE2.out]
   exact bodyPost_ret (v := .agg #[.int .i64 0, .string ⟨#[]⟩, .int .i64 0, .int .i64 0, .string ⟨#[]⟩, .slice none 0 0, .slice none 0 0]) (by simp [results, Tryz.results12, go_sem, z0]) rfl
    ⟨none, 0, 0, none, 0, 0, rfl, rs0_V _ _, HR17.out, HO17.out⟩
  | false =>
   have hf2 := of_decide_eq_false hf
   have HZ1 : Hid ((takeR rd).2 = ⟨K, mkS ((rd.num 3).1.txt 12).2, (((((rd.num 3).1.txt 12).1.num 2147483647).2 : Nat) : Int), 0, ⟨#[]⟩, [], (someB takeH 8 (((rd.num 3).1.txt 12).1.num 2147483647).1).2⟩) := hid (by rw [HT2.out, if_neg hf2, HE2.out])
   clear hf hf2
   obtain ⟨qR0, qR1⟩ := blk_rules HKR10.out
   obtain ⟨qL0, qL1⟩ := blk_rules HKL10.out
   go_wp2_with fail
   clear qR0 qR1 qL0 qL1
   have HKR11 : Hid (_ = some (Obj.cells #[.int .i64 K, .string ⟨#[]⟩, .int .i64 0, .int .i64 0, .string ⟨#[]⟩, .slice none 0 0, .slice none 0 0] 34 (0, 0))) := hid (blk_set (i := 0) HKR10.out (.int .i64 K))
   have HKL11 := hid ((blk_far (g := w.heap.size + 1) (g' := w.heap.size) (i := 0) (by omega) (.int .i64 K)).trans HKL10.out)
   have HR11 := hid (HR10.out.setFar (p := w.heap.size) (i := 0) (by omega) (.int .i64 K))
   have HO11 := hid (HO10.out.setNew (p := w.heap.size) (i := 0) (by omega) (.int .i64 K))
   have hz11 : w.heap.size + 1 < (w10.setCell ⟨w.heap.size, 0, none⟩ (.int .i64 K)).heap.size := by rw [size_set]; exact hz10
   have HA_11 := hid (ArrQ.keep HA_10.out (fun _ _ _ h => h) (Keep.setFar (p := w.heap.size) (i := 0) (fun b hb => by omega) (.int .i64 K)))
   generalize w10.setCell ⟨w.heap.size, 0, none⟩ (.int .i64 K) = w11 at HKR11 HKL11 HR11 HO11 hz11 HA_11 ⊢
   have HKR12 : Hid (_ = some (Obj.cells #[.int .i64 K, .string (bstr ((rd.num 3).1.txt 12).2), .int .i64 0, .int .i64 0, .string ⟨#[]⟩, .slice none 0 0, .slice none 0 0] 34 (0, 0))) := hid (blk_set (i := 1) HKR11.out (.string (bstr ((rd.num 3).1.txt 12).2)))
   have HKL12 := hid ((blk_far (g := w.heap.size + 1) (g' := w.heap.size) (i := 1) (by omega) (.string (bstr ((rd.num 3).1.txt 12).2))).trans HKL11.out)
   have HR12 := hid (HR11.out.setFar (p := w.heap.size) (i := 1) (by omega) (.string (bstr ((rd.num 3).1.txt 12).2)))
   have HO12 := hid (HO11.out.setNew (p := w.heap.size) (i := 1) (by omega) (.string (bstr ((rd.num 3).1.txt 12).2)))
   have hz12 : w.heap.size + 1 < (w11.setCell ⟨w.heap.size, 1, none⟩ (.string (bstr ((rd.num 3).1.txt 12).2))).heap.size := by rw [size_set]; exact hz11
   have HA_12 := hid (ArrQ.keep HA_11.out (fun _ _ _ h => h) (Keep.setFar (p := w.heap.size) (i := 1) (fun b hb => by omega) (.string (bstr ((rd.num 3).1.txt 12).2))))
   generalize w11.setCell ⟨w.heap.size, 1, none⟩ (.string (bstr ((rd.num 3).1.txt 12).2)) = w12 at HKR12 HKL12 HR12 HO12 hz12 HA_12 ⊢
   have HKR13 : Hid (_ = some (Obj.cells #[.int .i64 K, .string (bstr ((rd.num 3).1.txt 12).2), .int .i64 (((((rd.num 3).1.txt 12).1.num 2147483647).2 : Nat) : Int), .int .i64 0, .string ⟨#[]⟩, .slice none 0 0, .slice none 0 0] 34 (0, 0))) := hid (blk_set (i := 2) HKR12.out (.int .i64 (((((rd.num 3).1.txt 12).1.num 2147483647).2 : Nat) : Int)))
   have HKL13 := hid ((blk_far (g := w.heap.size + 1) (g' := w.heap.size) (i := 2) (by omega) (.int .i64 (((((rd.num 3).1.txt 12).1.num 2147483647).2 : Nat) : Int))).trans HKL12.out)
   have HR13 := hid (HR12.out.setFar (p := w.heap.size) (i := 2) (by omega) (.int .i64 (((((rd.num 3).1.txt 12).1.num 2147483647).2 : Nat) : Int)))
   have HO13 := hid (HO12.out.setNew (p := w.heap.size) (i := 2) (by omega) (.int .i64 (((((rd.num 3).1.txt 12).1.num 2147483647).2 : Nat) : Int)))
   have hz13 : w.heap.size + 1 < (w12.setCell ⟨w.heap.size, 2, none⟩ (.int .i64 (((((rd.num 3).1.txt 12).1.num 2147483647).2 : Nat) : Int))).heap.size := by rw [size_set]; exact hz12
   have HA_13 := hid (ArrQ.keep HA_12.out (fun _ _ _ h => h) (Keep.setFar (p := w.heap.size) (i := 2) (fun b hb => by omega) (.int .i64 (((((rd.num 3).1.txt 12).1.num 2147483647).2 : Nat) : Int))))
   generalize w12.setCell ⟨w.heap.size, 2, none⟩ (.int .i64 (((((rd.num 3).1.txt 12).1.num 2147483647).2 : Nat) : Int)) = w13 at HKR13 HKL13 HR13 HO13 hz13 HA_13 ⊢
   have HKR14 : Hid (_ = some (Obj.cells #[.int .i64 K, .string (bstr ((rd.num 3).1.txt 12).2), .int .i64 (((((rd.num 3).1.txt 12).1.num 2147483647).2 : Nat) : Int), .int .i64 0, .string ⟨#[]⟩, .slice none 0 0, .slice none 0 0] 34 (0, 0))) := hid (blk_set (i := 3) HKR13.out (.int .i64 0))
   have HKL14 := hid ((blk_far (g := w.heap.size + 1) (g' := w.heap.size) (i := 3) (by omega) (.int .i64 0)).trans HKL13.out)
   have HR14 := hid (HR13.out.setFar (p := w.heap.size) (i := 3) (by omega) (.int .i64 0))
   have HO14 := hid (HO13.out.setNew (p := w.heap.size) (i := 3) (by omega) (.int .i64 0))
   have hz14 : w.heap.size + 1 < (w13.setCell ⟨w.heap.size, 3, none⟩ (.int .i64 0)).heap.size := by rw [size_set]; exact hz13
   have HA_14 := hid (ArrQ.keep HA_13.out (fun _ _ _ h => h) (Keep.setFar (p := w.heap.size) (i := 3) (fun b hb => by omega) (.int .i64 0)))
   generalize w13.setCell ⟨w.heap.size, 3, none⟩ (.int .i64 0) = w14 at HKR14 HKL14 HR14 HO14 hz14 HA_14 ⊢
   have HKR15 : Hid (_ = some (Obj.cells #[.int .i64 K, .string (bstr ((rd.num 3).1.txt 12).2), .int .i64 (((((rd.num 3).1.txt 12).1.num 2147483647).2 : Nat) : Int), .int .i64 0, .string ⟨#[]⟩, .slice none 0 0, .slice none 0 0] 34 (0, 0))) := hid (blk_set (i := 4) HKR14.out (.string ⟨#[]⟩))
   have HKL15 := hid ((blk_far (g := w.heap.size + 1) (g' := w.heap.size) (i := 4) (by omega) (.string ⟨#[]⟩)).trans HKL14.out)
   have HR15 := hid (HR14.out.setFar (p := w.heap.size) (i := 4) (by omega) (.string ⟨#[]⟩))
   have HO15 := hid (HO14.out.setNew (p := w.heap.size) (i := 4) (by omega) (.string ⟨#[]⟩))
   have hz15 : w.heap.size + 1 < (w14.setCell ⟨w.heap.size, 4, none⟩ (.string ⟨#[]⟩)).heap.size := by rw [size_set]; exact hz14
   have HA_15 := hid (ArrQ.keep HA_14.out (fun _ _ _ h => h) (Keep.setFar (p := w.heap.size) (i := 4) (fun b hb => by omega) (.string ⟨#[]⟩)))
   generalize w14.setCell ⟨w.heap.size, 4, none⟩ (.string ⟨#[]⟩) = w15 at HKR15 HKL15 HR15 HO15 hz15 HA_15 ⊢
   have HKR16 : Hid (_ = some (Obj.cells #[.int .i64 K, .string (bstr ((rd.num 3).1.txt 12).2), .int .i64 (((((rd.num 3).1.txt 12).1.num 2147483647).2 : Nat) : Int), .int .i64 0, .string ⟨#[]⟩, .slice none 0 0, .slice none 0 0] 34 (0, 0))) := hid (blk_set (i := 5) HKR15.out (.slice none 0 0))
   have HKL16 := hid ((blk_far (g := w.heap.size + 1) (g' := w.heap.size) (i := 5) (by omega) (.slice none 0 0)).trans HKL15.out)
   have HR16 := hid (HR15.out.setFar (p := w.heap.size) (i := 5) (by omega) (.slice none 0 0))
   have HO16 := hid (HO15.out.setNew (p := w.heap.size) (i := 5) (by omega) (.slice none 0 0))
   have hz16 : w.heap.size + 1 < (w15.setCell ⟨w.heap.size, 5, none⟩ (.slice none 0 0)).heap.size := by rw [size_set]; exact hz15
   have HA_16 := hid (ArrQ.keep HA_15.out (fun _ _ _ h => h) (Keep.setFar (p := w.heap.size) (i := 5) (fun b hb => by omega) (.slice none 0 0)))
   generalize w15.setCell ⟨w.heap.size, 5, none⟩ (.slice none 0 0) = w16 at HKR16 HKL16 HR16 HO16 hz16 HA_16 ⊢
   have HKR17 : Hid (_ = some (Obj.cells #[.int .i64 K, .string (bstr ((rd.num 3).1.txt 12).2), .int .i64 (((((rd.num 3).1.txt 12).1.num 2147483647).2 : Nat) : Int), .int .i64 0, .string ⟨#[]⟩, .slice none 0 0, .slice A n c] 34 (0, 0))) := hid (blk_set (i := 6) HKR16.out (.slice A n c))
   have HKL17 := hid ((blk_far (g := w.heap.size + 1) (g' := w.heap.size) (i := 6) (by omega) (.slice A n c)).trans HKL16.out)
   have HR17 := hid (HR16.out.setFar (p := w.heap.size) (i := 6) (by omega) (.slice A n c))
   have HO17 := hid (HO16.out.setNew (p := w.heap.size) (i := 6) (by omega) (.slice A n c))
   have hz17 : w.heap.size + 1 < (w16.setCell ⟨w.heap.size, 6, none⟩ (.slice A n c)).heap.size := by rw [size_set]; exact hz16
   have HA_17 := hid (ArrQ.keep HA_16.out (fun _ _ _ h => h) (Keep.setFar (p := w.heap.size) (i := 6) (fun b hb => by omega) (.slice A n c)))
   generalize w16.setCell ⟨w.heap.size, 6, none⟩ (.slice A n c) = w17 at HKR17 HKL17 HR17 HO17 hz17 HA_17 ⊢
   obtain ⟨z0, -⟩ := blk_rules HKR17.out
   rw [HT1.out, HZ1.out, HE1.out, HE2.out]
   exact bodyPost_ret (v := .agg #[.int .i64 K, .string (bstr ((rd.num 3).1.txt 12).2), .int .i64 (((((rd.num 3).1.txt 12).1.num 2147483647).2 : Nat) : Int), .int .i64 0, .string ⟨#[]⟩, .slice none 0 0, .slice A n c]) (by simp [results, Tryz.results12, go_sem, z0]) rfl
    ⟨none, 0, 0, A, n, c, rfl, ⟨Rd.txt_max _ _, nil_max, SlW.nil_, hsl, ArrQ.nil_, ArrQ.weak HA_17.out (fun _ _ h => h) (fun b _ hb => by omega)⟩, HR17.out, HO17.out⟩
theorem takeKey_takes (g : Nat) : TakesK g 14 #[] takeK := by
 refine ⟨Tryz.call14, fun rd w hR => ?_⟩
 show Calls Tryz.prog 14 #[.pointer (some ⟨g, 0, none⟩)] w _
 have hg := hR.lt
 have HR := hid hR
 have HT1 := hid (takeK_fst rd)
 have HT2 := hid (takeK_snd rd)
 have HE1 : Hid ((takeK0 rd).1 = ((rd.num 3).1.txt 12).1) := hid rfl
 have HE2 : Hid ((takeK0 rd).2 = ⟨(((rd.num 3).2 : Nat) : Int), mkS ((rd.num 3).1.txt 12).2⟩) := hid rfl
 clear hR
 go_enter Tryz.func14, Tryz.ntmps14
 go_wp2_with fail
 refine (num_any g rd 3 _ (HR.out.up (Ext.new _ _))).mono ?_
 rintro e w1 ⟨rfl, hr1, ho1⟩
 have HR1 := hid hr1
 have HKR1 : Hid (w1.heap[w.heap.size]? = some (.cells #[.int .i64 0, .string ⟨#[]⟩] 38 (0, 0))) := hid ((ho1.blk (b := w.heap.size) (by simp <;> omega) (by omega)).trans (heap_alloc_new w _))
 have HO1 := hid ((Only.of_ext (Ext.new _ _)).trans ho1)
 have hz1 : w.heap.size < w1.heap.size := by have := ho1.size; simp at this; omega
 clear hr1 ho1
 go_wp2_with fail
 have HKR2 : Hid ((w1.alloc (.cells #[.int .i64 ((((rd.num 3).2 : Nat)) : Int), .string ⟨#[]⟩] 38)).heap[w.heap.size]? = some (.cells #[.int .i64 0, .string ⟨#[]⟩] 38 (0, 0))) := hid (((Ext.new w1 (.cells #[.int .i64 ((((rd.num 3).2 : Nat)) : Int), .string ⟨#[]⟩] 38)).block (b := w.heap.size) (by omega)).trans HKR1.out)
 have HKL2 : Hid ((w1.alloc (.cells #[.int .i64 ((((rd.num 3).2 : Nat)) : Int), .string ⟨#[]⟩] 38)).heap[w1.heap.size]? = some (.cells #[.int .i64 ((((rd.num 3).2 : Nat)) : Int), .string ⟨#[]⟩] 38 (0, 0))) := hid (heap_alloc_new w1 _)
 have HR2 := hid (HR1.out.up (Ext.new w1 (.cells #[.int .i64 ((((rd.num 3).2 : Nat)) : Int), .string ⟨#[]⟩] 38)))
 have HO2 := hid (HO1.out.trans (Only.of_ext (Ext.new w1 (.cells #[.int .i64 ((((rd.num 3).2 : Nat)) : Int), .string ⟨#[]⟩] 38))))
 have hz2 : w1.heap.size < (w1.alloc (.cells #[.int .i64 ((((rd.num 3).2 : Nat)) : Int), .string ⟨#[]⟩] 38)).heap.size := by simp
 generalize w1.alloc (.cells #[.int .i64 ((((rd.num 3).2 : Nat)) : Int), .string ⟨#[]⟩] 38) = w2 at HKR2 HKL2 HR2 HO2 hz2 ⊢
 refine (txt_any g _ 12 _ HR2.out).mono ?_
 rintro e w3 ⟨rfl, hr3, ho3⟩
 have HR3 := hid hr3
 have HKR3 := hid ((ho3.blk (b := w.heap.size) (by omega) (by omega)).trans HKR2.out)
 have HKL3 := hid ((ho3.blk (b := w1.heap.size) (by omega) (by omega)).trans HKL2.out)
 have HO3 := hid (HO2.out.trans ho3)
 have hz3 : w1.heap.size < w3.heap.size := Nat.lt_of_lt_of_le hz2 ho3.size
 clear hr3 ho3
 obtain ⟨qL0, qL1⟩ := blk_rules HKL3.out
 go_wp2_with fail
 clear qL0 qL1
 have HKR4 := hid ((blk_far (g := w.heap.size) (g' := w1.heap.size) (i := 1) (by omega) (.string (bstr ((rd.num 3).1.txt 12).2))).trans HKR3.out)
 have HKL4 : Hid (_ = some (Obj.cells #[.int .i64 ((((rd.num 3).2 : Nat)) : Int), .string (bstr ((rd.num 3).1.txt 12).2)] 38 (0, 0))) := hid (blk_set (i := 1) HKL3.out (.string (bstr ((rd.num 3).1.txt 12).2)))
 have HR4 := hid (HR3.out.setFar (p := w1.heap.size) (i := 1) (by omega) (.string (bstr ((rd.num 3).1.txt 12).2)))
 have HO4 := hid (HO3.out.setNew (p := w1.heap.size) (i := 1) (by omega) (.string (bstr ((rd.num 3).1.txt 12).2)))
 have hz4 : w1.heap.size < (w3.setCell ⟨w1.heap.size, 1, none⟩ (.string (bstr ((rd.num 3).1.txt 12).2))).heap.size := by rw [size_set]; exact hz3
 generalize w3.setCell ⟨w1.heap.size, 1, none⟩ (.string (bstr ((rd.num 3).1.txt 12).2)) = w4 at HKR4 HKL4 HR4 HO4 hz4 ⊢
 refine (good_any ⟨(((rd.num 3).2 : Nat) : Int), mkS ((rd.num 3).1.txt 12).2⟩ _ (Rd.txt_max _ _)).mono ?_
 rintro e w5 ⟨rfl, hb5⟩
 have HR5 := hid (HR4.out.up hb5)
 have HKR5 : Hid (w5.heap[w.heap.size]? = some (.cells #[.int .i64 0, .string ⟨#[]⟩] 38 (0, 0))) := hid ((hb5.block (b := w.heap.size) (by omega)).trans HKR4.out)
 have HKL5 : Hid (w5.heap[w1.heap.size]? = some (.cells #[.int .i64 ((((rd.num 3).2 : Nat)) : Int), .string (bstr ((rd.num 3).1.txt 12).2)] 38 (0, 0))) := hid ((hb5.block (b := w1.heap.size) (by omega)).trans HKL4.out)
 have HO5 := hid (HO4.out.trans (Only.of_ext hb5))
 have hz5 : w1.heap.size < w5.heap.size := Nat.lt_of_lt_of_le hz4 hb5.size
 clear hb5
 rw [← HE2.out]
 have HC : Hid (∀ b, goodK (takeK0 rd).2 = b → chkK (takeK0 rd).2 = if b = true then 0 else 5) := hid (fun b h => by unfold chkK; rw [h])
 cases hgd : goodK (takeK0 rd).2 with
 | true =>
  have HCK : Hid (chkK (takeK0 rd).2 = 0) := hid (HC.out _ hgd)
  clear hgd
  obtain ⟨qL0, qL1⟩ := blk_rules HKL5.out
  go_wp2_with fail
  clear qL0 qL1
  refine (recFail_any g _ 0 _ HR5.out).mono ?_
  rintro e w6 ⟨rfl, hr6, ho6⟩
  have HR6 := hid hr6
  have HKR6 := hid ((ho6.blk (b := w.heap.size) (by omega) (by omega)).trans HKR5.out)
  have HKL6 := hid ((ho6.blk (b := w1.heap.size) (by omega) (by omega)).trans HKL5.out)
  have HO6 := hid (HO5.out.trans ho6)
  have hz6 : w1.heap.size < w6.heap.size := Nat.lt_of_lt_of_le hz5 ho6.size
  clear hr6 ho6
  have HT2x : Hid ((takeK rd).2 = if (failE ((rd.num 3).1.txt 12).1 0).e ≠ 0 then ky0 else (takeK0 rd).2) := hid (by rw [HT2.out, HE1.out, HCK.out])
  cases hf : decide ((failE ((rd.num 3).1.txt 12).1 0).e ≠ 0) with
  | true =>
   have hf2 := of_decide_eq_true hf
   have HZ1 : Hid ((takeK rd).2 = ky0) := hid (by rw [HT2x.out, if_pos hf2])
   clear hf hf2
   obtain ⟨qR0, qR1⟩ := blk_rules HKR6.out
   go_wp2_with fail
   clear qR0 qR1
   have HKR7 : Hid (_ = some (Obj.cells #[.int .i64 0, .string ⟨#[]⟩] 38 (0, 0))) := hid (blk_set (i := 0) HKR6.out (.int .i64 0))
   have HKL7 := hid ((blk_far (g := w1.heap.size) (g' := w.heap.size) (i := 0) (by omega) (.int .i64 0)).trans HKL6.out)
   have HR7 := hid (HR6.out.setFar (p := w.heap.size) (i := 0) (by omega) (.int .i64 0))
   have HO7 := hid (HO6.out.setNew (p := w.heap.size) (i := 0) (by omega) (.int .i64 0))
   have hz7 : w1.heap.size < (w6.setCell ⟨w.heap.size, 0, none⟩ (.int .i64 0)).heap.size := by rw [size_set]; exact hz6
   generalize w6.setCell ⟨w.heap.size, 0, none⟩ (.int .i64 0) = w7 at HKR7 HKL7 HR7 HO7 hz7 ⊢
   have HKR8 : Hid (_ = some (Obj.cells #[.int .i64 0, .string ⟨#[]⟩] 38 (0, 0))) := hid (blk_set (i := 1) HKR7.out (.string ⟨#[]⟩))
   have HKL8 := hid ((blk_far (g := w1.heap.size) (g' := w.heap.size) (i := 1) (by omega) (.string ⟨#[]⟩)).trans HKL7.out)
   have HR8 := hid (HR7.out.setFar (p := w.heap.size) (i := 1) (by omega) (.string ⟨#[]⟩))
   have HO8 := hid (HO7.out.setNew (p := w.heap.size) (i := 1) (by omega) (.string ⟨#[]⟩))
   have hz8 : w1.heap.size < (w7.setCell ⟨w.heap.size, 1, none⟩ (.string ⟨#[]⟩)).heap.size := by rw [size_set]; exact hz7
   generalize w7.setCell ⟨w.heap.size, 1, none⟩ (.string ⟨#[]⟩) = w8 at HKR8 HKL8 HR8 HO8 hz8 ⊢
   obtain ⟨z0, -⟩ := blk_rules HKR8.out
   rw [HT1.out, HZ1.out, HE1.out, HCK.out]
   exact bodyPost_ret (v := .agg #[.int .i64 0, .string ⟨#[]⟩]) (by simp [results, Tryz.results14, go_sem, z0]) rfl ⟨rfl, (by decide), HR8.out, HO8.out⟩
  | false =>
   have hf2 := of_decide_eq_false hf
   have HZ1 : Hid ((takeK rd).2 = ⟨(((rd.num 3).2 : Nat) : Int), mkS ((rd.num 3).1.txt 12).2⟩) := hid (by rw [HT2x.out, if_neg hf2, HE2.out])
   clear hf hf2
   obtain ⟨qR0, qR1⟩ := blk_rules HKR6.out
   obtain ⟨qL0, qL1⟩ := blk_rules HKL6.out
   go_wp2_with fail
   clear qR0 qR1 qL0 qL1
   have HKR7 : Hid (_ = some (Obj.cells #[.int .i64 ((((rd.num 3).2 : Nat)) : Int), .string ⟨#[]⟩] 38 (0, 0))) := hid (blk_set (i := 0) HKR6.out (.int .i64 ((((rd.num 3).2 : Nat)) : Int)))
   have HKL7 := hid ((blk_far (g := w1.heap.size) (g' := w.heap.size) (i := 0) (by omega) (.int .i64 ((((rd.num 3).2 : Nat)) : Int))).trans HKL6.out)
   have HR7 := hid (HR6.out.setFar (p := w.heap.size) (i := 0) (by omega) (.int .i64 ((((rd.num 3).2 : Nat)) : Int)))
   have HO7 := hid (HO6.out.setNew (p := w.heap.size) (i := 0) (by omega) (.int .i64 ((((rd.num 3).2 : Nat)) : Int)))
   have hz7 : w1.heap.size < (w6.setCell ⟨w.heap.size, 0, none⟩ (.int .i64 ((((rd.num 3).2 : Nat)) : Int))).heap.size := by rw [size_set]; exact hz6
   generalize w6.setCell ⟨w.heap.size, 0, none⟩ (.int .i64 ((((rd.num 3).2 : Nat)) : Int)) = w7 at HKR7 HKL7 HR7 HO7 hz7 ⊢
   have HKR8 : Hid (_ = some (Obj.cells #[.int .i64 ((((rd.num 3).2 : Nat)) : Int), .string (bstr ((rd.num 3).1.txt 12).2)] 38 (0, 0))) := hid (blk_set (i := 1) HKR7.out (.string (bstr ((rd.num 3).1.txt 12).2)))
   have HKL8 := hid ((blk_far (g := w1.heap.size) (g' := w.heap.size) (i := 1) (by omega) (.string (bstr ((rd.num 3).1.txt 12).2))).trans HKL7.out)
   have HR8 := hid (HR7.out.setFar (p := w.heap.size) (i := 1) (by omega) (.string (bstr ((rd.num 3).1.txt 12).2)))
   have HO8 := hid (HO7.out.setNew (p := w.heap.size) (i := 1) (by omega) (.string (bstr ((rd.num 3).1.txt 12).2)))
   have hz8 : w1.heap.size < (w7.setCell ⟨w.heap.size, 1, none⟩ (.string (bstr ((rd.num 3).1.txt 12).2))).heap.size := by rw [size_set]; exact hz7
   generalize w7.setCell ⟨w.heap.size, 1, none⟩ (.string (bstr ((rd.num 3).1.txt 12).2)) = w8 at HKR8 HKL8 HR8 HO8 hz8 ⊢
   obtain ⟨z0, -⟩ := blk_rules HKR8.out
   rw [HT1.out, HZ1.out, HE1.out, HCK.out]
   exact bodyPost_ret (v := .agg #[.int .i64 ((((rd.num 3).2 : Nat)) : Int), .string (bstr ((rd.num 3).1.txt 12).2)]) (by simp [results, Tryz.results14, go_sem, z0]) rfl ⟨rfl, Rd.txt_max _ _, HR8.out, HO8.out⟩
 | false =>
  have HCK : Hid (chkK (takeK0 rd).2 = 5) := hid (HC.out _ hgd)
  clear hgd
  obtain ⟨qL0, qL1⟩ := blk_rules HKL5.out
  go_wp2_with fail
  clear qL0 qL1
  refine (recFail_any g _ 5 _ HR5.out).mono ?_
  rintro e w6 ⟨rfl, hr6, ho6⟩
  have HR6 := hid hr6
  have HKR6 := hid ((ho6.blk (b := w.heap.size) (by omega) (by omega)).trans HKR5.out)
  have HKL6 := hid ((ho6.blk (b := w1.heap.size) (by omega) (by omega)).trans HKL5.out)
  have HO6 := hid (HO5.out.trans ho6)
  have hz6 : w1.heap.size < w6.heap.size := Nat.lt_of_lt_of_le hz5 ho6.size
  clear hr6 ho6
  have HT2x : Hid ((takeK rd).2 = if (failE ((rd.num 3).1.txt 12).1 5).e ≠ 0 then ky0 else (takeK0 rd).2) := hid (by rw [HT2.out, HE1.out, HCK.out])
  cases hf : decide ((failE ((rd.num 3).1.txt 12).1 5).e ≠ 0) with
  | true =>
   have hf2 := of_decide_eq_true hf
   have HZ1 : Hid ((takeK rd).2 = ky0) := hid (by rw [HT2x.out, if_pos hf2])
   clear hf hf2
   obtain ⟨qR0, qR1⟩ := blk_rules HKR6.out
   go_wp2_with fail
   clear qR0 qR1
   have HKR7 : Hid (_ = some (Obj.cells #[.int .i64 0, .string ⟨#[]⟩] 38 (0, 0))) := hid (blk_set (i := 0) HKR6.out (.int .i64 0))
   have HKL7 := hid ((blk_far (g := w1.heap.size) (g' := w.heap.size) (i := 0) (by omega) (.int .i64 0)).trans HKL6.out)
   have HR7 := hid (HR6.out.setFar (p := w.heap.size) (i := 0) (by omega) (.int .i64 0))
   have HO7 := hid (HO6.out.setNew (p := w.heap.size) (i := 0) (by omega) (.int .i64 0))
   have hz7 : w1.heap.size < (w6.setCell ⟨w.heap.size, 0, none⟩ (.int .i64 0)).heap.size := by rw [size_set]; exact hz6
   generalize w6.setCell ⟨w.heap.size, 0, none⟩ (.int .i64 0) = w7 at HKR7 HKL7 HR7 HO7 hz7 ⊢
   have HKR8 : Hid (_ = some (Obj.cells #[.int .i64 0, .string ⟨#[]⟩] 38 (0, 0))) := hid (blk_set (i := 1) HKR7.out (.string ⟨#[]⟩))
   have HKL8 := hid ((blk_far (g := w1.heap.size) (g' := w.heap.size) (i := 1) (by omega) (.string ⟨#[]⟩)).trans HKL7.out)
   have HR8 := hid (HR7.out.setFar (p := w.heap.size) (i := 1) (by omega) (.string ⟨#[]⟩))
   have HO8 := hid (HO7.out.setNew (p := w.heap.size) (i := 1) (by omega) (.string ⟨#[]⟩))
   have hz8 : w1.heap.size < (w7.setCell ⟨w.heap.size, 1, none⟩ (.string ⟨#[]⟩)).heap.size := by rw [size_set]; exact hz7
   generalize w7.setCell ⟨w.heap.size, 1, none⟩ (.string ⟨#[]⟩) = w8 at HKR8 HKL8 HR8 HO8 hz8 ⊢
   obtain ⟨z0, -⟩ := blk_rules HKR8.out
   rw [HT1.out, HZ1.out, HE1.out, HCK.out]
   exact bodyPost_ret (v := .agg #[.int .i64 0, .string ⟨#[]⟩]) (by simp [results, Tryz.results14, go_sem, z0]) rfl ⟨rfl, (by decide), HR8.out, HO8.out⟩
  | false =>
   have hf2 := of_decide_eq_false hf
   have HZ1 : Hid ((takeK rd).2 = ⟨(((rd.num 3).2 : Nat) : Int), mkS ((rd.num 3).1.txt 12).2⟩) := hid (by rw [HT2x.out, if_neg hf2, HE2.out])
   clear hf hf2
   obtain ⟨qR0, qR1⟩ := blk_rules HKR6.out
   obtain ⟨qL0, qL1⟩ := blk_rules HKL6.out
   go_wp2_with fail
   clear qR0 qR1 qL0 qL1
   have HKR7 : Hid (_ = some (Obj.cells #[.int .i64 ((((rd.num 3).2 : Nat)) : Int), .string ⟨#[]⟩] 38 (0, 0))) := hid (blk_set (i := 0) HKR6.out (.int .i64 ((((rd.num 3).2 : Nat)) : Int)))
   have HKL7 := hid ((blk_far (g := w1.heap.size) (g' := w.heap.size) (i := 0) (by omega) (.int .i64 ((((rd.num 3).2 : Nat)) : Int))).trans HKL6.out)
   have HR7 := hid (HR6.out.setFar (p := w.heap.size) (i := 0) (by omega) (.int .i64 ((((rd.num 3).2 : Nat)) : Int)))
   have HO7 := hid (HO6.out.setNew (p := w.heap.size) (i := 0) (by omega) (.int .i64 ((((rd.num 3).2 : Nat)) : Int)))
   have hz7 : w1.heap.size < (w6.setCell ⟨w.heap.size, 0, none⟩ (.int .i64 ((((rd.num 3).2 : Nat)) : Int))).heap.size := by rw [size_set]; exact hz6
   generalize w6.setCell ⟨w.heap.size, 0, none⟩ (.int .i64 ((((rd.num 3).2 : Nat)) : Int)) = w7 at HKR7 HKL7 HR7 HO7 hz7 ⊢
   have HKR8 : Hid (_ = some (Obj.cells #[.int .i64 ((((rd.num 3).2 : Nat)) : Int), .string (bstr ((rd.num 3).1.txt 12).2)] 38 (0, 0))) := hid (blk_set (i := 1) HKR7.out (.string (bstr ((rd.num 3).1.txt 12).2)))
   have HKL8 := hid ((blk_far (g := w1.heap.size) (g' := w.heap.size) (i := 1) (by omega) (.string (bstr ((rd.num 3).1.txt 12).2))).trans HKL7.out)
   have HR8 := hid (HR7.out.setFar (p := w.heap.size) (i := 1) (by omega) (.string (bstr ((rd.num 3).1.txt 12).2)))
   have HO8 := hid (HO7.out.setNew (p := w.heap.size) (i := 1) (by omega) (.string (bstr ((rd.num 3).1.txt 12).2)))
   have hz8 : w1.heap.size < (w7.setCell ⟨w.heap.size, 1, none⟩ (.string (bstr ((rd.num 3).1.txt 12).2))).heap.size := by rw [size_set]; exact hz7
   generalize w7.setCell ⟨w.heap.size, 1, none⟩ (.string (bstr ((rd.num 3).1.txt 12).2)) = w8 at HKR8 HKL8 HR8 HO8 hz8 ⊢
   obtain ⟨z0, -⟩ := blk_rules HKR8.out
   rw [HT1.out, HZ1.out, HE1.out, HCK.out]
   exact bodyPost_ret (v := .agg #[.int .i64 ((((rd.num 3).2 : Nat)) : Int), .string (bstr ((rd.num 3).1.txt 12).2)]) (by simp [results, Tryz.results14, go_sem, z0]) rfl ⟨rfl, Rd.txt_max _ _, HR8.out, HO8.out⟩
theorem takeAll_any (g : Nat) (rd : Rd) (w : World) (hR : RdAt w g rd) : Calls Tryz.prog 17 #[.pointer (some ⟨g, 0, none⟩)] w (SomeR g w (someB takeR 64 rd)) := by
 go_enter Tryz.func17, Tryz.ntmps17
 go_wp2_with fail
 refine (someR_any g _ _ takeR 64 rd _ hR (take_takes g)).mono ?_
 rintro e w1 ⟨A, n, c, rfl, h⟩
 go_wp2_with fail
 go_ret
 exact ⟨A, n, c, rfl, h⟩
theorem takeKeys_any (g : Nat) (rd : Rd) (w : World) (hR : RdAt w g rd) : Calls Tryz.prog 20 #[.pointer (some ⟨g, 0, none⟩)] w (SomeK g w (someB takeK 64 rd)) := by
 go_enter Tryz.func20, Tryz.ntmps20
 go_wp2_with fail
 refine (someK_any g _ _ takeK 64 rd _ hR (takeKey_takes g)).mono ?_
 rintro e w1 ⟨A, n, c, rfl, h⟩
 go_wp2_with fail
 go_ret
 exact ⟨A, n, c, rfl, h⟩
end Go.Proofs.YtfdjbnofcniodaaGreatDoor
