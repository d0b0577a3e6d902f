/- What the document's Take, TakeKey, TakeAll, TakeKeys of layer 4 compute. -/
import Derived.Test.YtfdjbnofcniodaaGreatDoorQRef04t
namespace Go.Proofs.YtfdjbnofcniodaaGreatDoor
open Lib (hid)
set_option maxHeartbeats 8000000
set_option maxRecDepth 100000
set_option linter.unusedVariables false
open Go.RowKit
def TakenR (g : Nat) (w : World) (res : Rd × Rs) (e : Ending) (w' : World) : Prop := ∃ (B : Option Addr) (m d : Nat) (B' : Option Addr) (m' d' : Nat), e = .returned (rsVal res.2 B m d B' m' d') ∧ RsV (fun b => w.heap.size ≤ b) w' res.2 B m d B' m' d' ∧ RfAt w' g res.1 ∧ Only g w w'
theorem Only.setG {g i : Nat} {w w1 : World} (h : Only g w w1) (u : Value) : Only g w (w1.setCell ⟨g, i, none⟩ u) := h.set _ _
theorem refTake_takes (g : Nat) (rd : Rd) (w : World) (h : RfAt w g rd) : Calls Tryz.prog 13 #[.pointer (some ⟨g, 0, none⟩)] w (TakenR g w (takeR rd)) := by
 have hg := h.lt
 have HR := hid h
 have HT : Hid (takeR rd = if (takeR0 rd).1.e = 0 then (if saneR (takeR0 rd).2 = 0 then takeR0 rd else (⟨(takeR0 rd).1.b, saneR (takeR0 rd).2⟩, rs0)) else ((takeR0 rd).1, rs0)) := hid rfl
 clear h
 go_enter Tryz.func13, Tryz.ntmps13
 go_wp2_with fail
 refine (refTake0_takes g rd _ (HR.out.up (Ext.new _ _))).mono ?_
 rintro e w1 ⟨r, B, m, d, B', m', d', rfl, hv, hr, ho, hx⟩
 have KR1 := hid ((ho.blk (b := w.heap.size) (by simp) (by omega)).trans (heap_alloc_new w _))
 have HO1 := hid ((Only.of_ext (Ext.new w _)).trans ho)
 have hz1 : w.heap.size < w1.heap.size := by have := ho.size; simp at this; omega
 have HV1 : Hid (RsV (fun b => w.heap.size + 1 ≤ b) w1 r B m d B' m' d') := hid (by simpa using hv)
 have HR1 := hid hr
 have HX := hid hx
 obtain ⟨rd1, h1⟩ : ∃ rd1, rd1 = (takeR0 rd).1 := ⟨_, rfl⟩
 rw [← h1] at HR1 HX HT
 obtain ⟨r1, h2⟩ : ∃ r1, r1 = (takeR0 rd).2 := ⟨_, rfl⟩
 rw [← h2] at HX HT
 have H0 : Hid (rd1.e = 0 → takeR0 rd = (rd1, r1)) := hid (fun _ => by rw [h1, h2])
 clear hv hr ho hx h1 h2
 have KR2 := hid (((Ext.new w1 (.cells #[.int .i64 r.kind, .string r.name, .int .i64 r.ver, .int .i64 r.port, .string r.to, .slice B m d, .slice B' m' d'] 34)).block (b := w.heap.size) hz1).trans KR1.out)
 have KL2 := hid (heap_alloc_new w1 (.cells #[.int .i64 r.kind, .string r.name, .int .i64 r.ver, .int .i64 r.port, .string r.to, .slice B m d, .slice B' m' d'] 34))
 have HR2 := hid (HR1.out.up (Ext.new w1 (.cells #[.int .i64 r.kind, .string r.name, .int .i64 r.ver, .int .i64 r.port, .string r.to, .slice B m d, .slice B' m' d'] 34)))
 have HO2 := hid (HO1.out.trans (Only.of_ext (Ext.new w1 (.cells #[.int .i64 r.kind, .string r.name, .int .i64 r.ver, .int .i64 r.port, .string r.to, .slice B m d, .slice B' m' d'] 34))))
 have HV2 := hid (HV1.out.up (Ext.new w1 (.cells #[.int .i64 r.kind, .string r.name, .int .i64 r.ver, .int .i64 r.port, .string r.to, .slice B m d, .slice B' m' d'] 34)))
 have hz2 : w.heap.size < (w1.alloc (.cells #[.int .i64 r.kind, .string r.name, .int .i64 r.ver, .int .i64 r.port, .string r.to, .slice B m d, .slice B' m' d'] 34)).heap.size := by simp; omega
 have hq2 : w1.heap.size < (w1.alloc (.cells #[.int .i64 r.kind, .string r.name, .int .i64 r.ver, .int .i64 r.port, .string r.to, .slice B m d, .slice B' m' d'] 34)).heap.size := by simp
 have hgq : g < w1.heap.size := by omega
 by_cases he : rd1.e = 0; rotate_left
 ·have hb : (rd1.e == 0) = false := by simpa using he
  have hb' : (rd1.e != 0) = true := by simpa using he
  have HT' : Hid (takeR rd = (rd1, rs0)) := hid (by rw [HT.out, if_neg he])
  obtain ⟨Ag, ng, cg, g0, g1⟩ := HR2.out.cells2
  obtain ⟨qr0, qr1⟩ := blk_rules KR1.out
  unfold rsVal
  go_wp2_with fail
  clear g0 g1 qr0 qr1
  generalize hV : ((((((w1.setCell { block := w.heap.size, off := 0 } (Value.int IntKind.i64 0)).setCell { block := w.heap.size, off := 1 } (Value.string ⟨#[]⟩)).setCell { block := w.heap.size, off := 2 } (Value.int IntKind.i64 0)).setCell { block := w.heap.size, off := 3 } (Value.int IntKind.i64 0)).setCell { block := w.heap.size, off := 4 } (Value.string ⟨#[]⟩)).setCell { block := w.heap.size, off := 5 } (Value.slice none 0 0)).setCell { block := w.heap.size, off := 6 } (Value.slice none 0 0) = V
  obtain ⟨bV, rV, oV, kV⟩ := setR7 KR1.out _ _ _ _ _ _ _ hV
  clear hV
  have XV := Ext.new V (.cells #[.int .i64 r.kind, .string r.name, .int .i64 r.ver, .int .i64 r.port, .string r.to, .slice B m d, .slice B' m' d'] 34)
  obtain ⟨z0, -⟩ := blk_rules ((XV.block (Array.getElem?_eq_some_iff.1 bV).1).trans bV)
  exact bodyPost_ret (v := .agg #[.int .i64 0, .string ⟨#[]⟩, .int .i64 0, .int .i64 0, .string ⟨#[]⟩, .slice none 0 0, .slice none 0 0]) (by simp [results, Tryz.results13, go_sem, z0]) rfl
   (show TakenR g w (takeR rd) _ (V.alloc (.cells #[.int .i64 r.kind, .string r.name, .int .i64 r.ver, .int .i64 r.port, .string r.to, .slice B m d, .slice B' m' d'] 34)) from by rw [HT'.out]; exact ⟨none, 0, 0, none, 0, 0, rfl, rs0_V _ _, (rV _ _ HR1.out (by omega)).up XV, (oV _ _ HO1.out (Nat.le_refl _)).trans (Only.of_ext XV)⟩)
 ·have hb : (rd1.e == 0) = true := by simpa using he
  obtain rfl : r = r1 := HX.out he
  obtain ⟨Ag, ng, cg, g0, g1⟩ := HR2.out.cells2
  rw [he] at g1
  obtain ⟨qL0, qL1⟩ := blk_rules KL2.out
  unfold rsVal
  go_wp2_with fail
  clear g0 g1 qL0 qL1
  refine (refSane_any _ r B B' m d m' d' _ HV2.out).mono ?_
  rintro e w3 ⟨rfl, hb3⟩
  have KR3 := hid ((hb3.block (b := w.heap.size) hz2).trans KR2.out)
  have KL3 := hid ((hb3.block (b := w1.heap.size) hq2).trans KL2.out)
  have HR3 := hid (HR2.out.up hb3)
  have HO3 := hid (HO2.out.trans (Only.of_ext hb3))
  have HV3 := hid (HV2.out.up hb3)
  obtain ⟨Z, hZ⟩ : ∃ Z, Z = saneR r := ⟨_, rfl⟩
  rw [← hZ]
  have HZ := hid hZ
  have HTT : Hid (takeR rd = if Z = 0 then (rd1, r) else (⟨rd1.b, Z⟩, rs0)) := hid (by rw [HT.out, if_pos he, ← hZ, H0.out he])
  clear hZ hb3 KL2 KR2 HR2 HV2 HO2 HT
  have HR4 := hid (HR3.out.setE Z)
  have KR4 : Hid ((w3.setCell ⟨g, 1, none⟩ (.int .i64 Z)).heap[w.heap.size]? = _) := hid ((blk_far (g := w.heap.size) (g' := g) (i := 1) (by omega) (.int .i64 Z)).trans KR3.out)
  have KL4 : Hid ((w3.setCell ⟨g, 1, none⟩ (.int .i64 Z)).heap[w1.heap.size]? = _) := hid ((blk_far (g := w1.heap.size) (g' := g) (i := 1) (by omega) (.int .i64 Z)).trans KL3.out)
  have HO4 := hid (HO3.out.setG (i := 1) (.int .i64 Z))
  have HV4 := hid (HV3.out.keep (Keep.setFar (p := g) (i := 1) (fun b hb => by omega) (.int .i64 Z)))
  obtain ⟨A9, n9, c9, hg9, -⟩ := HR3.out
  obtain ⟨g0, g1⟩ := blk_rules hg9
  obtain ⟨A8, n8, c8, hg8, -⟩ := HR4.out
  obtain ⟨f0, f1⟩ := blk_rules hg8
  obtain ⟨qL0, qL1⟩ := blk_rules KL4.out
  obtain ⟨qr0, qr1⟩ := blk_rules KR4.out
  clear hg9 hg8
  by_cases hs : Z = 0
  ·subst hs
   have HT' : Hid (takeR rd = (rd1, r)) := hid (by rw [HTT.out, if_pos rfl])
   have HR5 : Hid (RfAt (w3.setCell ⟨g, 1, none⟩ (.int .i64 0)) g rd1) := hid (by have h9 := HR4.out; rwa [show (⟨rd1.b, 0⟩ : Rd) = rd1 from by rw [← he]] at h9)
   go_wp2_with fail
   clear g0 g1 f0 f1 qL0 qL1 qr0 qr1
   generalize hV : (((((((w3.setCell { block := g, off := 1 } (Value.int IntKind.i64 0)).setCell { block := w.heap.size, off := 0 } (Value.int IntKind.i64 r.kind)).setCell { block := w.heap.size, off := 1 } (Value.string r.name)).setCell { block := w.heap.size, off := 2 } (Value.int IntKind.i64 r.ver)).setCell { block := w.heap.size, off := 3 } (Value.int IntKind.i64 r.port)).setCell { block := w.heap.size, off := 4 } (Value.string r.to)).setCell { block := w.heap.size, off := 5 } (Value.slice B m d)).setCell { block := w.heap.size, off := 6 } (Value.slice B' m' d') = V
   obtain ⟨bV, rV, oV, kV⟩ := setR7 KR4.out _ _ _ _ _ _ _ hV
   clear hV
   obtain ⟨z0, -⟩ := blk_rules bV
   exact bodyPost_ret (v := .agg #[.int .i64 r.kind, .string r.name, .int .i64 r.ver, .int .i64 r.port, .string r.to, .slice B m d, .slice B' m' d']) (by simp [results, Tryz.results13, go_sem, z0]) rfl
    (show TakenR g w (takeR rd) _ V from by rw [HT'.out]; exact ⟨B, m, d, B', m', d', rfl, (HV4.out.keep (kV _ (fun b hb => by omega))).weak (fun b _ hb => by omega), rV _ _ HR5.out (by omega), oV _ _ HO4.out (Nat.le_refl _)⟩)
  ·have hs1 : (Z != 0) = true := by simpa using hs
   have HT' : Hid (takeR rd = (⟨rd1.b, Z⟩, rs0)) := hid (by rw [HTT.out, if_neg hs])
   go_wp2_with fail
   clear g0 g1 f0 f1 qL0 qL1 qr0 qr1
   generalize hV : (((((((w3.setCell { block := g, off := 1 } (Value.int IntKind.i64 Z)).setCell { block := w.heap.size, off := 0 } (Value.int IntKind.i64 0)).setCell { block := w.heap.size, off := 1 } (Value.string ⟨#[]⟩)).setCell { block := w.heap.size, off := 2 } (Value.int IntKind.i64 0)).setCell { block := w.heap.size, off := 3 } (Value.int IntKind.i64 0)).setCell { block := w.heap.size, off := 4 } (Value.string ⟨#[]⟩)).setCell { block := w.heap.size, off := 5 } (Value.slice none 0 0)).setCell { block := w.heap.size, off := 6 } (Value.slice none 0 0) = V
   obtain ⟨bV, rV, oV, kV⟩ := setR7 KR4.out _ _ _ _ _ _ _ hV
   clear hV
   obtain ⟨z0, -⟩ := blk_rules bV
   exact bodyPost_ret (v := .agg #[.int .i64 0, .string ⟨#[]⟩, .int .i64 0, .int .i64 0, .string ⟨#[]⟩, .slice none 0 0, .slice none 0 0]) (by simp [results, Tryz.results13, go_sem, z0]) rfl
    (show TakenR g w (takeR rd) _ V from by rw [HT'.out]; exact ⟨none, 0, 0, none, 0, 0, rfl, rs0_V _ _, rV _ _ HR4.out (by omega), oV _ _ HO4.out (Nat.le_refl _)⟩)
def TakenK (g : Nat) (w : World) (res : Rd × Ky) (e : Ending) (w' : World) : Prop := e = .returned (.agg #[.int .i64 res.2.kind, .string res.2.name]) ∧ res.2.name.size ≤ maxLen ∧ RfAt w' g res.1 ∧ Only g w w'
theorem refTakeKey_takes (g : Nat) (rd : Rd) (w : World) (h : RfAt w g rd) : Calls Tryz.prog 15 #[.pointer (some ⟨g, 0, none⟩)] w (TakenK g w (takeK rd)) := by
 have hg := h.lt
 have HR := hid h
 have HT : Hid (takeK rd = if ((rd.num 3).1.txt 12).1.e = 0 then (if chkK ⟨(((rd.num 3).2 : Nat) : Int), mkS ((rd.num 3).1.txt 12).2⟩ = 0 then (((rd.num 3).1.txt 12).1, ⟨(((rd.num 3).2 : Nat) : Int), mkS ((rd.num 3).1.txt 12).2⟩) else (⟨((rd.num 3).1.txt 12).1.b, chkK ⟨(((rd.num 3).2 : Nat) : Int), mkS ((rd.num 3).1.txt 12).2⟩⟩, ky0)) else (((rd.num 3).1.txt 12).1, ky0)) := hid rfl
 clear h
 go_enter Tryz.func15, Tryz.ntmps15
 go_wp2_with fail
 refine (refNum04_any g rd 3 _ (HR.out.up (Ext.new _ _))).mono ?_
 rintro e w1 ⟨rfl, hr1, ho1⟩
 have HR1 := hid hr1
 have HKR1 : Hid (w1.heap[w.heap.size]? = some (.cells #[.int .i64 0, .string ⟨#[]⟩] 38 (0, 0))) := hid ((ho1.blk (b := w.heap.size) (by simp <;> omega) (by omega)).trans (heap_alloc_new w _))
 have HO1 := hid ((Only.of_ext (Ext.new _ _)).trans ho1)
 have hz1 : w.heap.size < w1.heap.size := by have := ho1.size; simp at this; omega
 clear hr1 ho1
 go_wp2_with fail
 have HKR2 : Hid ((w1.alloc (.cells #[.int .i64 (((rd.num 3).2 : Nat) : Int), .string ⟨#[]⟩] 38)).heap[w.heap.size]? = some (.cells #[.int .i64 0, .string ⟨#[]⟩] 38 (0, 0))) := hid (((Ext.new w1 (.cells #[.int .i64 (((rd.num 3).2 : Nat) : Int), .string ⟨#[]⟩] 38)).block (b := w.heap.size) (by omega)).trans HKR1.out)
 have HKL2 : Hid ((w1.alloc (.cells #[.int .i64 (((rd.num 3).2 : Nat) : Int), .string ⟨#[]⟩] 38)).heap[w1.heap.size]? = some (.cells #[.int .i64 (((rd.num 3).2 : Nat) : Int), .string ⟨#[]⟩] 38 (0, 0))) := hid (heap_alloc_new w1 _)
 have HR2 := hid (HR1.out.up (Ext.new w1 (.cells #[.int .i64 (((rd.num 3).2 : Nat) : Int), .string ⟨#[]⟩] 38)))
 have HO2 := hid (HO1.out.trans (Only.of_ext (Ext.new w1 (.cells #[.int .i64 (((rd.num 3).2 : Nat) : Int), .string ⟨#[]⟩] 38))))
 have hz2 : w1.heap.size < (w1.alloc (.cells #[.int .i64 (((rd.num 3).2 : Nat) : Int), .string ⟨#[]⟩] 38)).heap.size := by simp
 generalize w1.alloc (.cells #[.int .i64 (((rd.num 3).2 : Nat) : Int), .string ⟨#[]⟩] 38) = w2 at HKR2 HKL2 HR2 HO2 hz2 ⊢
 refine (refTxt04_any g _ 12 _ HR2.out).mono ?_
 rintro e w3 ⟨rfl, hr3, ho3⟩
 have HR3 := hid hr3
 have HKR3 := hid ((ho3.blk (b := w.heap.size) (by omega) (by omega)).trans HKR2.out)
 have HKL3 := hid ((ho3.blk (b := w1.heap.size) (by omega) (by omega)).trans HKL2.out)
 have HO3 := hid (HO2.out.trans ho3)
 have hz3 : w1.heap.size < w3.heap.size := Nat.lt_of_lt_of_le hz2 ho3.size
 clear hr3 ho3
 have HTM := Rd.txt_max (rd.num 3).1 12
 have KR4 : Hid ((w3.setCell ⟨w1.heap.size, 1, none⟩ (.string (bstr ((rd.num 3).1.txt 12).2))).heap[w.heap.size]? = _) := hid ((blk_far (g := w.heap.size) (g' := w1.heap.size) (i := 1) (by omega) (.string (bstr ((rd.num 3).1.txt 12).2))).trans HKR3.out)
 have KL4 : Hid ((w3.setCell ⟨w1.heap.size, 1, none⟩ (.string (bstr ((rd.num 3).1.txt 12).2))).heap[w1.heap.size]? = some (.cells #[.int .i64 (((rd.num 3).2 : Nat) : Int), .string (bstr ((rd.num 3).1.txt 12).2)] 38 (0, 0))) := hid (blk_set (i := 1) HKL3.out (.string (bstr ((rd.num 3).1.txt 12).2)))
 have HR4 := hid (HR3.out.setFar (p := w1.heap.size) (i := 1) (by omega) (.string (bstr ((rd.num 3).1.txt 12).2)))
 have HO4 := hid (HO3.out.setNew (p := w1.heap.size) (i := 1) (by omega) (.string (bstr ((rd.num 3).1.txt 12).2)))
 have hz4 : w1.heap.size < (w3.setCell ⟨w1.heap.size, 1, none⟩ (.string (bstr ((rd.num 3).1.txt 12).2))).heap.size := by rw [size_set]; exact hz3
 obtain ⟨ql0, ql1⟩ := blk_rules HKL3.out
 obtain ⟨qL0, qL1⟩ := blk_rules KL4.out
 obtain ⟨qr0, qr1⟩ := blk_rules KR4.out
 obtain ⟨Ag, ng, cg, g0, g1⟩ := HR4.out.cells2
 obtain ⟨Ah, nh, ch, h0, h1⟩ := HR3.out.cells2
 by_cases he : ((rd.num 3).1.txt 12).1.e = 0; rotate_left
 ·have hb : (((rd.num 3).1.txt 12).1.e == 0) = false := by simpa using he
  have hb' : (((rd.num 3).1.txt 12).1.e != 0) = true := by simpa using he
  have HT' : Hid (takeK rd = (((rd.num 3).1.txt 12).1, ky0)) := hid (by rw [HT.out, if_neg he])
  go_wp2_with fail
  clear ql0 ql1 qL0 qL1 qr0 qr1 g0 g1 h0 h1
  generalize hV : ((w3.setCell ⟨w1.heap.size, 1, none⟩ (.string (bstr ((rd.num 3).1.txt 12).2))).setCell { block := w.heap.size, off := 0 } (Value.int IntKind.i64 0)).setCell { block := w.heap.size, off := 1 } (Value.string ⟨#[]⟩) = V
  obtain ⟨bV, rV, oV, kV⟩ := setR2 KR4.out _ _ hV
  clear hV
  obtain ⟨z0, -⟩ := blk_rules bV
  exact bodyPost_ret (v := .agg #[.int .i64 0, .string ⟨#[]⟩]) (by simp [results, Tryz.results15, go_sem, z0]) rfl
   (show TakenK g w (takeK rd) _ V from by rw [HT'.out]; exact ⟨rfl, nil_max, rV _ _ HR4.out (by omega), oV _ _ HO4.out (Nat.le_refl _)⟩)
 ·have hb : (((rd.num 3).1.txt 12).1.e == 0) = true := by simpa using he
  have HE := hid he
  rw [he] at g1 h1
  clear he
  go_wp2_with fail
  refine (refGood_any ⟨(((rd.num 3).2 : Nat) : Int), mkS ((rd.num 3).1.txt 12).2⟩ _ HTM).mono ?_
  rintro e w9 ⟨rfl, hb9⟩
  have KR9 := hid ((hb9.block (b := w.heap.size) (by omega)).trans KR4.out)
  have KL9 := hid ((hb9.block (b := w1.heap.size) hz4).trans KL4.out)
  have HR9 := hid (HR4.out.up hb9)
  have HO9 := hid (HO4.out.trans (Only.of_ext hb9))
  have hz9 : w1.heap.size < w9.heap.size := Nat.lt_of_lt_of_le hz4 hb9.size
  clear ql0 ql1 qL0 qL1 qr0 qr1 g0 g1 h0 h1 hb9 KR4 KL4 HR4 HO4
  obtain ⟨G, hG⟩ : ∃ G, G = goodK ⟨(((rd.num 3).2 : Nat) : Int), mkS ((rd.num 3).1.txt 12).2⟩ := ⟨_, rfl⟩
  rw [← hG]
  cases G with
  | true =>
   have HT' : Hid (takeK rd = (((rd.num 3).1.txt 12).1, ⟨(((rd.num 3).2 : Nat) : Int), mkS ((rd.num 3).1.txt 12).2⟩)) := hid (by rw [HT.out, if_pos HE.out, if_pos (by unfold chkK; rw [← hG]; rfl)])
   obtain ⟨qL0, qL1⟩ := blk_rules KL9.out
   obtain ⟨qr0, qr1⟩ := blk_rules KR9.out
   obtain ⟨Ag, ng, cg, g0, g1⟩ := HR9.out.cells2
   rw [HE.out] at g1
   clear hG
   go_wp2_with fail
   clear qL0 qL1 qr0 qr1 g0 g1
   generalize hV : (w9.setCell { block := w.heap.size, off := 0 } (Value.int IntKind.i64 (((rd.num 3).2 : Nat) : Int))).setCell { block := w.heap.size, off := 1 } (Value.string (bstr ((rd.num 3).1.txt 12).2)) = V
   obtain ⟨bV, rV, oV, kV⟩ := setR2 KR9.out _ _ hV
   clear hV
   obtain ⟨z0, -⟩ := blk_rules bV
   exact bodyPost_ret (v := .agg #[.int .i64 (((rd.num 3).2 : Nat) : Int), .string (bstr ((rd.num 3).1.txt 12).2)]) (by simp [results, Tryz.results15, go_sem, z0]) rfl
    (show TakenK g w (takeK rd) _ V from by rw [HT'.out]; exact ⟨rfl, HTM, rV _ _ HR9.out (by omega), oV _ _ HO9.out (Nat.le_refl _)⟩)
  | false =>
   have HT' : Hid (takeK rd = (⟨((rd.num 3).1.txt 12).1.b, 5⟩, ky0)) := hid (by rw [HT.out, if_pos HE.out, show chkK ⟨(((rd.num 3).2 : Nat) : Int), mkS ((rd.num 3).1.txt 12).2⟩ = 5 from (by unfold chkK; rw [← hG]; rfl), if_neg (by decide)])
   clear hG
   have HR5 := hid (HR9.out.setE 5)
   have KR5 : Hid ((w9.setCell ⟨g, 1, none⟩ (.int .i64 5)).heap[w.heap.size]? = _) := hid ((blk_far (g := w.heap.size) (g' := g) (i := 1) (by omega) (.int .i64 5)).trans KR9.out)
   have HO5 := hid (HO9.out.setG (i := 1) (.int .i64 5))
   obtain ⟨A9, n9, c9, hg9, -⟩ := HR9.out
   obtain ⟨g0, g1⟩ := blk_rules hg9
   rw [HE.out] at g0
   obtain ⟨A8, n8, c8, hg8, -⟩ := HR5.out
   obtain ⟨f0, f1⟩ := blk_rules hg8
   obtain ⟨qr0, qr1⟩ := blk_rules KR5.out
   clear hg9 hg8
   go_wp2_with fail
   clear g0 g1 f0 f1 qr0 qr1
   generalize hV : ((w9.setCell { block := g, off := 1 } (Value.int IntKind.i64 5)).setCell { block := w.heap.size, off := 0 } (Value.int IntKind.i64 0)).setCell { block := w.heap.size, off := 1 } (Value.string ⟨#[]⟩) = V
   obtain ⟨bV, rV, oV, kV⟩ := setR2 KR5.out _ _ hV
   clear hV
   obtain ⟨z0, -⟩ := blk_rules bV
   exact bodyPost_ret (v := .agg #[.int .i64 0, .string ⟨#[]⟩]) (by simp [results, Tryz.results15, go_sem, z0]) rfl
    (show TakenK g w (takeK rd) _ V from by rw [HT'.out]; exact ⟨rfl, nil_max, rV _ _ HR5.out (by omega), oV _ _ HO5.out (Nat.le_refl _)⟩)
def SomeDR (g : Nat) (w : World) (res : Rd × List Rs) (e : Ending) (w' : World) : Prop :=
 ∃ A n c, e = .returned (.slice A n c) ∧ SlW A n c ∧ ResL (fun b => w.heap.size ≤ b) w' A n res.2 ∧ RfAt w' g res.1 ∧ Only g w w'
theorem refTakeAll_any (g : Nat) (rd : Rd) (w : World) (h : RfAt w g rd) : Calls Tryz.prog 18 #[.pointer (some ⟨g, 0, none⟩)] w (SomeDR g w (someB takeR 64 rd)) := by
 have hg := h.lt
 have HR := hid h
 clear h
 go_enter Tryz.func18, Tryz.ntmps18
 go_wp2_with fail
 refine (refNum04_any g rd 64 _ HR.out).mono ?_
 rintro e w1 ⟨rfl, hr1, ho1⟩
 have hN64 : (rd.num 64).2 ≤ 64 := by have := Rd.num_le rd 64; rw [bnd64] at this; omega
 have HNZ := hid (num_zero rd 64)
 have HSB : Hid (someB takeR 64 rd = someL takeR (rd.num 64).2 (rd.num 64).1 []) := hid rfl
 obtain ⟨N, hNe⟩ : ∃ N, N = (rd.num 64).2 := ⟨_, rfl⟩
 obtain ⟨r0, hre⟩ : ∃ r0, r0 = (rd.num 64).1 := ⟨_, rfl⟩
 rw [← hNe, ← hre] at HSB
 have HST : Hid (r0.e ≠ 0 → N = 0) := hid (by rw [hre, hNe]; exact HNZ.out)
 rw [← hre] at hr1
 rw [← hNe] at hN64 ⊢
 have HR1 := hid hr1
 have HO1 := hid ho1
 have HSZ : Hid ((someL takeR N r0 []).1.e ≠ 0 → (someL takeR N r0 []).2 = []) := hid (someL_zero (fun r => codec_r.err r) N r0 [] (.inr rfl))
 clear hNe hre HNZ hr1 ho1
 go_wp2_with fail
 go_loopw [4, 5] (fun v i wr => ∃ (k : Nat) (rk : Rd) (acc : List Rs) (us : List Value), k ≤ N ∧ i = .int .i64 k ∧ Hid (LoopR takeR N r0 k rk acc) ∧ Hid (acc.length = k) ∧ Hid (wr.ownsRow w.heap.size 34 7 v k us) ∧ Hid (RowsOf (RsQ (Sx w.heap.size v) wr) 7 us acc) ∧ Hid (RfAt wr g rk) ∧ Hid (Only g w wr)) (fun _ i _ => N - (intOf i).toNat)
 case atStart => exact ⟨0, r0, [], [], Nat.zero_le _, by go_num, hid (loopR_start takeR HST.out), hid rfl, hid own_nil, hid rfl, HR1, HO1⟩
 case round =>
  obtain ⟨k, rk, acc, us, hk, rfl, HL, HA, HW, HU, HRk, HO⟩ := hrel
  have hlr : w.heap.size ≤ wr.heap.size := HO.out.size
  obtain ⟨Ag, ng, cg, g0, g1⟩ := HRk.out.cells2
  by_cases hgo : k < N ∧ rk.e = 0
  ·obtain ⟨hlt, he⟩ := hgo
   have HE := hid he
   rw [he] at g1
   clear he
   have i1 : (k : Int) < (N : Int) := by omega
   go_wp2_with fail
   clear g0 g1
   refine (refTake_takes g rk _ HRk.out).mono ?_
   rintro e w2 ⟨B, m, d, B', m', d', rfl, hv, hr2, ho2⟩
   have HL3 := loopR_step HL.out hlt HE.out (y := (takeR rk).2) (fun _ => rfl)
   obtain ⟨y, hy⟩ : ∃ y, y = (takeR rk).2 := ⟨_, rfl⟩
   obtain ⟨r2, hr2e⟩ : ∃ r2, r2 = (takeR rk).1 := ⟨_, rfl⟩
   rw [← hr2e] at hr2 HL3
   rw [← hy] at hv HL3 ⊢
   have HL3 := hid HL3
   have HR2 := hid hr2
   have HO2 := hid (HO.out.trans ho2)
   have HO2x := hid ho2
   have HW2 := hid (own_only HW.out ho2 hg)
   have HV := hid hv
   have hl2 : w.heap.size ≤ w2.heap.size := Nat.le_trans hlr ho2.size
   have hkz : k < 4294967296 := by omega
   clear hy hr2e ho2 hv hr2
   have hFk := flat_k w2 [.int .i64 y.kind, .string y.name, .int .i64 y.ver, .int .i64 y.port, .string y.to, .slice B m d, .slice B' m' d'] 34 rfl
   have hOW := own_up HW2.out (Ext.new w2 (.cells #[.int .i64 y.kind, .string y.name, .int .i64 y.ver, .int .i64 y.port, .string y.to, .slice B m d, .slice B' m' d'] 34))
   obtain ⟨v', w3, hrun, hown3, hg3, hnw⟩ := run_append_flat elem_res 42 hOW 1 hFk (by simp [Value.oneCell']) (by omega) (by omega) (by simp only [World.size_alloc]; omega) (fun h => by cases h)
   have HRUN := hid hrun
   have HO3 : Hid (Only g w w3) := hid (only_grown HO2.out (Ext.new w2 (.cells #[.int .i64 y.kind, .string y.name, .int .i64 y.ver, .int .i64 y.port, .string y.to, .slice B m d, .slice B' m' d'] 34)) hg3 hOW (Nat.le_refl _))
   have HR3 : Hid (RfAt w3 g r2) := hid (rfat_grown (HR2.out.up (Ext.new w2 (.cells #[.int .i64 y.kind, .string y.name, .int .i64 y.ver, .int .i64 y.port, .string y.to, .slice B m d, .slice B' m' d'] 34))) hg3 hOW hg)
   have HU3 : Hid (RowsOf (RsQ (Sx w.heap.size v') w3) 7 (us ++ [.int .i64 y.kind, .string y.name, .int .i64 y.ver, .int .i64 y.port, .string y.to, .slice B m d, .slice B' m' d']) (acc ++ [y])) := hid (rows_grow RsQ (fun _ _ _ _ _ h k => h.keep k) (fun _ _ _ _ _ h k => h.weak k) HU.out HO2x.out hg (Ext.new w2 (.cells #[.int .i64 y.kind, .string y.name, .int .i64 y.ver, .int .i64 y.port, .string y.to, .slice B m d, .slice B' m' d'] 34)) hg3 hnw HW.out hlr ⟨_, _, _, _, _, _, rfl, HV.out⟩ rfl)
   have HA3 : Hid ((acc ++ [y]).length = k + 1) := hid (by rw [List.length_append, HA.out]; rfl)
   have HW3 := hid hown3
   clear hFk hOW hrun hown3 hg3 hnw
   go_wp2_with (refine Lib.wpList_append_run _ rfl _ _ _ _ rfl _ _ rfl rfl v' w3 HRUN.out ?_)
   go_roundw
   case rel => exact ⟨k + 1, r2, acc ++ [y], _, by omega, by go_num, HL3, HA3, HW3, HU3, HR3, HO3⟩
   case measure => simp [intOf]; omega
  ·have HEND := hid (loopR_end HL.out hk hgo)
   have HLT := hid HW.out.lt
   obtain ⟨A, c, rfl, h1, h2, h3, hF⟩ := own_flat HW.out
   have HFl := hid hF
   have HSl : Hid (SlW A k c) := hid ⟨h1, h2, h3⟩
   have HGO := hid hgo
   clear hgo hF h1 h2 h3
   by_cases he : rk.e = 0
   ·have hlt : ¬ k < N := fun h => HGO.out ⟨h, he⟩
    have hne : ¬ (k : Int) < (N : Int) := by omega
    have HE := hid he
    rw [he] at g1
    clear he
    go_wp2_with fail
    go_ret
    rw [HSB.out]
    refine ⟨A, k, c, rfl, HSl.out, ?_, by rw [HEND.out.1]; exact HRk.out, HO.out⟩
    rw [HEND.out.2 HE.out]
    exact HFl.out.arrQ (HU.out.mono fun _ _ h => h.weak fun _ _ h => h.1) (by omega) (fun b o e hb => by subst e; exact (HLT.out b rfl).1)
   ·have hb1 : (rk.e != 0) = true := by simpa using he
    have hb : (rk.e == 0) = false := by simpa using he
    have HE := hid he
    clear he
    by_cases hlt : k < N
    ·have i1 : (k : Int) < (N : Int) := by omega
     go_wp2_with fail
     go_ret
     rw [HSB.out]
     exact ⟨none, 0, 0, rfl, SlW.nil_, by rw [HSZ.out (by rw [HEND.out.1]; exact HE.out)]; exact ArrQ.nil_, by rw [HEND.out.1]; exact HRk.out, HO.out⟩
    ·have hne : ¬ (k : Int) < (N : Int) := by omega
     go_wp2_with fail
     go_ret
     rw [HSB.out]
     exact ⟨none, 0, 0, rfl, SlW.nil_, by rw [HSZ.out (by rw [HEND.out.1]; exact HE.out)]; exact ArrQ.nil_, by rw [HEND.out.1]; exact HRk.out, HO.out⟩
def SomeDK (g : Nat) (w : World) (res : Rd × List Ky) (e : Ending) (w' : World) : Prop :=
 ∃ A n c, e = .returned (.slice A n c) ∧ SlW A n c ∧ KeyL (fun b => w.heap.size ≤ b) w' A n res.2 ∧ RfAt w' g res.1 ∧ Only g w w'
theorem refTakeKeys_any (g : Nat) (rd : Rd) (w : World) (h : RfAt w g rd) : Calls Tryz.prog 21 #[.pointer (some ⟨g, 0, none⟩)] w (SomeDK g w (someB takeK 64 rd)) := by
 have hg := h.lt
 have HR := hid h
 clear h
 go_enter Tryz.func21, Tryz.ntmps21
 go_wp2_with fail
 refine (refNum04_any g rd 64 _ HR.out).mono ?_
 rintro e w1 ⟨rfl, hr1, ho1⟩
 have hN64 : (rd.num 64).2 ≤ 64 := by have := Rd.num_le rd 64; rw [bnd64] at this; omega
 have HNZ := hid (num_zero rd 64)
 have HSB : Hid (someB takeK 64 rd = someL takeK (rd.num 64).2 (rd.num 64).1 []) := hid rfl
 obtain ⟨N, hNe⟩ : ∃ N, N = (rd.num 64).2 := ⟨_, rfl⟩
 obtain ⟨r0, hre⟩ : ∃ r0, r0 = (rd.num 64).1 := ⟨_, rfl⟩
 rw [← hNe, ← hre] at HSB
 have HST : Hid (r0.e ≠ 0 → N = 0) := hid (by rw [hre, hNe]; exact HNZ.out)
 rw [← hre] at hr1
 rw [← hNe] at hN64 ⊢
 have HR1 := hid hr1
 have HO1 := hid ho1
 have HSZ : Hid ((someL takeK N r0 []).1.e ≠ 0 → (someL takeK N r0 []).2 = []) := hid (someL_zero (fun r => codec_k.err r) N r0 [] (.inr rfl))
 clear hNe hre HNZ hr1 ho1
 go_wp2_with fail
 go_loopw [4, 5] (fun v i wr => ∃ (k : Nat) (rk : Rd) (acc : List Ky) (us : List Value), k ≤ N ∧ i = .int .i64 k ∧ Hid (LoopR takeK N r0 k rk acc) ∧ Hid (acc.length = k) ∧ Hid (wr.ownsRow w.heap.size 38 2 v k us) ∧ Hid (RowsOf KyQ 2 us acc) ∧ Hid (RfAt wr g rk) ∧ Hid (Only g w wr)) (fun _ i _ => N - (intOf i).toNat)
 case atStart => exact ⟨0, r0, [], [], Nat.zero_le _, by go_num, hid (loopR_start takeK HST.out), hid rfl, hid own_nil, hid rfl, HR1, HO1⟩
 case round =>
  obtain ⟨k, rk, acc, us, hk, rfl, HL, HA, HW, HU, HRk, HO⟩ := hrel
  have hlr : w.heap.size ≤ wr.heap.size := HO.out.size
  obtain ⟨Ag, ng, cg, g0, g1⟩ := HRk.out.cells2
  by_cases hgo : k < N ∧ rk.e = 0
  ·obtain ⟨hlt, he⟩ := hgo
   have HE := hid he
   rw [he] at g1
   clear he
   have i1 : (k : Int) < (N : Int) := by omega
   go_wp2_with fail
   clear g0 g1
   refine (refTakeKey_takes g rk _ HRk.out).mono ?_
   rintro e w2 ⟨rfl, hv, hr2, ho2⟩
   have HL3 := loopR_step HL.out hlt HE.out (y := (takeK rk).2) (fun _ => rfl)
   obtain ⟨y, hy⟩ : ∃ y, y = (takeK rk).2 := ⟨_, rfl⟩
   obtain ⟨r2, hr2e⟩ : ∃ r2, r2 = (takeK rk).1 := ⟨_, rfl⟩
   rw [← hr2e] at hr2 HL3
   rw [← hy] at hv HL3 ⊢
   have HL3 := hid HL3
   have HR2 := hid hr2
   have HO2 := hid (HO.out.trans ho2)
   have HO2x := hid ho2
   have HW2 := hid (own_only HW.out ho2 hg)
   have HV := hid hv
   have hl2 : w.heap.size ≤ w2.heap.size := Nat.le_trans hlr ho2.size
   have hkz : k < 4294967296 := by omega
   clear hy hr2e ho2 hv hr2
   have hFk := flat_k w2 [.int .i64 y.kind, .string y.name] 38 rfl
   have hOW := own_up HW2.out (Ext.new w2 (.cells #[.int .i64 y.kind, .string y.name] 38))
   obtain ⟨v', w3, hrun, hown3, hg3, hnw⟩ := run_append_flat elem_key 46 hOW 1 hFk (by simp [Value.oneCell']) (by omega) (by omega) (by simp only [World.size_alloc]; omega) (fun h => by cases h)
   have HRUN := hid hrun
   have HO3 : Hid (Only g w w3) := hid (only_grown HO2.out (Ext.new w2 (.cells #[.int .i64 y.kind, .string y.name] 38)) hg3 hOW (Nat.le_refl _))
   have HR3 : Hid (RfAt w3 g r2) := hid (rfat_grown (HR2.out.up (Ext.new w2 (.cells #[.int .i64 y.kind, .string y.name] 38))) hg3 hOW hg)
   have HU3 : Hid (RowsOf KyQ 2 (us ++ [.int .i64 y.kind, .string y.name]) (acc ++ [y])) := hid (RowsOf.snoc rfl (show KyQ [.int .i64 y.kind, .string y.name] y from ⟨rfl, HV.out⟩) HU.out)
   have HA3 : Hid ((acc ++ [y]).length = k + 1) := hid (by rw [List.length_append, HA.out]; rfl)
   have HW3 := hid hown3
   clear hFk hOW hrun hown3 hg3 hnw
   go_wp2_with (refine Lib.wpList_append_run _ rfl _ _ _ _ rfl _ _ rfl rfl v' w3 HRUN.out ?_)
   go_roundw
   case rel => exact ⟨k + 1, r2, acc ++ [y], _, by omega, by go_num, HL3, HA3, HW3, HU3, HR3, HO3⟩
   case measure => simp [intOf]; omega
  ·have HEND := hid (loopR_end HL.out hk hgo)
   have HLT := hid HW.out.lt
   obtain ⟨A, c, rfl, h1, h2, h3, hF⟩ := own_flat HW.out
   have HFl := hid hF
   have HSl : Hid (SlW A k c) := hid ⟨h1, h2, h3⟩
   have HGO := hid hgo
   clear hgo hF h1 h2 h3
   by_cases he : rk.e = 0
   ·have hlt : ¬ k < N := fun h => HGO.out ⟨h, he⟩
    have hne : ¬ (k : Int) < (N : Int) := by omega
    have HE := hid he
    rw [he] at g1
    clear he
    go_wp2_with fail
    go_ret
    rw [HSB.out]
    refine ⟨A, k, c, rfl, HSl.out, ?_, by rw [HEND.out.1]; exact HRk.out, HO.out⟩
    rw [HEND.out.2 HE.out]
    exact HFl.out.arrQ HU.out (by omega) (fun b o e hb => by subst e; exact (HLT.out b rfl).1)
   ·have hb1 : (rk.e != 0) = true := by simpa using he
    have hb : (rk.e == 0) = false := by simpa using he
    have HE := hid he
    clear he
    by_cases hlt : k < N
    ·have i1 : (k : Int) < (N : Int) := by omega
     go_wp2_with fail
     go_ret
     rw [HSB.out]
     exact ⟨none, 0, 0, rfl, SlW.nil_, by rw [HSZ.out (by rw [HEND.out.1]; exact HE.out)]; exact ArrQ.nil_, by rw [HEND.out.1]; exact HRk.out, HO.out⟩
    ·have hne : ¬ (k : Int) < (N : Int) := by omega
     go_wp2_with fail
     go_ret
     rw [HSB.out]
     exact ⟨none, 0, 0, rfl, SlW.nil_, by rw [HSZ.out (by rw [HEND.out.1]; exact HE.out)]; exact ArrQ.nil_, by rw [HEND.out.1]; exact HRk.out, HO.out⟩
end Go.Proofs.YtfdjbnofcniodaaGreatDoor
