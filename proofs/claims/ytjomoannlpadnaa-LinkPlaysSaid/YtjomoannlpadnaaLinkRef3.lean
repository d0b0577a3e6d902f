/- What the reference's functions on links compute: Drop, Late, Reset. (Printed by mk_linkref.py out of the program's walks.) -/
import Derived.Test.YtjomoannlpadnaaLinkRef2
namespace Go.Proofs.Ytjomoannlpadnaa
open Go.RowKit
attribute [local go_sem ↓] run_max2 run_min2
attribute [local go_sem ↓] Go.wp_at_zero Go.wp_at_succ

set_option maxHeartbeats 800000 in
theorem refDrop12_any (X : Nat → Prop) (ep : Int) (A : Option Addr) (n c : Nat) (l : Lk) (i : Int) (w : World) (h : LkR w X ep A n c l) (hX : ∀ b, X b → b < w.heap.size) :
    Calls Try.prog 76 #[.agg #[.int .i64 ep, .slice A n c], .int .i64 i] w (GivesLk w X (fun ep A n c => .tuple #[.agg #[.int .i64 ep, .slice A n c], .int .i64 (l.take i).2.2]) (l.take i).1) := by
  have H := Lib.hid h
  have HX := Lib.hid hX
  clear h hX
  go_enter Try.func76, Try.ntmps76
  go_wp2_with fail
  refine (refTake12_any (With2 X w.heap.size) _ _ _ _ _ _ _ ((H.out.fresh with2_of).up ((Ext.new _ _).alloc _)) (with2_lt HX.out (by simp))).mono ?_
  rintro e w1 ⟨ep1, A1, n1, c1, A2, n2, c2, rfl, hl1, hbv, hb1⟩
  obtain ⟨hx0, hy0, hx1, hy1, hz1⟩ := box2 hb1
  have HE := Lib.hid (((Ext.new w _).alloc _).trans hb1)
  have HL := Lib.hid hl1
  clear hl1 hbv hb1
  go_wp2_with fail
  refine bodyPost_ret (v := .tuple #[.agg #[.int .i64 ep1, .slice A1 n1 c1], .int .i64 (l.take i).2.2]) (by simp [results, Try.results76, go_sem, hx1, hz1]) rfl ⟨ep1, A1, n1, c1, rfl, ?_, ?_⟩
  · exact (((HL.out.set (.inr (.inr rfl)) _).set (.inr (.inr rfl)) _).up (Ext.new _ _)).fresh fun b hb => .inl (.inl hb)
  · exact ((HE.out.set (Nat.le_add_right _ _) _).set (Nat.le_add_right _ _) _).alloc _

set_option maxHeartbeats 800000 in
theorem refLate12_any (X : Nat → Prop) (ep : Int) (A : Option Addr) (n c : Nat) (l : Lk) (i : Int) (w : World) (h : LkR w X ep A n c l) (hX : ∀ b, X b → b < w.heap.size) (hfew : ∀ b ∈ l.sane.q, b.length ≤ 1000000) :
    Calls Try.prog 78 #[.agg #[.int .i64 ep, .slice A n c], .int .i64 i] w (GivesLk w X (fun ep A n c => .tuple #[.agg #[.int .i64 ep, .slice A n c], .int .i64 (l.late i).2]) (l.late i).1) := by
  have H := Lib.hid h
  have HX := Lib.hid hX
  have hbl : (l.take i).2.1.length ≤ 1000000 := by
    unfold Lk.take
    split
    · simp
    · simp only []
      cases hq : l.sane.q[placeN l.sane.q.length i]? with
      | none => simp
      | some b => exact hfew b (List.mem_of_getElem? hq)
  have HBL := Lib.hid hbl
  clear h hX hfew hbl
  go_enter Try.func78, Try.ntmps78
  go_wp2_with fail
  refine (refTake12_any (With2 X w.heap.size) _ _ _ _ _ _ _ ((H.out.fresh with2_of).up ((Ext.new _ _).alloc _)) (with2_lt HX.out (by simp))).mono ?_
  rintro e w1 ⟨ep1, A1, n1, c1, A2, n2, c2, rfl, hl1, hbv, hb1⟩
  obtain ⟨hx0, hy0, hx1, hy1, hz1⟩ := box2 hb1
  have hwb := Lib.hid (box2b hb1)
  have HE := Lib.hid (((Ext.new w _).alloc _).trans hb1)
  have HL := Lib.hid hl1
  have HB := Lib.hid hbv
  clear hl1 hbv hb1
  by_cases he : (l.take i).2.2 = 0
  · have HQ : Hid (l.late i = (l.take i).1.send (l.take i).2.1) := Lib.hid (by unfold Lk.late; rw [if_pos he])
    have hne : ((l.take i).2.2 != 0) = false := by simp [he]
    have HEE := Lib.hid he
    clear he
    obtain ⟨A2', n2', c2', e2, hb1, hb2, hb3, hb4⟩ := HB.out
    injection e2 with e2 e3 e4
    subst e2 e3 e4
    have HB3 := Lib.hid hb3
    have hn2 : n2 ≤ 1000000 := by have := hb3.len; have := HBL.out; omega
    clear hb3 hb4
    go_wp2_with fail
    refine (refSend12_any (With2 X w.heap.size) _ _ _ _ (l.take i).1 _ _ _ (l.take i).2.1 _ (HL.out.up (Ext.new _ _)) (fun b hb => ?_) (ArrR.up HB3.out (Ext.new _ _)) hb1 hn2).mono ?_
    · have := with2_lt HX.out hz1 b hb; simp; omega
    rintro e w2 ⟨ep3, A3, n3, c3, rfl, hl2, hb5⟩
    have hE12 := (Ext.new w1 _).trans hb5
    have k1 := (hE12.block hz1).trans hwb.out.2.1
    obtain ⟨p0, p1⟩ := blk_rules k1
    have HE12 := Lib.hid hE12
    have HL2 := Lib.hid hl2
    clear hl2 hb5 hE12 k1
    go_wp2_with fail
    refine bodyPost_ret (v := .tuple #[.agg #[.int .i64 ep3, .slice A3 n3 c3], .int .i64 ((l.take i).1.send (l.take i).2.1).2]) (by simp [results, Try.results78, go_sem, p0]) rfl ⟨ep3, A3, n3, c3, by rw [HQ.out], ?_, ?_⟩
    · rw [HQ.out]
      exact ((HL2.out.set (.inr (.inr rfl)) _).set (.inr (.inr rfl)) _).fresh fun b hb => .inl (.inl hb)
    · exact ((HE.out.trans HE12.out).set (Nat.le_add_right _ _) _).set (Nat.le_add_right _ _) _
  · have HQ : Hid (l.late i = ((l.take i).1, (l.take i).2.2)) := Lib.hid (by unfold Lk.late; rw [if_neg he])
    have hne : ((l.take i).2.2 != 0) = true := by simp [he]
    clear he
    go_wp2_with fail
    refine bodyPost_ret (v := .tuple #[.agg #[.int .i64 ep1, .slice A1 n1 c1], .int .i64 (l.take i).2.2]) (by simp [results, Try.results78, go_sem, hx1, hz1]) rfl ⟨ep1, A1, n1, c1, by rw [HQ.out], ?_, ?_⟩
    · rw [HQ.out]
      exact (((HL.out.set (.inr (.inr rfl)) _).set (.inr (.inr rfl)) _).up (Ext.new _ _)).fresh fun b hb => .inl (.inl hb)
    · exact ((HE.out.set (Nat.le_add_right _ _) _).set (Nat.le_add_right _ _) _).alloc _

set_option maxHeartbeats 800000 in
theorem refReset12_any (X : Nat → Prop) (ep : Int) (A : Option Addr) (n c : Nat) (l : Lk) (w : World) (h : LkR w X ep A n c l) (hX : ∀ b, X b → b < w.heap.size) :
    Calls Try.prog 79 #[.agg #[.int .i64 ep, .slice A n c]] w (GivesLk w X (fun ep A n c => .tuple #[.agg #[.int .i64 ep, .slice A n c], .int .i64 l.reset.2]) l.reset.1) := by
  have H := Lib.hid h
  have HX := Lib.hid hX
  have hsb : 0 ≤ l.sane.ep ∧ l.sane.ep ≤ 2147483647 := by
    unfold Lk.sane
    split
    · rename_i h1
      simp [Lk.ok, okL] at h1
      omega
    · simp
  have HSB := Lib.hid hsb
  clear h hX hsb
  go_enter Try.func79, Try.ntmps79
  go_wp2_with fail
  refine (refsane12_any (With2 X w.heap.size) _ _ _ _ _ _ ((H.out.fresh with2_of).up ((Ext.new _ _).alloc _)) (with2_lt HX.out (by simp))).mono ?_
  rintro e w1 ⟨ep1, A1, n1, c1, rfl, hl1, hb1⟩
  obtain ⟨hx0, hy0, hx1, hy1, hz1⟩ := box2 hb1
  have HE := Lib.hid (((Ext.new w _).alloc _).trans hb1)
  have HL := Lib.hid hl1
  have h1 : 0 ≤ ep1 := by have := hl1.1; have := HSB.out; omega
  have h2 : ep1 ≤ 2147483647 := by have := hl1.1; have := HSB.out; omega
  clear hl1 hb1
  by_cases he : ep1 = 2147483647
  · have HQ : Hid (l.reset = (l.sane, 14)) := Lib.hid (by unfold Lk.reset; rw [HL.out.1, if_pos he])
    have hne : (ep1 == 2147483647) = true := by simp [he]
    clear he
    go_wp2_with fail
    refine bodyPost_ret (v := .tuple #[.agg #[.int .i64 ep1, .slice A1 n1 c1], .int .i64 14]) (by simp [results, Try.results79, go_sem, hx1]) rfl ⟨ep1, A1, n1, c1, by rw [HQ.out], ?_, ?_⟩
    · rw [HQ.out]
      exact (((((HL.out.set (.inr (.inl rfl)) _).set (.inr (.inl rfl)) _).set (.inr (.inr rfl)) _).set (.inr (.inr rfl)) _)).fresh fun b hb => .inl (.inl hb)
    · exact (((HE.out.set (Nat.le_refl _) _).set (Nat.le_refl _) _).set (Nat.le_add_right _ _) _).set (Nat.le_add_right _ _) _
  · have HQ : Hid (l.reset = (⟨l.sane.ep + 1, []⟩, 0)) := Lib.hid (by unfold Lk.reset; rw [HL.out.1, if_neg he])
    have hne : (ep1 == 2147483647) = false := by simp [he]
    clear he
    go_wp2_with fail
    refine bodyPost_ret (v := .tuple #[.agg #[.int .i64 (ep1 + 1), .slice none 0 0], .int .i64 0]) (by simp [results, Try.results79, go_sem, hx1]) rfl ⟨ep1 + 1, none, 0, 0, by rw [HQ.out], ?_, ?_⟩
    · rw [HQ.out]
      exact ⟨by show l.sane.ep + 1 = ep1 + 1; rw [HL.out.1], LinkR.nil_⟩
    · exact (((HE.out.set (Nat.le_refl _) _).set (Nat.le_refl _) _).set (Nat.le_add_right _ _) _).set (Nat.le_add_right _ _) _


theorem Lk.sane_sane (l : Lk) : l.sane.sane = l.sane := by
  by_cases h : l.ok = true
  · rw [Lk.sane_of h, Lk.sane_of h]
  · have e : l.sane = ⟨0, []⟩ := by unfold Lk.sane; rw [if_neg h]
    rw [e]; rfl
theorem Lk.sane_send (l : Lk) (b : List UInt8) : l.sane.send b = l.send b := by unfold Lk.send; rw [Lk.sane_sane]
set_option maxHeartbeats 1600000 in
theorem refAgain12_any (X : Nat → Prop) (ep : Int) (A : Option Addr) (n c : Nat) (l : Lk) (i : Int) (w : World) (h : LkR w X ep A n c l) (hX : ∀ b, X b → b < w.heap.size) (hfew : ∀ b ∈ l.sane.q, b.length ≤ 1000000) :
    Calls Try.prog 77 #[.agg #[.int .i64 ep, .slice A n c], .int .i64 i] w (GivesLk w X (fun ep A n c => .tuple #[.agg #[.int .i64 ep, .slice A n c], .int .i64 (l.again i).2]) (l.again i).1) := by
  have H := Lib.hid h
  have HX := Lib.hid hX
  have hbl : (l.take i).2.1.length ≤ 1000000 := by
    unfold Lk.take
    split
    · simp
    · simp only []
      cases hq : l.sane.q[placeN l.sane.q.length i]? with
      | none => simp
      | some b => exact hfew b (List.mem_of_getElem? hq)
  have HBL := Lib.hid hbl
  clear h hX hfew hbl
  go_enter Try.func77, Try.ntmps77
  go_wp2_with fail
  refine (refTake12_any (With2 X w.heap.size) _ _ _ _ _ _ _ ((H.out.fresh with2_of).up ((Ext.new _ _).alloc _)) (with2_lt HX.out (by simp))).mono ?_
  rintro e w1 ⟨ep1, A1, n1, c1, A2, n2, c2, rfl, hl1, hbv, hb1⟩
  obtain ⟨hx0, hy0, hx1, hy1, hz1⟩ := box2 hb1
  have hwb := Lib.hid (box2b hb1)
  have HE := Lib.hid (((Ext.new w _).alloc _).trans hb1)
  have HB := Lib.hid hbv
  have hz1' : w.heap.size < w1.heap.size := by omega
  clear hl1 hbv hb1
  by_cases h0 : l.sane.q.length = 0
  · have ht : l.take i = (l.sane, [], 10) := by unfold Lk.take; rw [if_pos h0]
    have HQ : Hid (l.again i = (l.sane, 10)) := Lib.hid (by unfold Lk.again; rw [if_pos h0])
    rw [ht] at HB ⊢
    simp only at HB ⊢
    clear ht h0
    go_wp2_with fail
    refine (refsane12_any (With2 X w.heap.size) _ _ _ _ _ _ ((H.out.fresh with2_of).up (HE.out.alloc _)) (fun b hb => by have := with2_lt HX.out hz1 b hb; simp; omega)).mono ?_
    rintro e w2 ⟨ep3, A3, n3, c3, rfl, hl2, hb5⟩
    have hE12 := (Ext.new w1 _).trans hb5
    have k1 := (hE12.block hz1).trans hwb.out.2.1
    obtain ⟨p0, p1⟩ := blk_rules k1
    have HE12 := Lib.hid hE12
    have HL2 := Lib.hid hl2
    clear hl2 hb5 hE12 k1
    go_wp2_with fail
    refine bodyPost_ret (v := .tuple #[.agg #[.int .i64 ep3, .slice A3 n3 c3], .int .i64 10]) (by simp [results, Try.results77, go_sem, p0]) rfl ⟨ep3, A3, n3, c3, by rw [HQ.out], ?_, ?_⟩
    · rw [HQ.out]
      exact ((HL2.out.set (.inr (.inr rfl)) _).set (.inr (.inr rfl)) _).fresh fun b hb => .inl (.inl hb)
    · exact ((HE.out.trans HE12.out).set (Nat.le_add_right _ _) _).set (Nat.le_add_right _ _) _
  · obtain ⟨x, hx⟩ : ∃ x, x = (l.sane.q[placeN l.sane.q.length i]?).getD [] := ⟨_, rfl⟩
    have ht : l.take i = (⟨l.sane.ep, l.sane.q.take (placeN l.sane.q.length i) ++ l.sane.q.drop (placeN l.sane.q.length i + 1)⟩, x, 0) := by unfold Lk.take; rw [if_neg h0, hx]
    have HQ : Hid (l.again i = l.send x) := Lib.hid (by unfold Lk.again; rw [if_neg h0, ← hx, Lk.sane_send])
    rw [ht] at HB HBL ⊢
    simp only at HB HBL ⊢
    obtain ⟨A2', n2', c2', e2, hb1, hb2, hb3, hb4⟩ := HB.out
    injection e2 with e2 e3 e4
    subst e2 e3 e4
    have HB3 := Lib.hid hb3
    have hn2 : n2 ≤ 1000000 := by have := hb3.len; have := HBL.out; omega
    clear ht h0 hb3 hb4 hx
    go_wp2_with fail
    refine (refSend12_any (With2 X w.heap.size) _ _ _ _ l _ _ _ x _ ((H.out.fresh with2_of).up (HE.out.alloc _)) (fun b hb => by have := with2_lt HX.out hz1 b hb; simp; omega) (ArrR.up HB3.out (Ext.new _ _)) hb1 hn2).mono ?_
    rintro e w2 ⟨ep3, A3, n3, c3, rfl, hl2, hb5⟩
    have hE12 := (Ext.new w1 _).trans hb5
    have k1 := (hE12.block hz1).trans hwb.out.2.1
    obtain ⟨p0, p1⟩ := blk_rules k1
    have HE12 := Lib.hid hE12
    have HL2 := Lib.hid hl2
    clear hl2 hb5 hE12 k1
    go_wp2_with fail
    refine bodyPost_ret (v := .tuple #[.agg #[.int .i64 ep3, .slice A3 n3 c3], .int .i64 (l.send x).2]) (by simp [results, Try.results77, go_sem, p0]) rfl ⟨ep3, A3, n3, c3, by rw [HQ.out], ?_, ?_⟩
    · rw [HQ.out]
      exact ((HL2.out.set (.inr (.inr rfl)) _).set (.inr (.inr rfl)) _).fresh fun b hb => .inl (.inl hb)
    · exact ((HE.out.trans HE12.out).set (Nat.le_add_right _ _) _).set (Nat.le_add_right _ _) _
end Go.Proofs.Ytjomoannlpadnaa
