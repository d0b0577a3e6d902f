/- What link.Drop, Again, Late, Reset compute. -/
import Derived.Test.YtjomoannlpadnaaLink2
namespace Go.Proofs.Ytjomoannlpadnaa
open Go.RowKit
attribute [local go_sem ↓] run_max2 run_min2
attribute [local go_sem ↓] Go.wp_at_zero Go.wp_at_succ

theorem cell_far {w : World} {b g i j : Nat} (hne : b ≠ g) (u : Value) : (w.setCell ⟨g, i, none⟩ u).cell? ⟨b, j, none⟩ = w.cell? ⟨b, j, none⟩ :=
  World.cell?_setCell_other w _ _ _ (fun e => hne (by injection e with e1 _ _; exact e1.symm))
theorem box_of (w : World) (c : Array Value) (t : TypeId) : (w.alloc (.cells c t)).heap[w.heap.size]? = some (.cells c t (0, 0)) := heap_alloc_new w _

set_option maxHeartbeats 800000 in
theorem linkDrop_any (X : Nat → Prop) (ep : Int) (A : Option Addr) (n c : Nat) (l : Lk) (i : Int) (w : World) (h : LkR w X ep A n c l) (hX : ∀ b, X b → b < w.heap.size) :
    Calls Try.prog 50 #[.agg #[.int .i64 ep, .slice A n c], .int .i64 i] w (GivesLk w X (fun ep A n c => .tuple #[.agg #[.int .i64 ep, .slice A n c], .int .i64 (l.take i).2.2]) (l.take i).1) := by
  have H := Lib.hid h
  have HX := Lib.hid hX
  clear h hX
  go_enter Try.func50, Try.ntmps50
  go_wp2_with fail
  refine (linkTake_any (With2 X w.heap.size) _ _ _ _ _ _ _ ((H.out.fresh with2_of).up ((Ext.new _ _).alloc _)) (with2_lt HX.out (by simp))).mono ?_
  rintro e w1 ⟨ep1, A1, n1, c1, A2, n2, c2, rfl, hl1, hbv, hb1⟩
  obtain ⟨hx0, hy0, hx1, hy1, hz1⟩ := box2 hb1
  have HE := Lib.hid (((Ext.new w _).alloc _).trans hb1)
  have HL := Lib.hid hl1
  clear hl1 hbv hb1
  go_wp2_with fail
  refine bodyPost_ret (v := .tuple #[.agg #[.int .i64 ep1, .slice A1 n1 c1], .int .i64 (l.take i).2.2]) (by simp [results, Try.results50, go_sem, hx1, hz1]) rfl ⟨ep1, A1, n1, c1, rfl, ?_, ?_⟩
  · exact (((HL.out.set (.inr (.inr rfl)) _).set (.inr (.inr rfl)) _).up (Ext.new _ _)).fresh fun b hb => .inl (.inl hb)
  · exact ((HE.out.set (Nat.le_add_right _ _) _).set (Nat.le_add_right _ _) _).alloc _

set_option maxHeartbeats 800000 in
theorem linkLate_any (X : Nat → Prop) (ep : Int) (A : Option Addr) (n c : Nat) (l : Lk) (i : Int) (w : World) (h : LkR w X ep A n c l) (hX : ∀ b, X b → b < w.heap.size) (hfew : ∀ b ∈ l.sane.q, b.length ≤ 1000000) :
    Calls Try.prog 34 #[.agg #[.int .i64 ep, .slice A n c], .int .i64 i] w (GivesLk w X (fun ep A n c => .tuple #[.agg #[.int .i64 ep, .slice A n c], .int .i64 (l.late i).2]) (l.late i).1) := by
  have H := Lib.hid h
  have HX := Lib.hid hX
  have hbl : (l.take i).2.1.length ≤ 1000000 := by
    unfold Lk.take
    split
    · simp
    · simp only []
      cases hq : l.sane.q[placeN l.sane.q.length i]? with
      | none => simp
      | some b => exact hfew b (List.mem_of_getElem? hq)
  have HBL := Lib.hid hbl
  clear h hX hfew hbl
  go_enter Try.func34, Try.ntmps34
  go_wp2_with fail
  refine (linkTake_any (With2 X w.heap.size) _ _ _ _ _ _ _ ((H.out.fresh with2_of).up ((Ext.new _ _).alloc _)) (with2_lt HX.out (by simp))).mono ?_
  rintro e w1 ⟨ep1, A1, n1, c1, A2, n2, c2, rfl, hl1, hbv, hb1⟩
  obtain ⟨hx0, hy0, hx1, hy1, hz1⟩ := box2 hb1
  have hwb := Lib.hid (box2b hb1)
  have HE := Lib.hid (((Ext.new w _).alloc _).trans hb1)
  have HL := Lib.hid hl1
  have HB := Lib.hid hbv
  clear hl1 hbv hb1
  by_cases he : (l.take i).2.2 = 0
  · have HQ : Hid (l.late i = (l.take i).1.send (l.take i).2.1) := Lib.hid (by unfold Lk.late; rw [if_pos he])
    have hne : ((l.take i).2.2 != 0) = false := by simp [he]
    have HEE := Lib.hid he
    clear he
    obtain ⟨A2', n2', c2', e2, hb1, hb2, hb3, hb4⟩ := HB.out
    injection e2 with e2 e3 e4
    subst e2 e3 e4
    have HB3 := Lib.hid hb3
    have hn2 : n2 ≤ 1000000 := by have := hb3.len; have := HBL.out; omega
    clear hb3 hb4
    go_wp2_with fail
    refine (linkSend_any (With2 X w.heap.size) _ _ _ _ (l.take i).1 _ _ _ (l.take i).2.1 _ (HL.out.up (Ext.new _ _)) (fun b hb => ?_) (ArrR.up HB3.out (Ext.new _ _)) hb1 hn2).mono ?_
    · have := with2_lt HX.out hz1 b hb; simp; omega
    rintro e w2 ⟨ep3, A3, n3, c3, rfl, hl2, hb5⟩
    have hE12 := (Ext.new w1 _).trans hb5
    have k1 := (hE12.block hz1).trans hwb.out.2.1
    obtain ⟨p0, p1⟩ := blk_rules k1
    have HE12 := Lib.hid hE12
    have HL2 := Lib.hid hl2
    clear hl2 hb5 hE12 k1
    go_wp2_with fail
    refine bodyPost_ret (v := .tuple #[.agg #[.int .i64 ep3, .slice A3 n3 c3], .int .i64 ((l.take i).1.send (l.take i).2.1).2]) (by simp [results, Try.results34, go_sem, p0]) rfl ⟨ep3, A3, n3, c3, by rw [HQ.out], ?_, ?_⟩
    · rw [HQ.out]
      exact ((HL2.out.set (.inr (.inr rfl)) _).set (.inr (.inr rfl)) _).fresh fun b hb => .inl (.inl hb)
    · exact ((HE.out.trans HE12.out).set (Nat.le_add_right _ _) _).set (Nat.le_add_right _ _) _
  · have HQ : Hid (l.late i = ((l.take i).1, (l.take i).2.2)) := Lib.hid (by unfold Lk.late; rw [if_neg he])
    have hne : ((l.take i).2.2 != 0) = true := by simp [he]
    clear he
    go_wp2_with fail
    refine bodyPost_ret (v := .tuple #[.agg #[.int .i64 ep1, .slice A1 n1 c1], .int .i64 (l.take i).2.2]) (by simp [results, Try.results34, go_sem, hx1, hz1]) rfl ⟨ep1, A1, n1, c1, by rw [HQ.out], ?_, ?_⟩
    · rw [HQ.out]
      exact (((HL.out.set (.inr (.inr rfl)) _).set (.inr (.inr rfl)) _).up (Ext.new _ _)).fresh fun b hb => .inl (.inl hb)
    · exact ((HE.out.set (Nat.le_add_right _ _) _).set (Nat.le_add_right _ _) _).alloc _

set_option maxHeartbeats 800000 in
theorem linkReset_any (X : Nat → Prop) (ep : Int) (A : Option Addr) (n c : Nat) (l : Lk) (w : World) (h : LkR w X ep A n c l) (hX : ∀ b, X b → b < w.heap.size) :
    Calls Try.prog 51 #[.agg #[.int .i64 ep, .slice A n c]] w (GivesLk w X (fun ep A n c => .tuple #[.agg #[.int .i64 ep, .slice A n c], .int .i64 l.reset.2]) l.reset.1) := by
  have H := Lib.hid h
  have HX := Lib.hid hX
  have hsb : 0 ≤ l.sane.ep ∧ l.sane.ep ≤ 2147483647 := by
    unfold Lk.sane
    split
    · rename_i h1
      simp [Lk.ok, okL] at h1
      omega
    · simp
  have HSB := Lib.hid hsb
  clear h hX hsb
  go_enter Try.func51, Try.ntmps51
  go_wp2_with fail
  refine (linksane_any (With2 X w.heap.size) _ _ _ _ _ _ ((H.out.fresh with2_of).up ((Ext.new _ _).alloc _)) (with2_lt HX.out (by simp))).mono ?_
  rintro e w1 ⟨ep1, A1, n1, c1, rfl, hl1, hb1⟩
  obtain ⟨hx0, hy0, hx1, hy1, hz1⟩ := box2 hb1
  have HE := Lib.hid (((Ext.new w _).alloc _).trans hb1)
  have HL := Lib.hid hl1
  have h1 : 0 ≤ ep1 := by have := hl1.1; have := HSB.out; omega
  have h2 : ep1 ≤ 2147483647 := by have := hl1.1; have := HSB.out; omega
  clear hl1 hb1
  by_cases he : ep1 = 2147483647
  · have HQ : Hid (l.reset = (l.sane, 14)) := Lib.hid (by unfold Lk.reset; rw [HL.out.1, if_pos he])
    have hne : (ep1 == 2147483647) = true := by simp [he]
    clear he
    go_wp2_with fail
    refine bodyPost_ret (v := .tuple #[.agg #[.int .i64 ep1, .slice A1 n1 c1], .int .i64 14]) (by simp [results, Try.results51, go_sem, hx1]) rfl ⟨ep1, A1, n1, c1, by rw [HQ.out], ?_, ?_⟩
    · rw [HQ.out]
      exact (((((HL.out.set (.inr (.inl rfl)) _).set (.inr (.inl rfl)) _).set (.inr (.inr rfl)) _).set (.inr (.inr rfl)) _)).fresh fun b hb => .inl (.inl hb)
    · exact (((HE.out.set (Nat.le_refl _) _).set (Nat.le_refl _) _).set (Nat.le_add_right _ _) _).set (Nat.le_add_right _ _) _
  · have HQ : Hid (l.reset = (⟨l.sane.ep + 1, []⟩, 0)) := Lib.hid (by unfold Lk.reset; rw [HL.out.1, if_neg he])
    have hne : (ep1 == 2147483647) = false := by simp [he]
    clear he
    go_wp2_with fail
    refine bodyPost_ret (v := .tuple #[.agg #[.int .i64 (ep1 + 1), .slice none 0 0], .int .i64 0]) (by simp [results, Try.results51, go_sem, hx1]) rfl ⟨ep1 + 1, none, 0, 0, by rw [HQ.out], ?_, ?_⟩
    · rw [HQ.out]
      exact ⟨by show l.sane.ep + 1 = ep1 + 1; rw [HL.out.1], LinkR.nil_⟩
    · exact (((HE.out.set (Nat.le_refl _) _).set (Nat.le_refl _) _).set (Nat.le_add_right _ _) _).set (Nat.le_add_right _ _) _

set_option maxHeartbeats 1600000 in
theorem linkAgain_any (X : Nat → Prop) (ep : Int) (A : Option Addr) (n c : Nat) (l : Lk) (i : Int) (w : World) (h : LkR w X ep A n c l) (hX : ∀ b, X b → b < w.heap.size) (hfew : ∀ b ∈ l.sane.q, b.length ≤ 1000000) :
    Calls Try.prog 33 #[.agg #[.int .i64 ep, .slice A n c], .int .i64 i] w (GivesLk w X (fun ep A n c => .tuple #[.agg #[.int .i64 ep, .slice A n c], .int .i64 (l.again i).2]) (l.again i).1) := by
  have H := Lib.hid h
  have HX := Lib.hid hX
  have HF := Lib.hid hfew
  clear h hX hfew
  go_enter Try.func33, Try.ntmps33
  go_wp2_with fail
  refine (linksane_any (With2 X w.heap.size) _ _ _ _ _ _ ((H.out.fresh with2_of).up ((Ext.new _ _).alloc _)) (with2_lt HX.out (by simp))).mono ?_
  rintro e w1 ⟨ep1, A1, n1, c1, rfl, hl1, hb1⟩
  obtain ⟨hx0, hy0, hx1, hy1, hz1⟩ := box2 hb1
  have hn1c : n1 ≤ c1 := hl1.2.2.2
  have hwb := box2b hb1
  have HE := Lib.hid (((Ext.new w _).alloc _).trans hb1)
  have HK := Lib.hid hwb
  have HL := Lib.hid hl1
  clear hl1 hwb hb1
  go_wp2_with fail
  generalize hW : (w1.setCell _ (Value.int IntKind.i64 ep1)).setCell _ (Value.slice A1 n1 c1) = W
  have k0 : W.heap[w.heap.size]? = some (.cells #[.int .i64 ep1, .slice A1 n1 c1] 40 (0, 0)) := by rw [← hW]; exact blk_set (blk_set HK.out.1 _) _
  have k1 : W.heap[w.heap.size + 1]? = some (.cells #[.int .i64 0, .slice none 0 0] 40 (0, 0)) := by rw [← hW, blk_far (by omega), blk_far (by omega)]; exact HK.out.2.1
  have hzW : w.heap.size + 1 < W.heap.size := by rw [← hW]; simpa [World.setCell] using HK.out.2.2
  have HLW : Hid (LkR W (With2 X w.heap.size) ep1 A1 n1 c1 l.sane) := by rw [← hW]; exact (HL.out.set (.inr (.inl rfl)) _).set (.inr (.inl rfl)) _
  have HEW : Hid (Ext w W) := by rw [← hW]; exact (HE.out.set (Nat.le_refl _) _).set (Nat.le_refl _) _
  clear hW hx0 hy0 hx1 hy1 hz1 HL HK HE
  have hzW' : w.heap.size < W.heap.size := by omega
  have hlen := Lib.hid HLW.out.len
  by_cases hn0 : n1 = 0
  · subst hn0
    have HQ : Hid (l.again i = (l.sane, 10)) := Lib.hid (by unfold Lk.again; rw [if_pos hlen.out])
    obtain ⟨hw0, hwf⟩ := blk_rules k0
    go_wp2_with (go_at_call 68; refine (linkPlace_none _ _ _ _ _).mono ?_; rintro e w2 ⟨rfl, hb2⟩; obtain ⟨q0, q1⟩ := blk_rules ((hb2.block hzW').trans k0); obtain ⟨q2, q3⟩ := blk_rules ((hb2.block hzW).trans k1))
    refine bodyPost_ret (v := .tuple #[.agg #[.int .i64 ep1, .slice A1 0 c1], .int .i64 10]) (by simp [results, Try.results33, go_sem, q2]) rfl ⟨ep1, A1, 0, c1, by rw [HQ.out], ?_, ?_⟩
    · rw [HQ.out]
      exact (((HLW.out.up hb2).set (.inr (.inr rfl)) _).set (.inr (.inr rfl)) _).fresh fun b hb => .inl (.inl hb)
    · exact ((HEW.out.trans hb2).set (Nat.le_add_right _ _) _).set (Nat.le_add_right _ _) _
  · obtain ⟨k, hk⟩ : ∃ k : Nat, max 0 i % (n1 : Int) = (k : Int) := ⟨(max 0 i % n1).toNat, (Int.toNat_of_nonneg (Int.emod_nonneg _ (by omega))).symm⟩
    have hkn : k < n1 := by have : (k : Int) < n1 := by rw [← hk]; exact Int.emod_lt_of_pos _ (by omega)
                            omega
    have hpl : placeN l.sane.q.length i = k := by unfold placeN; rw [hlen.out, hk]; simp
    obtain ⟨b, o, Ab, nb, cb, bs, rfl, hbW, hqk, hcell, hb1, hb2, hb3, hb4⟩ := HLW.out.2.1.at_ hkn
    have HQ : Hid (l.again i = l.sane.send bs) := Lib.hid (by unfold Lk.again; rw [if_neg (by rw [hlen.out]; exact hn0), hpl, hqk]; rfl)
    have hnb : nb ≤ 1000000 := by have := HF.out bs (List.mem_of_getElem? hqk); have := hb3.len; omega
    have hbne : b ≠ w.heap.size + 1 := by
      obtain ⟨_, _, hO, _⟩ := HLW.out.2.1
      exact fun e => hO (by omega) b o rfl (.inr (.inr e))
    have Hk := Lib.hid hk
    have HB3 := Lib.hid hb3
    clear hk hpl hqk hb3 hb4
    obtain ⟨hw0, hwf⟩ := blk_rules k0
    go_wp2_with (go_at_call 68; refine (linkPlace_some _ _ _ _ _ k _ (by omega) Hk.out).mono ?_; rintro e w2 ⟨rfl, hb2⟩; obtain ⟨q0, q1⟩ := blk_rules ((hb2.block hzW').trans k0); obtain ⟨q2, q3⟩ := blk_rules ((hb2.block hzW).trans k1); have hcell2 := (hb2.cell hbW).trans hcell)
    have hz2 := hb2.size
    have i1 : (0 : Int) ≤ (k : Int) := by omega
    have i2 : (k : Int) < (n1 : Int) := by omega
    have q00 : w2.cell? ⟨w.heap.size, 0, none⟩ = some (.int .i64 ep1) := q0 0
    have q01 : w2.cell? ⟨w.heap.size, 1, none⟩ = some (.slice (some ⟨b, o, none⟩) n1 c1) := q0 1
    have hz3 : w.heap.size < w2.heap.size := by omega
    have hbW3 : b < w2.heap.size := by omega
    go_region_held3 (fun w' => w'.cell? ⟨w.heap.size, 0, none⟩ = some (.int .i64 ep1) ∧ w'.cell? ⟨w.heap.size, 1, none⟩ = some (.slice (some ⟨b, o, none⟩) n1 c1) ∧ w'.cell? ⟨b, o + k, none⟩ = some (.slice Ab nb cb))
      (first | exact ⟨q00, q01, hcell2⟩ | exact ⟨r0, r1, r2⟩ | exact ⟨(cell_far (by omega) _).trans ((cell_far (by omega) _).trans r0), (cell_far (by omega) _).trans ((cell_far (by omega) _).trans r1), (cell_far hbne _).trans ((cell_far hbne _).trans r2)⟩)
      (first
        | (go_at_call 31; refine (linkSend_any (With2 X w.heap.size) _ _ _ _ l.sane _ _ _ bs _ (HLW.out.up (hb2.trans (Ext.refl w2).drew)) (fun b hb => Nat.lt_of_lt_of_le (with2_lt HX.out hzW b hb) hz2) (ArrR.up HB3.out (hb2.trans (Ext.refl w2).drew)) hb1 hnb).mono ?_; rintro e w3 ⟨ep3, A3, n3, c3, rfl, hl3, hE3⟩; have r0 := (Ext.cell hE3 (o := 0) hz3).trans q00; have r1 := (Ext.cell hE3 (o := 1) hz3).trans q01; have r2 := (Ext.cell hE3 (o := o + k) hbW3).trans hcell2; obtain ⟨s0, s1⟩ := blk_rules ((Ext.block hE3 (Nat.lt_of_lt_of_le hzW hz2)).trans ((hb2.block hzW).trans k1)))
        | fail)
    have HL3 := Lib.hid hl3
    clear r0 r1 r2
    go_wp2_with fail
    refine bodyPost_ret (v := .tuple #[.agg #[.int .i64 ep3, .slice A3 n3 c3], .int .i64 (l.sane.send bs).2]) (by simp [results, Try.results33, go_sem, s0]) rfl ⟨ep3, A3, n3, c3, by rw [HQ.out], ?_, ?_⟩
    · rw [HQ.out]
      exact ((HL3.out.set (.inr (.inr rfl)) _).set (.inr (.inr rfl)) _).fresh fun b hb => .inl (.inl hb)
    · exact (((HEW.out.trans hb2).trans ((Ext.refl w2).drew.trans hE3)).set (Nat.le_add_right _ _) _).set (Nat.le_add_right _ _) _
end Go.Proofs.Ytjomoannlpadnaa
