/- The law RecordTakes of layer 4. -/
import Derived.Test.YtfdjbnofcniodaaGreatDoorRef04u
import Derived.Test.YtfdjbnofcniodaaGreatDoorRecAwake
namespace Go.Proofs.YtfdjbnofcniodaaGreatDoor
set_option linter.unusedVariables false
open Go.RowKit

theorem convT {w : World} {A : Option Addr} {n : Nat} {bs : List UInt8} (h : Byts w A n bs) (c : Nat) : (convert 22 9 (.slice A n c)).run Tryz.prog w = .ok (.string (bstr bs)) w :=
  run_conv Tryz.underlying22 Tryz.underlying5 Tryz.underlying9 h c
theorem byts_past {w w' : World} {g g2 n : Nat} {A : Option Addr} {bs : List UInt8} (h : Byts w A n bs) (ho : Only g2 w w') (hA : OffG g A n) (hg : g < g2) : Byts w' A n bs :=
  ⟨h.1, fun hn => by
    obtain ⟨b, o, rfl, hb, hc⟩ := h.2 hn
    have hbg := hA hn b o rfl
    refine ⟨b, o, rfl, Nat.lt_of_lt_of_le hb ho.size, fun k x hx => ?_⟩
    obtain ⟨cs, h1, h2, hcs⟩ := hc k x hx
    exact ⟨cs, h1, h2, fun j u hu => (ho.cell hb (by omega)).trans (hcs j u hu)⟩⟩
theorem RdAt.past {w w' : World} {g g2 : Nat} {r : Rd} (h : RdAt w g r) (ho : Only g2 w w') (hg : g < g2) : RdAt w' g r := by
  obtain ⟨A, n, c, h1, h2, h3, h4, h5, h6⟩ := h
  have hgl : g < w.heap.size := (Array.getElem?_eq_some_iff.1 h1).1
  exact ⟨A, n, c, (ho.blk hgl (by omega)).trans h1, h2, h3, h4, byts_past h5 ho h6 hg, h6⟩
theorem RfAt.past {w w' : World} {g g2 : Nat} {r : Rd} (h : RfAt w g r) (ho : Only g2 w w') (hg : g < g2) : RfAt w' g r := by
  obtain ⟨A, n, c, h1, h2, h3, h4, h5, h6⟩ := h
  have hgl : g < w.heap.size := (Array.getElem?_eq_some_iff.1 h1).1
  exact ⟨A, n, c, (ho.blk hgl (by omega)).trans h1, h2, h3, h4, byts_past h5 ho h6 hg, h6⟩
theorem off_old {w : World} {g n : Nat} {A : Option Addr} {bs : List UInt8} (h : Byts w A n bs) (hg : w.heap.size ≤ g) : OffG g A n := fun hn b o e => by
  obtain ⟨b', o', e', hb, -⟩ := h.2 hn
  rw [e] at e'
  injection e' with e'
  injection e' with e1 e2
  omega
theorem RdAt.late {w w' : World} {g n c : Nat} {A : Option Addr} {bs : List UInt8} {e : Int} (hB : Byts w A n bs) (hA : A = none → c = 0) (hnc : n ≤ c) (hcm : c ≤ 9223372036854775807) (hx : Ext w w') (hg : w.heap.size ≤ g)
    (hk : w'.heap[g]? = some (.cells #[.slice A n c, .int .i64 e] 27 (0, 0))) : RdAt w' g ⟨bs, e⟩ := ⟨A, n, c, hk, hA, hnc, hcm, ArrR.up hB hx, off_old hB hg⟩
theorem RfAt.late {w w' : World} {g n c : Nat} {A : Option Addr} {bs : List UInt8} {e : Int} (hB : Byts w A n bs) (hA : A = none → c = 0) (hnc : n ≤ c) (hcm : c ≤ 9223372036854775807) (hx : Ext w w') (hg : w.heap.size ≤ g)
    (hk : w'.heap[g]? = some (.cells #[.slice A n c, .int .i64 e] 29 (0, 0))) : RfAt w' g ⟨bs, e⟩ := ⟨A, n, c, hk, hA, hnc, hcm, ArrR.up hB hx, off_old hB hg⟩
theorem eight_blocks (w : World) (o0 o1 o2 o3 o4 o5 o6 o7 : Obj) : Ext w ((((((((w.alloc o0).alloc o1).alloc o2).alloc o3).alloc o4).alloc o5).alloc o6).alloc o7) ∧ ((((((((w.alloc o0).alloc o1).alloc o2).alloc o3).alloc o4).alloc o5).alloc o6).alloc o7).heap.size = w.heap.size + 8 ∧ ((((((((w.alloc o0).alloc o1).alloc o2).alloc o3).alloc o4).alloc o5).alloc o6).alloc o7).heap[w.heap.size]? = some o0 ∧ ((((((((w.alloc o0).alloc o1).alloc o2).alloc o3).alloc o4).alloc o5).alloc o6).alloc o7).heap[w.heap.size + 1]? = some o1 ∧ ((((((((w.alloc o0).alloc o1).alloc o2).alloc o3).alloc o4).alloc o5).alloc o6).alloc o7).heap[w.heap.size + 1 + 1]? = some o2 ∧ ((((((((w.alloc o0).alloc o1).alloc o2).alloc o3).alloc o4).alloc o5).alloc o6).alloc o7).heap[w.heap.size + 1 + 1 + 1]? = some o3 ∧ ((((((((w.alloc o0).alloc o1).alloc o2).alloc o3).alloc o4).alloc o5).alloc o6).alloc o7).heap[w.heap.size + 1 + 1 + 1 + 1]? = some o4 ∧ ((((((((w.alloc o0).alloc o1).alloc o2).alloc o3).alloc o4).alloc o5).alloc o6).alloc o7).heap[w.heap.size + 1 + 1 + 1 + 1 + 1]? = some o5 ∧ ((((((((w.alloc o0).alloc o1).alloc o2).alloc o3).alloc o4).alloc o5).alloc o6).alloc o7).heap[w.heap.size + 1 + 1 + 1 + 1 + 1 + 1]? = some o6 ∧ ((((((((w.alloc o0).alloc o1).alloc o2).alloc o3).alloc o4).alloc o5).alloc o6).alloc o7).heap[w.heap.size + 1 + 1 + 1 + 1 + 1 + 1 + 1]? = some o7 := by
  obtain ⟨W1, e1⟩ : ∃ W, W = w.alloc o0 := ⟨_, rfl⟩
  have s1 : W1.heap.size = w.heap.size + 1 := by rw [e1, World.size_alloc]
  have x1 : Ext w W1 := by rw [e1]; exact Ext.new _ _
  have k0_1 : W1.heap[w.heap.size]? = some o0 := by rw [e1]; have h := heap_alloc_new w o0; exact h
  obtain ⟨W2, e2⟩ : ∃ W, W = W1.alloc o1 := ⟨_, rfl⟩
  have s2 : W2.heap.size = w.heap.size + 2 := by rw [e2, World.size_alloc]; omega
  have x2 : Ext W1 W2 := by rw [e2]; exact Ext.new _ _
  have k1_2 : W2.heap[w.heap.size + 1]? = some o1 := by rw [e2]; have h := heap_alloc_new W1 o1; rw [s1] at h; exact h
  have k0_2 : W2.heap[w.heap.size]? = some o0 := (x2.block (by omega)).trans k0_1
  obtain ⟨W3, e3⟩ : ∃ W, W = W2.alloc o2 := ⟨_, rfl⟩
  have s3 : W3.heap.size = w.heap.size + 3 := by rw [e3, World.size_alloc]; omega
  have x3 : Ext W2 W3 := by rw [e3]; exact Ext.new _ _
  have k2_3 : W3.heap[w.heap.size + 1 + 1]? = some o2 := by rw [e3]; have h := heap_alloc_new W2 o2; rw [s2] at h; exact h
  have k0_3 : W3.heap[w.heap.size]? = some o0 := (x3.block (by omega)).trans k0_2
  have k1_3 : W3.heap[w.heap.size + 1]? = some o1 := (x3.block (by omega)).trans k1_2
  obtain ⟨W4, e4⟩ : ∃ W, W = W3.alloc o3 := ⟨_, rfl⟩
  have s4 : W4.heap.size = w.heap.size + 4 := by rw [e4, World.size_alloc]; omega
  have x4 : Ext W3 W4 := by rw [e4]; exact Ext.new _ _
  have k3_4 : W4.heap[w.heap.size + 1 + 1 + 1]? = some o3 := by rw [e4]; have h := heap_alloc_new W3 o3; rw [s3] at h; exact h
  have k0_4 : W4.heap[w.heap.size]? = some o0 := (x4.block (by omega)).trans k0_3
  have k1_4 : W4.heap[w.heap.size + 1]? = some o1 := (x4.block (by omega)).trans k1_3
  have k2_4 : W4.heap[w.heap.size + 1 + 1]? = some o2 := (x4.block (by omega)).trans k2_3
  obtain ⟨W5, e5⟩ : ∃ W, W = W4.alloc o4 := ⟨_, rfl⟩
  have s5 : W5.heap.size = w.heap.size + 5 := by rw [e5, World.size_alloc]; omega
  have x5 : Ext W4 W5 := by rw [e5]; exact Ext.new _ _
  have k4_5 : W5.heap[w.heap.size + 1 + 1 + 1 + 1]? = some o4 := by rw [e5]; have h := heap_alloc_new W4 o4; rw [s4] at h; exact h
  have k0_5 : W5.heap[w.heap.size]? = some o0 := (x5.block (by omega)).trans k0_4
  have k1_5 : W5.heap[w.heap.size + 1]? = some o1 := (x5.block (by omega)).trans k1_4
  have k2_5 : W5.heap[w.heap.size + 1 + 1]? = some o2 := (x5.block (by omega)).trans k2_4
  have k3_5 : W5.heap[w.heap.size + 1 + 1 + 1]? = some o3 := (x5.block (by omega)).trans k3_4
  obtain ⟨W6, e6⟩ : ∃ W, W = W5.alloc o5 := ⟨_, rfl⟩
  have s6 : W6.heap.size = w.heap.size + 6 := by rw [e6, World.size_alloc]; omega
  have x6 : Ext W5 W6 := by rw [e6]; exact Ext.new _ _
  have k5_6 : W6.heap[w.heap.size + 1 + 1 + 1 + 1 + 1]? = some o5 := by rw [e6]; have h := heap_alloc_new W5 o5; rw [s5] at h; exact h
  have k0_6 : W6.heap[w.heap.size]? = some o0 := (x6.block (by omega)).trans k0_5
  have k1_6 : W6.heap[w.heap.size + 1]? = some o1 := (x6.block (by omega)).trans k1_5
  have k2_6 : W6.heap[w.heap.size + 1 + 1]? = some o2 := (x6.block (by omega)).trans k2_5
  have k3_6 : W6.heap[w.heap.size + 1 + 1 + 1]? = some o3 := (x6.block (by omega)).trans k3_5
  have k4_6 : W6.heap[w.heap.size + 1 + 1 + 1 + 1]? = some o4 := (x6.block (by omega)).trans k4_5
  obtain ⟨W7, e7⟩ : ∃ W, W = W6.alloc o6 := ⟨_, rfl⟩
  have s7 : W7.heap.size = w.heap.size + 7 := by rw [e7, World.size_alloc]; omega
  have x7 : Ext W6 W7 := by rw [e7]; exact Ext.new _ _
  have k6_7 : W7.heap[w.heap.size + 1 + 1 + 1 + 1 + 1 + 1]? = some o6 := by rw [e7]; have h := heap_alloc_new W6 o6; rw [s6] at h; exact h
  have k0_7 : W7.heap[w.heap.size]? = some o0 := (x7.block (by omega)).trans k0_6
  have k1_7 : W7.heap[w.heap.size + 1]? = some o1 := (x7.block (by omega)).trans k1_6
  have k2_7 : W7.heap[w.heap.size + 1 + 1]? = some o2 := (x7.block (by omega)).trans k2_6
  have k3_7 : W7.heap[w.heap.size + 1 + 1 + 1]? = some o3 := (x7.block (by omega)).trans k3_6
  have k4_7 : W7.heap[w.heap.size + 1 + 1 + 1 + 1]? = some o4 := (x7.block (by omega)).trans k4_6
  have k5_7 : W7.heap[w.heap.size + 1 + 1 + 1 + 1 + 1]? = some o5 := (x7.block (by omega)).trans k5_6
  obtain ⟨W8, e8⟩ : ∃ W, W = W7.alloc o7 := ⟨_, rfl⟩
  have s8 : W8.heap.size = w.heap.size + 8 := by rw [e8, World.size_alloc]; omega
  have x8 : Ext W7 W8 := by rw [e8]; exact Ext.new _ _
  have k7_8 : W8.heap[w.heap.size + 1 + 1 + 1 + 1 + 1 + 1 + 1]? = some o7 := by rw [e8]; have h := heap_alloc_new W7 o7; rw [s7] at h; exact h
  have k0_8 : W8.heap[w.heap.size]? = some o0 := (x8.block (by omega)).trans k0_7
  have k1_8 : W8.heap[w.heap.size + 1]? = some o1 := (x8.block (by omega)).trans k1_7
  have k2_8 : W8.heap[w.heap.size + 1 + 1]? = some o2 := (x8.block (by omega)).trans k2_7
  have k3_8 : W8.heap[w.heap.size + 1 + 1 + 1]? = some o3 := (x8.block (by omega)).trans k3_7
  have k4_8 : W8.heap[w.heap.size + 1 + 1 + 1 + 1]? = some o4 := (x8.block (by omega)).trans k4_7
  have k5_8 : W8.heap[w.heap.size + 1 + 1 + 1 + 1 + 1]? = some o5 := (x8.block (by omega)).trans k5_7
  have k6_8 : W8.heap[w.heap.size + 1 + 1 + 1 + 1 + 1 + 1]? = some o6 := (x8.block (by omega)).trans k6_7
  have e : (((((((w.alloc o0).alloc o1).alloc o2).alloc o3).alloc o4).alloc o5).alloc o6).alloc o7 = W8 := by rw [e8, e7, e6, e5, e4, e3, e2, e1]
  rw [e]
  exact ⟨(((((((x1).trans x2).trans x3).trans x4).trans x5).trans x6).trans x7).trans x8, s8, k0_8, k1_8, k2_8, k3_8, k4_8, k5_8, k6_8, k7_8⟩

set_option maxRecDepth 100000 in
set_option maxHeartbeats 16000000 in
theorem recordTakes_any (A : Option Addr) (n c : Nat) (bs : List UInt8) (ec : Int) (w : World) (hB : Byts w A n bs) (hc : A = none → c = 0) (hnc : n ≤ c) (hcm : c ≤ 9223372036854775807) :
    Calls Tryz.prog 3 #[.slice A n c, .int .i64 ec] w fun e w' => e = .returned (.bool true) ∧ Ext w w' := by
  have HB := Lib.hid hB
  have HC := Lib.hid hc
  clear hB hc
  go_enter Tryz.func3, Tryz.ntmps3
  go_wp2_with fail
  refine (awake04 _).mono ?_
  rintro e w1 ⟨rfl, hb1⟩
  have E1 := Lib.hid hb1
  have HB1 := Lib.hid (ArrR.up HB.out hb1)
  clear hb1
  by_cases hn : 4000 < n
  · go_wp2_with fail
    go_ret
    exact ⟨rfl, E1.out⟩
  go_wp2_with fail
  obtain ⟨x0, hz, k0, k1, k2, k3, k4, k5, k6, k7⟩ := eight_blocks w1 (.cells #[.slice A n c, .int .i64 ec] 27) (.cells #[.slice A n c, .int .i64 ec] 29) (.cells #[.slice A n c, .int .i64 ec] 27) (.cells #[.slice A n c, .int .i64 ec] 29) (.cells #[.slice A n c, .int .i64 ec] 27) (.cells #[.slice A n c, .int .i64 ec] 29) (.cells #[.slice A n c, .int .i64 ec] 27) (.cells #[.slice A n c, .int .i64 ec] 29)
  generalize (((((((w1.alloc (.cells #[.slice A n c, .int .i64 ec] 27)).alloc (.cells #[.slice A n c, .int .i64 ec] 29)).alloc (.cells #[.slice A n c, .int .i64 ec] 27)).alloc (.cells #[.slice A n c, .int .i64 ec] 29)).alloc (.cells #[.slice A n c, .int .i64 ec] 27)).alloc (.cells #[.slice A n c, .int .i64 ec] 29)).alloc (.cells #[.slice A n c, .int .i64 ec] 27)).alloc (.cells #[.slice A n c, .int .i64 ec] 29) = w2 at x0 hz k0 k1 k2 k3 k4 k5 k6 k7 ⊢
  obtain ⟨q0, hq0⟩ : ∃ q, q = w1.heap.size := ⟨_, rfl⟩
  have hqw : w.heap.size ≤ q0 := by rw [hq0]; exact E1.out.size
  have hq1 : w1.heap.size ≤ q0 := by omega
  rw [← hq0] at hz k0 k1 k2 k3 k4 k5 k6 k7 ⊢
  obtain ⟨q1, e1⟩ : ∃ q, q = q0 + 1 := ⟨_, rfl⟩
  rw [← e1] at k1 k2 k3 k4 k5 k6 k7 ⊢
  have l1 : q0 < q1 := by omega
  obtain ⟨q2, e2⟩ : ∃ q, q = q1 + 1 := ⟨_, rfl⟩
  rw [← e2] at k2 k3 k4 k5 k6 k7 ⊢
  have l2 : q1 < q2 := by omega
  obtain ⟨q3, e3⟩ : ∃ q, q = q2 + 1 := ⟨_, rfl⟩
  rw [← e3] at k3 k4 k5 k6 k7 ⊢
  have l3 : q2 < q3 := by omega
  obtain ⟨q4, e4⟩ : ∃ q, q = q3 + 1 := ⟨_, rfl⟩
  rw [← e4] at k4 k5 k6 k7 ⊢
  have l4 : q3 < q4 := by omega
  obtain ⟨q5, e5⟩ : ∃ q, q = q4 + 1 := ⟨_, rfl⟩
  rw [← e5] at k5 k6 k7 ⊢
  have l5 : q4 < q5 := by omega
  obtain ⟨q6, e6⟩ : ∃ q, q = q5 + 1 := ⟨_, rfl⟩
  rw [← e6] at k6 k7 ⊢
  have l6 : q5 < q6 := by omega
  obtain ⟨q7, e7⟩ : ∃ q, q = q6 + 1 := ⟨_, rfl⟩
  rw [← e7] at k7 ⊢
  have l7 : q6 < q7 := by omega
  have z_2 : q7 < w2.heap.size := by omega
  clear hq0 e1 e2 e3 e4 e5 e6 e7 hz
  have F_2 := Lib.hid x0
  have E_2 := Lib.hid (E1.out.trans x0)
  have K0_2 := Lib.hid k0
  have K1_2 := Lib.hid k1
  have K2_2 := Lib.hid k2
  have K3_2 := Lib.hid k3
  have K4_2 := Lib.hid k4
  have K5_2 := Lib.hid k5
  have K6_2 := Lib.hid k6
  have K7_2 := Lib.hid k7
  clear x0 k0 k1 k2 k3 k4 k5 k6 k7
  obtain ⟨t0, ht0⟩ : ∃ t, t = takeR ⟨bs, ec⟩ := ⟨_, rfl⟩
  have HT0 := Lib.hid ht0
  clear ht0
  obtain ⟨t1, ht1⟩ : ∃ t, t = takeK ⟨bs, ec⟩ := ⟨_, rfl⟩
  have HT1 := Lib.hid ht1
  clear ht1
  obtain ⟨t2, ht2⟩ : ∃ t, t = (someB takeR 64) ⟨bs, ec⟩ := ⟨_, rfl⟩
  have HT2 := Lib.hid ht2
  clear ht2
  obtain ⟨t3, ht3⟩ : ∃ t, t = (someB takeK 64) ⟨bs, ec⟩ := ⟨_, rfl⟩
  have HT3 := Lib.hid ht3
  clear ht3
  refine (show Calls Tryz.prog 12 #[.pointer (some ⟨q0, 0, none⟩)] w2 (TkR q0 w2 t0.1 t0.2) from by rw [HT0.out]; exact (take_takes (q0)).2 ⟨bs, ec⟩ _ (RdAt.late (g := q0) HB1.out HC.out hnc hcm F_2.out (by omega) K0_2.out)).mono ?_
  rintro e w3 ⟨B0, m0, d0, C0, p0, f0, rfl, hv, hr, ho⟩
  have K0_3 := Lib.hid hr
  have HV := Lib.hid hv
  have zq : q7 < w2.heap.size := z_2
  have K1_3 := Lib.hid ((ho.blk (b := q1) (by omega) (by omega)).trans K1_2.out)
  have K2_3 := Lib.hid ((ho.blk (b := q2) (by omega) (by omega)).trans K2_2.out)
  have K3_3 := Lib.hid ((ho.blk (b := q3) (by omega) (by omega)).trans K3_2.out)
  have K4_3 := Lib.hid ((ho.blk (b := q4) (by omega) (by omega)).trans K4_2.out)
  have K5_3 := Lib.hid ((ho.blk (b := q5) (by omega) (by omega)).trans K5_2.out)
  have K6_3 := Lib.hid ((ho.blk (b := q6) (by omega) (by omega)).trans K6_2.out)
  have K7_3 := Lib.hid ((ho.blk (b := q7) (by omega) (by omega)).trans K7_2.out)
  have E_3 := Lib.hid (Only.ext E_2.out ho (by omega))
  have F_3 := Lib.hid (Only.ext F_2.out ho (by omega))
  have z_3 : q7 < w3.heap.size := Nat.lt_of_lt_of_le z_2 ho.size
  clear hr ho hv
  go_wp2_with fail
  refine (show Calls Tryz.prog 13 #[.pointer (some ⟨q1, 0, none⟩)] w3 (TakenR q1 w3 t0) from by rw [HT0.out]; exact refTake_takes (q1) ⟨bs, ec⟩ _ (RfAt.late (g := q1) HB1.out HC.out hnc hcm F_3.out (by omega) K1_3.out)).mono ?_
  rintro e w4 ⟨B1, m1, d1, C1, p1, f1, rfl, hv, hr, ho⟩
  have K1_4 := Lib.hid hr
  have HV2 := Lib.hid hv
  have HV1 := Lib.hid (HV.out.keep (ho.keepGe (by omega)))
  have K0_4 := Lib.hid (K0_3.out.past ho (by omega))
  have K2_4 := Lib.hid ((ho.blk (b := q2) (by omega) (by omega)).trans K2_3.out)
  have K3_4 := Lib.hid ((ho.blk (b := q3) (by omega) (by omega)).trans K3_3.out)
  have K4_4 := Lib.hid ((ho.blk (b := q4) (by omega) (by omega)).trans K4_3.out)
  have K5_4 := Lib.hid ((ho.blk (b := q5) (by omega) (by omega)).trans K5_3.out)
  have K6_4 := Lib.hid ((ho.blk (b := q6) (by omega) (by omega)).trans K6_3.out)
  have K7_4 := Lib.hid ((ho.blk (b := q7) (by omega) (by omega)).trans K7_3.out)
  have E_4 := Lib.hid (Only.ext E_3.out ho (by omega))
  have F_4 := Lib.hid (Only.ext F_3.out ho (by omega))
  have z_4 : q7 < w4.heap.size := Nat.lt_of_lt_of_le z_3 ho.size
  clear hr ho hv
  go_wp2_with fail
  refine (refSame_eq _ _ t0.2 B0 B1 m0 d0 m1 d1 C0 C1 p0 f0 p1 f1 _ HV1.out HV2.out).mono ?_
  rintro e w5 ⟨rfl, hb⟩
  have K0_5 := Lib.hid (K0_4.out.up hb)
  have K1_5 := Lib.hid (K1_4.out.up hb)
  have K2_5 := Lib.hid ((hb.block (b := q2) (by omega)).trans K2_4.out)
  have K3_5 := Lib.hid ((hb.block (b := q3) (by omega)).trans K3_4.out)
  have K4_5 := Lib.hid ((hb.block (b := q4) (by omega)).trans K4_4.out)
  have K5_5 := Lib.hid ((hb.block (b := q5) (by omega)).trans K5_4.out)
  have K6_5 := Lib.hid ((hb.block (b := q6) (by omega)).trans K6_4.out)
  have K7_5 := Lib.hid ((hb.block (b := q7) (by omega)).trans K7_4.out)
  have E_5 := Lib.hid (E_4.out.trans hb)
  have F_5 := Lib.hid (F_4.out.trans hb)
  have z_5 : q7 < w5.heap.size := Nat.lt_of_lt_of_le z_4 hb.size
  clear hb HV HV1 HV2 zq
  go_wp2_with fail
  as_aux_lemma =>
    refine (show Calls Tryz.prog 14 #[.pointer (some ⟨q2, 0, none⟩)] w5 (TkK q2 w5 t1.1 t1.2) from by rw [HT1.out]; exact (takeKey_takes (q2)).2 ⟨bs, ec⟩ _ (RdAt.late (g := q2) HB1.out HC.out hnc hcm F_5.out (by omega) K2_5.out)).mono ?_
    rintro e w6 ⟨rfl, hv, hr, ho⟩
    have K2_6 := Lib.hid hr
    have HV := Lib.hid hv
    have zq : q7 < w5.heap.size := z_5
    have K0_6 := Lib.hid (K0_5.out.past ho (by omega))
    have K1_6 := Lib.hid (K1_5.out.past ho (by omega))
    have K3_6 := Lib.hid ((ho.blk (b := q3) (by omega) (by omega)).trans K3_5.out)
    have K4_6 := Lib.hid ((ho.blk (b := q4) (by omega) (by omega)).trans K4_5.out)
    have K5_6 := Lib.hid ((ho.blk (b := q5) (by omega) (by omega)).trans K5_5.out)
    have K6_6 := Lib.hid ((ho.blk (b := q6) (by omega) (by omega)).trans K6_5.out)
    have K7_6 := Lib.hid ((ho.blk (b := q7) (by omega) (by omega)).trans K7_5.out)
    have E_6 := Lib.hid (Only.ext E_5.out ho (by omega))
    have F_6 := Lib.hid (Only.ext F_5.out ho (by omega))
    have z_6 : q7 < w6.heap.size := Nat.lt_of_lt_of_le z_5 ho.size
    clear hr ho hv
    go_wp2_with fail
    refine (show Calls Tryz.prog 15 #[.pointer (some ⟨q3, 0, none⟩)] w6 (TakenK q3 w6 t1) from by rw [HT1.out]; exact refTakeKey_takes (q3) ⟨bs, ec⟩ _ (RfAt.late (g := q3) HB1.out HC.out hnc hcm F_6.out (by omega) K3_6.out)).mono ?_
    rintro e w7 ⟨rfl, hv, hr, ho⟩
    have K3_7 := Lib.hid hr
    have HV2 := Lib.hid hv
    have K0_7 := Lib.hid (K0_6.out.past ho (by omega))
    have K1_7 := Lib.hid (K1_6.out.past ho (by omega))
    have K2_7 := Lib.hid (K2_6.out.past ho (by omega))
    have K4_7 := Lib.hid ((ho.blk (b := q4) (by omega) (by omega)).trans K4_6.out)
    have K5_7 := Lib.hid ((ho.blk (b := q5) (by omega) (by omega)).trans K5_6.out)
    have K6_7 := Lib.hid ((ho.blk (b := q6) (by omega) (by omega)).trans K6_6.out)
    have K7_7 := Lib.hid ((ho.blk (b := q7) (by omega) (by omega)).trans K7_6.out)
    have E_7 := Lib.hid (Only.ext E_6.out ho (by omega))
    have F_7 := Lib.hid (Only.ext F_6.out ho (by omega))
    have z_7 : q7 < w7.heap.size := Nat.lt_of_lt_of_le z_6 ho.size
    clear hr ho hv
    clear HV HV2 zq
    go_wp2_with fail
    as_aux_lemma =>
      refine (show Calls Tryz.prog 17 #[.pointer (some ⟨q4, 0, none⟩)] w7 (SomeR q4 w7 t2) from by rw [HT2.out]; exact takeAll_any (q4) ⟨bs, ec⟩ _ (RdAt.late (g := q4) HB1.out HC.out hnc hcm F_7.out (by omega) K4_7.out)).mono ?_
      rintro e w8 ⟨B4, m4, d4, rfl, hsl, hv, hr, ho⟩
      have K4_8 := Lib.hid hr
      have HV := Lib.hid hv
      have zq : q7 < w7.heap.size := z_7
      have HSL := Lib.hid hsl
      have K0_8 := Lib.hid (K0_7.out.past ho (by omega))
      have K1_8 := Lib.hid (K1_7.out.past ho (by omega))
      have K2_8 := Lib.hid (K2_7.out.past ho (by omega))
      have K3_8 := Lib.hid (K3_7.out.past ho (by omega))
      have K5_8 := Lib.hid ((ho.blk (b := q5) (by omega) (by omega)).trans K5_7.out)
      have K6_8 := Lib.hid ((ho.blk (b := q6) (by omega) (by omega)).trans K6_7.out)
      have K7_8 := Lib.hid ((ho.blk (b := q7) (by omega) (by omega)).trans K7_7.out)
      have E_8 := Lib.hid (Only.ext E_7.out ho (by omega))
      have F_8 := Lib.hid (Only.ext F_7.out ho (by omega))
      have z_8 : q7 < w8.heap.size := Nat.lt_of_lt_of_le z_7 ho.size
      clear hr ho hv hsl
      go_wp2_with fail
      refine (show Calls Tryz.prog 18 #[.pointer (some ⟨q5, 0, none⟩)] w8 (SomeDR q5 w8 t2) from by rw [HT2.out]; exact refTakeAll_any (q5) ⟨bs, ec⟩ _ (RfAt.late (g := q5) HB1.out HC.out hnc hcm F_8.out (by omega) K5_8.out)).mono ?_
      rintro e w9 ⟨B5, m5, d5, rfl, hsl, hv, hr, ho⟩
      have K5_9 := Lib.hid hr
      have HV2 := Lib.hid hv
      have HV1 := Lib.hid (ResL.keep HV.out (ho.keepGe (by omega)))
      have K0_9 := Lib.hid (K0_8.out.past ho (by omega))
      have K1_9 := Lib.hid (K1_8.out.past ho (by omega))
      have K2_9 := Lib.hid (K2_8.out.past ho (by omega))
      have K3_9 := Lib.hid (K3_8.out.past ho (by omega))
      have K4_9 := Lib.hid (K4_8.out.past ho (by omega))
      have K6_9 := Lib.hid ((ho.blk (b := q6) (by omega) (by omega)).trans K6_8.out)
      have K7_9 := Lib.hid ((ho.blk (b := q7) (by omega) (by omega)).trans K7_8.out)
      have E_9 := Lib.hid (Only.ext E_8.out ho (by omega))
      have F_9 := Lib.hid (Only.ext F_8.out ho (by omega))
      have z_9 : q7 < w9.heap.size := Nat.lt_of_lt_of_le z_8 ho.size
      clear hr ho hv hsl
      go_wp2_with fail
      obtain rfl : m4 = m5 := HV1.out.len.symm.trans HV2.out.len
      refine (refAll_eq _ _ _ _ t2.2 B4 B5 m4 d4 d5 _ (Nat.le_trans HSL.out.1 HSL.out.2.1) HV1.out HV2.out).mono ?_
      rintro e w10 ⟨rfl, hb⟩
      have K0_10 := Lib.hid (K0_9.out.up hb)
      have K1_10 := Lib.hid (K1_9.out.up hb)
      have K2_10 := Lib.hid (K2_9.out.up hb)
      have K3_10 := Lib.hid (K3_9.out.up hb)
      have K4_10 := Lib.hid (K4_9.out.up hb)
      have K5_10 := Lib.hid (K5_9.out.up hb)
      have K6_10 := Lib.hid ((hb.block (b := q6) (by omega)).trans K6_9.out)
      have K7_10 := Lib.hid ((hb.block (b := q7) (by omega)).trans K7_9.out)
      have E_10 := Lib.hid (E_9.out.trans hb)
      have F_10 := Lib.hid (F_9.out.trans hb)
      have z_10 : q7 < w10.heap.size := Nat.lt_of_lt_of_le z_9 hb.size
      clear hb HV HV1 HV2 zq HSL
      go_wp2_with fail
      as_aux_lemma =>
        refine (show Calls Tryz.prog 20 #[.pointer (some ⟨q6, 0, none⟩)] w10 (SomeK q6 w10 t3) from by rw [HT3.out]; exact takeKeys_any (q6) ⟨bs, ec⟩ _ (RdAt.late (g := q6) HB1.out HC.out hnc hcm F_10.out (by omega) K6_10.out)).mono ?_
        rintro e w11 ⟨B6, m6, d6, rfl, hsl, hv, hr, ho⟩
        have K6_11 := Lib.hid hr
        have HV := Lib.hid hv
        have zq : q7 < w10.heap.size := z_10
        have HSL := Lib.hid hsl
        have K0_11 := Lib.hid (K0_10.out.past ho (by omega))
        have K1_11 := Lib.hid (K1_10.out.past ho (by omega))
        have K2_11 := Lib.hid (K2_10.out.past ho (by omega))
        have K3_11 := Lib.hid (K3_10.out.past ho (by omega))
        have K4_11 := Lib.hid (K4_10.out.past ho (by omega))
        have K5_11 := Lib.hid (K5_10.out.past ho (by omega))
        have K7_11 := Lib.hid ((ho.blk (b := q7) (by omega) (by omega)).trans K7_10.out)
        have E_11 := Lib.hid (Only.ext E_10.out ho (by omega))
        have F_11 := Lib.hid (Only.ext F_10.out ho (by omega))
        have z_11 : q7 < w11.heap.size := Nat.lt_of_lt_of_le z_10 ho.size
        clear hr ho hv hsl
        go_wp2_with fail
        refine (show Calls Tryz.prog 21 #[.pointer (some ⟨q7, 0, none⟩)] w11 (SomeDK q7 w11 t3) from by rw [HT3.out]; exact refTakeKeys_any (q7) ⟨bs, ec⟩ _ (RfAt.late (g := q7) HB1.out HC.out hnc hcm F_11.out (by omega) K7_11.out)).mono ?_
        rintro e w12 ⟨B7, m7, d7, rfl, hsl, hv, hr, ho⟩
        have K7_12 := Lib.hid hr
        have HV2 := Lib.hid hv
        have HV1 := Lib.hid (KeyL.keep HV.out (ho.keepGe (by omega)))
        have K0_12 := Lib.hid (K0_11.out.past ho (by omega))
        have K1_12 := Lib.hid (K1_11.out.past ho (by omega))
        have K2_12 := Lib.hid (K2_11.out.past ho (by omega))
        have K3_12 := Lib.hid (K3_11.out.past ho (by omega))
        have K4_12 := Lib.hid (K4_11.out.past ho (by omega))
        have K5_12 := Lib.hid (K5_11.out.past ho (by omega))
        have K6_12 := Lib.hid (K6_11.out.past ho (by omega))
        have E_12 := Lib.hid (Only.ext E_11.out ho (by omega))
        have F_12 := Lib.hid (Only.ext F_11.out ho (by omega))
        have z_12 : q7 < w12.heap.size := Nat.lt_of_lt_of_le z_11 ho.size
        clear hr ho hv hsl
        go_wp2_with fail
        obtain rfl : m6 = m7 := HV1.out.len.symm.trans HV2.out.len
        refine (refKeys_eq _ _ t3.2 B6 B7 m6 d6 d7 _ (Nat.le_trans HSL.out.1 HSL.out.2.1) HV1.out HV2.out).mono ?_
        rintro e w13 ⟨rfl, hb⟩
        have K0_13 := Lib.hid (K0_12.out.up hb)
        have K1_13 := Lib.hid (K1_12.out.up hb)
        have K2_13 := Lib.hid (K2_12.out.up hb)
        have K3_13 := Lib.hid (K3_12.out.up hb)
        have K4_13 := Lib.hid (K4_12.out.up hb)
        have K5_13 := Lib.hid (K5_12.out.up hb)
        have K6_13 := Lib.hid (K6_12.out.up hb)
        have K7_13 := Lib.hid (K7_12.out.up hb)
        have E_13 := Lib.hid (E_12.out.trans hb)
        have F_13 := Lib.hid (F_12.out.trans hb)
        have z_13 : q7 < w13.heap.size := Nat.lt_of_lt_of_le z_12 hb.size
        clear hb HV HV1 HV2 zq HSL
        as_aux_lemma =>
          obtain ⟨A0, n0, c0, hg0, -, -, -, hB0, -⟩ := K0_13.out
          have hl0 : q0 < w13.heap.size := by omega
          have u0 : ∀ w', Ext w13.drew w' → w'.cell? ⟨q0, 0, none⟩ = some (.slice A0 n0 c0) := fun w' hx => (((Ext.refl w13).drew.trans hx).cell hl0).trans ((blk_rules hg0).1 0)
          have s0 : ∀ w', Ext w13.drew w' → w'.cell? ⟨q0, 1, none⟩ = some (.int .i64 t0.1.e) := fun w' hx => (((Ext.refl w13).drew.trans hx).cell hl0).trans ((blk_rules hg0).1 1)
          have v0 : ∀ w', Ext w13.drew w' → (convert 22 9 (.slice A0 n0 c0)).run Tryz.prog w' = .ok (.string (bstr t0.1.b)) w' := fun w' hx => convT (ArrR.up hB0 ((Ext.refl w13).drew.trans hx)) c0
          obtain ⟨A1, n1, c1, hg1, -, -, -, hB1, -⟩ := K1_13.out
          have hl1 : q1 < w13.heap.size := by omega
          have u1 : ∀ w', Ext w13.drew w' → w'.cell? ⟨q1, 0, none⟩ = some (.slice A1 n1 c1) := fun w' hx => (((Ext.refl w13).drew.trans hx).cell hl1).trans ((blk_rules hg1).1 0)
          have s1 : ∀ w', Ext w13.drew w' → w'.cell? ⟨q1, 1, none⟩ = some (.int .i64 t0.1.e) := fun w' hx => (((Ext.refl w13).drew.trans hx).cell hl1).trans ((blk_rules hg1).1 1)
          have v1 : ∀ w', Ext w13.drew w' → (convert 22 9 (.slice A1 n1 c1)).run Tryz.prog w' = .ok (.string (bstr t0.1.b)) w' := fun w' hx => convT (ArrR.up hB1 ((Ext.refl w13).drew.trans hx)) c1
          obtain ⟨A2, n2, c2, hg2, -, -, -, hB2, -⟩ := K2_13.out
          have hl2 : q2 < w13.heap.size := by omega
          have u2 : ∀ w', Ext w13.drew w' → w'.cell? ⟨q2, 0, none⟩ = some (.slice A2 n2 c2) := fun w' hx => (((Ext.refl w13).drew.trans hx).cell hl2).trans ((blk_rules hg2).1 0)
          have s2 : ∀ w', Ext w13.drew w' → w'.cell? ⟨q2, 1, none⟩ = some (.int .i64 t1.1.e) := fun w' hx => (((Ext.refl w13).drew.trans hx).cell hl2).trans ((blk_rules hg2).1 1)
          have v2 : ∀ w', Ext w13.drew w' → (convert 22 9 (.slice A2 n2 c2)).run Tryz.prog w' = .ok (.string (bstr t1.1.b)) w' := fun w' hx => convT (ArrR.up hB2 ((Ext.refl w13).drew.trans hx)) c2
          obtain ⟨A3, n3, c3, hg3, -, -, -, hB3, -⟩ := K3_13.out
          have hl3 : q3 < w13.heap.size := by omega
          have u3 : ∀ w', Ext w13.drew w' → w'.cell? ⟨q3, 0, none⟩ = some (.slice A3 n3 c3) := fun w' hx => (((Ext.refl w13).drew.trans hx).cell hl3).trans ((blk_rules hg3).1 0)
          have s3 : ∀ w', Ext w13.drew w' → w'.cell? ⟨q3, 1, none⟩ = some (.int .i64 t1.1.e) := fun w' hx => (((Ext.refl w13).drew.trans hx).cell hl3).trans ((blk_rules hg3).1 1)
          have v3 : ∀ w', Ext w13.drew w' → (convert 22 9 (.slice A3 n3 c3)).run Tryz.prog w' = .ok (.string (bstr t1.1.b)) w' := fun w' hx => convT (ArrR.up hB3 ((Ext.refl w13).drew.trans hx)) c3
          obtain ⟨A4, n4, c4, hg4, -, -, -, hB4, -⟩ := K4_13.out
          have hl4 : q4 < w13.heap.size := by omega
          have u4 : ∀ w', Ext w13.drew w' → w'.cell? ⟨q4, 0, none⟩ = some (.slice A4 n4 c4) := fun w' hx => (((Ext.refl w13).drew.trans hx).cell hl4).trans ((blk_rules hg4).1 0)
          have s4 : ∀ w', Ext w13.drew w' → w'.cell? ⟨q4, 1, none⟩ = some (.int .i64 t2.1.e) := fun w' hx => (((Ext.refl w13).drew.trans hx).cell hl4).trans ((blk_rules hg4).1 1)
          have v4 : ∀ w', Ext w13.drew w' → (convert 22 9 (.slice A4 n4 c4)).run Tryz.prog w' = .ok (.string (bstr t2.1.b)) w' := fun w' hx => convT (ArrR.up hB4 ((Ext.refl w13).drew.trans hx)) c4
          obtain ⟨A5, n5, c5, hg5, -, -, -, hB5, -⟩ := K5_13.out
          have hl5 : q5 < w13.heap.size := by omega
          have u5 : ∀ w', Ext w13.drew w' → w'.cell? ⟨q5, 0, none⟩ = some (.slice A5 n5 c5) := fun w' hx => (((Ext.refl w13).drew.trans hx).cell hl5).trans ((blk_rules hg5).1 0)
          have s5 : ∀ w', Ext w13.drew w' → w'.cell? ⟨q5, 1, none⟩ = some (.int .i64 t2.1.e) := fun w' hx => (((Ext.refl w13).drew.trans hx).cell hl5).trans ((blk_rules hg5).1 1)
          have v5 : ∀ w', Ext w13.drew w' → (convert 22 9 (.slice A5 n5 c5)).run Tryz.prog w' = .ok (.string (bstr t2.1.b)) w' := fun w' hx => convT (ArrR.up hB5 ((Ext.refl w13).drew.trans hx)) c5
          obtain ⟨A6, n6, c6, hg6, -, -, -, hB6, -⟩ := K6_13.out
          have hl6 : q6 < w13.heap.size := by omega
          have u6 : ∀ w', Ext w13.drew w' → w'.cell? ⟨q6, 0, none⟩ = some (.slice A6 n6 c6) := fun w' hx => (((Ext.refl w13).drew.trans hx).cell hl6).trans ((blk_rules hg6).1 0)
          have s6 : ∀ w', Ext w13.drew w' → w'.cell? ⟨q6, 1, none⟩ = some (.int .i64 t3.1.e) := fun w' hx => (((Ext.refl w13).drew.trans hx).cell hl6).trans ((blk_rules hg6).1 1)
          have v6 : ∀ w', Ext w13.drew w' → (convert 22 9 (.slice A6 n6 c6)).run Tryz.prog w' = .ok (.string (bstr t3.1.b)) w' := fun w' hx => convT (ArrR.up hB6 ((Ext.refl w13).drew.trans hx)) c6
          obtain ⟨A7, n7, c7, hg7, -, -, -, hB7, -⟩ := K7_13.out
          have hl7 : q7 < w13.heap.size := by omega
          have u7 : ∀ w', Ext w13.drew w' → w'.cell? ⟨q7, 0, none⟩ = some (.slice A7 n7 c7) := fun w' hx => (((Ext.refl w13).drew.trans hx).cell hl7).trans ((blk_rules hg7).1 0)
          have s7 : ∀ w', Ext w13.drew w' → w'.cell? ⟨q7, 1, none⟩ = some (.int .i64 t3.1.e) := fun w' hx => (((Ext.refl w13).drew.trans hx).cell hl7).trans ((blk_rules hg7).1 1)
          have v7 : ∀ w', Ext w13.drew w' → (convert 22 9 (.slice A7 n7 c7)).run Tryz.prog w' = .ok (.string (bstr t3.1.b)) w' := fun w' hx => convT (ArrR.up hB7 ((Ext.refl w13).drew.trans hx)) c7
          clear hg0 hB0 hl0 hg1 hB1 hl1 hg2 hB2 hl2 hg3 hB3 hl3 hg4 hB4 hl4 hg5 hB5 hl5 hg6 hB6 hl6 hg7 hB7 hl7
          go_wp2_with fail
          have hSw : Ext w13.drew w13.drew := Ext.refl _
          refine wpS_begin (Ext w13.drew) (by kernel_rfl) ?_
          refine wpS_take 0 (v := ?_) hSw rfl (by kernel_rfl) (by kernel_rfl) (by kernel_rfl) (by rfl) (fun w' hin => ?_) ?_
          rotate_left
          · (try simp only [] at hin); go_simp <;> with_reducible rfl
          try simp only [Act.put, List.setIfInBounds_toArray, List.set_cons_zero, List.set_cons_succ]
          refine wpS_take 1 (v := ?_) hSw rfl (by kernel_rfl) (by kernel_rfl) (by kernel_rfl) (by rfl) (fun w' hin => ?_) ?_
          rotate_left
          · (try simp only [] at hin); go_simp <;> with_reducible rfl
          try simp only [Act.put, List.setIfInBounds_toArray, List.set_cons_zero, List.set_cons_succ]
          refine wpS_take 2 (v := ?_) hSw rfl (by kernel_rfl) (by kernel_rfl) (by kernel_rfl) (by rfl) (fun w' hin => ?_) ?_
          rotate_left
          · (try simp only [] at hin); go_simp <;> with_reducible rfl
          try simp only [Act.put, List.setIfInBounds_toArray, List.set_cons_zero, List.set_cons_succ]
          refine wpS_take 3 (v := ?_) hSw rfl (by kernel_rfl) (by kernel_rfl) (by kernel_rfl) (by rfl) (fun w' hin => ?_) ?_
          rotate_left
          · (try simp only [] at hin); go_simp <;> with_reducible rfl
          try simp only [Act.put, List.setIfInBounds_toArray, List.set_cons_zero, List.set_cons_succ]
          refine wpS_take 4 (v := ?_) hSw rfl (by kernel_rfl) (by kernel_rfl) (by kernel_rfl) (by rfl) (fun w' hin => ?_) ?_
          rotate_left
          · (try simp only [] at hin); go_simp <;> with_reducible rfl
          try simp only [Act.put, List.setIfInBounds_toArray, List.set_cons_zero, List.set_cons_succ]
          refine wpS_take 5 (v := ?_) hSw rfl (by kernel_rfl) (by kernel_rfl) (by kernel_rfl) (by rfl) (fun w' hin => ?_) ?_
          rotate_left
          · (try simp only [] at hin); go_simp <;> with_reducible rfl
          try simp only [Act.put, List.setIfInBounds_toArray, List.set_cons_zero, List.set_cons_succ]
          refine wpS_take 6 (v := ?_) hSw rfl (by kernel_rfl) (by kernel_rfl) (by kernel_rfl) (by rfl) (fun w' hin => ?_) ?_
          rotate_left
          · (try simp only [] at hin); go_simp <;> with_reducible rfl
          try simp only [Act.put, List.setIfInBounds_toArray, List.set_cons_zero, List.set_cons_succ]
          refine wpS_take 7 (v := ?_) hSw rfl (by kernel_rfl) (by kernel_rfl) (by kernel_rfl) (by rfl) (fun w' hin => ?_) ?_
          rotate_left
          · (try simp only [] at hin); go_simp <;> with_reducible rfl
          try simp only [Act.put, List.setIfInBounds_toArray, List.set_cons_zero, List.set_cons_succ]
          refine wpS_take 8 (v := ?_) hSw rfl (by kernel_rfl) (by kernel_rfl) (by kernel_rfl) (by rfl) (fun w' hin => ?_) ?_
          rotate_left
          · (try simp only [] at hin); go_simp <;> with_reducible rfl
          try simp only [Act.put, List.setIfInBounds_toArray, List.set_cons_zero, List.set_cons_succ]
          refine wpS_take 9 (v := ?_) hSw rfl (by kernel_rfl) (by kernel_rfl) (by kernel_rfl) (by rfl) (fun w' hin => ?_) ?_
          rotate_left
          · (try simp only [] at hin); go_simp <;> with_reducible rfl
          try simp only [Act.put, List.setIfInBounds_toArray, List.set_cons_zero, List.set_cons_succ]
          refine wpS_take 10 (v := ?_) hSw rfl (by kernel_rfl) (by kernel_rfl) (by kernel_rfl) (by rfl) (fun w' hin => ?_) ?_
          rotate_left
          · (try simp only [] at hin); go_simp <;> with_reducible rfl
          try simp only [Act.put, List.setIfInBounds_toArray, List.set_cons_zero, List.set_cons_succ]
          refine wpS_take 11 (v := ?_) hSw rfl (by kernel_rfl) (by kernel_rfl) (by kernel_rfl) (by rfl) (fun w' hin => ?_) ?_
          rotate_left
          · (try simp only [] at hin); go_simp <;> with_reducible rfl
          try simp only [Act.put, List.setIfInBounds_toArray, List.set_cons_zero, List.set_cons_succ]
          refine wpS_take 12 (v := ?_) hSw rfl (by kernel_rfl) (by kernel_rfl) (by kernel_rfl) (by rfl) (fun w' hin => ?_) ?_
          rotate_left
          · (try simp only [] at hin); go_simp <;> with_reducible rfl
          try simp only [Act.put, List.setIfInBounds_toArray, List.set_cons_zero, List.set_cons_succ]
          refine wpS_take 13 (v := ?_) hSw rfl (by kernel_rfl) (by kernel_rfl) (by kernel_rfl) (by rfl) (fun w' hin => ?_) ?_
          rotate_left
          · (try simp only [] at hin); go_simp <;> with_reducible rfl
          try simp only [Act.put, List.setIfInBounds_toArray, List.set_cons_zero, List.set_cons_succ]
          as_aux_lemma =>
            refine wpS_take 14 (v := ?_) hSw rfl (by kernel_rfl) (by kernel_rfl) (by kernel_rfl) (by rfl) (fun w' hin => ?_) ?_
            rotate_left
            · (try simp only [] at hin); go_simp <;> with_reducible rfl
            try simp only [Act.put, List.setIfInBounds_toArray, List.set_cons_zero, List.set_cons_succ]
            refine wpS_take 15 (v := ?_) hSw rfl (by kernel_rfl) (by kernel_rfl) (by kernel_rfl) (by rfl) (fun w' hin => ?_) ?_
            rotate_left
            · (try simp only [] at hin); go_simp <;> with_reducible rfl
            try simp only [Act.put, List.setIfInBounds_toArray, List.set_cons_zero, List.set_cons_succ]
            refine wpS_take 16 (v := ?_) hSw rfl (by kernel_rfl) (by kernel_rfl) (by kernel_rfl) (by rfl) (fun w' hin => ?_) ?_
            rotate_left
            · (try simp only [] at hin); go_simp <;> with_reducible rfl
            try simp only [Act.put, List.setIfInBounds_toArray, List.set_cons_zero, List.set_cons_succ]
            refine wpS_take 17 (v := ?_) hSw rfl (by kernel_rfl) (by kernel_rfl) (by kernel_rfl) (by rfl) (fun w' hin => ?_) ?_
            rotate_left
            · (try simp only [] at hin); go_simp <;> with_reducible rfl
            try simp only [Act.put, List.setIfInBounds_toArray, List.set_cons_zero, List.set_cons_succ]
            refine wpS_take 18 (v := ?_) hSw rfl (by kernel_rfl) (by kernel_rfl) (by kernel_rfl) (by rfl) (fun w' hin => ?_) ?_
            rotate_left
            · (try simp only [] at hin); go_simp <;> with_reducible rfl
            try simp only [Act.put, List.setIfInBounds_toArray, List.set_cons_zero, List.set_cons_succ]
            refine wpS_take 19 (v := ?_) hSw rfl (by kernel_rfl) (by kernel_rfl) (by kernel_rfl) (by rfl) (fun w' hin => ?_) ?_
            rotate_left
            · (try simp only [] at hin); go_simp <;> with_reducible rfl
            try simp only [Act.put, List.setIfInBounds_toArray, List.set_cons_zero, List.set_cons_succ]
            refine wpS_take 20 (v := ?_) hSw rfl (by kernel_rfl) (by kernel_rfl) (by kernel_rfl) (by rfl) (fun w' hin => ?_) ?_
            rotate_left
            · (try simp only [] at hin); go_simp <;> with_reducible rfl
            try simp only [Act.put, List.setIfInBounds_toArray, List.set_cons_zero, List.set_cons_succ]
            refine wpS_take 21 (v := ?_) hSw rfl (by kernel_rfl) (by kernel_rfl) (by kernel_rfl) (by rfl) (fun w' hin => ?_) ?_
            rotate_left
            · (try simp only [] at hin); go_simp <;> with_reducible rfl
            try simp only [Act.put, List.setIfInBounds_toArray, List.set_cons_zero, List.set_cons_succ]
            refine wpS_take 22 (v := ?_) hSw rfl (by kernel_rfl) (by kernel_rfl) (by kernel_rfl) (by rfl) (fun w' hin => ?_) ?_
            rotate_left
            · (try simp only [] at hin); go_simp <;> with_reducible rfl
            try simp only [Act.put, List.setIfInBounds_toArray, List.set_cons_zero, List.set_cons_succ]
            refine wpS_take 23 (v := ?_) hSw rfl (by kernel_rfl) (by kernel_rfl) (by kernel_rfl) (by rfl) (fun w' hin => ?_) ?_
            rotate_left
            · (try simp only [] at hin); go_simp <;> with_reducible rfl
            try simp only [Act.put, List.setIfInBounds_toArray, List.set_cons_zero, List.set_cons_succ]
            refine wpS_take 24 (v := ?_) hSw rfl (by kernel_rfl) (by kernel_rfl) (by kernel_rfl) (by rfl) (fun w' hin => ?_) ?_
            rotate_left
            · (try simp only [] at hin); go_simp <;> with_reducible rfl
            try simp only [Act.put, List.setIfInBounds_toArray, List.set_cons_zero, List.set_cons_succ]
            refine wpS_take 25 (v := ?_) hSw rfl (by kernel_rfl) (by kernel_rfl) (by kernel_rfl) (by rfl) (fun w' hin => ?_) ?_
            rotate_left
            · (try simp only [] at hin); go_simp <;> with_reducible rfl
            try simp only [Act.put, List.setIfInBounds_toArray, List.set_cons_zero, List.set_cons_succ]
            refine wpS_take 26 (v := ?_) hSw rfl (by kernel_rfl) (by kernel_rfl) (by kernel_rfl) (by rfl) (fun w' hin => ?_) ?_
            rotate_left
            · (try simp only [] at hin); go_simp <;> with_reducible rfl
            try simp only [Act.put, List.setIfInBounds_toArray, List.set_cons_zero, List.set_cons_succ]
            refine wpS_take 27 (v := ?_) hSw rfl (by kernel_rfl) (by kernel_rfl) (by kernel_rfl) (by rfl) (fun w' hin => ?_) ?_
            rotate_left
            · (try simp only [] at hin); go_simp <;> with_reducible rfl
            try simp only [Act.put, List.setIfInBounds_toArray, List.set_cons_zero, List.set_cons_succ]
            as_aux_lemma =>
              refine wpS_take 28 (v := ?_) hSw rfl (by kernel_rfl) (by kernel_rfl) (by kernel_rfl) (by rfl) (fun w' hin => ?_) ?_
              rotate_left
              · (try simp only [] at hin); go_simp <;> with_reducible rfl
              try simp only [Act.put, List.setIfInBounds_toArray, List.set_cons_zero, List.set_cons_succ]
              refine wpS_take 29 (v := ?_) hSw rfl (by kernel_rfl) (by kernel_rfl) (by kernel_rfl) (by rfl) (fun w' hin => ?_) ?_
              rotate_left
              · (try simp only [] at hin); go_simp <;> with_reducible rfl
              try simp only [Act.put, List.setIfInBounds_toArray, List.set_cons_zero, List.set_cons_succ]
              refine wpS_take 30 (v := ?_) hSw rfl (by kernel_rfl) (by kernel_rfl) (by kernel_rfl) (by rfl) (fun w' hin => ?_) ?_
              rotate_left
              · (try simp only [] at hin); go_simp <;> with_reducible rfl
              try simp only [Act.put, List.setIfInBounds_toArray, List.set_cons_zero, List.set_cons_succ]
              refine wpS_take 31 (v := ?_) hSw rfl (by kernel_rfl) (by kernel_rfl) (by kernel_rfl) (by rfl) (fun w' hin => ?_) ?_
              rotate_left
              · (try simp only [] at hin); go_simp <;> with_reducible rfl
              try simp only [Act.put, List.setIfInBounds_toArray, List.set_cons_zero, List.set_cons_succ]
              refine wpS_take 32 (v := ?_) hSw rfl (by kernel_rfl) (by kernel_rfl) (by kernel_rfl) (by rfl) (fun w' hin => ?_) ?_
              rotate_left
              · (try simp only [] at hin); go_simp <;> with_reducible rfl
              try simp only [Act.put, List.setIfInBounds_toArray, List.set_cons_zero, List.set_cons_succ]
              refine wpS_take 33 (v := ?_) hSw rfl (by kernel_rfl) (by kernel_rfl) (by kernel_rfl) (by rfl) (fun w' hin => ?_) ?_
              rotate_left
              · (try simp only [] at hin); go_simp <;> with_reducible rfl
              try simp only [Act.put, List.setIfInBounds_toArray, List.set_cons_zero, List.set_cons_succ]
              refine wpS_take 34 (v := ?_) hSw rfl (by kernel_rfl) (by kernel_rfl) (by kernel_rfl) (by rfl) (fun w' hin => ?_) ?_
              rotate_left
              · (try simp only [] at hin); go_simp <;> with_reducible rfl
              try simp only [Act.put, List.setIfInBounds_toArray, List.set_cons_zero, List.set_cons_succ]
              refine wpS_take 35 (v := ?_) hSw rfl (by kernel_rfl) (by kernel_rfl) (by kernel_rfl) (by rfl) (fun w' hin => ?_) ?_
              rotate_left
              · (try simp only [] at hin); go_simp <;> with_reducible rfl
              try simp only [Act.put, List.setIfInBounds_toArray, List.set_cons_zero, List.set_cons_succ]
              refine wpS_take 36 (v := ?_) hSw rfl (by kernel_rfl) (by kernel_rfl) (by kernel_rfl) (by rfl) (fun w' hin => ?_) ?_
              rotate_left
              · (try simp only [] at hin); go_simp <;> with_reducible rfl
              try simp only [Act.put, List.setIfInBounds_toArray, List.set_cons_zero, List.set_cons_succ]
              refine wpS_take 37 (v := ?_) hSw rfl (by kernel_rfl) (by kernel_rfl) (by kernel_rfl) (by rfl) (fun w' hin => ?_) ?_
              rotate_left
              · (try simp only [] at hin); go_simp <;> with_reducible rfl
              try simp only [Act.put, List.setIfInBounds_toArray, List.set_cons_zero, List.set_cons_succ]
              refine wpS_take 38 (v := ?_) hSw rfl (by kernel_rfl) (by kernel_rfl) (by kernel_rfl) (by rfl) (fun w' hin => ?_) ?_
              rotate_left
              · (try simp only [] at hin); go_simp <;> with_reducible rfl
              try simp only [Act.put, List.setIfInBounds_toArray, List.set_cons_zero, List.set_cons_succ]
              refine wpS_take 39 (v := ?_) hSw rfl (by kernel_rfl) (by kernel_rfl) (by kernel_rfl) (by rfl) (fun w' hin => ?_) ?_
              rotate_left
              · (try simp only [] at hin); go_simp <;> with_reducible rfl
              try simp only [Act.put, List.setIfInBounds_toArray, List.set_cons_zero, List.set_cons_succ]
              refine wpS_take 40 (v := ?_) hSw rfl (by kernel_rfl) (by kernel_rfl) (by kernel_rfl) (by rfl) (fun w' hin => ?_) ?_
              rotate_left
              · (try simp only [] at hin); go_simp <;> with_reducible rfl
              try simp only [Act.put, List.setIfInBounds_toArray, List.set_cons_zero, List.set_cons_succ]
              refine wpS_take 41 (v := ?_) hSw rfl (by kernel_rfl) (by kernel_rfl) (by kernel_rfl) (by rfl) (fun w' hin => ?_) ?_
              rotate_left
              · (try simp only [] at hin); go_simp <;> with_reducible rfl
              try simp only [Act.put, List.setIfInBounds_toArray, List.set_cons_zero, List.set_cons_succ]
              as_aux_lemma =>
                refine wpS_take 42 (v := ?_) hSw rfl (by kernel_rfl) (by kernel_rfl) (by kernel_rfl) (by rfl) (fun w' hin => ?_) ?_
                rotate_left
                · (try simp only [] at hin); go_simp <;> with_reducible rfl
                try simp only [Act.put, List.setIfInBounds_toArray, List.set_cons_zero, List.set_cons_succ]
                refine wpS_take 43 (v := ?_) hSw rfl (by kernel_rfl) (by kernel_rfl) (by kernel_rfl) (by rfl) (fun w' hin => ?_) ?_
                rotate_left
                · (try simp only [] at hin); go_simp <;> with_reducible rfl
                try simp only [Act.put, List.setIfInBounds_toArray, List.set_cons_zero, List.set_cons_succ]
                refine wpS_take 44 (v := ?_) hSw rfl (by kernel_rfl) (by kernel_rfl) (by kernel_rfl) (by rfl) (fun w' hin => ?_) ?_
                rotate_left
                · (try simp only [] at hin); go_simp <;> with_reducible rfl
                try simp only [Act.put, List.setIfInBounds_toArray, List.set_cons_zero, List.set_cons_succ]
                refine wpS_take 45 (v := ?_) hSw rfl (by kernel_rfl) (by kernel_rfl) (by kernel_rfl) (by rfl) (fun w' hin => ?_) ?_
                rotate_left
                · (try simp only [] at hin); go_simp <;> with_reducible rfl
                try simp only [Act.put, List.setIfInBounds_toArray, List.set_cons_zero, List.set_cons_succ]
                refine wpS_take 46 (v := ?_) hSw rfl (by kernel_rfl) (by kernel_rfl) (by kernel_rfl) (by rfl) (fun w' hin => ?_) ?_
                rotate_left
                · (try simp only [] at hin); go_simp <;> with_reducible rfl
                try simp only [Act.put, List.setIfInBounds_toArray, List.set_cons_zero, List.set_cons_succ]
                refine wpS_take 47 (v := ?_) hSw rfl (by kernel_rfl) (by kernel_rfl) (by kernel_rfl) (by rfl) (fun w' hin => ?_) ?_
                rotate_left
                · (try simp only [] at hin); go_simp <;> with_reducible rfl
                try simp only [Act.put, List.setIfInBounds_toArray, List.set_cons_zero, List.set_cons_succ]
                refine wpS_take 48 (v := ?_) hSw rfl (by kernel_rfl) (by kernel_rfl) (by kernel_rfl) (by rfl) (fun w' hin => ?_) ?_
                rotate_left
                · (try simp only [] at hin); go_simp <;> with_reducible rfl
                try simp only [Act.put, List.setIfInBounds_toArray, List.set_cons_zero, List.set_cons_succ]
                refine wpS_take 49 (v := ?_) hSw rfl (by kernel_rfl) (by kernel_rfl) (by kernel_rfl) (by rfl) (fun w' hin => ?_) ?_
                rotate_left
                · (try simp only [] at hin); go_simp <;> with_reducible rfl
                try simp only [Act.put, List.setIfInBounds_toArray, List.set_cons_zero, List.set_cons_succ]
                refine wpS_take 50 (v := ?_) hSw rfl (by kernel_rfl) (by kernel_rfl) (by kernel_rfl) (by rfl) (fun w' hin => ?_) ?_
                rotate_left
                · (try simp only [] at hin); go_simp <;> with_reducible rfl
                try simp only [Act.put, List.setIfInBounds_toArray, List.set_cons_zero, List.set_cons_succ]
                refine wpS_take 51 (v := ?_) hSw rfl (by kernel_rfl) (by kernel_rfl) (by kernel_rfl) (by rfl) (fun w' hin => ?_) ?_
                rotate_left
                · (try simp only [] at hin); go_simp <;> with_reducible rfl
                try simp only [Act.put, List.setIfInBounds_toArray, List.set_cons_zero, List.set_cons_succ]
                refine wpS_take 52 (v := ?_) hSw rfl (by kernel_rfl) (by kernel_rfl) (by kernel_rfl) (by rfl) (fun w' hin => ?_) ?_
                rotate_left
                · (try simp only [] at hin); go_simp <;> with_reducible rfl
                try simp only [Act.put, List.setIfInBounds_toArray, List.set_cons_zero, List.set_cons_succ]
                refine wpS_take 53 (v := ?_) hSw rfl (by kernel_rfl) (by kernel_rfl) (by kernel_rfl) (by rfl) (fun w' hin => ?_) ?_
                rotate_left
                · (try simp only [] at hin); go_simp <;> with_reducible rfl
                try simp only [Act.put, List.setIfInBounds_toArray, List.set_cons_zero, List.set_cons_succ]
                refine wpS_take 54 (v := ?_) hSw rfl (by kernel_rfl) (by kernel_rfl) (by kernel_rfl) (by rfl) (fun w' hin => ?_) ?_
                rotate_left
                · (try simp only [] at hin); go_simp <;> with_reducible rfl
                try simp only [Act.put, List.setIfInBounds_toArray, List.set_cons_zero, List.set_cons_succ]
                refine wpS_take 55 (v := ?_) hSw rfl (by kernel_rfl) (by kernel_rfl) (by kernel_rfl) (by rfl) (fun w' hin => ?_) ?_
                rotate_left
                · (try simp only [] at hin); go_simp <;> with_reducible rfl
                try simp only [Act.put, List.setIfInBounds_toArray, List.set_cons_zero, List.set_cons_succ]
                as_aux_lemma =>
                  refine wpS_take 56 (v := ?_) hSw rfl (by kernel_rfl) (by kernel_rfl) (by kernel_rfl) (by rfl) (fun w' hin => ?_) ?_
                  rotate_left
                  · (try simp only [] at hin); go_simp <;> with_reducible rfl
                  try simp only [Act.put, List.setIfInBounds_toArray, List.set_cons_zero, List.set_cons_succ]
                  refine wpS_take 57 (v := ?_) hSw rfl (by kernel_rfl) (by kernel_rfl) (by kernel_rfl) (by rfl) (fun w' hin => ?_) ?_
                  rotate_left
                  · (try simp only [] at hin); go_simp <;> with_reducible rfl
                  try simp only [Act.put, List.setIfInBounds_toArray, List.set_cons_zero, List.set_cons_succ]
                  refine wpS_take 58 (v := ?_) hSw rfl (by kernel_rfl) (by kernel_rfl) (by kernel_rfl) (by rfl) (fun w' hin => ?_) ?_
                  rotate_left
                  · (try simp only [] at hin); go_simp <;> with_reducible rfl
                  try simp only [Act.put, List.setIfInBounds_toArray, List.set_cons_zero, List.set_cons_succ]
                  refine wpS_take 59 (v := ?_) hSw rfl (by kernel_rfl) (by kernel_rfl) (by kernel_rfl) (by rfl) (fun w' hin => ?_) ?_
                  rotate_left
                  · (try simp only [] at hin); go_simp <;> with_reducible rfl
                  try simp only [Act.put, List.setIfInBounds_toArray, List.set_cons_zero, List.set_cons_succ]
                  refine wpS_take 60 (v := ?_) hSw rfl (by kernel_rfl) (by kernel_rfl) (by kernel_rfl) (by rfl) (fun w' hin => ?_) ?_
                  rotate_left
                  · (try simp only [] at hin); go_simp <;> with_reducible rfl
                  try simp only [Act.put, List.setIfInBounds_toArray, List.set_cons_zero, List.set_cons_succ]
                  refine wpS_take 61 (v := ?_) hSw rfl (by kernel_rfl) (by kernel_rfl) (by kernel_rfl) (by rfl) (fun w' hin => ?_) ?_
                  rotate_left
                  · (try simp only [] at hin); go_simp <;> with_reducible rfl
                  try simp only [Act.put, List.setIfInBounds_toArray, List.set_cons_zero, List.set_cons_succ]
                  refine wpS_take 62 (v := ?_) hSw rfl (by kernel_rfl) (by kernel_rfl) (by kernel_rfl) (by rfl) (fun w' hin => ?_) ?_
                  rotate_left
                  · (try simp only [] at hin); go_simp <;> with_reducible rfl
                  try simp only [Act.put, List.setIfInBounds_toArray, List.set_cons_zero, List.set_cons_succ]
                  refine wpS_take 63 (v := ?_) hSw rfl (by kernel_rfl) (by kernel_rfl) (by kernel_rfl) (by rfl) (fun w' hin => ?_) ?_
                  rotate_left
                  · (try simp only [] at hin); go_simp <;> with_reducible rfl
                  try simp only [Act.put, List.setIfInBounds_toArray, List.set_cons_zero, List.set_cons_succ]
                  refine wpS_take 64 (v := ?_) hSw rfl (by kernel_rfl) (by kernel_rfl) (by kernel_rfl) (by rfl) (fun w' hin => ?_) ?_
                  rotate_left
                  · (try simp only [] at hin); go_simp <;> with_reducible rfl
                  try simp only [Act.put, List.setIfInBounds_toArray, List.set_cons_zero, List.set_cons_succ]
                  refine wpS_take 65 (v := ?_) hSw rfl (by kernel_rfl) (by kernel_rfl) (by kernel_rfl) (by rfl) (fun w' hin => ?_) ?_
                  rotate_left
                  · (try simp only [] at hin); go_simp <;> with_reducible rfl
                  try simp only [Act.put, List.setIfInBounds_toArray, List.set_cons_zero, List.set_cons_succ]
                  refine wpS_take 66 (v := ?_) hSw rfl (by kernel_rfl) (by kernel_rfl) (by kernel_rfl) (by rfl) (fun w' hin => ?_) ?_
                  rotate_left
                  · (try simp only [] at hin); go_simp <;> with_reducible rfl
                  try simp only [Act.put, List.setIfInBounds_toArray, List.set_cons_zero, List.set_cons_succ]
                  refine wpS_take 67 (v := ?_) hSw rfl (by kernel_rfl) (by kernel_rfl) (by kernel_rfl) (by rfl) (fun w' hin => ?_) ?_
                  rotate_left
                  · (try simp only [] at hin); go_simp <;> with_reducible rfl
                  try simp only [Act.put, List.setIfInBounds_toArray, List.set_cons_zero, List.set_cons_succ]
                  refine wpS_take 68 (v := ?_) hSw rfl (by kernel_rfl) (by kernel_rfl) (by kernel_rfl) (by rfl) (fun w' hin => ?_) ?_
                  rotate_left
                  · (try simp only [] at hin); go_simp <;> with_reducible rfl
                  try simp only [Act.put, List.setIfInBounds_toArray, List.set_cons_zero, List.set_cons_succ]
                  refine wpS_take 69 (v := ?_) hSw rfl (by kernel_rfl) (by kernel_rfl) (by kernel_rfl) (by rfl) (fun w' hin => ?_) ?_
                  rotate_left
                  · (try simp only [] at hin); go_simp <;> with_reducible rfl
                  try simp only [Act.put, List.setIfInBounds_toArray, List.set_cons_zero, List.set_cons_succ]
                  as_aux_lemma =>
                    refine wpS_take 70 (v := ?_) hSw rfl (by kernel_rfl) (by kernel_rfl) (by kernel_rfl) (by rfl) (fun w' hin => ?_) ?_
                    rotate_left
                    · (try simp only [] at hin); go_simp <;> with_reducible rfl
                    try simp only [Act.put, List.setIfInBounds_toArray, List.set_cons_zero, List.set_cons_succ]
                    refine wpS_take 71 (v := ?_) hSw rfl (by kernel_rfl) (by kernel_rfl) (by kernel_rfl) (by rfl) (fun w' hin => ?_) ?_
                    rotate_left
                    · (try simp only [] at hin); go_simp <;> with_reducible rfl
                    try simp only [Act.put, List.setIfInBounds_toArray, List.set_cons_zero, List.set_cons_succ]
                    refine wpS_take 72 (v := ?_) hSw rfl (by kernel_rfl) (by kernel_rfl) (by kernel_rfl) (by rfl) (fun w' hin => ?_) ?_
                    rotate_left
                    · (try simp only [] at hin); go_simp <;> with_reducible rfl
                    try simp only [Act.put, List.setIfInBounds_toArray, List.set_cons_zero, List.set_cons_succ]
                    refine wpS_take 73 (v := ?_) hSw rfl (by kernel_rfl) (by kernel_rfl) (by kernel_rfl) (by rfl) (fun w' hin => ?_) ?_
                    rotate_left
                    · (try simp only [] at hin); go_simp <;> with_reducible rfl
                    try simp only [Act.put, List.setIfInBounds_toArray, List.set_cons_zero, List.set_cons_succ]
                    refine wpS_take 74 (v := ?_) hSw rfl (by kernel_rfl) (by kernel_rfl) (by kernel_rfl) (by rfl) (fun w' hin => ?_) ?_
                    rotate_left
                    · (try simp only [] at hin); go_simp <;> with_reducible rfl
                    try simp only [Act.put, List.setIfInBounds_toArray, List.set_cons_zero, List.set_cons_succ]
                    refine wpS_take 75 (v := ?_) hSw rfl (by kernel_rfl) (by kernel_rfl) (by kernel_rfl) (by rfl) (fun w' hin => ?_) ?_
                    rotate_left
                    · (try simp only [] at hin); go_simp <;> with_reducible rfl
                    try simp only [Act.put, List.setIfInBounds_toArray, List.set_cons_zero, List.set_cons_succ]
                    refine wpS_take 76 (v := ?_) hSw rfl (by kernel_rfl) (by kernel_rfl) (by kernel_rfl) (by rfl) (fun w' hin => ?_) ?_
                    rotate_left
                    · (try simp only [] at hin); go_simp <;> with_reducible rfl
                    try simp only [Act.put, List.setIfInBounds_toArray, List.set_cons_zero, List.set_cons_succ]
                    refine wpS_take 77 (v := ?_) hSw rfl (by kernel_rfl) (by kernel_rfl) (by kernel_rfl) (by rfl) (fun w' hin => ?_) ?_
                    rotate_left
                    · (try simp only [] at hin); go_simp <;> with_reducible rfl
                    try simp only [Act.put, List.setIfInBounds_toArray, List.set_cons_zero, List.set_cons_succ]
                    refine wpS_take 78 (v := ?_) hSw rfl (by kernel_rfl) (by kernel_rfl) (by kernel_rfl) (by rfl) (fun w' hin => ?_) ?_
                    rotate_left
                    · (try simp only [] at hin); go_simp <;> with_reducible rfl
                    try simp only [Act.put, List.setIfInBounds_toArray, List.set_cons_zero, List.set_cons_succ]
                    refine wpS_take 79 (v := ?_) hSw rfl (by kernel_rfl) (by kernel_rfl) (by kernel_rfl) (by rfl) (fun w' hin => ?_) ?_
                    rotate_left
                    · (try simp only [] at hin); go_simp <;> with_reducible rfl
                    try simp only [Act.put, List.setIfInBounds_toArray, List.set_cons_zero, List.set_cons_succ]
                    refine wpS_take 80 (v := ?_) hSw rfl (by kernel_rfl) (by kernel_rfl) (by kernel_rfl) (by rfl) (fun w' hin => ?_) ?_
                    rotate_left
                    · (try simp only [] at hin); go_simp <;> with_reducible rfl
                    try simp only [Act.put, List.setIfInBounds_toArray, List.set_cons_zero, List.set_cons_succ]
                    refine wpS_take 81 (v := ?_) hSw rfl (by kernel_rfl) (by kernel_rfl) (by kernel_rfl) (by rfl) (fun w' hin => ?_) ?_
                    rotate_left
                    · (try simp only [] at hin); go_simp <;> with_reducible rfl
                    try simp only [Act.put, List.setIfInBounds_toArray, List.set_cons_zero, List.set_cons_succ]
                    refine wpS_take 82 (v := ?_) hSw rfl (by kernel_rfl) (by kernel_rfl) (by kernel_rfl) (by rfl) (fun w' hin => ?_) ?_
                    rotate_left
                    · (try simp only [] at hin); go_simp <;> with_reducible rfl
                    try simp only [Act.put, List.setIfInBounds_toArray, List.set_cons_zero, List.set_cons_succ]
                    refine wpS_take 83 (v := ?_) hSw rfl (by kernel_rfl) (by kernel_rfl) (by kernel_rfl) (by rfl) (fun w' hin => ?_) ?_
                    rotate_left
                    · (try simp only [] at hin); go_simp <;> with_reducible rfl
                    try simp only [Act.put, List.setIfInBounds_toArray, List.set_cons_zero, List.set_cons_succ]
                    as_aux_lemma =>
                      refine wpS_take 84 (v := ?_) hSw rfl (by kernel_rfl) (by kernel_rfl) (by kernel_rfl) (by rfl) (fun w' hin => ?_) ?_
                      rotate_left
                      · (try simp only [] at hin); go_simp <;> with_reducible rfl
                      try simp only [Act.put, List.setIfInBounds_toArray, List.set_cons_zero, List.set_cons_succ]
                      refine wpS_take 85 (v := ?_) hSw rfl (by kernel_rfl) (by kernel_rfl) (by kernel_rfl) (by rfl) (fun w' hin => ?_) ?_
                      rotate_left
                      · (try simp only [] at hin); go_simp <;> with_reducible rfl
                      try simp only [Act.put, List.setIfInBounds_toArray, List.set_cons_zero, List.set_cons_succ]
                      refine wpS_take 86 (v := ?_) hSw rfl (by kernel_rfl) (by kernel_rfl) (by kernel_rfl) (by rfl) (fun w' hin => ?_) ?_
                      rotate_left
                      · (try simp only [] at hin); go_simp <;> with_reducible rfl
                      try simp only [Act.put, List.setIfInBounds_toArray, List.set_cons_zero, List.set_cons_succ]
                      refine wpS_take 87 (v := ?_) hSw rfl (by kernel_rfl) (by kernel_rfl) (by kernel_rfl) (by rfl) (fun w' hin => ?_) ?_
                      rotate_left
                      · (try simp only [] at hin); go_simp <;> with_reducible rfl
                      try simp only [Act.put, List.setIfInBounds_toArray, List.set_cons_zero, List.set_cons_succ]
                      refine wpS_take 88 (v := ?_) hSw rfl (by kernel_rfl) (by kernel_rfl) (by kernel_rfl) (by rfl) (fun w' hin => ?_) ?_
                      rotate_left
                      · (try simp only [] at hin); go_simp <;> with_reducible rfl
                      try simp only [Act.put, List.setIfInBounds_toArray, List.set_cons_zero, List.set_cons_succ]
                      refine wpS_take 89 (v := ?_) hSw rfl (by kernel_rfl) (by kernel_rfl) (by kernel_rfl) (by rfl) (fun w' hin => ?_) ?_
                      rotate_left
                      · (try simp only [] at hin); go_simp <;> with_reducible rfl
                      try simp only [Act.put, List.setIfInBounds_toArray, List.set_cons_zero, List.set_cons_succ]
                      refine wpS_take 90 (v := ?_) hSw rfl (by kernel_rfl) (by kernel_rfl) (by kernel_rfl) (by rfl) (fun w' hin => ?_) ?_
                      rotate_left
                      · (try simp only [] at hin); go_simp <;> with_reducible rfl
                      try simp only [Act.put, List.setIfInBounds_toArray, List.set_cons_zero, List.set_cons_succ]
                      refine wpS_take 91 (v := ?_) hSw rfl (by kernel_rfl) (by kernel_rfl) (by kernel_rfl) (by rfl) (fun w' hin => ?_) ?_
                      rotate_left
                      · (try simp only [] at hin); go_simp <;> with_reducible rfl
                      try simp only [Act.put, List.setIfInBounds_toArray, List.set_cons_zero, List.set_cons_succ]
                      refine wpS_take 92 (v := ?_) hSw rfl (by kernel_rfl) (by kernel_rfl) (by kernel_rfl) (by rfl) (fun w' hin => ?_) ?_
                      rotate_left
                      · (try simp only [] at hin); go_simp <;> with_reducible rfl
                      try simp only [Act.put, List.setIfInBounds_toArray, List.set_cons_zero, List.set_cons_succ]
                      refine wpS_take 93 (v := ?_) hSw rfl (by kernel_rfl) (by kernel_rfl) (by kernel_rfl) (by rfl) (fun w' hin => ?_) ?_
                      rotate_left
                      · (try simp only [] at hin); go_simp <;> with_reducible rfl
                      try simp only [Act.put, List.setIfInBounds_toArray, List.set_cons_zero, List.set_cons_succ]
                      refine wpS_take 94 (v := ?_) hSw rfl (by kernel_rfl) (by kernel_rfl) (by kernel_rfl) (by rfl) (fun w' hin => ?_) ?_
                      rotate_left
                      · (try simp only [] at hin); go_simp <;> with_reducible rfl
                      try simp only [Act.put, List.setIfInBounds_toArray, List.set_cons_zero, List.set_cons_succ]
                      refine wpS_take 95 (v := ?_) hSw rfl (by kernel_rfl) (by kernel_rfl) (by kernel_rfl) (by rfl) (fun w' hin => ?_) ?_
                      rotate_left
                      · (try simp only [] at hin); go_simp <;> with_reducible rfl
                      try simp only [Act.put, List.setIfInBounds_toArray, List.set_cons_zero, List.set_cons_succ]
                      refine wpS_take 96 (v := ?_) hSw rfl (by kernel_rfl) (by kernel_rfl) (by kernel_rfl) (by rfl) (fun w' hin => ?_) ?_
                      rotate_left
                      · (try simp only [] at hin); go_simp <;> with_reducible rfl
                      try simp only [Act.put, List.setIfInBounds_toArray, List.set_cons_zero, List.set_cons_succ]
                      refine wpS_take 97 (v := ?_) hSw rfl (by kernel_rfl) (by kernel_rfl) (by kernel_rfl) (by rfl) (fun w' hin => ?_) ?_
                      rotate_left
                      · (try simp only [] at hin); go_simp <;> with_reducible rfl
                      try simp only [Act.put, List.setIfInBounds_toArray, List.set_cons_zero, List.set_cons_succ]
                      refine wpS_done (by kernel_rfl) ?_
                      clear u0 s0 v0 u1 s1 v1 u2 s2 v2 u3 s3 v3 u4 s4 v4 u5 s5 v5 u6 s6 v6 u7 s7 v7
                      go_wp2_with fail
                      go_ret
                      exact ⟨by first | rfl | simp, E_13.out.trans ((Ext.refl _).drew.trans hSw)⟩
end Go.Proofs.YtfdjbnofcniodaaGreatDoor
