/- The law StreamCut: its walk. -/
import Derived.Test.YtjomoannlpadnaaStreamLaw
import Derived.Test.YtjomoannlpadnaaQueue2
import Derived.Test.YtjomoannlpadnaaRegion
import Derived.Outline
import Derived.Deep.DrawnRows
namespace Go.Proofs.Ytjomoannlpadnaa
set_option linter.unusedVariables false
open Go.RowKit
attribute [local go_sem ↓] run_max2 run_min2
attribute [local go_sem ↓] Go.wp_at_zero Go.wp_at_succ

set_option maxRecDepth 100000 in
set_option maxHeartbeats 400000 in
theorem streamCut_long (A Ab Ac : Option Addr) (n c nb cb nc cc : Nat) (w : World) (h : 500 < n ∨ 500 < nb ∨ 500 < nc) : Calls Try.prog 18 #[.slice A n c, .slice Ab nb cb, .slice Ac nc cc] w fun e w' => e = .returned (.bool true) ∧ Ext w w' := by
  by_cases h1 : 500 < n
  · go_enter Try.func18, Try.ntmps18
    go_wp2_with fail
    refine (awake11 _).mono ?_
    rintro e w1 ⟨rfl, hb1⟩
    go_wp2_with fail
    go_ret
    exact ⟨rfl, hb1⟩
  · by_cases h2 : 500 < nb
    · clear h
      go_enter Try.func18, Try.ntmps18
      go_wp2_with fail
      refine (awake11 _).mono ?_
      rintro e w1 ⟨rfl, hb1⟩
      go_wp2_with fail
      go_ret
      exact ⟨rfl, hb1⟩
    · have h3 : 500 < nc := by omega
      clear h
      go_enter Try.func18, Try.ntmps18
      go_wp2_with fail
      refine (awake11 _).mono ?_
      rintro e w1 ⟨rfl, hb1⟩
      go_wp2_with fail
      go_ret
      exact ⟨rfl, hb1⟩

set_option maxRecDepth 100000 in
set_option maxHeartbeats 8000000 in
theorem streamCut_any (A Ab Ac : Option Addr) (n c nb cb nc cc : Nat) (ds bs cs : List UInt8) (w : World) (hA : Byts w A n ds) (hc : A = none → c = 0) (hB : Byts w Ab nb bs) (hcb : Ab = none → cb = 0) (hC : Byts w Ac nc cs) (hcc : Ac = none → cc = 0) (hn : n ≤ 500) (hnb : nb ≤ 500) (hnc : nc ≤ 500) :
    Calls Try.prog 18 #[.slice A n c, .slice Ab nb cb, .slice Ac nc cc] w fun e w' => e = .returned (.bool true) ∧ Ext w w' := by
  have HA := Lib.hid hA
  have HB := Lib.hid hB
  have HC := Lib.hid hC
  clear hA hB hC
  have hn' : ¬ 500 < n := by omega
  have hnb' : ¬ 500 < nb := by omega
  have hnc' : ¬ 500 < nc := by omega
  go_enter Try.func18, Try.ntmps18
  go_wp2_with fail
  refine (awake11 _).mono ?_
  rintro e w2 ⟨rfl, hb1⟩
  have E2 := Lib.hid hb1
  have hE := own_empty_lit w2 w2.heap.size 5 1 (Nat.le_refl _)
  have HZ : Hid (w2.heap.size ≤ (w2.alloc (.cells #[] 5)).heap.size) := Lib.hid (by simp)
  clear hb1
  go_wp2_with (first
    | (at_builtin
       obtain ⟨v5, w5, hrun5, hown5, hg5, _⟩ := run_append_flat elem_byte 42 hown4 cc (ArrR.flat (f := byteV) (ArrR.up HC.out (E2.out.trans E4.out))) (byteV_one cs) (by omega) (by omega) E4.out.size hcc
       have E5 := Lib.hid (E4.out.grown hg5 hown4 (Nat.le_refl _))
       rw [← List.map_append, ← List.map_append] at hown5
       obtain ⟨A5, c5, rfl, h85⟩ := Own8.of_own hown5
       refine Lib.wpList_append_run _ rfl _ _ _ _ rfl _ _ rfl rfl _ w5 hrun5 ?_
       clear hrun5 hown5 hg5)
    | (at_builtin
       obtain ⟨v4, w4, hrun4, hown4, hg4, _⟩ := run_append_flat elem_byte 42 hown3 cb (ArrR.flat (f := byteV) (ArrR.up HB.out (E2.out.trans E3.out))) (byteV_one bs) (by omega) (by omega) E3.out.size hcb
       have E4 := Lib.hid (E3.out.grown hg4 hown3 (Nat.le_refl _))
       refine Lib.wpList_append_run _ rfl _ _ _ _ rfl _ _ rfl rfl v4 w4 hrun4 ?_
       clear hrun4 hg4)
    | (at_builtin
       obtain ⟨v3, w3, hrun, hown3, hg3, _⟩ := run_append_flat elem_byte 42 hE c (ArrR.flat (f := byteV) (ArrR.up HA.out (E2.out.trans (Ext.new _ _)))) (byteV_one ds) (by omega) (by omega) HZ.out hc
       rw [List.nil_append, Nat.zero_add] at hown3
       have E3 := Lib.hid ((Ext.new w2 _).grown hg3 hE (Nat.le_refl _))
       refine Lib.wpList_append_run _ rfl _ _ _ _ rfl _ _ rfl rfl v3 w3 hrun ?_
       clear hrun hg3))
  have EW5 := Lib.hid (E2.out.trans E5.out)
  have HALL := Lib.hid h85
  clear hE h85 hown3 hown4
  refine (feed_any none A 0 0 n c B0 ds _ ArrR.nil_ (fun _ => rfl) (Nat.le_refl _) (by omega) (ArrR.up HA.out EW5.out) hc (by omega)).mono ?_
  rintro e w6 ⟨A6, n6, c6, v6, rfl, he6, ⟨base6, F6, hbase6, hF6, ho6⟩, hb6⟩
  have hfr1 := feed_rest B0_sane ds
  have hfs1 := feed_sane B0 ds
  obtain ⟨D1, hD1⟩ : ∃ D, D = B0.feed ds := ⟨_, rfl⟩
  rw [← hD1] at he6 ho6 hfr1 hfs1 ⊢
  rw [HA.out.len, show B0.rest.length = 0 from rfl, Nat.zero_add] at hfr1
  have HD1 := Lib.hid hD1
  obtain ⟨h61, h62, h63, h64⟩ := he6.byts
  have hn6 : n6 ≤ 500 := by have := h64.len; omega
  have HE6 := Lib.hid he6
  have HO6 := Lib.hid (ho6.weakF (F' := fun _ => False) (fun _ h => h.elim))
  have HB6 := Lib.hid hb6
  have HFS1 := Lib.hid hfs1
  have HFR1 := Lib.hid hfr1
  have H64 := Lib.hid h64
  have HBS6 := Lib.hid hbase6
  clear he6 ho6 hb6 hF6 hD1 hfs1 hfr1 h64 hbase6
  have EW6 := Lib.hid (EW5.out.trans HB6.out)
  go_wp2_with fail
  refine (feed_any A6 Ab n6 c6 nb cb D1.1 bs _ (ArrR.up H64.out (Ext.new _ _)) h61 h62 h63 (ArrR.up HB.out (EW6.out.alloc _)) hcb (by omega)).mono ?_
  rintro e w7 ⟨A7, n7, c7, v7, rfl, he7, ⟨base7, F7, hbase7, hF7, ho7⟩, hb7⟩
  have hfr2 := feed_rest HFS1.out bs
  have hfs2 := feed_sane D1.1 bs
  obtain ⟨D2, hD2⟩ : ∃ D, D = D1.1.feed bs := ⟨_, rfl⟩
  rw [← hD2] at he7 ho7 hfr2 hfs2 ⊢
  have hfr20 := HFR1.out
  rw [HB.out.len] at hfr2
  have HD2 := Lib.hid hD2
  obtain ⟨h71, h72, h73, h74⟩ := he7.byts
  have hn7 : n7 ≤ 1000 := by have := h74.len; omega
  simp only [World.size_alloc] at hbase7 hF7
  have HE7 := Lib.hid he7
  have HO7 := Lib.hid ho7
  have HB7 := Lib.hid hb7
  have HX7 := Lib.hid ((Ext.alloc (Ext.refl w6) (.cells #[.slice A6 n6 c6, .int .i64 D1.1.bad] 86)).trans hb7)
  have EW7 := Lib.hid ((EW6.out.alloc _).trans hb7)
  have HFS2 := Lib.hid hfs2
  have HFR2 : Hid (D2.1.rest.length ≤ 1000 ∧ D2.2.length ≤ 1000) := Lib.hid (by omega)
  have H74 := Lib.hid h74
  have HBS7 := Lib.hid hbase7
  have HFF7 := Lib.hid hF7
  clear he7 ho7 hb7 hF7 hD2 hfs2 hfr2 hfr20 h74 hbase7
  go_wp2_with fail
  refine (feed_any A7 Ac n7 c7 nc cc D2.1 cs _ (ArrR.up H74.out (Ext.new _ _)) h71 h72 h73 (ArrR.up HC.out (EW7.out.alloc _)) hcc (by omega)).mono ?_
  rintro e w8 ⟨A8, n8, c8, v8, rfl, he8, ⟨base8, F8, hbase8, hF8, ho8⟩, hb8⟩
  have hfr3 := feed_rest HFS2.out cs
  have hfs3 := feed_sane D2.1 cs
  obtain ⟨D3, hD3⟩ : ∃ D, D = D2.1.feed cs := ⟨_, rfl⟩
  rw [← hD3] at he8 ho8 hfr3 hfs3 ⊢
  have hfr30 := HFR2.out
  rw [HC.out.len] at hfr3
  have HD3 := Lib.hid hD3
  obtain ⟨h81, h82, h83, h84⟩ := he8.byts
  have hn8 : n8 ≤ 1500 := by have := h84.len; omega
  simp only [World.size_alloc] at hbase8 hF8
  have HE8 := Lib.hid he8
  have HO8 := Lib.hid ho8
  have HB8 := Lib.hid hb8
  have HX8 := Lib.hid ((Ext.alloc (Ext.refl w7) (.cells #[.slice A7 n7 c7, .int .i64 D2.1.bad] 86)).trans hb8)
  have EW8 := Lib.hid ((EW7.out.alloc _).trans hb8)
  have HFS3 := Lib.hid hfs3
  have HFR3 : Hid (D3.1.rest.length ≤ 1500 ∧ D3.2.length ≤ 1500) := Lib.hid (by omega)
  have H84 := Lib.hid h84
  have HBS8 := Lib.hid hbase8
  have HFF8 := Lib.hid hF8
  clear he8 ho8 hb8 hF8 hD3 hfs3 hfr3 hfr30 h84 hbase8
  go_wp2_with fail
  refine (feed_any none A5 0 0 (n + nb + nc) c5 B0 (ds ++ bs ++ cs) _ ArrR.nil_ (fun _ => rfl) (Nat.le_refl _) (by omega) (ArrR.up HALL.out.2.2.2.1 (((HB6.out.trans HX7.out).trans HX8.out).alloc _)) HALL.out.1 (by omega)).mono ?_
  rintro e w9 ⟨A9, n9, c9, v9, rfl, he9, ⟨base9, F9, hbase9, hF9, ho9⟩, hb9⟩
  have hch : B0.feed (ds ++ bs ++ cs) = (D3.1, D1.2 ++ D2.2 ++ D3.2) := by
    rw [feed_chain (ds ++ bs) cs, feed_chain ds bs, ← HD1.out]
    simp only []
    rw [← HD2.out, ← HD3.out]
  rw [hch] at he9 ho9 ⊢
  simp only [World.size_alloc] at he9 ho9 hbase9 hF9 ⊢
  obtain ⟨h91, h92, h93, h94⟩ := he9.byts
  have HE9 := Lib.hid he9
  have HO9 := Lib.hid ho9
  have HX9 := Lib.hid ((Ext.alloc (Ext.refl w8) (.cells #[.slice A8 n8 c8, .int .i64 D3.1.bad] 86)).trans hb9)
  have HY9 := Lib.hid hb9
  have EW9 := Lib.hid ((EW8.out.alloc _).trans hb9)
  have HBS9 := Lib.hid hbase9
  have HFF9 := Lib.hid hF9
  clear he9 ho9 hb9 hF9 hbase9 hch h94
  obtain ⟨W, hW⟩ : ∃ W, W = w9.alloc (.cells #[.slice A9 n9 c9, .int .i64 D3.1.bad] 86) := ⟨_, rfl⟩
  have X9W : Ext w9 W := by rw [hW]; exact Ext.new _ _
  have b4 : W.heap[w9.heap.size]? = some (.cells #[.slice A9 n9 c9, .int .i64 D3.1.bad] 86 (0, 0)) := by rw [hW]; exact heap_alloc_new _ _
  have X8W := HX9.out.trans X9W
  have X7W := HX8.out.trans X8W
  have X6W := HX7.out.trans X7W
  have s6 : w6.heap.size + 1 ≤ w7.heap.size := by have := HB7.out.size; simpa using this
  have s7 : w7.heap.size + 1 ≤ w8.heap.size := by have := HB8.out.size; simpa using this
  have s8 : w8.heap.size + 1 ≤ w9.heap.size := by have := HY9.out.size; simpa using this
  have b1 : W.heap[w6.heap.size]? = some (.cells #[.slice A6 n6 c6, .int .i64 D1.1.bad] 86 (0, 0)) := (X7W.block (by omega)).trans ((HB7.out.block (by simp)).trans (heap_alloc_new _ _))
  have b2 : W.heap[w7.heap.size]? = some (.cells #[.slice A7 n7 c7, .int .i64 D2.1.bad] 86 (0, 0)) := (X8W.block (by omega)).trans ((HB8.out.block (by simp)).trans (heap_alloc_new _ _))
  have b3 : W.heap[w8.heap.size]? = some (.cells #[.slice A8 n8 c8, .int .i64 D3.1.bad] 86 (0, 0)) := (X9W.block (by omega)).trans ((HY9.out.block (by simp)).trans (heap_alloc_new _ _))
  have hv6 : ∀ b, v6.ownBlock = some b → b < w6.heap.size := fun b hb => (HO6.out.lt b hb).2
  have hv6l : ∀ b, v6.ownBlock = some b → w.heap.size ≤ b := fun b hb => by have h1 := (HO6.out.lt b hb).1; have h2 := HBS6.out; have h3 := EW5.out.size; omega
  have e1 : Elem W (fun b => v6.ownBlock = some b) (.slice A6 n6 c6) D1.1.rest := (HE6.out.weak (fun b hb => .inl (.inr hb))).up X6W
  have e2 : Elem W (fun b => v6.ownBlock = some b) (.slice A7 n7 c7) D2.1.rest := (HE7.out.weak (fun b hb => .inl (.inl (by have := hv6 b hb; simp only [World.size_alloc]; omega)))).up X7W
  have e3 : Elem W (fun b => v6.ownBlock = some b) (.slice A8 n8 c8) D3.1.rest := (HE8.out.weak (fun b hb => .inl (.inl (by have := hv6 b hb; simp only [World.size_alloc]; omega)))).up X8W
  have e4 : Elem W (fun b => v6.ownBlock = some b) (.slice A9 n9 c9) D3.1.rest := (HE9.out.weak (fun b hb => .inl (.inl (by have := hv6 b hb; omega)))).up X9W
  have oL : Outs W w5.heap.size 42 (fun _ => False) v6 D1.2 := (HO6.out.base_ HBS6.out).up X6W
  have oM := HO7.out.up X7W
  have oN := (HO8.out.up X8W).newF
  have oO := HO9.out.up X9W
  have hs5W : w5.heap.size ≤ W.heap.size := Nat.le_trans HB6.out.size X6W.size
  have hcnt : D1.2.length ≤ 500 ∧ D2.2.length ≤ 1000 ∧ D3.2.length ≤ 1500 := by have h1 := HFR1.out; have h2 := HFR2.out; have h3 := HFR3.out; omega
  obtain ⟨A10, c10, us, hv7, hA10, hfl, hul, huel⟩ := oM.apart (v := v6) (fun b hb => HFF7.out b (by have := hv6 b hb; omega))
  subst hv7
  obtain ⟨v10, w10, hrun10, o10, hg10, hat10⟩ := Outs.pushAll elem_bytes 35 (c := c10) oL hfl hA10 hul huel (by omega) (by omega) hs5W
  have oN10 := oN.but hg10 (fun b hb => ⟨.inl (HFF8.out b (by have := hv6 b hb; omega)), by have := hv6 b hb; have := HBS8.out; omega⟩)
  obtain ⟨A12, c12, us2, hv8, hA12, hfl2, hul2, huel2⟩ := oN10.apart (v := v10) (fun b hb => by
    rcases hat10 with h | h
    · exact .inl (HFF8.out b (by have := hv6 b (by rw [← h, hb]); omega))
    · exact .inr (by rw [hb] at h; injection h with h; omega))
  subst hv8
  obtain ⟨v11, w11, hrun11, o11, hg11, hat11⟩ := Outs.pushAll elem_bytes 35 (c := c12) o10 hfl2 hA12 hul2 huel2 (by rw [List.length_append]; omega) (by rw [List.length_append]; omega) (Nat.le_trans hs5W hg10.size)
  have hg := grown_two hg10 hg11 hat10
  have k1 := (hg.block w6.heap.size (Array.getElem?_eq_some_iff.1 b1).1 (fun e => by have := hv6 _ e.symm; omega)).trans b1
  have k2 := (hg.block w7.heap.size (Array.getElem?_eq_some_iff.1 b2).1 (fun e => by have := hv6 _ e.symm; omega)).trans b2
  have k3 := (hg.block w8.heap.size (Array.getElem?_eq_some_iff.1 b3).1 (fun e => by have := hv6 _ e.symm; omega)).trans b3
  have k4 := (hg.block w9.heap.size (Array.getElem?_eq_some_iff.1 b4).1 (fun e => by have := hv6 _ e.symm; omega)).trans b4
  have G1 := Lib.hid (e1.but hg (fun b e => e)).byts.2.2.2
  have G2 := Lib.hid (e2.but hg (fun b e => e)).byts.2.2.2
  have G3 := Lib.hid (e3.but hg (fun b e => e)).byts.2.2.2
  have G4 := Lib.hid (e4.but hg (fun b e => e)).byts.2.2.2
  have oO11 := oO.but hg (fun b hb => ⟨HFF9.out b (by have := hv6 b hb; omega), by have := hv6 b hb; have := HBS9.out; omega⟩)
  obtain ⟨A11, c11, rfl, -, -, -, gl⟩ := o11.read
  obtain ⟨AO, cO, rfl, -, -, -, go⟩ := oO11.read
  have hlen : (D1.2 ++ D2.2 ++ D3.2).length = D1.2.length + (D2.2.length + D3.2.length) := by rw [List.length_append, List.length_append, Nat.add_assoc]
  rw [hlen] at gl go
  have GL := Lib.hid gl
  have GO := Lib.hid go
  have HLEN : Hid (D1.2.length + (D2.2.length + D3.2.length) ≤ 3000) := Lib.hid (by omega)
  have EW11 : Hid (Ext w w11) := Lib.hid (Below.grown ((EW9.out).trans X9W) hg ((EW9.out).trans X9W).size hv6l)
  have K1 := Lib.hid k1
  have K2 := Lib.hid k2
  have K3 := Lib.hid k3
  have K4 := Lib.hid k4
  have R10 := Lib.hid hrun10
  have R11 := Lib.hid hrun11
  clear X9W X8W X7W X6W b1 b2 b3 b4 e1 e2 e3 e4 oL oM oN oO oN10 hfl hul huel hfl2 hul2 huel2 hg10 hg11 hat10 hat11 hg k1 k2 k3 k4 oO11 gl go hrun10 hrun11 o10 hs5W hv6 hv6l
  go_wp2_with (first
    | (at_builtin
       refine Lib.wpList_append_run _ rfl _ _ _ _ rfl _ _ rfl rfl v10 w10 (by rw [← hW]; exact R10.out) ?_)
    | (at_builtin
       refine Lib.wpList_append_run _ rfl _ _ _ _ rfl _ _ rfl rfl _ w11 R11.out ?_))
  have l1 : ∀ w', Ext w11.drew w' → w'.cell? ⟨w6.heap.size, 0, none⟩ = some (.slice A6 n6 c6) := fun w' hx => (((Ext.refl w11).drew.trans hx).cell (Array.getElem?_eq_some_iff.1 K1.out).1).trans ((blk_rules K1.out).1 0)
  have m1 : ∀ w', Ext w11.drew w' → w'.cell? ⟨w6.heap.size, 1, none⟩ = some (.int .i64 D1.1.bad) := fun w' hx => (((Ext.refl w11).drew.trans hx).cell (Array.getElem?_eq_some_iff.1 K1.out).1).trans ((blk_rules K1.out).1 1)
  have l2 : ∀ w', Ext w11.drew w' → w'.cell? ⟨w7.heap.size, 0, none⟩ = some (.slice A7 n7 c7) := fun w' hx => (((Ext.refl w11).drew.trans hx).cell (Array.getElem?_eq_some_iff.1 K2.out).1).trans ((blk_rules K2.out).1 0)
  have m2 : ∀ w', Ext w11.drew w' → w'.cell? ⟨w7.heap.size, 1, none⟩ = some (.int .i64 D2.1.bad) := fun w' hx => (((Ext.refl w11).drew.trans hx).cell (Array.getElem?_eq_some_iff.1 K2.out).1).trans ((blk_rules K2.out).1 1)
  have l3 : ∀ w', Ext w11.drew w' → w'.cell? ⟨w8.heap.size, 0, none⟩ = some (.slice A8 n8 c8) := fun w' hx => (((Ext.refl w11).drew.trans hx).cell (Array.getElem?_eq_some_iff.1 K3.out).1).trans ((blk_rules K3.out).1 0)
  have m3 : ∀ w', Ext w11.drew w' → w'.cell? ⟨w8.heap.size, 1, none⟩ = some (.int .i64 D3.1.bad) := fun w' hx => (((Ext.refl w11).drew.trans hx).cell (Array.getElem?_eq_some_iff.1 K3.out).1).trans ((blk_rules K3.out).1 1)
  have l4 : ∀ w', Ext w11.drew w' → w'.cell? ⟨w9.heap.size, 0, none⟩ = some (.slice A9 n9 c9) := fun w' hx => (((Ext.refl w11).drew.trans hx).cell (Array.getElem?_eq_some_iff.1 K4.out).1).trans ((blk_rules K4.out).1 0)
  have m4 : ∀ w', Ext w11.drew w' → w'.cell? ⟨w9.heap.size, 1, none⟩ = some (.int .i64 D3.1.bad) := fun w' hx => (((Ext.refl w11).drew.trans hx).cell (Array.getElem?_eq_some_iff.1 K4.out).1).trans ((blk_rules K4.out).1 1)
  clear hW
  have hSw : Ext w11.drew w11.drew := Ext.refl _
  refine wpS_begin (Ext w11.drew) (by kernel_rfl) ?_
  refine wpS_take 0 (v := ?_) hSw rfl (by kernel_rfl) (by kernel_rfl) (by kernel_rfl) (by rfl) (fun w' hin => ?_) ?_
  rotate_left
  · (try simp only [] at hin); go_simp <;> with_reducible rfl
  try simp only [Act.put, List.setIfInBounds_toArray, List.set_cons_zero, List.set_cons_succ]
  refine wpS_take 1 (v := ?_) hSw rfl (by kernel_rfl) (by kernel_rfl) (by kernel_rfl) (by rfl) (fun w' hin => ?_) ?_
  rotate_left
  · (try simp only [] at hin); go_simp <;> with_reducible rfl
  try simp only [Act.put, List.setIfInBounds_toArray, List.set_cons_zero, List.set_cons_succ]
  refine wpS_take 2 (v := ?_) hSw rfl (by kernel_rfl) (by kernel_rfl) (by kernel_rfl) (by rfl) (fun w' hin => ?_) ?_
  rotate_left
  · (try simp only [] at hin); go_simp <;> with_reducible rfl
  try simp only [Act.put, List.setIfInBounds_toArray, List.set_cons_zero, List.set_cons_succ]
  refine wpS_take 4 (v := ?_) hSw rfl (by kernel_rfl) (by kernel_rfl) (by kernel_rfl) (by rfl) (fun w' hin => ?_) ?_
  rotate_left
  · (try simp only [] at hin); go_simp <;> with_reducible rfl
  try simp only [Act.put, List.setIfInBounds_toArray, List.set_cons_zero, List.set_cons_succ]
  refine wpS_one 3 rfl (by kernel_rfl) (by rfl) (fun K hK => ?_)
  go_simp
  refine (theirs11 A8 n8 c8 D3.1.bad _).mono ?_
  rintro e w12 ⟨rfl, hb12⟩
  simp only []
  refine hK.out _ _ (Ext w11.drew) (fun _ h => h) (hb12) (fun hSw => ?_)
  clear hK K
  try simp only [Act.put, List.setIfInBounds_toArray, List.set_cons_zero, List.set_cons_succ]
  refine wpS_one 5 rfl (by kernel_rfl) (by rfl) (fun K hK => ?_)
  go_simp
  refine (theirs11 A9 n9 c9 D3.1.bad _).mono ?_
  rintro e w13 ⟨rfl, hb13⟩
  simp only []
  refine hK.out _ _ (Ext w11.drew) (fun _ h => h) (hb12.trans hb13) (fun hSw => ?_)
  clear hK K
  try simp only [Act.put, List.setIfInBounds_toArray, List.set_cons_zero, List.set_cons_succ]
  refine wpS_one 6 rfl (by kernel_rfl) (by rfl) (fun K hK => ?_)
  go_simp
  refine (same11 A8 A9 n8 n9 c8 c9 D3.1 _ (ArrR.up G3.out (((Ext.refl w11).drew.trans hb12).trans hb13)) (ArrR.up G4.out (((Ext.refl w11).drew.trans hb12).trans hb13))).mono ?_
  rintro e w14 ⟨rfl, hb14⟩
  simp only []
  refine hK.out _ _ (Ext w11.drew) (fun _ h => h) ((hb12.trans hb13).trans hb14) (fun hSw => ?_)
  clear hK K
  try simp only [Act.put, List.setIfInBounds_toArray, List.set_cons_zero, List.set_cons_succ]
  refine wpS_take 7 (v := ?_) hSw rfl (by kernel_rfl) (by kernel_rfl) (by kernel_rfl) (by rfl) (fun w' hin => ?_) ?_
  rotate_left
  · (try simp only [] at hin); go_simp <;> with_reducible rfl
  try simp only [Act.put, List.setIfInBounds_toArray, List.set_cons_zero, List.set_cons_succ]
  refine wpS_take 8 (v := ?_) hSw rfl (by kernel_rfl) (by kernel_rfl) (by kernel_rfl) (by rfl) (fun w' hin => ?_) ?_
  rotate_left
  · (try simp only [] at hin); go_simp <;> with_reducible rfl
  try simp only [Act.put, List.setIfInBounds_toArray, List.set_cons_zero, List.set_cons_succ]
  refine wpS_take 9 (v := ?_) hSw rfl (by kernel_rfl) (by kernel_rfl) (by kernel_rfl) (by rfl) (fun w' hin => ?_) ?_
  rotate_left
  · (try simp only [] at hin); go_simp <;> with_reducible rfl
  try simp only [Act.put, List.setIfInBounds_toArray, List.set_cons_zero, List.set_cons_succ]
  refine wpS_take 10 (v := ?_) hSw rfl (by kernel_rfl) (by kernel_rfl) (by kernel_rfl) (by rfl) (fun w' hin => ?_) ?_
  rotate_left
  · (try simp only [] at hin); go_simp <;> with_reducible rfl
  try simp only [Act.put, List.setIfInBounds_toArray, List.set_cons_zero, List.set_cons_succ]
  refine wpS_one 11 rfl (by kernel_rfl) (by rfl) (fun K hK => ?_)
  go_simp
  refine (texts11 A11 AO _ _ c11 cO (D1.2 ++ D2.2 ++ D3.2) _ (GL.out.up ((((Ext.refl w11).drew.trans hb12).trans hb13).trans hb14)) (GO.out.up ((((Ext.refl w11).drew.trans hb12).trans hb13).trans hb14)) (by have := HLEN.out; omega)).mono ?_
  rintro e w15 ⟨rfl, hb15⟩
  simp only []
  refine hK.out _ _ (Ext w11.drew) (fun _ h => h) (((hb12.trans hb13).trans hb14).trans hb15) (fun hSw => ?_)
  clear hK K
  try simp only [Act.put, List.setIfInBounds_toArray, List.set_cons_zero, List.set_cons_succ]
  refine wpS_take 12 (v := ?_) hSw rfl (by kernel_rfl) (by kernel_rfl) (by kernel_rfl) (by rfl) (fun w' hin => ?_) ?_
  rotate_left
  · (try simp only [] at hin); go_simp <;> with_reducible rfl
  try simp only [Act.put, List.setIfInBounds_toArray, List.set_cons_zero, List.set_cons_succ]
  refine wpS_take 13 (v := ?_) hSw rfl (by kernel_rfl) (by kernel_rfl) (by kernel_rfl) (by rfl) (fun w' hin => ?_) ?_
  rotate_left
  · (try simp only [] at hin); go_simp <;> with_reducible rfl
  try simp only [Act.put, List.setIfInBounds_toArray, List.set_cons_zero, List.set_cons_succ]
  refine wpS_take 14 (v := ?_) hSw rfl (by kernel_rfl) (by kernel_rfl) (by kernel_rfl) (by rfl) (fun w' hin => ?_) ?_
  rotate_left
  · (try simp only [] at hin); go_simp <;> with_reducible rfl
  try simp only [Act.put, List.setIfInBounds_toArray, List.set_cons_zero, List.set_cons_succ]
  refine wpS_one 15 rfl (by kernel_rfl) (by rfl) (fun K hK => ?_)
  go_simp
  refine (streamSane_any A6 n6 c6 D1.1 _ (ArrR.up G1.out (((((Ext.refl w11).drew.trans hb12).trans hb13).trans hb14).trans hb15)) h61 h62 h63).mono ?_
  rintro e w16 ⟨rfl, hb16⟩
  rw [HFS1.out]
  simp only []
  refine hK.out _ _ (Ext w11.drew) (fun _ h => h) ((((hb12.trans hb13).trans hb14).trans hb15).trans hb16) (fun hSw => ?_)
  clear hK K
  try simp only [Act.put, List.setIfInBounds_toArray, List.set_cons_zero, List.set_cons_succ]
  refine wpS_take 16 (v := ?_) hSw rfl (by kernel_rfl) (by kernel_rfl) (by kernel_rfl) (by rfl) (fun w' hin => ?_) ?_
  rotate_left
  · (try simp only [] at hin); go_simp <;> with_reducible rfl
  try simp only [Act.put, List.setIfInBounds_toArray, List.set_cons_zero, List.set_cons_succ]
  refine wpS_take 17 (v := ?_) hSw rfl (by kernel_rfl) (by kernel_rfl) (by kernel_rfl) (by rfl) (fun w' hin => ?_) ?_
  rotate_left
  · (try simp only [] at hin); go_simp <;> with_reducible rfl
  try simp only [Act.put, List.setIfInBounds_toArray, List.set_cons_zero, List.set_cons_succ]
  refine wpS_take 18 (v := ?_) hSw rfl (by kernel_rfl) (by kernel_rfl) (by kernel_rfl) (by rfl) (fun w' hin => ?_) ?_
  rotate_left
  · (try simp only [] at hin); go_simp <;> with_reducible rfl
  try simp only [Act.put, List.setIfInBounds_toArray, List.set_cons_zero, List.set_cons_succ]
  refine wpS_one 19 rfl (by kernel_rfl) (by rfl) (fun K hK => ?_)
  go_simp
  refine (streamSane_any A7 n7 c7 D2.1 _ (ArrR.up G2.out ((((((Ext.refl w11).drew.trans hb12).trans hb13).trans hb14).trans hb15).trans hb16)) h71 h72 h73).mono ?_
  rintro e w17 ⟨rfl, hb17⟩
  rw [HFS2.out]
  simp only []
  refine hK.out _ _ (Ext w11.drew) (fun _ h => h) (((((hb12.trans hb13).trans hb14).trans hb15).trans hb16).trans hb17) (fun hSw => ?_)
  clear hK K
  try simp only [Act.put, List.setIfInBounds_toArray, List.set_cons_zero, List.set_cons_succ]
  refine wpS_take 20 (v := ?_) hSw rfl (by kernel_rfl) (by kernel_rfl) (by kernel_rfl) (by rfl) (fun w' hin => ?_) ?_
  rotate_left
  · (try simp only [] at hin); go_simp <;> with_reducible rfl
  try simp only [Act.put, List.setIfInBounds_toArray, List.set_cons_zero, List.set_cons_succ]
  refine wpS_take 21 (v := ?_) hSw rfl (by kernel_rfl) (by kernel_rfl) (by kernel_rfl) (by rfl) (fun w' hin => ?_) ?_
  rotate_left
  · (try simp only [] at hin); go_simp <;> with_reducible rfl
  try simp only [Act.put, List.setIfInBounds_toArray, List.set_cons_zero, List.set_cons_succ]
  refine wpS_take 22 (v := ?_) hSw rfl (by kernel_rfl) (by kernel_rfl) (by kernel_rfl) (by rfl) (fun w' hin => ?_) ?_
  rotate_left
  · (try simp only [] at hin); go_simp <;> with_reducible rfl
  try simp only [Act.put, List.setIfInBounds_toArray, List.set_cons_zero, List.set_cons_succ]
  refine wpS_one 23 rfl (by kernel_rfl) (by rfl) (fun K hK => ?_)
  go_simp
  refine (streamSane_any A8 n8 c8 D3.1 _ (ArrR.up G3.out (((((((Ext.refl w11).drew.trans hb12).trans hb13).trans hb14).trans hb15).trans hb16).trans hb17)) h81 h82 h83).mono ?_
  rintro e w18 ⟨rfl, hb18⟩
  rw [HFS3.out]
  simp only []
  refine hK.out _ _ (Ext w11.drew) (fun _ h => h) ((((((hb12.trans hb13).trans hb14).trans hb15).trans hb16).trans hb17).trans hb18) (fun hSw => ?_)
  clear hK K
  try simp only [Act.put, List.setIfInBounds_toArray, List.set_cons_zero, List.set_cons_succ]
  refine wpS_take 24 (v := ?_) hSw rfl (by kernel_rfl) (by kernel_rfl) (by kernel_rfl) (by rfl) (fun w' hin => ?_) ?_
  rotate_left
  · (try simp only [] at hin); go_simp <;> with_reducible rfl
  try simp only [Act.put, List.setIfInBounds_toArray, List.set_cons_zero, List.set_cons_succ]
  refine wpS_take 25 (v := ?_) hSw rfl (by kernel_rfl) (by kernel_rfl) (by kernel_rfl) (by rfl) (fun w' hin => ?_) ?_
  rotate_left
  · (try simp only [] at hin); go_simp <;> with_reducible rfl
  try simp only [Act.put, List.setIfInBounds_toArray, List.set_cons_zero, List.set_cons_succ]
  refine wpS_done (by kernel_rfl) ?_

  go_wp2_with fail
  go_ret
  exact ⟨rfl, EW11.out.drew.trans ((((((hb12.trans hb13).trans hb14).trans hb15).trans hb16).trans hb17).trans hb18)⟩
end Go.Proofs.Ytjomoannlpadnaa
