/- The law StreamBytes: its walk. -/
import Derived.Test.YtjomoannlpadnaaStreamLaw
import Derived.Test.YtjomoannlpadnaaStreamBox
import Derived.Test.YtjomoannlpadnaaRegion
import Derived.Outline
import Derived.Deep.DrawnRows
namespace Go.Proofs.Ytjomoannlpadnaa
set_option linter.unusedVariables false
open Go.RowKit
attribute [local go_sem ↓] run_max2 run_min2
attribute [local go_sem ↓] Go.wp_at_zero Go.wp_at_succ

set_option maxRecDepth 100000 in
set_option maxHeartbeats 400000 in
theorem streamBytes_long (A : Option Addr) (n c : Nat) (w : World) (h : 300 < n) : Calls Try.prog 22 #[.slice A n c] w fun e w' => e = .returned (.bool true) ∧ Ext w w' := by
  go_enter Try.func22, Try.ntmps22
  go_wp2_with fail
  refine (awake11 _).mono ?_
  rintro e w1 ⟨rfl, hb1⟩
  go_wp2_with fail
  go_ret
  exact ⟨rfl, hb1⟩

theorem wpS_two {P : Program} {Q : Exit → Act → World → Prop} {md : Region.Mode} (i j : Nat) {S : World → Prop} {l : List Oper} {oi oj : Oper} {fuel : Nat} {listed : Array Bool} {a : Act} {w : World} (hi : l[i]? = some oi) (hj : l[j]? = some oj)
    (hr : Region.ready md l.toArray listed = [i, j]) (hwi : Region.wanted oi (yielded l.toArray a.tmps) = true) (hwj : Region.wanted oj (yielded l.toArray a.tmps) = true)
    (h1 : ∀ K : Act → World → Prop, Shut (∀ a w' (S' : World → Prop), (∀ x, S' x → S x) → S' w' → (S' w' → wpS P md l.toArray Q S' fuel (listed.setIfInBounds i true) a w') → K a w') → Oper.wp P oi a w K Q)
    (h2 : ∀ K : Act → World → Prop, Shut (∀ a w' (S' : World → Prop), (∀ x, S' x → S x) → S' w' → (S' w' → wpS P md l.toArray Q S' fuel (listed.setIfInBounds j true) a w') → K a w') → Oper.wp P oj a w K Q) : wpS P md l.toArray Q S (fuel + 1) listed a w := by
  refine wpAnyH_all hr (by simp) fun k hk => ?_
  rcases (by simpa using hk : k = i ∨ k = j) with rfl | rfl
  · refine wpOp_step (o := oi) (by simpa using hi) fun K hK => ?_
    rw [if_pos hwi]
    exact h1 K fun a w' S' hSS hS hh => hK a w' ⟨hSS _ hS, wpAnyH_stronger hSS _ _ _ _ (hh hS)⟩
  · refine wpOp_step (o := oj) (by simpa using hj) fun K hK => ?_
    rw [if_pos hwj]
    exact h2 K fun a w' S' hSS hS hh => hK a w' ⟨hSS _ hS, wpAnyH_stronger hSS _ _ _ _ (hh hS)⟩

set_option maxRecDepth 100000 in
set_option maxHeartbeats 2000000 in
theorem streamBytes_any (A : Option Addr) (n c : Nat) (bs : List UInt8) (w : World) (hA : Byts w A n bs) (hc : A = none → c = 0) (hnc : n ≤ c) (hcm : c ≤ 9223372036854775807) (hn : n ≤ 300) :
    Calls Try.prog 22 #[.slice A n c] w fun e w' => e = .returned (.bool true) ∧ Ext w w' := by
  have HA := Lib.hid hA
  have HAc := Lib.hid hc
  clear hA hc
  have hn' : ¬ 300 < n := by omega
  go_enter Try.func22, Try.ntmps22
  go_wp2_with fail
  refine (awake11 _).mono ?_
  rintro e w1 ⟨rfl, hb1⟩
  have E1 := Lib.hid hb1
  have g0 := hb1.size
  clear hb1
  go_wp2_with fail
  go_loopw [5, 6] (fun v i wr => ∃ k A2 n2 c2, k ≤ n ∧ i = .int .i64 (k : Nat) ∧ Hid (SB w w1.heap.size 86 42 v (B0.feed (bs.take k)) A2 n2 c2 wr)) (fun _ i _ => n - (intOf i).toNat)
  case atStart =>
    refine ⟨0, none, 0, 0, Nat.zero_le _, rfl, Lib.hid ⟨?_, ?_, ?_, ?_, g0, by simp⟩⟩
    · rw [List.take_zero, feed0]; exact heap_alloc_new _ _
    · rw [List.take_zero, feed0]; exact ⟨none, 0, 0, rfl, fun _ => rfl, Nat.le_refl _, by omega, ArrR.nil_, fun h => by omega⟩
    · rw [List.take_zero, feed0]; exact Outs.nil_
    · exact E1.out.alloc _
  case round =>
    obtain ⟨k, A2, n2, c2, hk, rfl, HS⟩ := hrel
    have hfr := feed_rest B0_sane (bs.take k)
    obtain ⟨D, hD⟩ : ∃ D, D = B0.feed (bs.take k) := ⟨_, rfl⟩
    rw [← hD] at HS hfr
    obtain ⟨hz2, hn2, hc2, hB2⟩ := HS.out.rest.byts
    have hl2 : n2 ≤ k := by have h1 := hfr.1; rw [hB2.len, List.length_take, show B0.rest.length = 0 from rfl] at h1; omega
    have hl3 : D.2.length ≤ k := by have h1 := hfr.2; rw [List.length_take, show B0.rest.length = 0 from rfl] at h1; omega
    have HB2 := Lib.hid hB2
    have HD := Lib.hid hD
    have HSN : Hid (D.1.sane = true) := Lib.hid (by rw [hD]; exact feed_sane _ _)
    clear hfr hB2 hD
    by_cases hlt : k < n
    · obtain ⟨b, o, u, rfl, hbl, hu, _⟩ := HA.out.at_ hlt
      have l0 : ∀ w', Ext wr.drew w' → w'.cell? ⟨w1.heap.size, 0, none⟩ = some (.slice A2 n2 c2) := fun w' hx => (((Ext.refl wr).drew.trans hx).cell HS.out.gs).trans ((blk_rules HS.out.box).1 0)
      have l1 : ∀ w', Ext wr.drew w' → w'.cell? ⟨w1.heap.size, 1, none⟩ = some (.int .i64 D.1.bad) := fun w' hx => (((Ext.refl wr).drew.trans hx).cell HS.out.gs).trans ((blk_rules HS.out.box).1 1)
      have HU : Hid (Byts w (some ⟨b, o + k, none⟩) 1 [u]) := Lib.hid (by
        have h1 := byts_take (byts_drop HA.out k) (k := 1) (by omega)
        have h2 : (bs.drop k).take 1 = [u] := by
          have : (bs.drop k)[0]? = some u := by rw [List.getElem?_drop, Nat.add_zero]; exact hu
          rw [take_snoc_of (l := bs.drop k) (k := 0) this, List.take_zero, List.nil_append]
        rw [h2] at h1
        exact h1)
      have HK := Lib.hid (take_snoc_of hu)
      have i1 : (0 : Int) ≤ (k : Int) := by omega
      obtain ⟨m, hm⟩ : ∃ m, m = k + 1 := ⟨_, rfl⟩
      have j1 : IntKind.i64.wrap ((k : Int) + 1) = (m : Int) := by
        have h1 : IntKind.i64.wrap ((k : Int) + 1) = (k : Int) + 1 := by unfold IntKind.wrap; simp [IntKind.bits, IntKind.signed]; omega
        rw [h1]; omega
      have j2 : (0 : Int) ≤ (m : Int) := by omega
      have j3 : (m : Int) ≤ (c : Int) := by omega
      have j4 : k ≤ m := by omega
      have j5 : m - k = 1 := by omega
      have j6 : ¬ c = k := by omega
      have HM := Lib.hid hm
      clear hm
      have i4 : (k : Int) < (n : Int) := by omega
      go_wp2_with fail
      have hSw : Ext wr.drew wr.drew := Ext.refl _
      refine wpS_begin (Ext wr.drew) (by kernel_rfl) ?_
      refine wpS_take 0 (v := ?_) hSw rfl (by kernel_rfl) (by kernel_rfl) (by kernel_rfl) (by rfl) (fun w' hin => ?_) ?_
      rotate_left
      · (try simp only [] at hin); go_simp <;> with_reducible rfl
      try simp only [Act.put, List.setIfInBounds_toArray, List.set_cons_zero, List.set_cons_succ]
      refine wpS_take 1 (v := ?_) hSw rfl (by kernel_rfl) (by kernel_rfl) (by kernel_rfl) (by rfl) (fun w' hin => ?_) ?_
      rotate_left
      · (try simp only [] at hin); go_simp <;> with_reducible rfl
      try simp only [Act.put, List.setIfInBounds_toArray, List.set_cons_zero, List.set_cons_succ]
      refine wpS_take 2 (v := ?_) hSw rfl (by kernel_rfl) (by kernel_rfl) (by kernel_rfl) (by rfl) (fun w' hin => ?_) ?_
      rotate_left
      · (try simp only [] at hin); go_simp <;> with_reducible rfl
      try simp only [Act.put, List.setIfInBounds_toArray, List.set_cons_zero, List.set_cons_succ]
      refine wpS_take 3 (v := ?_) hSw rfl (by kernel_rfl) (by kernel_rfl) (by kernel_rfl) (by rfl) (fun w' hin => ?_) ?_
      rotate_left
      · (try simp only [] at hin); go_simp <;> with_reducible rfl
      try simp only [Act.put, List.setIfInBounds_toArray, List.set_cons_zero, List.set_cons_succ]
      refine wpS_take 4 (v := ?_) hSw rfl (by kernel_rfl) (by kernel_rfl) (by kernel_rfl) (by rfl) (fun w' hin => ?_) ?_
      rotate_left
      · (try simp only [] at hin); go_simp <;> with_reducible rfl
      try simp only [Act.put, List.setIfInBounds_toArray, List.set_cons_zero, List.set_cons_succ]
      refine wpS_take 5 (v := ?_) hSw rfl (by kernel_rfl) (by kernel_rfl) (by kernel_rfl) (by rfl) (fun w' hin => ?_) ?_
      rotate_left
      · (try simp only [] at hin); go_simp <;> with_reducible rfl
      try simp only [Act.put, List.setIfInBounds_toArray, List.set_cons_zero, List.set_cons_succ]
      refine wpS_two 6 10 rfl rfl (by kernel_rfl) (by rfl) (by rfl) (fun K hK => ?_) (fun K hK => ?_)
      · go_simp
        refine (feed_any A2 (some ⟨b, o + k, none⟩) n2 c2 1 (c - k) D.1 [u] _ (ArrR.up HB2.out (Ext.refl wr).drew) hz2 hn2 hc2 (ArrR.up HU.out (HS.out.ext.trans (Ext.refl wr).drew)) (fun h => by cases h) (by omega)).mono ?_
        rintro e w2 ⟨A3, n3, c3, v3, rfl, he3, ⟨base3, F3, hbase3, hF3, ho3⟩, hb3⟩
        simp only []
        refine hK.out _ _ (Ext w2) (fun _ h => hb3.trans h) (Ext.refl _) (fun hSw => ?_)
        clear hK K
        try simp only [Act.put, List.setIfInBounds_toArray, List.set_cons_zero, List.set_cons_succ]
        refine wpS_take 7 (v := ?_) hSw rfl (by kernel_rfl) (by kernel_rfl) (by kernel_rfl) (by rfl) (fun w' hin => ?_) ?_
        rotate_left
        · (try simp only [] at hin); go_simp <;> with_reducible rfl
        try simp only [Act.put, List.setIfInBounds_toArray, List.set_cons_zero, List.set_cons_succ]
        refine wpS_take 8 (v := ?_) hSw rfl (by kernel_rfl) (by kernel_rfl) (by kernel_rfl) (by rfl) (fun w' hin => ?_) ?_
        rotate_left
        · (try simp only [] at hin); go_simp <;> with_reducible rfl
        try simp only [Act.put, List.setIfInBounds_toArray, List.set_cons_zero, List.set_cons_succ]
        refine wpS_take 9 (v := ?_) hSw rfl (by kernel_rfl) (by kernel_rfl) (by kernel_rfl) (by rfl) (fun w' hin => ?_) ?_
        rotate_left
        · (try simp only [] at hin); go_simp <;> with_reducible rfl
        try simp only [Act.put, List.setIfInBounds_toArray, List.set_cons_zero, List.set_cons_succ]
        refine wpS_one 10 rfl (by kernel_rfl) (by rfl) (fun K hK => ?_)
        go_simp
        skip
        refine hK.out _ _ (Ext w2) (fun _ h => h) (Ext.new _ _) (fun hSw => ?_)
        clear hK K
        try simp only [Act.put, List.setIfInBounds_toArray, List.set_cons_zero, List.set_cons_succ]
        refine wpS_one 11 rfl (by kernel_rfl) (by rfl) (fun K hK => ?_)
        go_simp
        skip
        refine hK.out _ _ (Ext w2) (fun _ h => h) (Ext.new _ _) (fun hSw => ?_)
        clear hK K
        try simp only [Act.put, List.setIfInBounds_toArray, List.set_cons_zero, List.set_cons_succ]
        refine wpS_take 12 (v := ?_) hSw rfl (by kernel_rfl) (by kernel_rfl) (by kernel_rfl) (by rfl) (fun w' hin => ?_) ?_
        rotate_left
        · (try simp only [] at hin); go_simp <;> with_reducible rfl
        try simp only [Act.put, List.setIfInBounds_toArray, List.set_cons_zero, List.set_cons_succ]
        refine wpS_done (by kernel_rfl) ?_
        have hr3 := feed_rest HSN.out [u]
        have hl4 : D.2.length + (D.1.feed [u]).2.length ≤ 1000000 := by have h1 := hr3.2; have h2 := HB2.out.len; simp only [List.length_cons, List.length_nil] at h1; omega
        obtain ⟨W1, hW1⟩ : ∃ W, W = w2.alloc (.cells #[.slice A3 n3 c3, .int .i64 (D.1.feed [u]).1.bad] 86) := ⟨_, rfl⟩
        have xW : Ext w2 W1 := by rw [hW1]; exact Ext.new _ _
        have x1 : Ext wr W1 := ((Ext.refl wr).drew.trans hb3).trans xW
        have hy1 : W1.heap[w2.heap.size]? = some (.cells #[.slice A3 n3 c3, .int .i64 (D.1.feed [u]).1.bad] 86 (0, 0)) := by rw [hW1]; exact heap_alloc_new _ _
        have e1 : Elem W1 (fun b => b < wr.heap.size ∨ v3.ownBlock = some b) (.slice A3 n3 c3) (D.1.feed [u]).1.rest := he3.up xW
        have o1 := ho3.up xW
        have hF1 : ∀ b, b < wr.heap.size → F3 b := hF3
        rw [← hW1]
        clear xW
        obtain ⟨A4, c4, v4, w4, rfl, hrun, hSB⟩ := SB.round elem_bytes 35 (D' := D.1.feed [u]) HS.out x1 e1 hbase3 hF1 o1 hl4 (by omega)
        have HR := Lib.hid hrun
        have HSB := Lib.hid hSB
        obtain ⟨x0, xf⟩ := blk_rules ((x1.block HS.out.gs).trans HS.out.box)
        obtain ⟨y0, yf⟩ := blk_rules hy1
        clear hrun hSB e1 o1 hF1 x1 hy1 he3 ho3 hF3 hb3 hbase3 hr3 hl4 l0 l1 hSw hW1
        go_wp2_with (at_builtin
                     refine Lib.wpList_append_run _ rfl _ _ _ _ rfl _ _ rfl rfl v4 w4 HR.out ?_)
        go_roundw
        case rel => exact ⟨k + 1, A3, n3, c3, by omega, by rw [← HM.out], Lib.hid (by rw [HK.out, feed_chain, ← HD.out]; exact HSB.out)⟩
        case measure => simp [intOf]; omega
      · go_simp
        skip
        refine hK.out _ _ (Ext wr.drew) (fun _ h => h) (Ext.new _ _) (fun hSw => ?_)
        clear hK K
        try simp only [Act.put, List.setIfInBounds_toArray, List.set_cons_zero, List.set_cons_succ]
        refine wpS_one 6 rfl (by kernel_rfl) (by rfl) (fun K hK => ?_)
        go_simp
        refine (feed_any A2 (some ⟨b, o + k, none⟩) n2 c2 1 (c - k) D.1 [u] _ (ArrR.up HB2.out ((Ext.refl wr).drew.alloc _)) hz2 hn2 hc2 (ArrR.up HU.out (HS.out.ext.trans ((Ext.refl wr).drew.alloc _))) (fun h => by cases h) (by omega)).mono ?_
        rintro e w2 ⟨A3, n3, c3, v3, rfl, he3, ⟨base3, F3, hbase3, hF3, ho3⟩, hb3⟩
        have hkz : w2.heap[wr.heap.size]? = some (.cells #[.slice none 0 0, .int .i64 0] 86 (0, 0)) := (hb3.block (b := wr.heap.size) (by simp [World.alloc])).trans (heap_alloc_new wr.drew _)
        obtain ⟨z0, z1⟩ := blk_rules hkz
        simp only []
        refine hK.out _ _ (Ext wr.drew) (fun _ h => h) ((Ext.new _ _).trans hb3) (fun hSw => ?_)
        clear hK K
        try simp only [Act.put, List.setIfInBounds_toArray, List.set_cons_zero, List.set_cons_succ]
        refine wpS_take 7 (v := ?_) hSw rfl (by kernel_rfl) (by kernel_rfl) (by kernel_rfl) (by rfl) (fun w' hin => ?_) ?_
        rotate_left
        · (try simp only [] at hin); go_simp <;> with_reducible rfl
        try simp only [Act.put, List.setIfInBounds_toArray, List.set_cons_zero, List.set_cons_succ]
        refine wpS_take 8 (v := ?_) hSw rfl (by kernel_rfl) (by kernel_rfl) (by kernel_rfl) (by rfl) (fun w' hin => ?_) ?_
        rotate_left
        · (try simp only [] at hin); go_simp <;> with_reducible rfl
        try simp only [Act.put, List.setIfInBounds_toArray, List.set_cons_zero, List.set_cons_succ]
        refine wpS_take 9 (v := ?_) hSw rfl (by kernel_rfl) (by kernel_rfl) (by kernel_rfl) (by rfl) (fun w' hin => ?_) ?_
        rotate_left
        · (try simp only [] at hin); go_simp <;> with_reducible rfl
        try simp only [Act.put, List.setIfInBounds_toArray, List.set_cons_zero, List.set_cons_succ]
        refine wpS_one 11 rfl (by kernel_rfl) (by rfl) (fun K hK => ?_)
        go_simp
        skip
        refine hK.out _ _ (Ext wr.drew) (fun _ h => h) ((((Ext.new _ _).trans hb3).set (Nat.le_refl _) _).set (Nat.le_refl _) _) (fun hSw => ?_)
        clear hK K
        try simp only [Act.put, List.setIfInBounds_toArray, List.set_cons_zero, List.set_cons_succ]
        refine wpS_take 12 (v := ?_) hSw rfl (by kernel_rfl) (by kernel_rfl) (by kernel_rfl) (by rfl) (fun w' hin => ?_) ?_
        rotate_left
        · (try simp only [] at hin); go_simp <;> with_reducible rfl
        try simp only [Act.put, List.setIfInBounds_toArray, List.set_cons_zero, List.set_cons_succ]
        refine wpS_done (by kernel_rfl) ?_
        have hr3 := feed_rest HSN.out [u]
        have hl4 : D.2.length + (D.1.feed [u]).2.length ≤ 1000000 := by have h1 := hr3.2; have h2 := HB2.out.len; simp only [List.length_cons, List.length_nil] at h1; omega
        have hsz : (wr.drew.alloc (.cells #[.slice none 0 0, .int .i64 0] 86)).heap.size = wr.heap.size + 1 := World.size_alloc _ _
        have hs2 : wr.heap.size + 1 ≤ w2.heap.size := by have := hb3.size; rw [hsz] at this; exact this
        have hb3' : wr.heap.size + 1 ≤ base3 := by rw [← hsz]; exact hbase3
        have hF3' : ∀ b, b < wr.heap.size + 1 → F3 b := fun b hb => hF3 b (by rw [hsz]; exact hb)
        obtain ⟨W1, hW1⟩ : ∃ W, W = (w2.setCell ⟨wr.heap.size, 0, none⟩ (.slice A3 n3 c3)).setCell ⟨wr.heap.size, 1, none⟩ (.int .i64 (D.1.feed [u]).1.bad) := ⟨_, rfl⟩
        have x1 : Ext wr W1 := by rw [hW1]; exact ((((Ext.refl wr).drew.alloc _).trans hb3).set (Nat.le_refl _) _).set (Nat.le_refl _) _
        have hy1 : W1.heap[wr.heap.size]? = some (.cells #[.slice A3 n3 c3, .int .i64 (D.1.feed [u]).1.bad] 86 (0, 0)) := by rw [hW1]; exact blk_set (i := 1) (blk_set (i := 0) hkz _) _
        have e1 : Elem W1 (fun b => b < wr.heap.size ∨ v3.ownBlock = some b) (.slice A3 n3 c3) (D.1.feed [u]).1.rest := by
          rw [hW1]
          have h1 : Elem w2 (fun b => b < wr.heap.size + 1 ∨ v3.ownBlock = some b) (.slice A3 n3 c3) (D.1.feed [u]).1.rest := he3.weak (fun b hb => .inl (hb.imp (fun h => by rw [hsz]; exact h) id))
          exact ((h1.but (grownBy_set w2 wr.heap.size 0 _) (fun b eb => by injection eb with eb; exact .inl (by omega))).but (grownBy_set _ wr.heap.size 1 _) (fun b eb => by injection eb with eb; exact .inl (by omega))).weak (fun b hb => .inl (hb.imp (fun h => by omega) id))
        have o1 : Outs W1 base3 42 F3 v3 (D.1.feed [u]).2 := by
          rw [hW1]
          exact (ho3.set (hF3' _ (by omega)) (by omega) 0 _).set (hF3' _ (by omega)) (by omega) 1 _
        have hF1 : ∀ b, b < wr.heap.size → F3 b := fun b hb => hF3' b (by omega)
        rw [← hW1]
        clear z0 z1 hkz hF3' hsz
        obtain ⟨A4, c4, v4, w4, rfl, hrun, hSB⟩ := SB.round elem_bytes 35 (D' := D.1.feed [u]) HS.out x1 e1 (by omega) hF1 o1 hl4 (by omega)
        have HR := Lib.hid hrun
        have HSB := Lib.hid hSB
        obtain ⟨x0, xf⟩ := blk_rules ((x1.block HS.out.gs).trans HS.out.box)
        obtain ⟨y0, yf⟩ := blk_rules hy1
        clear hrun hSB e1 o1 hF1 x1 hy1 he3 ho3 hF3 hb3 hbase3 hr3 hl4 l0 l1 hSw hW1
        go_wp2_with (at_builtin
                     refine Lib.wpList_append_run _ rfl _ _ _ _ rfl _ _ rfl rfl v4 w4 HR.out ?_)
        go_roundw
        case rel => exact ⟨k + 1, A3, n3, c3, by omega, by rw [← HM.out], Lib.hid (by rw [HK.out, feed_chain, ← HD.out]; exact HSB.out)⟩
        case measure => simp [intOf]; omega
    · obtain rfl : k = n := by omega
      have HD' : Hid (D = B0.feed bs) := Lib.hid (by rw [HD.out, List.take_of_length_le (by rw [HA.out.len]; exact Nat.le_refl _)])
      clear hlt HD
      go_wp2_with fail
      refine (feed_any none A 0 0 k c B0 bs _ ArrR.nil_ (fun _ => rfl) (Nat.le_refl _) (by omega) (ArrR.up HA.out HS.out.ext) HAc.out (by omega)).mono ?_
      rintro e w2 ⟨A3, n3, c3, v3, rfl, he3, ⟨base3, F3, hbase3, hF3, ho3⟩, hb3⟩
      rw [← HD'.out] at he3 ho3 ⊢
      obtain ⟨h31, h32, h33, h34⟩ := he3.byts
      obtain ⟨AO, cO, rfl, -, -, -, go⟩ := ho3.read
      obtain ⟨AL, cL, rfl, -, -, -, gl⟩ := HS.out.row.read
      obtain ⟨W, hW⟩ : ∃ W, W = w2.alloc (.cells #[.slice A3 n3 c3, .int .i64 D.1.bad] 86) := ⟨_, rfl⟩
      have xW : Ext w2 W := by rw [hW]; exact Ext.new _ _
      have x1 : Ext wr W := hb3.trans xW
      have hK2 : W.heap[w2.heap.size]? = some (.cells #[.slice A3 n3 c3, .int .i64 D.1.bad] 86 (0, 0)) := by rw [hW]; exact heap_alloc_new _ _
      have hK1 := (x1.block HS.out.gs).trans HS.out.box
      have K1 := Lib.hid hK1
      have K2 := Lib.hid hK2
      have G1 := Lib.hid (ArrR.up HB2.out x1)
      have G2 := Lib.hid (ArrR.up h34 xW)
      have GL := Lib.hid (gl.up x1)
      have GO := Lib.hid (go.up xW)
      have EX := Lib.hid (HS.out.ext.trans x1)
      have l1 : ∀ w', Ext W.drew w' → w'.cell? ⟨w1.heap.size, 0, none⟩ = some (.slice A2 n2 c2) := fun w' hx => (((Ext.refl W).drew.trans hx).cell (Array.getElem?_eq_some_iff.1 K1.out).1).trans ((blk_rules K1.out).1 0)
      have m1 : ∀ w', Ext W.drew w' → w'.cell? ⟨w1.heap.size, 1, none⟩ = some (.int .i64 D.1.bad) := fun w' hx => (((Ext.refl W).drew.trans hx).cell (Array.getElem?_eq_some_iff.1 K1.out).1).trans ((blk_rules K1.out).1 1)
      have l2 : ∀ w', Ext W.drew w' → w'.cell? ⟨w2.heap.size, 0, none⟩ = some (.slice A3 n3 c3) := fun w' hx => (((Ext.refl W).drew.trans hx).cell (Array.getElem?_eq_some_iff.1 K2.out).1).trans ((blk_rules K2.out).1 0)
      have m2 : ∀ w', Ext W.drew w' → w'.cell? ⟨w2.heap.size, 1, none⟩ = some (.int .i64 D.1.bad) := fun w' hx => (((Ext.refl W).drew.trans hx).cell (Array.getElem?_eq_some_iff.1 K2.out).1).trans ((blk_rules K2.out).1 1)
      clear he3 ho3 hF3 hbase3 hb3 h34 gl go x1 xW hK1 hK2 HS HB2 HD' HSN
      go_wp2_with fail
      rw [← hW]
      clear hW
      have hSw : Ext W.drew W.drew := Ext.refl _
      refine wpS_begin (Ext W.drew) (by kernel_rfl) ?_
      refine wpS_take 0 (v := ?_) hSw rfl (by kernel_rfl) (by kernel_rfl) (by kernel_rfl) (by rfl) (fun w' hin => ?_) ?_
      rotate_left
      · (try simp only [] at hin); go_simp <;> with_reducible rfl
      try simp only [Act.put, List.setIfInBounds_toArray, List.set_cons_zero, List.set_cons_succ]
      refine wpS_take 1 (v := ?_) hSw rfl (by kernel_rfl) (by kernel_rfl) (by kernel_rfl) (by rfl) (fun w' hin => ?_) ?_
      rotate_left
      · (try simp only [] at hin); go_simp <;> with_reducible rfl
      try simp only [Act.put, List.setIfInBounds_toArray, List.set_cons_zero, List.set_cons_succ]
      refine wpS_take 2 (v := ?_) hSw rfl (by kernel_rfl) (by kernel_rfl) (by kernel_rfl) (by rfl) (fun w' hin => ?_) ?_
      rotate_left
      · (try simp only [] at hin); go_simp <;> with_reducible rfl
      try simp only [Act.put, List.setIfInBounds_toArray, List.set_cons_zero, List.set_cons_succ]
      refine wpS_take 4 (v := ?_) hSw rfl (by kernel_rfl) (by kernel_rfl) (by kernel_rfl) (by rfl) (fun w' hin => ?_) ?_
      rotate_left
      · (try simp only [] at hin); go_simp <;> with_reducible rfl
      try simp only [Act.put, List.setIfInBounds_toArray, List.set_cons_zero, List.set_cons_succ]
      refine wpS_one 3 rfl (by kernel_rfl) (by rfl) (fun K hK => ?_)
      go_simp
      refine (theirs11 A2 n2 c2 D.1.bad _).mono ?_
      rintro e w12 ⟨rfl, hb12⟩
      simp only []
      refine hK.out _ _ (Ext W.drew) (fun _ h => h) (hb12) (fun hSw => ?_)
      clear hK K
      try simp only [Act.put, List.setIfInBounds_toArray, List.set_cons_zero, List.set_cons_succ]
      refine wpS_one 5 rfl (by kernel_rfl) (by rfl) (fun K hK => ?_)
      go_simp
      refine (theirs11 A3 n3 c3 D.1.bad _).mono ?_
      rintro e w13 ⟨rfl, hb13⟩
      simp only []
      refine hK.out _ _ (Ext W.drew) (fun _ h => h) ((hb12.trans hb13)) (fun hSw => ?_)
      clear hK K
      try simp only [Act.put, List.setIfInBounds_toArray, List.set_cons_zero, List.set_cons_succ]
      refine wpS_one 6 rfl (by kernel_rfl) (by rfl) (fun K hK => ?_)
      go_simp
      refine (same11 A2 A3 n2 n3 c2 c3 D.1 _ (ArrR.up G1.out (((Ext.refl W).drew.trans hb12).trans hb13)) (ArrR.up G2.out (((Ext.refl W).drew.trans hb12).trans hb13))).mono ?_
      rintro e w14 ⟨rfl, hb14⟩
      simp only []
      refine hK.out _ _ (Ext W.drew) (fun _ h => h) (((hb12.trans hb13).trans hb14)) (fun hSw => ?_)
      clear hK K
      try simp only [Act.put, List.setIfInBounds_toArray, List.set_cons_zero, List.set_cons_succ]
      refine wpS_take 7 (v := ?_) hSw rfl (by kernel_rfl) (by kernel_rfl) (by kernel_rfl) (by rfl) (fun w' hin => ?_) ?_
      rotate_left
      · (try simp only [] at hin); go_simp <;> with_reducible rfl
      try simp only [Act.put, List.setIfInBounds_toArray, List.set_cons_zero, List.set_cons_succ]
      refine wpS_take 8 (v := ?_) hSw rfl (by kernel_rfl) (by kernel_rfl) (by kernel_rfl) (by rfl) (fun w' hin => ?_) ?_
      rotate_left
      · (try simp only [] at hin); go_simp <;> with_reducible rfl
      try simp only [Act.put, List.setIfInBounds_toArray, List.set_cons_zero, List.set_cons_succ]
      refine wpS_take 9 (v := ?_) hSw rfl (by kernel_rfl) (by kernel_rfl) (by kernel_rfl) (by rfl) (fun w' hin => ?_) ?_
      rotate_left
      · (try simp only [] at hin); go_simp <;> with_reducible rfl
      try simp only [Act.put, List.setIfInBounds_toArray, List.set_cons_zero, List.set_cons_succ]
      refine wpS_take 10 (v := ?_) hSw rfl (by kernel_rfl) (by kernel_rfl) (by kernel_rfl) (by rfl) (fun w' hin => ?_) ?_
      rotate_left
      · (try simp only [] at hin); go_simp <;> with_reducible rfl
      try simp only [Act.put, List.setIfInBounds_toArray, List.set_cons_zero, List.set_cons_succ]
      refine wpS_one 11 rfl (by kernel_rfl) (by rfl) (fun K hK => ?_)
      go_simp
      refine (texts11 AL AO _ _ cL cO D.2 _ (GL.out.up ((((Ext.refl W).drew.trans hb12).trans hb13).trans hb14)) (GO.out.up ((((Ext.refl W).drew.trans hb12).trans hb13).trans hb14)) (by omega)).mono ?_
      rintro e w15 ⟨rfl, hb15⟩
      simp only []
      refine hK.out _ _ (Ext W.drew) (fun _ h => h) ((((hb12.trans hb13).trans hb14).trans hb15)) (fun hSw => ?_)
      clear hK K
      try simp only [Act.put, List.setIfInBounds_toArray, List.set_cons_zero, List.set_cons_succ]
      refine wpS_take 12 (v := ?_) hSw rfl (by kernel_rfl) (by kernel_rfl) (by kernel_rfl) (by rfl) (fun w' hin => ?_) ?_
      rotate_left
      · (try simp only [] at hin); go_simp <;> with_reducible rfl
      try simp only [Act.put, List.setIfInBounds_toArray, List.set_cons_zero, List.set_cons_succ]
      refine wpS_take 13 (v := ?_) hSw rfl (by kernel_rfl) (by kernel_rfl) (by kernel_rfl) (by rfl) (fun w' hin => ?_) ?_
      rotate_left
      · (try simp only [] at hin); go_simp <;> with_reducible rfl
      try simp only [Act.put, List.setIfInBounds_toArray, List.set_cons_zero, List.set_cons_succ]
      refine wpS_done (by kernel_rfl) ?_
      go_wp2_with fail
      go_ret
      exact ⟨rfl, EX.out.drew.trans ((((hb12.trans hb13).trans hb14).trans hb15))⟩
end Go.Proofs.Ytjomoannlpadnaa
