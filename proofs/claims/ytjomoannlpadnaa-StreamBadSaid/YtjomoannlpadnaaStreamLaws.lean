/- The laws StreamBad, StreamNext: their walks. -/
import Derived.Test.YtjomoannlpadnaaStreamLaw
import Derived.Outline
namespace Go.Proofs.Ytjomoannlpadnaa
set_option linter.unusedVariables false
open Go.RowKit
attribute [local go_sem ↓] run_max2 run_min2

set_option maxRecDepth 100000 in
set_option maxHeartbeats 400000 in
theorem streamBad_long (A Ab : Option Addr) (n c nb cb : Nat) (w : World) (h : 1000 < n ∨ 1000 < nb) : Calls Try.prog 20 #[.slice A n c, .slice Ab nb cb] w fun e w' => e = .returned (.bool true) ∧ Ext w w' := by
  by_cases h1 : 1000 < n
  · go_enter Try.func20, Try.ntmps20
    go_wp2_with fail
    refine (awake11 _).mono ?_
    rintro e w1 ⟨rfl, hb1⟩
    go_wp2_with fail
    go_ret
    exact ⟨rfl, hb1⟩
  · have h2 : 1000 < nb := by omega
    clear h
    go_enter Try.func20, Try.ntmps20
    go_wp2_with fail
    refine (awake11 _).mono ?_
    rintro e w1 ⟨rfl, hb1⟩
    go_wp2_with fail
    go_ret
    exact ⟨rfl, hb1⟩

set_option maxRecDepth 100000 in
set_option maxHeartbeats 2000000 in
theorem streamBad_any (A Ab : Option Addr) (n c nb cb : Nat) (ds bs : List UInt8) (w : World) (hA : Byts w A n ds) (hc : A = none → c = 0) (hB : Byts w Ab nb bs) (hcb : Ab = none → cb = 0) (hn : n ≤ 1000) (hnb : nb ≤ 1000) :
    Calls Try.prog 20 #[.slice A n c, .slice Ab nb cb] w fun e w' => e = .returned (.bool true) ∧ Ext w w' := by
  have HA := Lib.hid hA
  have HB := Lib.hid hB
  clear hA hB
  have hn' : ¬ 1000 < n := by omega
  have hnb' : ¬ 1000 < nb := by omega
  go_enter Try.func20, Try.ntmps20
  go_wp2_with fail
  refine (awake11 _).mono ?_
  rintro e w1 ⟨rfl, hb1⟩
  have E1 := Lib.hid hb1
  clear hb1
  go_wp2_with fail
  refine (feed_any none A 0 0 n c B0 ds _ ArrR.nil_ (fun _ => rfl) (Nat.le_refl _) (by omega) (ArrR.up HA.out E1.out) hc (by omega)).mono ?_
  rintro e w2 ⟨A2, n2, c2, v2, rfl, he2, ⟨base, F, hbase, -, ho2⟩, hb2⟩
  have hsane := drain_sane ds
  have hend := drain_end _ ds (Nat.le_refl _)
  have hwei := drain_weigh _ ds (Nat.le_refl _)
  rw [feed0] at he2 ho2 ⊢
  obtain ⟨q, x, hqx⟩ : ∃ q x, drain ds = (q, x) := ⟨_, _, rfl⟩
  rw [hqx] at he2 ho2 hsane hend hwei ⊢
  simp only [] at he2 ho2 hsane hend hwei ⊢
  rw [HA.out.len] at hwei
  obtain ⟨hA2, hn2, hc2, hB2⟩ := he2.byts
  have hl2 := hB2.len
  obtain ⟨Aq, cq, rfl, hAq, hnq, hcq, hQ⟩ := ho2.read
  have HB2 := Lib.hid hB2
  have HL2 := Lib.hid hl2
  have HQ := Lib.hid hQ
  have HW := Lib.hid hwei
  have HS := Lib.hid hsane
  have HEND := Lib.hid hend
  have E2 := Lib.hid (E1.out.trans hb2)
  have hn2w : n2 ≤ 1000 := by omega
  clear he2 ho2 hB2 hl2 hQ hwei hsane hend hbase hb2 hqx
  go_wp2_with fail
  refine (feed_any A2 Ab n2 c2 nb cb x bs _ (ArrR.up HB2.out (Ext.new _ _)) hA2 hn2 hc2 (ArrR.up HB.out (E2.out.alloc _)) hcb (by omega)).mono ?_
  rintro e w3 ⟨A3, n3, c3, v3, rfl, he3, ⟨base3, F3, hbase3, -, ho3⟩, hb3⟩
  obtain ⟨hA3, hn3, hc3, hB3⟩ := he3.byts
  obtain ⟨Am, cm, rfl, hAm, hnm, hcm, hM⟩ := ho3.read
  have hx3 := (Ext.alloc (Ext.refl w2) (.cells #[.slice A2 n2 c2, .int .i64 x.bad] 86)).trans hb3
  obtain ⟨q0, -⟩ := blk_rules ((hb3.block (b := w2.heap.size) (by simp)).trans (heap_alloc_new w2 _))
  have hz3 : w2.heap.size < w3.heap.size := (box1b hb3).2
  have HX3 := Lib.hid hx3
  have HL3 := Lib.hid hB3.len
  have HQ3 := Lib.hid ((HQ.out.up hx3).up (Ext.new w3 (.cells #[.slice A3 n3 c3, .int .i64 (x.feed bs).1.bad] 86)))
  clear he3 ho3 hB3 hM hx3 hb3 hbase3
  go_wp2_with fail
  generalize hW : w3.alloc (.cells #[.slice A3 n3 c3, .int .i64 (x.feed bs).1.bad] 86) = W at *
  have hxW : Ext w3 W := by rw [← hW]; exact Ext.new _ _
  have q1 := (blk_rules (by rw [← hW]; exact heap_alloc_new w3 _ : W.heap[w3.heap.size]? = some (.cells #[.slice A3 n3 c3, .int .i64 (x.feed bs).1.bad] 86 (0, 0)))).1
  have q2 : ∀ i, W.cell? ⟨w2.heap.size, i, none⟩ = #[Value.slice A2 n2 c2, .int .i64 x.bad][i]? := fun i => (hxW.cell hz3).trans (q0 i)
  have HXW := Lib.hid hxW
  have Hq1 := Lib.hid q1
  have Hq2 := Lib.hid q2
  clear hW hxW q0 q1 q2
  go_loop [10, 11] (fun t i => ∃ k : Nat, k ≤ q.length ∧ i = .int .i64 k ∧ t = .int .i64 (weigh (q.take k) : Nat)) (fun _ i => q.length - (intOf i).toNat)
  case atStart => exact ⟨0, Nat.zero_le _, rfl, rfl⟩
  case round =>
    obtain ⟨k, hk, rfl, rfl⟩ := hrel
    have hwt := weigh_take q k
    have hwn : weigh (q.take k) ≤ 1000 := by have := HW.out; omega
    by_cases hlt : k < q.length
    · obtain ⟨b, o, A4, n4, c4, s4, rfl, hbl, hq4, hcell, _, _, _, hB4⟩ := HQ3.out.at_ hlt
      have hsn : weigh (q.take (k + 1)) = weigh (q.take k) + n4 + 1 := by rw [take_snoc_of hq4, weigh_snoc, hB4.len]
      have hwt2 := weigh_take q (k + 1)
      have hn4 : n4 ≤ 1000 := by have := HW.out; omega
      have HSN := Lib.hid hsn
      obtain ⟨N, hN⟩ : ∃ N, N = weigh (q.take k) := ⟨_, rfl⟩
      rw [← hN] at hwn ⊢
      have HN := Lib.hid hN
      clear hwt hwt2 hq4 hB4 hsn hN
      go_wp2_with fail
      go_round
      case rel => exact ⟨k + 1, by omega, by go_num, by rw [HSN.out, ← HN.out]; go_num⟩
      case measure => simp [intOf]; omega
    · obtain rfl : k = q.length := by omega
      rw [List.take_length] at hwn hwt ⊢
      have hw1 : weigh q ≤ n := by have := HW.out; omega
      obtain ⟨N, hN⟩ : ∃ N, N = weigh q := ⟨_, rfl⟩
      rw [← hN] at hw1 ⊢
      clear hwt hwn hN
      have q1 := Hq1.out
      have q2 := Hq2.out
      by_cases hb : x.bad = 0
      · have hb0 : (x.bad == 0) = true := by simpa using hb
        clear hb
        go_wp2_with fail
        go_ret
        exact ⟨rfl, (E2.out.trans HX3.out).trans HXW.out⟩
      · have hb0 : (x.bad == 0) = false := by simpa using hb
        have hf := feed_bad_stays HS.out hb bs
        rw [hf] at q1 ⊢
        have hrest : x.rest = [] ∧ (x.bad = 2 ∨ x.bad = 3) := by
          rcases HEND.out with ⟨h, _⟩ | h
          · exact absurd h hb
          · exact h
        obtain rfl : n2 = 0 := by have := HL2.out; rw [hrest.1] at this; simpa using this.symm
        obtain rfl : n3 = 0 := by have := HL3.out; rw [hf] at this; simp only [] at this; rw [hrest.1] at this; simpa using this.symm
        have hb2 := hrest.2
        obtain ⟨bad, hbad⟩ : ∃ bad, bad = x.bad := ⟨_, rfl⟩
        rw [← hbad] at hb0 hb2 q1 q2
        clear hf hrest hb hbad
        rcases hb2 with rfl | rfl
        · go_wp2_with fail
          go_ret
          exact ⟨rfl, (E2.out.trans HX3.out).trans HXW.out⟩
        · go_wp2_with fail
          go_ret
          exact ⟨rfl, (E2.out.trans HX3.out).trans HXW.out⟩
end Go.Proofs.Ytjomoannlpadnaa
