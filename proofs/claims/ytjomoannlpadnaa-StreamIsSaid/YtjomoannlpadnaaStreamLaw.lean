/- What the helpers of the laws of layer 11 compute: awake, ours, theirs, the document's Same, Texts. -/
import Derived.Test.YtjomoannlpadnaaStreamFeed
import Derived.Test.YtjomoannlpadnaaStreamPlain2
import Derived.Outline
namespace Go.Proofs.Ytjomoannlpadnaa
set_option linter.unusedVariables false
open Go.RowKit
attribute [local go_sem ↓] run_max2 run_min2

theorem conv11 {w : World} {A : Option Addr} {n : Nat} {bs : List UInt8} (h : Byts w A n bs) (c : Nat) : (convert 42 9 (.slice A n c)).run Try.prog w = .ok (.string (bstr bs)) w :=
  run_conv Try.underlying42 Try.underlying5 Try.underlying9 h c

set_option maxHeartbeats 400000 in
theorem ours11 (u v : Value) (hu : ∃ A n c, u = .slice A n c) (hv : ∃ k : Int, v = .int .i64 k) (w : World) :
    Calls Try.prog 58 #[.agg #[u, v]] w fun e w' => e = .returned (.agg #[u, v]) ∧ Ext w w' := by
  obtain ⟨A, n, c, rfl⟩ := hu
  obtain ⟨k, rfl⟩ := hv
  go_enter Try.func58, Try.ntmps58
  go_wp2_with fail
  exact bodyPost_ret (v := .agg #[.slice A n c, .int .i64 k]) (by simp [results, Try.results58, go_sem]) rfl ⟨rfl, (Ext.new _ _).alloc _⟩
set_option maxHeartbeats 400000 in
theorem theirs11 (A : Option Addr) (n c : Nat) (k : Int) (w : World) :
    Calls Try.prog 61 #[.agg #[.slice A n c, .int .i64 k]] w fun e w' => e = .returned (.agg #[.slice A n c, .int .i64 k]) ∧ Ext w w' := by
  go_enter Try.func61, Try.ntmps61
  go_wp2_with fail
  exact bodyPost_ret (v := .agg #[.slice A n c, .int .i64 k]) (by simp [results, Try.results61, go_sem]) rfl ⟨rfl, (Ext.new _ _).alloc _⟩

set_option maxHeartbeats 800000 in
/-- two that are the same -/
theorem same11 (A A' : Option Addr) (n n' c c' : Nat) (x : Bf) (w : World) (hA : Byts w A n x.rest) (hA' : Byts w A' n' x.rest) :
    Calls Try.prog 60 #[.agg #[.slice A n c, .int .i64 x.bad], .agg #[.slice A' n' c', .int .i64 x.bad]] w fun e w' => e = .returned (.bool true) ∧ Ext w w' := by
  have hx : Ext w ((w.alloc (.cells #[.slice A n c, .int .i64 x.bad] 81)).alloc (.cells #[.slice A' n' c', .int .i64 x.bad] 81)) := (Ext.new _ _).alloc _
  have g1 := conv11 (ArrR.up hA hx) c
  have g2 := conv11 (ArrR.up hA' hx) c'
  have hb : (x.bad == x.bad) = true := by simp
  clear hA hA' hx
  go_enter Try.func60, Try.ntmps60
  go_wp2_with fail
  go_ret
  exact ⟨rfl, (Ext.new _ _).alloc _⟩

set_option maxHeartbeats 1000000 in
/-- texts that are the same -/
theorem texts11 (A A' : Option Addr) (n n' c c' : Nat) (q : List (List UInt8)) (w : World) (hA : QR w A n q) (hA' : QR w A' n' q) (hm : n ≤ 1000000000) :
    Calls Try.prog 62 #[.slice A n c, .slice A' n' c'] w fun e w' => e = .returned (.bool true) ∧ Ext w w' := by
  obtain rfl : n' = n := by rw [← hA.len, ← hA'.len]
  have HA := Lib.hid hA
  have HB := Lib.hid hA'
  clear hA hA'
  go_enter Try.func62, Try.ntmps62
  go_wp2_with fail
  go_loopw [5] (fun i wr => ∃ k nq : Nat, k ≤ n' ∧ i = .int .i64 k ∧ wr = w.drewN nq) (fun i _ => n' - (intOf i).toNat)
  case atStart => exact ⟨0, 0, Nat.zero_le _, rfl, rfl⟩
  case round =>
    obtain ⟨k, nq, hk, rfl, rfl⟩ := hrel
    by_cases hlt : k < n'
    · obtain ⟨b1, o1, A1, n1, c1, s1, rfl, hb1, hq1, hc1, _, _, _, hs1⟩ := HA.out.at_ hlt
      obtain ⟨b2, o2, A2, n2, c2, s2, rfl, hb2, hq2, hc2, _, _, _, hs2⟩ := HB.out.at_ hlt
      obtain rfl : s2 = s1 := by rw [hq1] at hq2; injection hq2 with h; exact h.symm
      have g1 : ∀ nq, (convert 42 9 (.slice A1 n1 c1)).run Try.prog (w.drewN nq) = .ok (.string (bstr s2)) (w.drewN nq) := fun nq => conv11 (ArrR.up hs1 ((Ext.refl w).drewN nq)) c1
      have g2 : ∀ nq, (convert 42 9 (.slice A2 n2 c2)).run Try.prog (w.drewN nq) = .ok (.string (bstr s2)) (w.drewN nq) := fun nq => conv11 (ArrR.up hs2 ((Ext.refl w).drewN nq)) c2
      have t1 := bstr_toList s2
      have i1 : (0 : Int) ≤ (k : Int) := by omega
      have i2 : (k : Int) < (n' : Int) := by omega
      clear hs1 hs2 hq1 hq2
      go_wp2_with fail
      go_quiet (fail)
      go_wp2_with fail
      go_roundw
      case rel => exact ⟨k + 1, _, by omega, by go_num, rfl⟩
      case measure => simp [intOf]; omega
    · go_wp2_with fail
      go_ret
      exact ⟨rfl, (Ext.refl w).drewN _⟩

theorem Elem.byts {w : World} {X : Nat → Prop} {A : Option Addr} {n c : Nat} {bs : List UInt8} (h : Elem w X (.slice A n c) bs) : (A = none → c = 0) ∧ n ≤ c ∧ c ≤ 9223372036854775807 ∧ Byts w A n bs := by
  obtain ⟨A', n', c', e, h1, h2, h3, h4, _⟩ := h
  injection e with e1 e2 e3
  subst e1 e2 e3
  exact ⟨h1, h2, h3, h4⟩
theorem awake_drain : drain [2, 7, 8, 1] = ([[7, 8]], ⟨[1], 0⟩) := by
  rw [drain_ok (p := [7, 8]) (n := 3) (by decide), show ([2, 7, 8, 1] : List UInt8).drop 3 = [1] from rfl, drain_short (by decide)]
/-- a row of bytes that has just been written -/
theorem byts_lit (w : World) (bs : List UInt8) (t : TypeId) : Byts (w.alloc (.cells (bs.map byteV).toArray t)) (some ⟨w.heap.size, 0, none⟩) bs.length bs := by
  refine ArrR.of_block (heap_alloc_new w _) rfl fun k x hx => ⟨[byteV x], rfl, rfl, fun j u hu => ?_⟩
  match j, hu with
  | 0, hu =>
    injection hu with hu
    subst hu
    simp only [Nat.mul_one, Nat.add_zero, List.getElem?_toArray, List.getElem?_map, hx, Option.map_some]

set_option maxRecDepth 100000 in
set_option maxHeartbeats 1000000 in
theorem awake11 (w : World) : Calls Try.prog 52 #[] w fun e w' => e = .returned (.bool true) ∧ Ext w w' := by
  have hL := byts_lit w [2, 7, 8, 1] 5
  have HL := Lib.hid hL
  clear hL
  go_enter Try.func52, Try.ntmps52
  go_wp2_with fail
  refine (feed_any none (some ⟨w.heap.size, 0, none⟩) 0 0 4 4 B0 [2, 7, 8, 1] _ ArrR.nil_ (fun _ => rfl) (Nat.le_refl _) (by omega) HL.out (fun h => by cases h) (by omega)).mono ?_
  rintro e w1 ⟨A1, n1, c1, v1, rfl, he1, ⟨base, F, hbase, -, ho1⟩, hb1⟩
  rw [feed0, awake_drain] at he1 ho1 ⊢
  simp only [] at he1 ho1 ⊢
  obtain ⟨hA1, hn1, hc1, hB1⟩ := he1.byts
  obtain rfl : n1 = 1 := hB1.len.symm
  obtain ⟨A2, c2, rfl, hA2, hn2, hc2, hQ⟩ := ho1.read
  have HB1 := Lib.hid hB1
  have HQ := Lib.hid hQ
  have hx1 := Ext.new w1 (.cells #[.slice A1 1 c1, .int .i64 0] 86)
  have HW := Lib.hid (byts_lit (w1.alloc (.cells #[.slice A1 1 c1, .int .i64 0] 86)) [7, 8] 5)
  have HE1 := Lib.hid ((Ext.new w _).trans hb1)
  clear he1 ho1 hB1 hQ hb1 hx1 hbase hn2
  go_wp2_with fail
  refine (wrap_any (some ⟨w1.heap.size + 1, 0, none⟩) 2 2 [7, 8] _ (by have := HW.out; simp only [World.size_alloc] at this; exact this) (fun h => by cases h)).mono ?_
  rintro e w3 ⟨A3, n3, c3, rfl, h8, hb3⟩
  rw [show wrap8 [7, 8] = ([2, 7, 8], 0) from by decide] at h8 ⊢
  simp only [] at h8 ⊢
  obtain rfl : n3 = 3 := h8.2.2.2.1.len.symm
  have hx3 := ((Ext.new w1 (.cells #[.slice A1 1 c1, .int .i64 0] 86)).alloc _).trans hb3
  have k0 := ((Ext.alloc (Ext.refl _) _).trans hb3).block (b := w1.heap.size) (by simp)
  obtain ⟨q0, -⟩ := blk_rules (k0.trans (heap_alloc_new w1 _))
  obtain ⟨b, o, A4, n4, c4, s4, rfl, hbl, hq4, hcell, _, _, _, hB4⟩ := (HQ.out.up hx3).at_ (k := 0) (by simp)
  obtain rfl : s4 = [7, 8] := by simpa using hq4.symm
  rw [Nat.add_zero] at hcell
  have g1 := conv11 hB4 c4
  have g2 := conv11 (ArrR.up HB1.out hx3) c1
  have g3 := conv11 h8.2.2.2.1 c3
  rw [show bstr ([7, 8] : List UInt8) = ⟨#[7, 8]⟩ from rfl] at g1
  rw [show bstr ([1] : List UInt8) = ⟨#[1]⟩ from rfl] at g2
  rw [show bstr ([2, 7, 8] : List UInt8) = ⟨#[2, 7, 8]⟩ from rfl] at g3
  have HX := Lib.hid (HE1.out.trans hx3)
  clear h8 hb3 hx3 k0 hq4 hB4
  go_wp2_with fail
  go_ret
  exact ⟨rfl, HX.out⟩
end Go.Proofs.Ytjomoannlpadnaa
