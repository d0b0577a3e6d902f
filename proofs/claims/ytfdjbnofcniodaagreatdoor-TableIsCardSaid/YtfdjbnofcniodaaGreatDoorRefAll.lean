/- What the document's Same, Keys and Few of layer 3, All and Few of layer 4 compute (Same at two that are one). -/
import Derived.Test.YtfdjbnofcniodaaGreatDoorIndex
import Derived.Test.YtfdjbnofcniodaaGreatDoorGround
namespace Go.Proofs.YtfdjbnofcniodaaGreatDoor
set_option linter.unusedVariables false
open Go.RowKit

set_option maxRecDepth 100000 in
set_option maxHeartbeats 2000000 in
theorem refRules_eq (S S' : Nat → Prop) (l : List Rl) (A B : Option Addr) (n c d : Nat) (w : World) (hn : n ≤ maxLen) (hA : ArrQ S w 3 (RlQ S w) A n l) (hB : ArrQ S' w 3 (RlQ S' w) B n l) :
    Calls Tryz.prog 153 #[.slice A n c, .slice B n d] w fun e w' => e = .returned (.bool true) ∧ Ext w w' := by
  unfold maxLen at hn
  have HA := Lib.hid hA
  have HB := Lib.hid hB
  clear hA hB
  go_enter Tryz.func153, Tryz.ntmps153
  go_wp2_with fail
  go_loopw [5] (fun i wr => ∃ k : Nat, k ≤ n ∧ i = .int .i64 k ∧ Hid (Ext w wr)) (fun i _ => n - (intOf i).toNat)
  case atStart => exact ⟨0, Nat.zero_le _, rfl, Lib.hid (Ext.refl _)⟩
  case round =>
    obtain ⟨k, hk, rfl, HX⟩ := hrel
    by_cases hlt : k < n
    · obtain ⟨b, o, x, C, m, e, rfl, hbB, -, hlk, hv, hc0, hc1, hc2⟩ := RlL.at_ HA.out hlt
      obtain ⟨b', o', x', C', m', e', rfl, hbB', -, hlk', hv', hc0', hc1', hc2'⟩ := RlL.at_ HB.out hlt
      obtain rfl : x = x' := by rw [hlk] at hlk'; injection hlk'
      obtain rfl : m = m' := by rw [← hv.arr.len, ← hv'.arr.len]
      have hm : m ≤ 9223372036854775807 := by have h1 := hv.sl.1; have h2 := hv.sl.2.1; unfold maxLen at h2; omega
      have HV := Lib.hid hv
      have HV' := Lib.hid hv'
      have HC := Lib.hid hc2
      have HC' := Lib.hid hc2'
      have d0 : wr.cell? ⟨b, o + k * 3, none⟩ = some (.string x.host) := (HX.out.cell hbB).trans hc0
      have d1 : wr.cell? ⟨b, o + k * 3 + 1, none⟩ = some (.string x.pre) := (HX.out.cell hbB).trans hc1
      have d2 : wr.cell? ⟨b, o + k * 3 + 2, none⟩ = some (.slice C m e) := (HX.out.cell hbB).trans hc2
      have d0' : wr.cell? ⟨b', o' + k * 3, none⟩ = some (.string x.host) := (HX.out.cell hbB').trans hc0'
      have d1' : wr.cell? ⟨b', o' + k * 3 + 1, none⟩ = some (.string x.pre) := (HX.out.cell hbB').trans hc1'
      have d2' : wr.cell? ⟨b', o' + k * 3 + 2, none⟩ = some (.slice C' m e') := (HX.out.cell hbB').trans hc2'
      have i1 : (0 : Int) ≤ (k : Int) := by omega
      have i2 : (k : Int) < (n : Int) := by omega
      clear hc0 hc1 hc2 hc0' hc1' hc2' hlk hlk' hv hv'
      go_wp2_with fail
      go_region
      clear d0 d1 d0' d1' d2 d2'
      go_wp2_with fail
      go_loopw [6] (fun j wj => ∃ q : Nat, q ≤ m ∧ j = .int .i64 q ∧ Hid (Ext w wj)) (fun j _ => m - (intOf j).toNat)
      case atStart => exact ⟨0, Nat.zero_le _, rfl, Lib.hid HX.out.drew⟩
      case round =>
        obtain ⟨q, hq, rfl, HY⟩ := hrel
        have d2 : wr.cell? ⟨b, o + k * 3 + 2, none⟩ = some (.slice C m e) := (HY.out.cell hbB).trans HC.out
        have d2' : wr.cell? ⟨b', o' + k * 3 + 2, none⟩ = some (.slice C' m e') := (HY.out.cell hbB').trans HC'.out
        by_cases hlq : q < m
        · obtain ⟨b1, o1, s, y, rfl, hbB1, -, hl1, -, hd0, hd1⟩ := WtL.at_ HV.out.arr hlq
          obtain ⟨b2, o2, s', y', rfl, hbB2, -, hl2, -, hd0', hd1'⟩ := WtL.at_ HV'.out.arr hlq
          obtain ⟨rfl, rfl⟩ : s = s' ∧ y = y' := by rw [hl1] at hl2; injection hl2 with hl2; injection hl2 with a b; exact ⟨a, b⟩
          have f0 : wr.cell? ⟨b1, o1 + q * 2, none⟩ = some (.string s) := (HY.out.cell hbB1).trans hd0
          have f1 : wr.cell? ⟨b1, o1 + q * 2 + 1, none⟩ = some (.int .i64 y) := (HY.out.cell hbB1).trans hd1
          have f0' : wr.cell? ⟨b2, o2 + q * 2, none⟩ = some (.string s) := (HY.out.cell hbB2).trans hd0'
          have f1' : wr.cell? ⟨b2, o2 + q * 2 + 1, none⟩ = some (.int .i64 y) := (HY.out.cell hbB2).trans hd1'
          have j1 : (0 : Int) ≤ (q : Int) := by omega
          have j2 : (q : Int) < (m : Int) := by omega
          clear hd0 hd1 hd0' hd1' hl1 hl2
          go_wp2_with fail
          go_region
          go_wp2_with fail
          go_roundw
          case rel => exact ⟨q + 1, by omega, by go_num, Lib.hid HY.out.drew⟩
          case measure => simp [intOf]; omega
        · go_wp2_with fail
          go_roundw
          case rel => exact ⟨k + 1, by omega, by go_num, HY⟩
          case measure => simp [intOf]; omega
    · go_wp2_with fail
      go_ret
      exact ⟨rfl, HX.out⟩
end Go.Proofs.YtfdjbnofcniodaaGreatDoor
/- What the document's Alike, Same (at two that are one), Few, All compute. -/
namespace Go.Proofs.YtfdjbnofcniodaaGreatDoor
set_option linter.unusedVariables false
open Go.RowKit

set_option maxRecDepth 100000 in
set_option maxHeartbeats 2000000 in
theorem refAlike_eq (S S' : Nat → Prop) (r : Rs) (A B : Option Addr) (n c d : Nat) (A' B' : Option Addr) (n' c' d' : Nat) (w : World) (hA : RsV S w r A n c A' n' c') (hB : RsV S' w r B n d B' n' d') :
    Calls Tryz.prog 74 #[rsVal r A n c A' n' c', rsVal r B n d B' n' d'] w fun e w' => e = .returned (.bool true) ∧ Ext w w' := by
  have hm' : n' ≤ 9223372036854775807 := by have h1 := hA.sl'.1; have h2 := hA.sl'.2.1; unfold maxLen at h2; omega
  have HA := Lib.hid hA
  have HB := Lib.hid hB
  clear hA hB
  unfold rsVal
  go_enter Tryz.func74, Tryz.ntmps74
  go_wp2_with fail
  obtain ⟨kA, kB⟩ := two_blocks w (.cells #[.int .i64 r.kind, .string r.name, .int .i64 r.ver, .int .i64 r.port, .string r.to, .slice A n c, .slice A' n' c'] 34) (.cells #[.int .i64 r.kind, .string r.name, .int .i64 r.ver, .int .i64 r.port, .string r.to, .slice B n d, .slice B' n' d'] 34)
  have EW := Lib.hid ((Ext.new w (.cells #[.int .i64 r.kind, .string r.name, .int .i64 r.ver, .int .i64 r.port, .string r.to, .slice A n c, .slice A' n' c'] 34)).alloc (.cells #[.int .i64 r.kind, .string r.name, .int .i64 r.ver, .int .i64 r.port, .string r.to, .slice B n d, .slice B' n' d'] 34))
  have hsW : w.heap.size + 1 < ((w.alloc (.cells #[.int .i64 r.kind, .string r.name, .int .i64 r.ver, .int .i64 r.port, .string r.to, .slice A n c, .slice A' n' c'] 34)).alloc (.cells #[.int .i64 r.kind, .string r.name, .int .i64 r.ver, .int .i64 r.port, .string r.to, .slice B n d, .slice B' n' d'] 34)).heap.size := by simp
  generalize (w.alloc (.cells #[.int .i64 r.kind, .string r.name, .int .i64 r.ver, .int .i64 r.port, .string r.to, .slice A n c, .slice A' n' c'] 34)).alloc (.cells #[.int .i64 r.kind, .string r.name, .int .i64 r.ver, .int .i64 r.port, .string r.to, .slice B n d, .slice B' n' d'] 34) = W at kA kB EW hsW ⊢
  have KA := Lib.hid kA
  have KB := Lib.hid kB
  clear kA kB
  go_loopw [5] (fun i wr => ∃ k : Nat, k ≤ n' ∧ i = .int .i64 k ∧ Hid (Ext W wr)) (fun i _ => n' - (intOf i).toNat)
  case atStart => exact ⟨0, Nat.zero_le _, rfl, Lib.hid (Ext.refl _)⟩
  case round =>
    obtain ⟨k, hk, rfl, HX⟩ := hrel
    obtain ⟨q0, -⟩ := blk_rules ((HX.out.block (b := w.heap.size) (by omega)).trans KA.out)
    obtain ⟨p0, -⟩ := blk_rules ((HX.out.block hsW).trans KB.out)
    have a5 := q0 5
    have a6 := q0 6
    have b5 := p0 5
    have b6 := p0 6
    clear q0 p0
    by_cases hlt : k < n'
    · obtain ⟨b, o, x, rfl, hbB, -, hlk, hc0⟩ := HostL.at_ HA.out.arr' hlt
      obtain ⟨b', o', x', rfl, hbB', -, hlk', hc0'⟩ := HostL.at_ HB.out.arr' hlt
      obtain rfl : x = x' := by rw [hlk] at hlk'; injection hlk'
      have d0 : wr.cell? ⟨b, o + k, none⟩ = some (.int .i64 x) := ((EW.out.trans HX.out).cell hbB).trans hc0
      have d0' : wr.cell? ⟨b', o' + k, none⟩ = some (.int .i64 x) := ((EW.out.trans HX.out).cell hbB').trans hc0'
      have i1 : (0 : Int) ≤ (k : Int) := by omega
      have i2 : (k : Int) < (n' : Int) := by omega
      clear hc0 hc0' hlk hlk'
      go_wp2_with fail
      go_region
      go_wp2_with fail
      go_roundw
      case rel => exact ⟨k + 1, by omega, by go_num, Lib.hid HX.out.drew⟩
      case measure => simp [intOf]; omega
    · have EX := Lib.hid (EW.out.trans HX.out)
      go_wp2_with fail
      refine (refRules_eq S S' r.rules A B n c d _ (Nat.le_trans HA.out.sl.1 HA.out.sl.2.1) ((HA.out.up EX.out).arr) ((HB.out.up EX.out).arr)).mono ?_
      rintro e w2 ⟨rfl, hb2⟩
      go_wp2_with fail
      go_ret
      exact ⟨rfl, EX.out.trans hb2⟩
set_option maxRecDepth 100000 in
set_option maxHeartbeats 1000000 in
theorem refSame_eq (S S' : Nat → Prop) (r : Rs) (A B : Option Addr) (n c m d : Nat) (A' B' : Option Addr) (n' c' m' d' : Nat) (w : World) (hA : RsV S w r A n c A' n' c') (hB : RsV S' w r B m d B' m' d') :
    Calls Tryz.prog 11 #[rsVal r A n c A' n' c', rsVal r B m d B' m' d'] w fun e w' => e = .returned (.bool true) ∧ Ext w w' := by
  obtain rfl : n = m := by rw [← hA.arr.len, ← hB.arr.len]
  obtain rfl : n' = m' := by rw [← hA.arr'.len, ← hB.arr'.len]
  have HA := Lib.hid hA
  have HB := Lib.hid hB
  clear hA hB
  unfold rsVal
  go_enter Tryz.func11, Tryz.ntmps11
  go_wp2_with fail
  refine (refAlike_eq S S' r A B n c d A' B' n' c' d' _ (HA.out.up ((Ext.new _ _).alloc _)) (HB.out.up ((Ext.new _ _).alloc _))).mono ?_
  rintro e w1 ⟨rfl, hb1⟩
  obtain ⟨q0, -, p0, -, -⟩ := box2 hb1
  have E1 := Lib.hid (((Ext.new w _).alloc _).trans hb1)
  clear hb1
  go_wp2_with fail
  go_ret
  exact ⟨rfl, E1.out⟩

/-- some bool: if it is true, P holds -/
def SomeB (P : Prop) (w : World) (e : Ending) (w' : World) : Prop := ∃ b, e = .returned (.bool b) ∧ (b = true → P) ∧ Ext w w'
set_option maxRecDepth 100000 in
set_option maxHeartbeats 2000000 in
theorem few03_any (S : Nat → Prop) (r : Rs) (A A' : Option Addr) (n c n' c' : Nat) (w : World) (hV : RsV S w r A n c A' n' c') :
    Calls Tryz.prog 22 #[rsVal r A n c A' n' c'] w (SomeB (r.rules.length ≤ 20 ∧ r.hosts.length ≤ 20 ∧ r.name.size ≤ 100 ∧ r.to.size ≤ 100) w) := by
  have hm : n ≤ 9223372036854775807 := by have h1 := hV.sl.1; have h2 := hV.sl.2.1; unfold maxLen at h2; omega
  have hL := hV.arr.len
  have hL' := hV.arr'.len
  have HP : Hid (n ≤ 20 → n' ≤ 20 → r.name.size ≤ 100 → r.to.size ≤ 100 → r.rules.length ≤ 20 ∧ r.hosts.length ≤ 20 ∧ r.name.size ≤ 100 ∧ r.to.size ≤ 100) := Lib.hid fun a b c d => ⟨by omega, by omega, c, d⟩
  generalize (r.rules.length ≤ 20 ∧ r.hosts.length ≤ 20 ∧ r.name.size ≤ 100 ∧ r.to.size ≤ 100) = P at HP ⊢
  have HV := Lib.hid hV
  clear hV hL hL'
  unfold rsVal
  go_enter Tryz.func22, Tryz.ntmps22
  go_wp2_with fail
  have kA := heap_alloc_new w (.cells #[.int .i64 r.kind, .string r.name, .int .i64 r.ver, .int .i64 r.port, .string r.to, .slice A n c, .slice A' n' c'] 34)
  have EW := Lib.hid (Ext.new w (.cells #[.int .i64 r.kind, .string r.name, .int .i64 r.ver, .int .i64 r.port, .string r.to, .slice A n c, .slice A' n' c'] 34))
  generalize w.alloc (.cells #[.int .i64 r.kind, .string r.name, .int .i64 r.ver, .int .i64 r.port, .string r.to, .slice A n c, .slice A' n' c'] 34) = W at kA EW ⊢
  obtain ⟨q, -⟩ := blk_rules kA
  have q1 := q 1
  have q4 := q 4
  have q5 := q 5
  have q6 := q 6
  clear q kA
  go_loop [3] (fun i => ∃ k : Nat, k ≤ n ∧ i = .int .i64 k) (fun i => n - (intOf i).toNat)
  case atStart => exact ⟨0, Nat.zero_le _, rfl⟩
  case round =>
    obtain ⟨k, hk, rfl⟩ := hrel
    by_cases hlt : k < n
    · obtain ⟨b, o, x, B, m, d, rfl, hbB, -, hlk, hv, hc0, hc1, hc2⟩ := RlL.at_ HV.out.arr hlt
      have d0 : W.cell? ⟨b, o + k * 3, none⟩ = some (.string x.host) := (EW.out.cell hbB).trans hc0
      have d1 : W.cell? ⟨b, o + k * 3 + 1, none⟩ = some (.string x.pre) := (EW.out.cell hbB).trans hc1
      have d2 : W.cell? ⟨b, o + k * 3 + 2, none⟩ = some (.slice B m d) := (EW.out.cell hbB).trans hc2
      have i1 : (0 : Int) ≤ (k : Int) := by omega
      have i2 : (k : Int) < (n : Int) := by omega
      clear hc0 hc1 hc2 hlk hv
      by_cases g1 : 20 < m
      · go_wp2_with fail
        go_ret
        exact ⟨false, rfl, fun h => (by cases h), EW.out⟩
      by_cases g2 : 100 < x.host.size
      · go_wp2_with fail
        go_ret
        exact ⟨false, rfl, fun h => (by cases h), EW.out⟩
      by_cases g3 : 100 < x.pre.size
      · go_wp2_with fail
        go_ret
        exact ⟨false, rfl, fun h => (by cases h), EW.out⟩
      go_wp2_with fail
      go_round
      case rel => exact ⟨k + 1, by omega, by go_num⟩
      case measure => simp [intOf]; omega
    · by_cases g1 : n ≤ 20
      · by_cases g2 : n' ≤ 20
        · by_cases g3 : r.name.size ≤ 100
          · go_wp2_with fail
            go_ret
            exact ⟨_, rfl, fun h => HP.out g1 g2 g3 (by have := of_decide_eq_true h; omega), EW.out⟩
          · go_wp2_with fail
            go_ret
            exact ⟨false, rfl, fun h => (by cases h), EW.out⟩
        · go_wp2_with fail
          go_ret
          exact ⟨false, rfl, fun h => (by cases h), EW.out⟩
      · go_wp2_with fail
        go_ret
        exact ⟨false, rfl, fun h => (by cases h), EW.out⟩
set_option maxRecDepth 100000 in
set_option maxHeartbeats 1000000 in
theorem few04_any (S : Nat → Prop) (l : List Rs) (A : Option Addr) (n c : Nat) (w : World) (hm : n ≤ maxLen) (hA : ResL S w A n l) :
    Calls Tryz.prog 23 #[.slice A n c] w (SomeB (n ≤ 80) w) := by
  unfold maxLen at hm
  have HA := Lib.hid hA
  clear hA
  go_enter Tryz.func23, Tryz.ntmps23
  go_wp2_with fail
  go_loopw [3] (fun i wr => ∃ k : Nat, k ≤ n ∧ i = .int .i64 k ∧ Hid (Ext w wr)) (fun i _ => n - (intOf i).toNat)
  case atStart => exact ⟨0, Nat.zero_le _, rfl, Lib.hid (Ext.refl _)⟩
  case round =>
    obtain ⟨k, hk, rfl, HX⟩ := hrel
    by_cases hlt : k < n
    · obtain ⟨b, o, r, B, m, d, B', m', d', rfl, hbB, -, hlk, hv, hc0, hc1, hc2, hc3, hc4, hc5, hc6⟩ := ResL.at_ HA.out hlt
      have d0 : wr.cell? ⟨b, o + k * 7, none⟩ = some (.int .i64 r.kind) := (HX.out.cell hbB).trans hc0
      have d1 : wr.cell? ⟨b, o + k * 7 + 1, none⟩ = some (.string r.name) := (HX.out.cell hbB).trans hc1
      have d2 : wr.cell? ⟨b, o + k * 7 + 2, none⟩ = some (.int .i64 r.ver) := (HX.out.cell hbB).trans hc2
      have d3 : wr.cell? ⟨b, o + k * 7 + 3, none⟩ = some (.int .i64 r.port) := (HX.out.cell hbB).trans hc3
      have d4 : wr.cell? ⟨b, o + k * 7 + 4, none⟩ = some (.string r.to) := (HX.out.cell hbB).trans hc4
      have d5 : wr.cell? ⟨b, o + k * 7 + 5, none⟩ = some (.slice B m d) := (HX.out.cell hbB).trans hc5
      have d6 : wr.cell? ⟨b, o + k * 7 + 6, none⟩ = some (.slice B' m' d') := (HX.out.cell hbB).trans hc6
      have i1 : (0 : Int) ≤ (k : Int) := by omega
      have i2 : (k : Int) < (n : Int) := by omega
      have HV := Lib.hid hv
      clear hc0 hc1 hc2 hc3 hc4 hc5 hc6 hlk hv
      go_wp2_with fail
      refine (few03_any S r B B' m d m' d' _ (HV.out.up HX.out)).mono ?_
      rintro e w1 ⟨v, rfl, -, hb1⟩
      have HX1 := Lib.hid (HX.out.trans hb1)
      cases v with
      | false =>
        go_wp2_with fail
        go_ret
        exact ⟨false, rfl, fun h => (by cases h), HX1.out⟩
      | true =>
        go_wp2_with fail
        go_roundw
        case rel => exact ⟨k + 1, by omega, by go_num, HX1⟩
        case measure => simp [intOf]; omega
    · go_wp2_with fail
      go_ret
      exact ⟨_, rfl, fun h => (by have := of_decide_eq_true h; omega), HX.out⟩
set_option maxRecDepth 100000 in
set_option maxHeartbeats 2000000 in
theorem refAll_eq (S S' T T' : Nat → Prop) (l : List Rs) (A B : Option Addr) (n c d : Nat) (w : World) (hm : n ≤ maxLen) (hA : ArrQ T w 7 (RsQ S w) A n l) (hB : ArrQ T' w 7 (RsQ S' w) B n l) :
    Calls Tryz.prog 16 #[.slice A n c, .slice B n d] w fun e w' => e = .returned (.bool true) ∧ Ext w w' := by
  unfold maxLen at hm
  have HA := Lib.hid hA
  have HB := Lib.hid hB
  clear hA hB
  go_enter Tryz.func16, Tryz.ntmps16
  go_wp2_with fail
  go_loopw [5] (fun i wr => ∃ k : Nat, k ≤ n ∧ i = .int .i64 k ∧ Hid (Ext w wr)) (fun i _ => n - (intOf i).toNat)
  case atStart => exact ⟨0, Nat.zero_le _, rfl, Lib.hid (Ext.refl _)⟩
  case round =>
    obtain ⟨k, hk, rfl, HX⟩ := hrel
    by_cases hlt : k < n
    · obtain ⟨b, o, r, C, m, f, C', m', f', rfl, hbB, -, hlk, hv, hc0, hc1, hc2, hc3, hc4, hc5, hc6⟩ := ResL.at_ HA.out hlt
      obtain ⟨b', o', r', D, p, g, D', p', g', rfl, hbB', -, hlk', hv', hc0', hc1', hc2', hc3', hc4', hc5', hc6'⟩ := ResL.at_ HB.out hlt
      obtain rfl : r = r' := by rw [hlk] at hlk'; injection hlk'
      have i1 : (0 : Int) ≤ (k : Int) := by omega
      have i2 : (k : Int) < (n : Int) := by omega
      have HV := Lib.hid hv
      have HV' := Lib.hid hv'
      have t0 : ∀ w', Ext wr.drew w' → w'.cell? ⟨b, o + k * 7, none⟩ = some (.int .i64 r.kind) := fun w' hx => (((HX.out.drew.trans hx)).cell hbB).trans hc0
      have t1 : ∀ w', Ext wr.drew w' → w'.cell? ⟨b, o + k * 7 + 1, none⟩ = some (.string r.name) := fun w' hx => (((HX.out.drew.trans hx)).cell hbB).trans hc1
      have t2 : ∀ w', Ext wr.drew w' → w'.cell? ⟨b, o + k * 7 + 2, none⟩ = some (.int .i64 r.ver) := fun w' hx => (((HX.out.drew.trans hx)).cell hbB).trans hc2
      have t3 : ∀ w', Ext wr.drew w' → w'.cell? ⟨b, o + k * 7 + 3, none⟩ = some (.int .i64 r.port) := fun w' hx => (((HX.out.drew.trans hx)).cell hbB).trans hc3
      have t4 : ∀ w', Ext wr.drew w' → w'.cell? ⟨b, o + k * 7 + 4, none⟩ = some (.string r.to) := fun w' hx => (((HX.out.drew.trans hx)).cell hbB).trans hc4
      have t5 : ∀ w', Ext wr.drew w' → w'.cell? ⟨b, o + k * 7 + 5, none⟩ = some (.slice C m f) := fun w' hx => (((HX.out.drew.trans hx)).cell hbB).trans hc5
      have t6 : ∀ w', Ext wr.drew w' → w'.cell? ⟨b, o + k * 7 + 6, none⟩ = some (.slice C' m' f') := fun w' hx => (((HX.out.drew.trans hx)).cell hbB).trans hc6
      have s0 : ∀ w', Ext wr.drew w' → w'.cell? ⟨b', o' + k * 7, none⟩ = some (.int .i64 r.kind) := fun w' hx => (((HX.out.drew.trans hx)).cell hbB').trans hc0'
      have s1 : ∀ w', Ext wr.drew w' → w'.cell? ⟨b', o' + k * 7 + 1, none⟩ = some (.string r.name) := fun w' hx => (((HX.out.drew.trans hx)).cell hbB').trans hc1'
      have s2 : ∀ w', Ext wr.drew w' → w'.cell? ⟨b', o' + k * 7 + 2, none⟩ = some (.int .i64 r.ver) := fun w' hx => (((HX.out.drew.trans hx)).cell hbB').trans hc2'
      have s3 : ∀ w', Ext wr.drew w' → w'.cell? ⟨b', o' + k * 7 + 3, none⟩ = some (.int .i64 r.port) := fun w' hx => (((HX.out.drew.trans hx)).cell hbB').trans hc3'
      have s4 : ∀ w', Ext wr.drew w' → w'.cell? ⟨b', o' + k * 7 + 4, none⟩ = some (.string r.to) := fun w' hx => (((HX.out.drew.trans hx)).cell hbB').trans hc4'
      have s5 : ∀ w', Ext wr.drew w' → w'.cell? ⟨b', o' + k * 7 + 5, none⟩ = some (.slice D p g) := fun w' hx => (((HX.out.drew.trans hx)).cell hbB').trans hc5'
      have s6 : ∀ w', Ext wr.drew w' → w'.cell? ⟨b', o' + k * 7 + 6, none⟩ = some (.slice D' p' g') := fun w' hx => (((HX.out.drew.trans hx)).cell hbB').trans hc6'
      clear hlk hlk' hv hv'
      go_wp2_with fail
      have hSw : Ext wr.drew wr.drew := Ext.refl _
      refine wpS_begin (Ext wr.drew) (by kernel_rfl) ?_
      refine wpS_take 0 (v := ?_) hSw rfl (by kernel_rfl) (by kernel_rfl) (by kernel_rfl) (by rfl) (fun w' hin => ?_) ?_
      rotate_left
      · (try simp only [] at hin); go_simp <;> with_reducible rfl
      try simp only [Act.put, List.setIfInBounds_toArray, List.set_cons_zero, List.set_cons_succ]
      refine wpS_take 1 (v := ?_) hSw rfl (by kernel_rfl) (by kernel_rfl) (by kernel_rfl) (by rfl) (fun w' hin => ?_) ?_
      rotate_left
      · (try simp only [] at hin); go_simp <;> with_reducible rfl
      try simp only [Act.put, List.setIfInBounds_toArray, List.set_cons_zero, List.set_cons_succ]
      refine wpS_take 2 (v := ?_) hSw rfl (by kernel_rfl) (by kernel_rfl) (by kernel_rfl) (by rfl) (fun w' hin => ?_) ?_
      rotate_left
      · (try simp only [] at hin); go_simp <;> with_reducible rfl
      try simp only [Act.put, List.setIfInBounds_toArray, List.set_cons_zero, List.set_cons_succ]
      refine wpS_take 3 (v := ?_) hSw rfl (by kernel_rfl) (by kernel_rfl) (by kernel_rfl) (by rfl) (fun w' hin => ?_) ?_
      rotate_left
      · (try simp only [] at hin); go_simp <;> with_reducible rfl
      try simp only [Act.put, List.setIfInBounds_toArray, List.set_cons_zero, List.set_cons_succ]
      refine wpS_take 4 (v := ?_) hSw rfl (by kernel_rfl) (by kernel_rfl) (by kernel_rfl) (by rfl) (fun w' hin => ?_) ?_
      rotate_left
      · (try simp only [] at hin); go_simp <;> with_reducible rfl
      try simp only [Act.put, List.setIfInBounds_toArray, List.set_cons_zero, List.set_cons_succ]
      refine wpS_take 5 (v := ?_) hSw rfl (by kernel_rfl) (by kernel_rfl) (by kernel_rfl) (by rfl) (fun w' hin => ?_) ?_
      rotate_left
      · (try simp only [] at hin); go_simp <;> with_reducible rfl
      try simp only [Act.put, List.setIfInBounds_toArray, List.set_cons_zero, List.set_cons_succ]
      refine wpS_take 6 (v := ?_) hSw rfl (by kernel_rfl) (by kernel_rfl) (by kernel_rfl) (by rfl) (fun w' hin => ?_) ?_
      rotate_left
      · (try simp only [] at hin); go_simp <;> with_reducible rfl
      try simp only [Act.put, List.setIfInBounds_toArray, List.set_cons_zero, List.set_cons_succ]
      refine wpS_take 7 (v := ?_) hSw rfl (by kernel_rfl) (by kernel_rfl) (by kernel_rfl) (by rfl) (fun w' hin => ?_) ?_
      rotate_left
      · (try simp only [] at hin); go_simp <;> with_reducible rfl
      try simp only [Act.put, List.setIfInBounds_toArray, List.set_cons_zero, List.set_cons_succ]
      refine wpS_one 8 rfl (by kernel_rfl) (by rfl) (fun K hK => ?_)
      go_simp
      refine (refSame_eq S S' r C D m f p g C' D' m' f' p' g' _ (HV.out.up HX.out.drew) (HV'.out.up HX.out.drew)).mono ?_
      rintro e w1 ⟨rfl, hb1⟩
      simp only []
      refine hK.out _ _ (Ext wr.drew) (fun _ h => h) (hb1) (fun hSw => ?_)
      clear hK K
      try simp only [Act.put, List.setIfInBounds_toArray, List.set_cons_zero, List.set_cons_succ]
      refine wpS_take 9 (v := ?_) hSw rfl (by kernel_rfl) (by kernel_rfl) (by kernel_rfl) (by rfl) (fun w' hin => ?_) ?_
      rotate_left
      · (try simp only [] at hin); go_simp <;> with_reducible rfl
      try simp only [Act.put, List.setIfInBounds_toArray, List.set_cons_zero, List.set_cons_succ]
      refine wpS_done (by kernel_rfl) ?_
      clear t0 t1 t2 t3 t4 t5 t6 s0 s1 s2 s3 s4 s5 s6
      have HX1 := Lib.hid (HX.out.trans ((Ext.refl _).drew.trans hb1))
      go_wp2_with fail
      go_roundw
      case rel => exact ⟨k + 1, by omega, by go_num, HX1⟩
      case measure => simp [intOf]; omega
    · go_wp2_with fail
      go_ret
      exact ⟨rfl, HX.out⟩
end Go.Proofs.YtfdjbnofcniodaaGreatDoor
