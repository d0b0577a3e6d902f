/- What the document's Same, Keys and Few of layer 3, All and Few of layer 4 compute (Same at two that are one). -/
import Derived.Test.YtfdjbnofcniodaaGreatDoorQIndex
import Derived.Test.YtfdjbnofcniodaaGreatDoorQGround
namespace Go.Proofs.YtfdjbnofcniodaaGreatDoor
open Lib (hid)
set_option maxHeartbeats 2000000
set_option maxRecDepth 100000
set_option linter.unusedVariables false
open Go.RowKit
set_option linter.unusedVariables false
open Go.RowKit
def SomeB (P : Prop) (w : World) (e : Ending) (w' : World) : Prop := ∃ b, e = .returned (.bool b) ∧ (b = true → P) ∧ Ext w w'
theorem few03_any (S : Nat → Prop) (r : Rs) (A A' : Option Addr) (n c n' c' : Nat) (w : World) (hV : RsV S w r A n c A' n' c') :
  Calls Tryz.prog 22 #[rsVal r A n c A' n' c'] w (SomeB (r.rules.length ≤ 20 ∧ r.hosts.length ≤ 20 ∧ r.name.size ≤ 100 ∧ r.to.size ≤ 100) w) := by
 have hm : n ≤ 9223372036854775807 := by have h1 := hV.sl.1; have h2 := hV.sl.2.1; unfold maxLen at h2; omega
 have hL := hV.arr.len
 have hL' := hV.arr'.len
 have HP : Hid (n ≤ 20 → n' ≤ 20 → r.name.size ≤ 100 → r.to.size ≤ 100 → r.rules.length ≤ 20 ∧ r.hosts.length ≤ 20 ∧ r.name.size ≤ 100 ∧ r.to.size ≤ 100) := hid fun a b c d => ⟨by omega, by omega, c, d⟩
 generalize (r.rules.length ≤ 20 ∧ r.hosts.length ≤ 20 ∧ r.name.size ≤ 100 ∧ r.to.size ≤ 100) = P at HP ⊢
 have HV := hid hV
 clear hV hL hL'
 unfold rsVal
 go_enter Tryz.func22, Tryz.ntmps22
 go_wp2_with fail
 have kA := heap_alloc_new w (.cells #[.int .i64 r.kind, .string r.name, .int .i64 r.ver, .int .i64 r.port, .string r.to, .slice A n c, .slice A' n' c'] 34)
 have EW := hid (Ext.new w (.cells #[.int .i64 r.kind, .string r.name, .int .i64 r.ver, .int .i64 r.port, .string r.to, .slice A n c, .slice A' n' c'] 34))
 generalize w.alloc (.cells #[.int .i64 r.kind, .string r.name, .int .i64 r.ver, .int .i64 r.port, .string r.to, .slice A n c, .slice A' n' c'] 34) = W at kA EW ⊢
 obtain ⟨q, -⟩ := blk_rules kA
 have q1 := q 1
 have q4 := q 4
 have q5 := q 5
 have q6 := q 6
 clear q kA
 go_loop [3] (fun i => ∃ k : Nat, k ≤ n ∧ i = .int .i64 k) (fun i => n - (intOf i).toNat)
 case atStart => exact ⟨0, Nat.zero_le _, rfl⟩
 case round =>
  obtain ⟨k, hk, rfl⟩ := hrel
  by_cases hlt : k < n
  ·obtain ⟨b, o, x, B, m, d, rfl, hbB, -, hlk, hv, hc0, hc1, hc2⟩ := RlL.at_ HV.out.arr hlt
   obtain ⟨d0, d1, d2⟩ := up3 (EW.out) hbB hc0 hc1 hc2
   have i1 : (0 : Int) ≤ (k : Int) := by omega
   have i2 : (k : Int) < (n : Int) := by omega
   clear hc0 hc1 hc2 hlk hv
   by_cases g1 : 20 < m
   ·go_wp2_with fail
    go_ret
    exact ⟨false, rfl, fun h => (by cases h), EW.out⟩
   by_cases g2 : 100 < x.host.size
   ·go_wp2_with fail
    go_ret
    exact ⟨false, rfl, fun h => (by cases h), EW.out⟩
   by_cases g3 : 100 < x.pre.size
   ·go_wp2_with fail
    go_ret
    exact ⟨false, rfl, fun h => (by cases h), EW.out⟩
   go_wp2_with fail
   go_round
   case rel => exact ⟨k + 1, by omega, by go_num⟩
   case measure => simp [intOf]; omega
  ·by_cases g1 : n ≤ 20
   ·by_cases g2 : n' ≤ 20
    ·by_cases g3 : r.name.size ≤ 100
     ·go_wp2_with fail
      go_ret
      exact ⟨_, rfl, fun h => HP.out g1 g2 g3 (by have := of_decide_eq_true h; omega), EW.out⟩
     ·go_wp2_with fail
      go_ret
      exact ⟨false, rfl, fun h => (by cases h), EW.out⟩
    ·go_wp2_with fail
     go_ret
     exact ⟨false, rfl, fun h => (by cases h), EW.out⟩
   ·go_wp2_with fail
    go_ret
    exact ⟨false, rfl, fun h => (by cases h), EW.out⟩
theorem few04_any (S : Nat → Prop) (l : List Rs) (A : Option Addr) (n c : Nat) (w : World) (hm : n ≤ maxLen) (hA : ResL S w A n l) :
  Calls Tryz.prog 23 #[.slice A n c] w (SomeB (n ≤ 80) w) := by
 unfold maxLen at hm
 have HA := hid hA
 clear hA
 go_enter Tryz.func23, Tryz.ntmps23
 go_wp2_with fail
 go_loopw [3] (fun i wr => ∃ k : Nat, k ≤ n ∧ i = .int .i64 k ∧ Hid (Ext w wr)) (fun i _ => n - (intOf i).toNat)
 case atStart => exact ⟨0, Nat.zero_le _, rfl, hid (Ext.refl _)⟩
 case round =>
  obtain ⟨k, hk, rfl, HX⟩ := hrel
  by_cases hlt : k < n
  ·obtain ⟨b, o, r, B, m, d, B', m', d', rfl, hbB, -, hlk, hv, hc0, hc1, hc2, hc3, hc4, hc5, hc6⟩ := ResL.at_ HA.out hlt
   obtain ⟨d0, d1, d2, d3, d4, d5, d6⟩ := up7 (HX.out) hbB hc0 hc1 hc2 hc3 hc4 hc5 hc6
   have i1 : (0 : Int) ≤ (k : Int) := by omega
   have i2 : (k : Int) < (n : Int) := by omega
   have HV := hid hv
   clear hc0 hc1 hc2 hc3 hc4 hc5 hc6 hlk hv
   go_wp2_with fail
   refine (few03_any S r B B' m d m' d' _ (HV.out.up HX.out)).mono ?_
   rintro e w1 ⟨v, rfl, -, hb1⟩
   have HX1 := hid (HX.out.trans hb1)
   cases v with
   | false =>
    go_wp2_with fail
    go_ret
    exact ⟨false, rfl, fun h => (by cases h), HX1.out⟩
   | true =>
    go_wp2_with fail
    go_roundw
    case rel => exact ⟨k + 1, by omega, by go_num, HX1⟩
    case measure => simp [intOf]; omega
  ·go_wp2_with fail
   go_ret
   exact ⟨_, rfl, fun h => (by have := of_decide_eq_true h; omega), HX.out⟩
end Go.Proofs.YtfdjbnofcniodaaGreatDoor
