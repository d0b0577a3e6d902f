/- What groyneref10.Few tells. -/
import Derived.Test.YtfdjbnofcniodaaGreatDoorQFrA
import Derived.Test.YtfdjbnofcniodaaGreatDoorQRefAll
import Derived.Test.YtfdjbnofcniodaaGreatDoorQFrB
namespace Go.Proofs.YtfdjbnofcniodaaGreatDoor
open Lib (hid)
set_option maxHeartbeats 2000000
set_option maxRecDepth 100000
set_option linter.unusedVariables false
open Go.RowKit
theorem few10_any (S : Nat → Prop) (f : Fr) (s : FrS) (w : World) (hV : FrV S w f s) :
  Calls Tryz.prog 62 #[frVal f s] w (SomeB (s.a.n ≤ 80 ∧ s.g.n ≤ 80 ∧ s.h.n ≤ 80 ∧ s.k.n ≤ 80) w) := by
 have HV := hid hV
 obtain ⟨⟨A1, n1, c1⟩, ⟨A2, n2, c2⟩, ⟨A3, n3, c3⟩, ⟨A4, n4, c4⟩⟩ := s
 clear hV
 have h3m : n3 ≤ 9223372036854775807 := by have := HV.out.sh.len; unfold maxLen at this; exact this
 rw [show frVal f ⟨⟨A1, n1, c1⟩, ⟨A2, n2, c2⟩, ⟨A3, n3, c3⟩, ⟨A4, n4, c4⟩⟩ = .agg #[.int .i64 f.typ, .int .i64 f.epoch, .int .i64 f.kind, .int .i64 f.nonce, .int .i64 f.turn, .slice A1 n1 c1, .slice A2 n2 c2, .int .i64 f.err, .slice A3 n3 c3, .slice A4 n4 c4] from rfl]
 simp only
 go_enter Tryz.func62, Tryz.ntmps62
 go_wp2_with fail
 go_loopw [3] (fun i wr => ∃ k : Nat, k ≤ n3 ∧ i = .int .i64 k ∧ Hid (Ext (w.alloc (.cells #[.int .i64 f.typ, .int .i64 f.epoch, .int .i64 f.kind, .int .i64 f.nonce, .int .i64 f.turn, .slice A1 n1 c1, .slice A2 n2 c2, .int .i64 f.err, .slice A3 n3 c3, .slice A4 n4 c4] 87)) wr)) (fun i _ => n3 - (intOf i).toNat)
 case atStart => exact ⟨0, Nat.zero_le _, by go_num, hid (Ext.refl _)⟩
 case round =>
  obtain ⟨k, hk, rfl, HX⟩ := hrel
  have KX := hid (box_up HX.out)
  have EX := hid ((Ext.new w _).trans HX.out)
  obtain ⟨q0, -⟩ := blk_rules KX.out
  by_cases hlt : k < n3
  ·obtain ⟨b, o, y, v, rfl, hbB, -, hlk, hsz, hc0, hc1, hc2⟩ := MkL.at_ HV.out.hav hlt
   obtain ⟨d0, d1, d2⟩ := up3 (EX.out) hbB hc0 hc1 hc2
   have hbw := Nat.lt_of_lt_of_le hbB EX.out.size
   clear hlk hc0 hc1 hc2
   by_cases hb : 100 < y.name.size
   ·go_wp2_with fail
    go_ret
    exact ⟨false, rfl, (fun h => by cases h), EX.out⟩
   ·go_wp2_with fail
    go_roundw
    case rel => exact ⟨k + 1, by omega, by go_num, HX⟩
    case measure => simp [intOf]; omega
  ·go_wp2_with fail
   refine (few04_any S f.adds A1 n1 c1 _ HV.out.sa.len (ResL.keep HV.out.adds EX.out.keep)).mono ?_
   rintro e w1 ⟨v, rfl, hv, hb1⟩
   have K1 := hid ((hb1.block (Array.getElem?_eq_some_iff.1 KX.out).1).trans KX.out)
   have E1 := hid (EX.out.trans hb1)
   clear hb1 q0
   cases v with
   | false =>
    go_wp2_with fail
    go_ret
    exact ⟨false, rfl, (fun h => by cases h), E1.out⟩
   | true =>
   have H1 := hid (hv rfl)
   clear hv
   obtain ⟨q0, -⟩ := blk_rules K1.out
   by_cases h2 : n2 ≤ 80; rotate_left
   ·go_wp2_with fail
    go_ret
    exact ⟨false, rfl, (fun h => by cases h), E1.out⟩
   by_cases h3 : n3 ≤ 80; rotate_left
   ·go_wp2_with fail
    go_ret
    exact ⟨false, rfl, (fun h => by cases h), E1.out⟩
   go_wp2_with fail
   go_ret
   exact ⟨decide ((n4 : Int) ≤ 80), rfl, (fun h => ⟨H1.out, h2, h3, by have h5 := of_decide_eq_true h; omega⟩), E1.out⟩
end Go.Proofs.YtfdjbnofcniodaaGreatDoor
