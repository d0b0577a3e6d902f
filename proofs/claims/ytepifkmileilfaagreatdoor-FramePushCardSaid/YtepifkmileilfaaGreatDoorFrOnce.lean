/- The law FrameOnce of layer 10. -/
import Derived.Test.YtepifkmileilfaaGreatDoorFrAwake
import Derived.Test.YtepifkmileilfaaGreatDoorFrOne
import Derived.Test.YtepifkmileilfaaGreatDoorFrSame
namespace Go.Proofs.YtepifkmileilfaaGreatDoor
set_option linter.unusedVariables false
open Go.RowKit

set_option maxRecDepth 100000 in
set_option maxHeartbeats 4000000 in
theorem frameOnce_any (A : Option Addr) (n c : Nat) (bs : List UInt8) (w : World) (hB : Byts w A n bs) (hc : A = none → c = 0) (hnc : n ≤ c) (hcm : c ≤ 9223372036854775807) :
    Calls Tryz.prog 11 #[.slice A n c] w fun e w' => e = .returned (.bool true) ∧ Ext w w' := by
  have HB := Lib.hid hB
  have HC := Lib.hid hc
  clear hB hc
  by_cases hn : 5000 < n
  · go_enter Tryz.func11, Tryz.ntmps11
    go_wp2_with fail
    refine (awake10 _).mono ?_
    rintro e w1 ⟨rfl, hb1⟩
    go_wp2_with fail
    go_ret
    exact ⟨rfl, hb1⟩
  go_enter Tryz.func11, Tryz.ntmps11
  go_wp2_with fail
  refine (awake10 _).mono ?_
  rintro e w1 ⟨rfl, hb1⟩
  have E1 := Lib.hid hb1
  clear hb1
  go_wp2_with fail
  refine (frGet_any A n c bs _ (ArrR.up HB.out E1.out) HC.out hnc hcm).mono ?_
  obtain ⟨f, er, hg⟩ : ∃ f er, getF bs = (f, er) := ⟨_, _, rfl⟩
  have HG0 : Hid (er ≠ 0 → f = fr0) := Lib.hid (fun h => by have := @get_zero bs; rw [hg] at this; exact this h)
  have HG1 : Hid (er = 0 → saneF f = 0 ∧ putF f = bs) := Lib.hid (fun h => by have := @get_once bs; rw [hg] at this; exact this h)
  rw [hg]
  rintro e w2 ⟨⟨⟨A1, n1, c1⟩, ⟨A2, n2, c2⟩, ⟨A3, n3, c3⟩, ⟨A4, n4, c4⟩⟩, rfl, hV, hb2⟩
  have HV := Lib.hid hV
  have E2 := Lib.hid (E1.out.trans hb2)
  clear hg hb2 hV
  rw [show frVal (f, er).1 ⟨⟨A1, n1, c1⟩, ⟨A2, n2, c2⟩, ⟨A3, n3, c3⟩, ⟨A4, n4, c4⟩⟩ = .agg #[.int .i64 f.typ, .int .i64 f.epoch, .int .i64 f.kind, .int .i64 f.nonce, .int .i64 f.turn, .slice A1 n1 c1, .slice A2 n2 c2, .int .i64 f.err, .slice A3 n3 c3, .slice A4 n4 c4] from rfl]
  simp only
  go_wp2_with fail
  refine (frPut_any (fun _ => True) f ⟨⟨A1, n1, c1⟩, ⟨A2, n2, c2⟩, ⟨A3, n3, c3⟩, ⟨A4, n4, c4⟩⟩ _ (HV.out.up (Ext.new _ _))).mono ?_
  rintro e w3 ⟨B, M, d, rfl, hsl, hBf, hb3⟩
  have K3 := Lib.hid (box_up hb3)
  have hz3 : w2.heap.size < w3.heap.size := (Array.getElem?_eq_some_iff.1 K3.out).1
  have F3 := Lib.hid ((Ext.new w2 _).trans hb3)
  have E3 := Lib.hid (E2.out.trans F3.out)
  have HBf := Lib.hid hBf
  clear hb3 hsl hBf
  obtain ⟨q0, q1⟩ := blk_rules K3.out
  by_cases he : er = 0
  · obtain ⟨hs, hp⟩ := HG1.out he
    rw [hs]
    have HS := Lib.hid hs
    have HBs : Hid (Byts w3 B M bs) := Lib.hid (by have := HBf.out; rwa [hp] at this)
    subst he
    clear hs hp
    go_wp2_with fail
    refine (frSane_any (fun _ => True) f ⟨⟨A1, n1, c1⟩, ⟨A2, n2, c2⟩, ⟨A3, n3, c3⟩, ⟨A4, n4, c4⟩⟩ _ (HV.out.up F3.out)).mono ?_
    rintro e w4 ⟨rfl, hb4⟩
    rw [HS.out]
    have E4 := Lib.hid (E3.out.trans hb4)
    have v0 : (convert 22 9 (.slice B M d)).run Tryz.prog w4 = .ok (.string (bstr bs)) w4 := convF (ArrR.up HBs.out hb4) d
    have v1 : (convert 22 9 (.slice A n c)).run Tryz.prog w4 = .ok (.string (bstr bs)) w4 := convF (ArrR.up HB.out E4.out) c
    clear hb4 q0 q1
    go_wp2_with fail
    go_ret
    exact ⟨rfl, E4.out⟩
  · have hf := HG0.out he
    have he1 : (er != 0) = true := by simpa using he
    have HD : Hid (decide (f = fr0) = true) := Lib.hid (decide_eq_true hf)
    clear he hf
    go_wp2_with fail
    refine (frSame_any (fun _ => True) (fun _ => True) f fr0 ⟨⟨A1, n1, c1⟩, ⟨A2, n2, c2⟩, ⟨A3, n3, c3⟩, ⟨A4, n4, c4⟩⟩ nilS _ (HV.out.up F3.out) (FrV.nil_ _ _ _ _ _ _ _ _)).mono ?_
    rintro e w4 ⟨rfl, hb4⟩
    rw [HD.out]
    have E4 := Lib.hid (E3.out.trans hb4)
    clear hb4 q0 q1
    go_wp2_with fail
    go_ret
    exact ⟨rfl, E4.out⟩
end Go.Proofs.YtepifkmileilfaaGreatDoor
