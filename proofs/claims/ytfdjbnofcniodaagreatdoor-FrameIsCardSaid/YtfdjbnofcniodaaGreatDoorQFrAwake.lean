/- The example of layer 10. -/
import Derived.Test.YtfdjbnofcniodaaGreatDoorQFrGetA
import Derived.Test.YtfdjbnofcniodaaGreatDoorQFrPutA
namespace Go.Proofs.YtfdjbnofcniodaaGreatDoor
open Lib (hid)
set_option maxHeartbeats 2000000
set_option maxRecDepth 100000
set_option linter.unusedVariables false
open Go.RowKit
theorem four_bytes (w : World) (t : TypeId) (a b c d : UInt8) : Byts (w.alloc (.cells #[byteV a, byteV b, byteV c, byteV d] t)) (some ⟨w.heap.size, 0, none⟩) 4 [a, b, c, d] := by
 refine ⟨rfl, fun _ => ⟨w.heap.size, 0, rfl, by simp, fun k x hx => ?_⟩⟩
 have hk : k < 4 := (List.getElem?_eq_some_iff.1 hx).1
 refine ⟨[byteV x], rfl, rfl, fun j u hu => ?_⟩
 have hj : j = 0 := by have := (List.getElem?_eq_some_iff.1 hu).1; simpa using this
 subst hj
 rw [cell_of_row _ _ _ _ _ (0, 0) (heap_alloc_new w _)]
 have hk4 : k = 0 ∨ k = 1 ∨ k = 2 ∨ k = 3 := by omega
 rcases hk4 with rfl | rfl | rfl | rfl <;> (simp at hx hu; subst hx hu; rfl)
theorem convF {w : World} {A : Option Addr} {n : Nat} {bs : List UInt8} (h : Byts w A n bs) (c : Nat) : (convert 22 9 (.slice A n c)).run Tryz.prog w = .ok (.string (bstr bs)) w :=
 run_conv Tryz.underlying22 Tryz.underlying5 Tryz.underlying9 h c
theorem awake10 (w : World) : Calls Tryz.prog 61 #[] w fun e w' => e = .returned (.bool true) ∧ Ext w w' := by
 go_enter Tryz.func61, Tryz.ntmps61
 go_wp2_with fail
 refine (frPut_any (fun _ => True) frAw nilS _ (FrV.nil_ _ _ _ _ _ _ _ _)).mono ?_
 rintro e w1 ⟨A, N, c, rfl, hsl, hB, hb1⟩
 rw [aw_sane]
 rw [aw_put] at hB
 obtain rfl : N = 4 := hB.len.symm
 have HB := hid hB
 have E1 := hid hb1
 clear hsl hB hb1
 go_wp2_with fail
 refine (frGet_any (some ⟨w1.heap.size, 0, none⟩) 4 4 [3, 5, 1, 0] _ (four_bytes w1 _ 3 5 1 0) (fun h => by cases h) (Nat.le_refl _) (by omega)).mono ?_
 rw [aw_get]
 rintro e w2 ⟨s, rfl, -, hb2⟩
 have E2 := hid ((E1.out.trans (Ext.new _ _)).trans hb2)
 have HB2 := hid (ArrR.up HB.out ((Ext.new w1 _).trans hb2))
 clear hb2
 obtain ⟨⟨A1, n1, c1⟩, ⟨A2, n2, c2⟩, ⟨A3, n3, c3⟩, ⟨A4, n4, c4⟩⟩ := s
 rw [show frVal (frAw, (0 : Int)).1 ⟨⟨A1, n1, c1⟩, ⟨A2, n2, c2⟩, ⟨A3, n3, c3⟩, ⟨A4, n4, c4⟩⟩ = .agg #[.int .i64 3, .int .i64 5, .int .i64 0, .int .i64 0, .int .i64 1, .slice A1 n1 c1, .slice A2 n2 c2, .int .i64 0, .slice A3 n3 c3, .slice A4 n4 c4] from rfl]
 have v0 : ∀ o, (convert 22 9 (.slice A 4 c)).run Tryz.prog (w2.alloc o) = .ok (.string ⟨#[3, 5, 1, 0]⟩) (w2.alloc o) := fun o => convF (ArrR.up HB2.out (Ext.new _ _)) c
 simp only
 go_wp2_with fail
 go_ret
 exact ⟨rfl, E2.out.alloc _⟩
end Go.Proofs.YtfdjbnofcniodaaGreatDoor
