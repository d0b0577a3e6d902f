/- Layer 23's example. -/
import Derived.Test.YtfdjbnofcniodaaGreatDoorSc5
import Derived.Test.YtfdjbnofcniodaaGreatDoorSc6
namespace Go.Proofs.YtfdjbnofcniodaaGreatDoor
set_option linter.unusedVariables false
open Go.RowKit

theorem GotS.out {w w' : World} {l : List Sp} {e : Ending} (h : GotS w l e w') : ∃ (A : Option Addr) (c : Nat) (us : List Value), e = .returned (.slice A l.length c) ∧ SlW A l.length c ∧ Hid (SpL (fun _ => True) w' A l.length l) ∧
    Hid (w'.ownsRow w.heap.size 82 11 (.slice A l.length c) l.length us) ∧ Hid (RowsOf (SpQ (Sx w.heap.size (.slice A l.length c)) w') 11 us l) ∧ Ext w w' := by
  obtain ⟨v, us, rfl, ho, hr, he⟩ := h
  obtain ⟨A, c, rfl, h1, h2, h3, hF⟩ := own_flat ho
  refine ⟨A, c, us, rfl, ⟨h1, h2, h3⟩, Lib.hid ?_, Lib.hid ho, Lib.hid hr, he⟩
  exact (hF.arrQ (S := fun _ => True) hr (by omega) (fun _ _ _ _ => trivial)).weak (fun _ _ h => h.weak fun _ _ _ => trivial) (fun _ _ _ => trivial)
theorem four_bytesS {w : World} {g : Nat} {t : TypeId} {mk : Nat × Nat} {a b c d : UInt8} (hg : w.heap[g]? = some (.cells #[byteV a, byteV b, byteV c, byteV d] t mk)) : Byts w (some ⟨g, 0, none⟩) 4 [a, b, c, d] :=
  ArrR.of_block hg rfl fun k x hx => by
    have hk : k < 4 := (List.getElem?_eq_some_iff.1 hx).1
    refine ⟨[byteV x], rfl, rfl, fun j u hu => ?_⟩
    have hj : j = 0 := by have := (List.getElem?_eq_some_iff.1 hu).1; simpa using this
    subst hj
    have hk4 : k = 0 ∨ k = 1 ∨ k = 2 ∨ k = 3 := by omega
    rcases hk4 with rfl | rfl | rfl | rfl <;> (simp at hx hu; subst hx hu; rfl)
def awS : Sp := ⟨6, 0, 0, 0, [], [], ak0⟩
theorem awS_get : getSs [6, 0, 0, 0] = [awS] := by decide
theorem awS_sane : saneS awS = 0 := by decide
theorem awS_put : (putSs [awS]).length = 4 := by decide

set_option maxRecDepth 100000 in
set_option maxHeartbeats 4000000 in
theorem awake23 (w : World) : Calls Tryz.prog 51 #[] w fun e w' => e = .returned (.bool true) ∧ Ext w w' := by
  go_enter Tryz.func51, Tryz.ntmps51
  go_wp2_with fail
  refine ((scGet_any (some ⟨w.heap.size, 0, none⟩) 4 4 [6, 0, 0, 0] _ (four_bytesS (heap_alloc_new w _)) (fun h => by cases h) (Nat.le_refl _) (by omega)).mono fun _ _ h => GotS.out h).mono ?_
  rw [awS_get]
  rintro e w1 ⟨A, c, us, rfl, hsl, HL, -, -, hb1⟩
  have E1 := Lib.hid ((Ext.new w _).trans hb1)
  obtain ⟨b, o, s, B, m, d, B', m', d', rfl, hbB, -, hlk, hv, hc0, hc1, hc2, hc3, hc4, hc5, hc6, hc7, hc8, hc9, hc10⟩ := SpL.at_ (k := 0) HL.out (by show 0 < 1; omega)
  obtain rfl : awS = s := by simpa using hlk
  have HV := Lib.hid hv
  simp only [Nat.zero_mul, Nat.add_zero] at hc0 hc1 hc2 hc3 hc4 hc5 hc6 hc7 hc8 hc9 hc10
  simp only [List.length_singleton]
  have HD := Lib.hid hsl
  clear hsl hb1 hlk hv
  go_wp2_with fail
  refine (scName_any 6 _ (by omega)).mono ?_
  rintro e w2 ⟨t, rfl, ht, hb2⟩
  obtain rfl := ht.2 rfl
  have d0 : w2.cell? ⟨b, o, none⟩ = some (.int .i64 awS.kind) := (hb2.cell hbB).trans hc0
  have d1 : w2.cell? ⟨b, o + 1, none⟩ = some (.int .i64 awS.side) := (hb2.cell hbB).trans hc1
  have d2 : w2.cell? ⟨b, o + 2, none⟩ = some (.int .i64 awS.way) := (hb2.cell hbB).trans hc2
  have d3 : w2.cell? ⟨b, o + 3, none⟩ = some (.int .i64 awS.n) := (hb2.cell hbB).trans hc3
  have d4 : w2.cell? ⟨b, o + 4, none⟩ = some (.slice B m d) := (hb2.cell hbB).trans hc4
  have d5 : w2.cell? ⟨b, o + 5, none⟩ = some (.slice B' m' d') := (hb2.cell hbB).trans hc5
  have d6 : w2.cell? ⟨b, o + 6, none⟩ = some (.int .i64 awS.a.port) := (hb2.cell hbB).trans hc6
  have d7 : w2.cell? ⟨b, o + 7, none⟩ = some (.string awS.a.host) := (hb2.cell hbB).trans hc7
  have d8 : w2.cell? ⟨b, o + 8, none⟩ = some (.string awS.a.path) := (hb2.cell hbB).trans hc8
  have d9 : w2.cell? ⟨b, o + 9, none⟩ = some (.int .i64 awS.a.first) := (hb2.cell hbB).trans hc9
  have d10 : w2.cell? ⟨b, o + 10, none⟩ = some (.int .i64 awS.a.other) := (hb2.cell hbB).trans hc10
  have E2 := Lib.hid (E1.out.trans hb2)
  have HL2 := Lib.hid (SpL.keep HL.out hb2.keep)
  have HV2 := Lib.hid (HV.out.up hb2)
  clear hc0 hc1 hc2 hc3 hc4 hc5 hc6 hc7 hc8 hc9 hc10 ht hb2
  go_wp2_with fail
  refine (scSane_any (fun _ => True) awS B m d B' m' d' _ HV2.out).mono ?_
  rw [awS_sane]
  rintro e w3 ⟨rfl, hb3⟩
  have E3 := Lib.hid (E2.out.trans hb3)
  have HL3 := Lib.hid (SpL.keep HL2.out hb3.keep)
  clear d0 d1 d2 d3 d4 d5 d6 d7 d8 d9 d10 hb3
  go_wp2_with fail
  refine (scPut_any (fun _ => True) [awS] _ 1 c _ HL3.out (by omega)).mono ?_
  rintro e w4 ⟨A4, N4, c4, rfl, h4⟩
  obtain rfl : N4 = 4 := by have := h4.byts.len; rw [List.nil_append, awS_put] at this; exact this.symm
  have E4 := Lib.hid (E3.out.trans h4.ext)
  clear h4
  go_wp2_with fail
  go_ret
  exact ⟨rfl, E4.out⟩
end Go.Proofs.YtfdjbnofcniodaaGreatDoor
