/- The law TableWith of layer 5. -/
import Derived.Test.YtepifkmileilfaaDoorTabLaw
namespace Go.Proofs.YtepifkmileilfaaDoor
set_option linter.unusedVariables false
open Go.RowKit
theorem sameR_self (r : Rs) : sameR r r = true := (same_iff r r).2 rfl
theorem withT_up {t : List Rs} (h : Srt t) (r : Rs) : (withT t r).length ≤ t.length + 1 := by
  rw [len_withT h]; split <;> omega
set_option maxRecDepth 100000 in
set_option maxHeartbeats 8000000 in
theorem tableWith_any (A : Option Addr) (n c : Nat) (l : List Rs) (r : Rs) (B : Option Addr) (m d : Nat) (B' : Option Addr) (m' d' : Nat) (k : Ky) (w : World) (hsl : SlW A n c) (hA : ResL All w A n l) (hV : RsV All w r B m d B' m' d') (hk : k.name.size ≤ maxLen) :
    Calls Tryd.prog 12 #[.slice A n c, rsVal r B m d B' m' d', .agg #[.int .i64 k.kind, .string k.name]] w fun e w' => e = .returned (.bool true) ∧ Ext w w' := by
  have Ha := Lib.hid hA
  have HMa : Hid (n ≤ maxLen) := Lib.hid (Nat.le_trans hsl.1 hsl.2.1)
  have hla : l.length = n := hA.len
  have HSLa := Lib.hid hsl
  have HV := Lib.hid hV
  clear hA hsl hV hk
  obtain ⟨kk, kn⟩ := k
  simp only
  unfold rsVal
  go_enter Tryd.func12, Tryd.ntmps12
  go_wp2_with fail
  refine (awake05 _).mono ?_
  rintro e w1 ⟨rfl, hb1⟩
  have hsz : ((w.alloc (.cells #[.int .i64 r.kind, .string r.name, .int .i64 r.ver, .int .i64 r.port, .string r.to, .slice B m d, .slice B' m' d'] 36)).alloc (.cells #[.int .i64 kk, .string kn] 57)).heap.size = w.heap.size + 2 := by simp only [World.size_alloc]
  have K1R := Lib.hid ((hb1.block (by rw [hsz]; omega)).trans (two_blocks w (.cells #[.int .i64 r.kind, .string r.name, .int .i64 r.ver, .int .i64 r.port, .string r.to, .slice B m d, .slice B' m' d'] 36) (.cells #[.int .i64 kk, .string kn] 57)).1)
  have K1K := Lib.hid ((hb1.block (by rw [hsz]; omega)).trans (two_blocks w (.cells #[.int .i64 r.kind, .string r.name, .int .i64 r.ver, .int .i64 r.port, .string r.to, .slice B m d, .slice B' m' d'] 36) (.cells #[.int .i64 kk, .string kn] 57)).2)
  have E1 := Lib.hid (((Ext.new w (.cells #[.int .i64 r.kind, .string r.name, .int .i64 r.ver, .int .i64 r.port, .string r.to, .slice B m d, .slice B' m' d'] 36)).alloc (.cells #[.int .i64 kk, .string kn] 57)).trans hb1)
  have hz1 : w.heap.size + 1 < w1.heap.size := (Array.getElem?_eq_some_iff.1 K1K.out).1
  have hz1' : w.heap.size < w1.heap.size := by omega
  obtain ⟨q1, -⟩ := blk_rules K1R.out
  obtain ⟨p1, -⟩ := blk_rules K1K.out
  have Q1 := Lib.hid q1
  have P1 := Lib.hid p1
  clear hb1 hsz q1 p1
  have G1 := Lib.hid (Ext.refl w1)
  go_wp2_with fail
  refine (few04_any All l A n c _ HMa.out (ResL.keep Ha.out E1.out.keep)).mono ?_
  rintro e w2 ⟨v, rfl, hv, hb⟩
  have G2 := Lib.hid hb
  clear hb
  cases v with
  | false =>
    go_wp2_with fail
    go_ret
    exact ⟨rfl, E1.out.trans G2.out⟩
  | true =>
  have hfa : n ≤ 80 := hv rfl
  clear hv
  have r0 : w2.cell? ⟨w.heap.size, 0, none⟩ = some (.int .i64 r.kind) := (G2.out.cell hz1').trans (Q1.out 0)
  have r1 : w2.cell? ⟨w.heap.size, 1, none⟩ = some (.string r.name) := (G2.out.cell hz1').trans (Q1.out 1)
  have r2 : w2.cell? ⟨w.heap.size, 2, none⟩ = some (.int .i64 r.ver) := (G2.out.cell hz1').trans (Q1.out 2)
  have r3 : w2.cell? ⟨w.heap.size, 3, none⟩ = some (.int .i64 r.port) := (G2.out.cell hz1').trans (Q1.out 3)
  have r4 : w2.cell? ⟨w.heap.size, 4, none⟩ = some (.string r.to) := (G2.out.cell hz1').trans (Q1.out 4)
  have r5 : w2.cell? ⟨w.heap.size, 5, none⟩ = some (.slice B m d) := (G2.out.cell hz1').trans (Q1.out 5)
  have r6 : w2.cell? ⟨w.heap.size, 6, none⟩ = some (.slice B' m' d') := (G2.out.cell hz1').trans (Q1.out 6)
  have k0 : w2.cell? ⟨w.heap.size + 1, 0, none⟩ = some (.int .i64 kk) := (G2.out.cell hz1).trans (P1.out 0)
  have k1 : w2.cell? ⟨w.heap.size + 1, 1, none⟩ = some (.string kn) := (G2.out.cell hz1).trans (P1.out 1)
  have hzw2 : w.heap.size + 1 < w2.heap.size := Nat.lt_of_lt_of_le hz1 G2.out.size
  have hyw2 : w.heap.size < w2.heap.size := by omega
  go_wp2_with fail
  refine (few03_any All r B B' m d m' d' _ (HV.out.up (E1.out.trans G2.out))).mono ?_
  rintro e w3 ⟨v, rfl, -, hb⟩
  have G3 := Lib.hid (G2.out.trans hb)
  clear hb
  clear r0 r1 r2 r3 r4 r5 r6 k0 k1
  cases v with
  | false =>
    go_wp2_with fail
    go_ret
    exact ⟨rfl, E1.out.trans G3.out⟩
  | true =>
  go_wp2_with fail
  refine (tabSane_any A n c l _ HMa.out (ResL.keep Ha.out (E1.out.trans G3.out).keep)).mono ?_
  rintro e w4 ⟨rfl, hb⟩
  have G4 := Lib.hid (G3.out.trans hb)
  clear hb
  obtain ⟨Z, hZ⟩ : ∃ Z, Z = saneT l := ⟨_, rfl⟩
  rw [← hZ]
  have HZ := Lib.hid hZ
  clear hZ
  by_cases hs : Z = 0
  rotate_left
  · have hz1 : (Z != 0) = true := by simpa using hs
    go_wp2_with fail
    go_ret
    exact ⟨rfl, E1.out.trans G4.out⟩
  have HS := Lib.hid (saneT_all (HZ.out.symm.trans hs))
  subst hs
  have r0 : w4.cell? ⟨w.heap.size, 0, none⟩ = some (.int .i64 r.kind) := (G4.out.cell hz1').trans (Q1.out 0)
  have r1 : w4.cell? ⟨w.heap.size, 1, none⟩ = some (.string r.name) := (G4.out.cell hz1').trans (Q1.out 1)
  have r2 : w4.cell? ⟨w.heap.size, 2, none⟩ = some (.int .i64 r.ver) := (G4.out.cell hz1').trans (Q1.out 2)
  have r3 : w4.cell? ⟨w.heap.size, 3, none⟩ = some (.int .i64 r.port) := (G4.out.cell hz1').trans (Q1.out 3)
  have r4 : w4.cell? ⟨w.heap.size, 4, none⟩ = some (.string r.to) := (G4.out.cell hz1').trans (Q1.out 4)
  have r5 : w4.cell? ⟨w.heap.size, 5, none⟩ = some (.slice B m d) := (G4.out.cell hz1').trans (Q1.out 5)
  have r6 : w4.cell? ⟨w.heap.size, 6, none⟩ = some (.slice B' m' d') := (G4.out.cell hz1').trans (Q1.out 6)
  have k0 : w4.cell? ⟨w.heap.size + 1, 0, none⟩ = some (.int .i64 kk) := (G4.out.cell hz1).trans (P1.out 0)
  have k1 : w4.cell? ⟨w.heap.size + 1, 1, none⟩ = some (.string kn) := (G4.out.cell hz1).trans (P1.out 1)
  have hzw4 : w.heap.size + 1 < w4.heap.size := Nat.lt_of_lt_of_le hz1 G4.out.size
  have hyw4 : w.heap.size < w4.heap.size := by omega
  go_wp2_with fail
  refine (with_any A n c l r B m d B' m' d' _ (by omega) (ResL.keep Ha.out (E1.out.trans G4.out).keep) (HV.out.up (E1.out.trans G4.out))).mono ?_
  rintro e w5 ⟨Aw, nw, cw, rfl, hsw, hAw, hb⟩
  have G5 := Lib.hid (G4.out.trans hb)
  have HAw := Lib.hid hAw
  have HSw := Lib.hid hsw
  have hlw : (withT l r).length = nw := hAw.len
  clear hb hAw hsw
  have H5 := Lib.hid (Ext.refl w5)
  clear r0 r1 r2 r3 r4 r5 r6 k0 k1
  have r0 : w5.cell? ⟨w.heap.size, 0, none⟩ = some (.int .i64 r.kind) := (G5.out.cell hz1').trans (Q1.out 0)
  have r1 : w5.cell? ⟨w.heap.size, 1, none⟩ = some (.string r.name) := (G5.out.cell hz1').trans (Q1.out 1)
  have r2 : w5.cell? ⟨w.heap.size, 2, none⟩ = some (.int .i64 r.ver) := (G5.out.cell hz1').trans (Q1.out 2)
  have r3 : w5.cell? ⟨w.heap.size, 3, none⟩ = some (.int .i64 r.port) := (G5.out.cell hz1').trans (Q1.out 3)
  have r4 : w5.cell? ⟨w.heap.size, 4, none⟩ = some (.string r.to) := (G5.out.cell hz1').trans (Q1.out 4)
  have r5 : w5.cell? ⟨w.heap.size, 5, none⟩ = some (.slice B m d) := (G5.out.cell hz1').trans (Q1.out 5)
  have r6 : w5.cell? ⟨w.heap.size, 6, none⟩ = some (.slice B' m' d') := (G5.out.cell hz1').trans (Q1.out 6)
  have k0 : w5.cell? ⟨w.heap.size + 1, 0, none⟩ = some (.int .i64 kk) := (G5.out.cell hz1).trans (P1.out 0)
  have k1 : w5.cell? ⟨w.heap.size + 1, 1, none⟩ = some (.string kn) := (G5.out.cell hz1).trans (P1.out 1)
  have hzw5 : w.heap.size + 1 < w5.heap.size := Nat.lt_of_lt_of_le hz1 G5.out.size
  have hyw5 : w.heap.size < w5.heap.size := by omega
  go_wp2_with fail
  clear r0 r1 r2 r3 r4 r5 r6 k0 k1
  refine (key_any r B m d B' m' d' _).mono ?_
  rintro e w6 ⟨rfl, hb⟩
  have G6 := Lib.hid (G5.out.trans (hb))
  have H6 := Lib.hid (H5.out.trans (hb))
  clear hb
  have r0 : w6.cell? ⟨w.heap.size, 0, none⟩ = some (.int .i64 r.kind) := (G6.out.cell hz1').trans (Q1.out 0)
  have r1 : w6.cell? ⟨w.heap.size, 1, none⟩ = some (.string r.name) := (G6.out.cell hz1').trans (Q1.out 1)
  have r2 : w6.cell? ⟨w.heap.size, 2, none⟩ = some (.int .i64 r.ver) := (G6.out.cell hz1').trans (Q1.out 2)
  have r3 : w6.cell? ⟨w.heap.size, 3, none⟩ = some (.int .i64 r.port) := (G6.out.cell hz1').trans (Q1.out 3)
  have r4 : w6.cell? ⟨w.heap.size, 4, none⟩ = some (.string r.to) := (G6.out.cell hz1').trans (Q1.out 4)
  have r5 : w6.cell? ⟨w.heap.size, 5, none⟩ = some (.slice B m d) := (G6.out.cell hz1').trans (Q1.out 5)
  have r6 : w6.cell? ⟨w.heap.size, 6, none⟩ = some (.slice B' m' d') := (G6.out.cell hz1').trans (Q1.out 6)
  have k0 : w6.cell? ⟨w.heap.size + 1, 0, none⟩ = some (.int .i64 kk) := (G6.out.cell hz1).trans (P1.out 0)
  have k1 : w6.cell? ⟨w.heap.size + 1, 1, none⟩ = some (.string kn) := (G6.out.cell hz1).trans (P1.out 1)
  have hzw6 : w.heap.size + 1 < w6.heap.size := Nat.lt_of_lt_of_le hz1 G6.out.size
  have hyw6 : w.heap.size < w6.heap.size := by omega
  go_wp2_with fail
  refine (get_any r.key Aw nw cw (withT l r) _ (by have h7 := withT_up HS.out.2.2.1 r; have h8 := HAw.out.len; omega) (ResL.keep HAw.out H6.out.keep)).mono ?_
  rintro e w7 ⟨xX, CX, pX, fX, CX', pX', fX', rfl, hr', hv', hb⟩
  rw [get_withT HS.out.2.2.1, if_pos rfl] at hr' ⊢
  obtain rfl : r = xX := hr'
  have hr' : True := trivial
  have HXX := Lib.hid hr'
  have HYX := Lib.hid hv'
  have G7 := Lib.hid (G6.out.trans (hb))
  have H7 := Lib.hid (H6.out.trans (hb))
  clear hb hr' hv' r0 r1 r2 r3 r4 r5 r6 k0 k1
  have r0 : w7.cell? ⟨w.heap.size, 0, none⟩ = some (.int .i64 r.kind) := (G7.out.cell hz1').trans (Q1.out 0)
  have r1 : w7.cell? ⟨w.heap.size, 1, none⟩ = some (.string r.name) := (G7.out.cell hz1').trans (Q1.out 1)
  have r2 : w7.cell? ⟨w.heap.size, 2, none⟩ = some (.int .i64 r.ver) := (G7.out.cell hz1').trans (Q1.out 2)
  have r3 : w7.cell? ⟨w.heap.size, 3, none⟩ = some (.int .i64 r.port) := (G7.out.cell hz1').trans (Q1.out 3)
  have r4 : w7.cell? ⟨w.heap.size, 4, none⟩ = some (.string r.to) := (G7.out.cell hz1').trans (Q1.out 4)
  have r5 : w7.cell? ⟨w.heap.size, 5, none⟩ = some (.slice B m d) := (G7.out.cell hz1').trans (Q1.out 5)
  have r6 : w7.cell? ⟨w.heap.size, 6, none⟩ = some (.slice B' m' d') := (G7.out.cell hz1').trans (Q1.out 6)
  have k0 : w7.cell? ⟨w.heap.size + 1, 0, none⟩ = some (.int .i64 kk) := (G7.out.cell hz1).trans (P1.out 0)
  have k1 : w7.cell? ⟨w.heap.size + 1, 1, none⟩ = some (.string kn) := (G7.out.cell hz1).trans (P1.out 1)
  have hzw7 : w.heap.size + 1 < w7.heap.size := Nat.lt_of_lt_of_le hz1 G7.out.size
  have hyw7 : w.heap.size < w7.heap.size := by omega
  unfold rsVal
  go_wp2_with fail
  have KXX := Lib.hid (heap_alloc_new w7 (.cells #[.int .i64 r.kind, .string r.name, .int .i64 r.ver, .int .i64 r.port, .string r.to, .slice CX pX fX, .slice CX' pX' fX'] 36))
  have DX := Lib.hid (Ext.new w7 (.cells #[.int .i64 r.kind, .string r.name, .int .i64 r.ver, .int .i64 r.port, .string r.to, .slice CX pX fX, .slice CX' pX' fX'] 36))
  have hzX : w7.heap.size < (w7.alloc (.cells #[.int .i64 r.kind, .string r.name, .int .i64 r.ver, .int .i64 r.port, .string r.to, .slice CX pX fX, .slice CX' pX' fX'] 36)).heap.size := by simp
  generalize w7.alloc (.cells #[.int .i64 r.kind, .string r.name, .int .i64 r.ver, .int .i64 r.port, .string r.to, .slice CX pX fX, .slice CX' pX' fX'] 36) = wVX at KXX DX hzX ⊢
  have GVX := Lib.hid (G7.out.trans (DX.out))
  have HVX := Lib.hid (H7.out.trans (DX.out))
  obtain ⟨bX, hbX⟩ : ∃ b, b = w7.heap.size := ⟨_, rfl⟩
  rw [← hbX] at KXX hzX ⊢
  clear hbX
  have LVX := Lib.hid (Ext.refl wVX)
  refine (get_any ⟨kk, kn⟩ Aw nw cw (withT l r) _ (by have h7 := withT_up HS.out.2.2.1 r; have h8 := HAw.out.len; omega) (ResL.keep HAw.out HVX.out.keep)).mono ?_
  rintro e w8 ⟨xY, CY, pY, fY, CY', pY', fY', rfl, hr', hv', hb⟩
  obtain ⟨oY, hoY⟩ : ∃ b, b = (getT (withT l r) ⟨kk, kn⟩).isSome := ⟨_, rfl⟩
  rw [← hoY]
  have HOY := Lib.hid hoY
  clear hoY
  have HXY := Lib.hid hr'
  have HYY := Lib.hid hv'
  have G8 := Lib.hid (GVX.out.trans (hb))
  have H8 := Lib.hid (HVX.out.trans (hb))
  have L8 := Lib.hid (LVX.out.trans (hb))
  clear hb hr' hv' r0 r1 r2 r3 r4 r5 r6 k0 k1
  have r0 : w8.cell? ⟨w.heap.size, 0, none⟩ = some (.int .i64 r.kind) := (G8.out.cell hz1').trans (Q1.out 0)
  have r1 : w8.cell? ⟨w.heap.size, 1, none⟩ = some (.string r.name) := (G8.out.cell hz1').trans (Q1.out 1)
  have r2 : w8.cell? ⟨w.heap.size, 2, none⟩ = some (.int .i64 r.ver) := (G8.out.cell hz1').trans (Q1.out 2)
  have r3 : w8.cell? ⟨w.heap.size, 3, none⟩ = some (.int .i64 r.port) := (G8.out.cell hz1').trans (Q1.out 3)
  have r4 : w8.cell? ⟨w.heap.size, 4, none⟩ = some (.string r.to) := (G8.out.cell hz1').trans (Q1.out 4)
  have r5 : w8.cell? ⟨w.heap.size, 5, none⟩ = some (.slice B m d) := (G8.out.cell hz1').trans (Q1.out 5)
  have r6 : w8.cell? ⟨w.heap.size, 6, none⟩ = some (.slice B' m' d') := (G8.out.cell hz1').trans (Q1.out 6)
  have k0 : w8.cell? ⟨w.heap.size + 1, 0, none⟩ = some (.int .i64 kk) := (G8.out.cell hz1).trans (P1.out 0)
  have k1 : w8.cell? ⟨w.heap.size + 1, 1, none⟩ = some (.string kn) := (G8.out.cell hz1).trans (P1.out 1)
  have hzw8 : w.heap.size + 1 < w8.heap.size := Nat.lt_of_lt_of_le hz1 G8.out.size
  have hyw8 : w.heap.size < w8.heap.size := by omega
  unfold rsVal
  go_wp2_with fail
  have KXY := Lib.hid (heap_alloc_new w8 (.cells #[.int .i64 xY.kind, .string xY.name, .int .i64 xY.ver, .int .i64 xY.port, .string xY.to, .slice CY pY fY, .slice CY' pY' fY'] 36))
  have DY := Lib.hid (Ext.new w8 (.cells #[.int .i64 xY.kind, .string xY.name, .int .i64 xY.ver, .int .i64 xY.port, .string xY.to, .slice CY pY fY, .slice CY' pY' fY'] 36))
  have hzY : w8.heap.size < (w8.alloc (.cells #[.int .i64 xY.kind, .string xY.name, .int .i64 xY.ver, .int .i64 xY.port, .string xY.to, .slice CY pY fY, .slice CY' pY' fY'] 36)).heap.size := by simp
  generalize w8.alloc (.cells #[.int .i64 xY.kind, .string xY.name, .int .i64 xY.ver, .int .i64 xY.port, .string xY.to, .slice CY pY fY, .slice CY' pY' fY'] 36) = wVY at KXY DY hzY ⊢
  have GVY := Lib.hid (G8.out.trans (DY.out))
  have HVY := Lib.hid (H8.out.trans (DY.out))
  have LVY := Lib.hid (L8.out.trans (DY.out))
  obtain ⟨bY, hbY⟩ : ∃ b, b = w8.heap.size := ⟨_, rfl⟩
  rw [← hbY] at KXY hzY ⊢
  clear hbY
  have MVY := Lib.hid (Ext.refl wVY)
  refine (get_any ⟨kk, kn⟩ A n c l _ (by omega) (ResL.keep Ha.out (E1.out.trans GVY.out).keep)).mono ?_
  rintro e w9 ⟨xZ, CZ, pZ, fZ, CZ', pZ', fZ', rfl, hr', hv', hb⟩
  obtain ⟨oZ, hoZ⟩ : ∃ b, b = (getT l ⟨kk, kn⟩).isSome := ⟨_, rfl⟩
  rw [← hoZ]
  have HOZ := Lib.hid hoZ
  clear hoZ
  have HXZ := Lib.hid hr'
  have HYZ := Lib.hid hv'
  have G9 := Lib.hid (GVY.out.trans (hb))
  have H9 := Lib.hid (HVY.out.trans (hb))
  have L9 := Lib.hid (LVY.out.trans (hb))
  have M9 := Lib.hid (MVY.out.trans (hb))
  clear hb hr' hv' r0 r1 r2 r3 r4 r5 r6 k0 k1
  have r0 : w9.cell? ⟨w.heap.size, 0, none⟩ = some (.int .i64 r.kind) := (G9.out.cell hz1').trans (Q1.out 0)
  have r1 : w9.cell? ⟨w.heap.size, 1, none⟩ = some (.string r.name) := (G9.out.cell hz1').trans (Q1.out 1)
  have r2 : w9.cell? ⟨w.heap.size, 2, none⟩ = some (.int .i64 r.ver) := (G9.out.cell hz1').trans (Q1.out 2)
  have r3 : w9.cell? ⟨w.heap.size, 3, none⟩ = some (.int .i64 r.port) := (G9.out.cell hz1').trans (Q1.out 3)
  have r4 : w9.cell? ⟨w.heap.size, 4, none⟩ = some (.string r.to) := (G9.out.cell hz1').trans (Q1.out 4)
  have r5 : w9.cell? ⟨w.heap.size, 5, none⟩ = some (.slice B m d) := (G9.out.cell hz1').trans (Q1.out 5)
  have r6 : w9.cell? ⟨w.heap.size, 6, none⟩ = some (.slice B' m' d') := (G9.out.cell hz1').trans (Q1.out 6)
  have k0 : w9.cell? ⟨w.heap.size + 1, 0, none⟩ = some (.int .i64 kk) := (G9.out.cell hz1).trans (P1.out 0)
  have k1 : w9.cell? ⟨w.heap.size + 1, 1, none⟩ = some (.string kn) := (G9.out.cell hz1).trans (P1.out 1)
  have hzw9 : w.heap.size + 1 < w9.heap.size := Nat.lt_of_lt_of_le hz1 G9.out.size
  have hyw9 : w.heap.size < w9.heap.size := by omega
  unfold rsVal
  go_wp2_with fail
  have KXZ := Lib.hid (heap_alloc_new w9 (.cells #[.int .i64 xZ.kind, .string xZ.name, .int .i64 xZ.ver, .int .i64 xZ.port, .string xZ.to, .slice CZ pZ fZ, .slice CZ' pZ' fZ'] 36))
  have DZ := Lib.hid (Ext.new w9 (.cells #[.int .i64 xZ.kind, .string xZ.name, .int .i64 xZ.ver, .int .i64 xZ.port, .string xZ.to, .slice CZ pZ fZ, .slice CZ' pZ' fZ'] 36))
  have hzZ : w9.heap.size < (w9.alloc (.cells #[.int .i64 xZ.kind, .string xZ.name, .int .i64 xZ.ver, .int .i64 xZ.port, .string xZ.to, .slice CZ pZ fZ, .slice CZ' pZ' fZ'] 36)).heap.size := by simp
  generalize w9.alloc (.cells #[.int .i64 xZ.kind, .string xZ.name, .int .i64 xZ.ver, .int .i64 xZ.port, .string xZ.to, .slice CZ pZ fZ, .slice CZ' pZ' fZ'] 36) = wVZ at KXZ DZ hzZ ⊢
  have GVZ := Lib.hid (G9.out.trans (DZ.out))
  have HVZ := Lib.hid (H9.out.trans (DZ.out))
  have LVZ := Lib.hid (L9.out.trans (DZ.out))
  have MVZ := Lib.hid (M9.out.trans (DZ.out))
  obtain ⟨bZ, hbZ⟩ : ∃ b, b = w9.heap.size := ⟨_, rfl⟩
  rw [← hbZ] at KXZ hzZ ⊢
  clear hbZ
  have NVZ := Lib.hid (Ext.refl wVZ)
  clear r0 r1 r2 r3 r4 r5 r6 k0 k1
  refine (key_any r B m d B' m' d' _).mono ?_
  rintro e w10 ⟨rfl, hb⟩
  have G10 := Lib.hid (GVZ.out.trans (hb))
  have H10 := Lib.hid (HVZ.out.trans (hb))
  have L10 := Lib.hid (LVZ.out.trans (hb))
  have M10 := Lib.hid (MVZ.out.trans (hb))
  have N10 := Lib.hid (NVZ.out.trans (hb))
  clear hb
  have r0 : w10.cell? ⟨w.heap.size, 0, none⟩ = some (.int .i64 r.kind) := (G10.out.cell hz1').trans (Q1.out 0)
  have r1 : w10.cell? ⟨w.heap.size, 1, none⟩ = some (.string r.name) := (G10.out.cell hz1').trans (Q1.out 1)
  have r2 : w10.cell? ⟨w.heap.size, 2, none⟩ = some (.int .i64 r.ver) := (G10.out.cell hz1').trans (Q1.out 2)
  have r3 : w10.cell? ⟨w.heap.size, 3, none⟩ = some (.int .i64 r.port) := (G10.out.cell hz1').trans (Q1.out 3)
  have r4 : w10.cell? ⟨w.heap.size, 4, none⟩ = some (.string r.to) := (G10.out.cell hz1').trans (Q1.out 4)
  have r5 : w10.cell? ⟨w.heap.size, 5, none⟩ = some (.slice B m d) := (G10.out.cell hz1').trans (Q1.out 5)
  have r6 : w10.cell? ⟨w.heap.size, 6, none⟩ = some (.slice B' m' d') := (G10.out.cell hz1').trans (Q1.out 6)
  have k0 : w10.cell? ⟨w.heap.size + 1, 0, none⟩ = some (.int .i64 kk) := (G10.out.cell hz1).trans (P1.out 0)
  have k1 : w10.cell? ⟨w.heap.size + 1, 1, none⟩ = some (.string kn) := (G10.out.cell hz1).trans (P1.out 1)
  have hzw10 : w.heap.size + 1 < w10.heap.size := Nat.lt_of_lt_of_le hz1 G10.out.size
  have hyw10 : w.heap.size < w10.heap.size := by omega
  go_wp2_with fail
  refine (without_any r.key Aw nw cw (withT l r) _ HSw.out (by have h7 := withT_up HS.out.2.2.1 r; have h8 := HAw.out.len; omega) (ResL.keep HAw.out H10.out.keep)).mono ?_
  rintro e w11 ⟨Ao, no, co, rfl, hso, hAo, hb⟩
  have HAo := Lib.hid hAo
  have HSo := Lib.hid hso
  have G11 := Lib.hid (G10.out.trans (hb))
  have H11 := Lib.hid (H10.out.trans (hb))
  have L11 := Lib.hid (L10.out.trans (hb))
  have M11 := Lib.hid (M10.out.trans (hb))
  have N11 := Lib.hid (N10.out.trans (hb))
  have R11 := Lib.hid (Ext.refl w11)
  clear hb hAo hso
  clear r0 r1 r2 r3 r4 r5 r6 k0 k1
  have r0 : w11.cell? ⟨w.heap.size, 0, none⟩ = some (.int .i64 r.kind) := (G11.out.cell hz1').trans (Q1.out 0)
  have r1 : w11.cell? ⟨w.heap.size, 1, none⟩ = some (.string r.name) := (G11.out.cell hz1').trans (Q1.out 1)
  have r2 : w11.cell? ⟨w.heap.size, 2, none⟩ = some (.int .i64 r.ver) := (G11.out.cell hz1').trans (Q1.out 2)
  have r3 : w11.cell? ⟨w.heap.size, 3, none⟩ = some (.int .i64 r.port) := (G11.out.cell hz1').trans (Q1.out 3)
  have r4 : w11.cell? ⟨w.heap.size, 4, none⟩ = some (.string r.to) := (G11.out.cell hz1').trans (Q1.out 4)
  have r5 : w11.cell? ⟨w.heap.size, 5, none⟩ = some (.slice B m d) := (G11.out.cell hz1').trans (Q1.out 5)
  have r6 : w11.cell? ⟨w.heap.size, 6, none⟩ = some (.slice B' m' d') := (G11.out.cell hz1').trans (Q1.out 6)
  have k0 : w11.cell? ⟨w.heap.size + 1, 0, none⟩ = some (.int .i64 kk) := (G11.out.cell hz1).trans (P1.out 0)
  have k1 : w11.cell? ⟨w.heap.size + 1, 1, none⟩ = some (.string kn) := (G11.out.cell hz1).trans (P1.out 1)
  have hzw11 : w.heap.size + 1 < w11.heap.size := Nat.lt_of_lt_of_le hz1 G11.out.size
  have hyw11 : w.heap.size < w11.heap.size := by omega
  go_wp2_with fail
  clear r0 r1 r2 r3 r4 r5 r6 k0 k1
  refine (key_any r B m d B' m' d' _).mono ?_
  rintro e w12 ⟨rfl, hb⟩
  have G12 := Lib.hid (G11.out.trans (hb))
  have H12 := Lib.hid (H11.out.trans (hb))
  have L12 := Lib.hid (L11.out.trans (hb))
  have M12 := Lib.hid (M11.out.trans (hb))
  have N12 := Lib.hid (N11.out.trans (hb))
  have R12 := Lib.hid (R11.out.trans (hb))
  clear hb
  have r0 : w12.cell? ⟨w.heap.size, 0, none⟩ = some (.int .i64 r.kind) := (G12.out.cell hz1').trans (Q1.out 0)
  have r1 : w12.cell? ⟨w.heap.size, 1, none⟩ = some (.string r.name) := (G12.out.cell hz1').trans (Q1.out 1)
  have r2 : w12.cell? ⟨w.heap.size, 2, none⟩ = some (.int .i64 r.ver) := (G12.out.cell hz1').trans (Q1.out 2)
  have r3 : w12.cell? ⟨w.heap.size, 3, none⟩ = some (.int .i64 r.port) := (G12.out.cell hz1').trans (Q1.out 3)
  have r4 : w12.cell? ⟨w.heap.size, 4, none⟩ = some (.string r.to) := (G12.out.cell hz1').trans (Q1.out 4)
  have r5 : w12.cell? ⟨w.heap.size, 5, none⟩ = some (.slice B m d) := (G12.out.cell hz1').trans (Q1.out 5)
  have r6 : w12.cell? ⟨w.heap.size, 6, none⟩ = some (.slice B' m' d') := (G12.out.cell hz1').trans (Q1.out 6)
  have k0 : w12.cell? ⟨w.heap.size + 1, 0, none⟩ = some (.int .i64 kk) := (G12.out.cell hz1).trans (P1.out 0)
  have k1 : w12.cell? ⟨w.heap.size + 1, 1, none⟩ = some (.string kn) := (G12.out.cell hz1).trans (P1.out 1)
  have hzw12 : w.heap.size + 1 < w12.heap.size := Nat.lt_of_lt_of_le hz1 G12.out.size
  have hyw12 : w.heap.size < w12.heap.size := by omega
  go_wp2_with fail
  refine (get_any r.key Ao no co (withoutT (withT l r) r.key) _ (by have h6 := List.length_filter_le (fun x : Rs => !decide (x.key = r.key)) (withT l r); have h7 := withT_up HS.out.2.2.1 r; have h8 : (withoutT (withT l r) r.key).length = no := HAo.out.len; unfold withoutT at h8; omega) (ResL.keep HAo.out R12.out.keep)).mono ?_
  rintro e w13 ⟨xT, CT, pT, fT, CT', pT', fT', rfl, hr', hv', hb⟩
  rw [get_withoutT (srt_withT HS.out.2.2.1 r), if_pos rfl] at hr' ⊢
  have HXT := Lib.hid hr'
  have HYT := Lib.hid hv'
  have G13 := Lib.hid (G12.out.trans (hb))
  have H13 := Lib.hid (H12.out.trans (hb))
  have L13 := Lib.hid (L12.out.trans (hb))
  have M13 := Lib.hid (M12.out.trans (hb))
  have N13 := Lib.hid (N12.out.trans (hb))
  have R13 := Lib.hid (R12.out.trans (hb))
  clear hb hr' hv' r0 r1 r2 r3 r4 r5 r6 k0 k1
  have r0 : w13.cell? ⟨w.heap.size, 0, none⟩ = some (.int .i64 r.kind) := (G13.out.cell hz1').trans (Q1.out 0)
  have r1 : w13.cell? ⟨w.heap.size, 1, none⟩ = some (.string r.name) := (G13.out.cell hz1').trans (Q1.out 1)
  have r2 : w13.cell? ⟨w.heap.size, 2, none⟩ = some (.int .i64 r.ver) := (G13.out.cell hz1').trans (Q1.out 2)
  have r3 : w13.cell? ⟨w.heap.size, 3, none⟩ = some (.int .i64 r.port) := (G13.out.cell hz1').trans (Q1.out 3)
  have r4 : w13.cell? ⟨w.heap.size, 4, none⟩ = some (.string r.to) := (G13.out.cell hz1').trans (Q1.out 4)
  have r5 : w13.cell? ⟨w.heap.size, 5, none⟩ = some (.slice B m d) := (G13.out.cell hz1').trans (Q1.out 5)
  have r6 : w13.cell? ⟨w.heap.size, 6, none⟩ = some (.slice B' m' d') := (G13.out.cell hz1').trans (Q1.out 6)
  have k0 : w13.cell? ⟨w.heap.size + 1, 0, none⟩ = some (.int .i64 kk) := (G13.out.cell hz1).trans (P1.out 0)
  have k1 : w13.cell? ⟨w.heap.size + 1, 1, none⟩ = some (.string kn) := (G13.out.cell hz1).trans (P1.out 1)
  have hzw13 : w.heap.size + 1 < w13.heap.size := Nat.lt_of_lt_of_le hz1 G13.out.size
  have hyw13 : w.heap.size < w13.heap.size := by omega
  unfold rsVal
  go_wp2_with fail
  have KXT := Lib.hid (heap_alloc_new w13 (.cells #[.int .i64 xT.kind, .string xT.name, .int .i64 xT.ver, .int .i64 xT.port, .string xT.to, .slice CT pT fT, .slice CT' pT' fT'] 36))
  have DT := Lib.hid (Ext.new w13 (.cells #[.int .i64 xT.kind, .string xT.name, .int .i64 xT.ver, .int .i64 xT.port, .string xT.to, .slice CT pT fT, .slice CT' pT' fT'] 36))
  have hzT : w13.heap.size < (w13.alloc (.cells #[.int .i64 xT.kind, .string xT.name, .int .i64 xT.ver, .int .i64 xT.port, .string xT.to, .slice CT pT fT, .slice CT' pT' fT'] 36)).heap.size := by simp
  generalize w13.alloc (.cells #[.int .i64 xT.kind, .string xT.name, .int .i64 xT.ver, .int .i64 xT.port, .string xT.to, .slice CT pT fT, .slice CT' pT' fT'] 36) = wVT at KXT DT hzT ⊢
  have GVT := Lib.hid (G13.out.trans (DT.out))
  have HVT := Lib.hid (H13.out.trans (DT.out))
  have LVT := Lib.hid (L13.out.trans (DT.out))
  have MVT := Lib.hid (M13.out.trans (DT.out))
  have NVT := Lib.hid (N13.out.trans (DT.out))
  have RVT := Lib.hid (R13.out.trans (DT.out))
  obtain ⟨bT, hbT⟩ : ∃ b, b = w13.heap.size := ⟨_, rfl⟩
  rw [← hbT] at KXT hzT ⊢
  clear hbT
  clear r0 r1 r2 r3 r4 r5 r6 k0 k1
  refine (key_any r B m d B' m' d' _).mono ?_
  rintro e w14 ⟨rfl, hb⟩
  have G14 := Lib.hid (GVT.out.trans (hb))
  have H14 := Lib.hid (HVT.out.trans (hb))
  have L14 := Lib.hid (LVT.out.trans (hb))
  have M14 := Lib.hid (MVT.out.trans (hb))
  have N14 := Lib.hid (NVT.out.trans (hb))
  have R14 := Lib.hid (RVT.out.trans (hb))
  clear hb
  have r0 : w14.cell? ⟨w.heap.size, 0, none⟩ = some (.int .i64 r.kind) := (G14.out.cell hz1').trans (Q1.out 0)
  have r1 : w14.cell? ⟨w.heap.size, 1, none⟩ = some (.string r.name) := (G14.out.cell hz1').trans (Q1.out 1)
  have r2 : w14.cell? ⟨w.heap.size, 2, none⟩ = some (.int .i64 r.ver) := (G14.out.cell hz1').trans (Q1.out 2)
  have r3 : w14.cell? ⟨w.heap.size, 3, none⟩ = some (.int .i64 r.port) := (G14.out.cell hz1').trans (Q1.out 3)
  have r4 : w14.cell? ⟨w.heap.size, 4, none⟩ = some (.string r.to) := (G14.out.cell hz1').trans (Q1.out 4)
  have r5 : w14.cell? ⟨w.heap.size, 5, none⟩ = some (.slice B m d) := (G14.out.cell hz1').trans (Q1.out 5)
  have r6 : w14.cell? ⟨w.heap.size, 6, none⟩ = some (.slice B' m' d') := (G14.out.cell hz1').trans (Q1.out 6)
  have k0 : w14.cell? ⟨w.heap.size + 1, 0, none⟩ = some (.int .i64 kk) := (G14.out.cell hz1).trans (P1.out 0)
  have k1 : w14.cell? ⟨w.heap.size + 1, 1, none⟩ = some (.string kn) := (G14.out.cell hz1).trans (P1.out 1)
  have hzw14 : w.heap.size + 1 < w14.heap.size := Nat.lt_of_lt_of_le hz1 G14.out.size
  have hyw14 : w.heap.size < w14.heap.size := by omega
  go_wp2_with fail
  refine (get_any r.key A n c l _ (by omega) (ResL.keep Ha.out (E1.out.trans G14.out).keep)).mono ?_
  rintro e w15 ⟨xU, CU, pU, fU, CU', pU', fU', rfl, hr', hv', hb⟩
  obtain ⟨oU, hoU⟩ : ∃ b, b = (getT l r.key).isSome := ⟨_, rfl⟩
  rw [← hoU]
  have HOU := Lib.hid hoU
  clear hoU
  have HXU := Lib.hid hr'
  have HYU := Lib.hid hv'
  have G15 := Lib.hid (G14.out.trans (hb))
  have H15 := Lib.hid (H14.out.trans (hb))
  have L15 := Lib.hid (L14.out.trans (hb))
  have M15 := Lib.hid (M14.out.trans (hb))
  have N15 := Lib.hid (N14.out.trans (hb))
  have R15 := Lib.hid (R14.out.trans (hb))
  clear hb hr' hv' r0 r1 r2 r3 r4 r5 r6 k0 k1
  have r0 : w15.cell? ⟨w.heap.size, 0, none⟩ = some (.int .i64 r.kind) := (G15.out.cell hz1').trans (Q1.out 0)
  have r1 : w15.cell? ⟨w.heap.size, 1, none⟩ = some (.string r.name) := (G15.out.cell hz1').trans (Q1.out 1)
  have r2 : w15.cell? ⟨w.heap.size, 2, none⟩ = some (.int .i64 r.ver) := (G15.out.cell hz1').trans (Q1.out 2)
  have r3 : w15.cell? ⟨w.heap.size, 3, none⟩ = some (.int .i64 r.port) := (G15.out.cell hz1').trans (Q1.out 3)
  have r4 : w15.cell? ⟨w.heap.size, 4, none⟩ = some (.string r.to) := (G15.out.cell hz1').trans (Q1.out 4)
  have r5 : w15.cell? ⟨w.heap.size, 5, none⟩ = some (.slice B m d) := (G15.out.cell hz1').trans (Q1.out 5)
  have r6 : w15.cell? ⟨w.heap.size, 6, none⟩ = some (.slice B' m' d') := (G15.out.cell hz1').trans (Q1.out 6)
  have k0 : w15.cell? ⟨w.heap.size + 1, 0, none⟩ = some (.int .i64 kk) := (G15.out.cell hz1).trans (P1.out 0)
  have k1 : w15.cell? ⟨w.heap.size + 1, 1, none⟩ = some (.string kn) := (G15.out.cell hz1).trans (P1.out 1)
  have hzw15 : w.heap.size + 1 < w15.heap.size := Nat.lt_of_lt_of_le hz1 G15.out.size
  have hyw15 : w.heap.size < w15.heap.size := by omega
  unfold rsVal
  go_wp2_with fail
  have KXU := Lib.hid (heap_alloc_new w15 (.cells #[.int .i64 xU.kind, .string xU.name, .int .i64 xU.ver, .int .i64 xU.port, .string xU.to, .slice CU pU fU, .slice CU' pU' fU'] 36))
  have DU := Lib.hid (Ext.new w15 (.cells #[.int .i64 xU.kind, .string xU.name, .int .i64 xU.ver, .int .i64 xU.port, .string xU.to, .slice CU pU fU, .slice CU' pU' fU'] 36))
  have hzU : w15.heap.size < (w15.alloc (.cells #[.int .i64 xU.kind, .string xU.name, .int .i64 xU.ver, .int .i64 xU.port, .string xU.to, .slice CU pU fU, .slice CU' pU' fU'] 36)).heap.size := by simp
  generalize w15.alloc (.cells #[.int .i64 xU.kind, .string xU.name, .int .i64 xU.ver, .int .i64 xU.port, .string xU.to, .slice CU pU fU, .slice CU' pU' fU'] 36) = wVU at KXU DU hzU ⊢
  have GVU := Lib.hid (G15.out.trans (DU.out))
  have HVU := Lib.hid (H15.out.trans (DU.out))
  have LVU := Lib.hid (L15.out.trans (DU.out))
  have MVU := Lib.hid (M15.out.trans (DU.out))
  have NVU := Lib.hid (N15.out.trans (DU.out))
  have RVU := Lib.hid (R15.out.trans (DU.out))
  obtain ⟨bU, hbU⟩ : ∃ b, b = w15.heap.size := ⟨_, rfl⟩
  rw [← hbU] at KXU hzU ⊢
  clear hbU
  clear r0 r1 r2 r3 r4 r5 r6 k0 k1
  have qX := Lib.hid (blk_rules KXX.out).1
  have qY := Lib.hid (blk_rules KXY.out).1
  have qZ := Lib.hid (blk_rules KXZ.out).1
  by_cases hkd : kk = r.kind
  · subst hkd
    by_cases hnm : kn = r.name
    · subst hnm
      have r0 : ∀ w', Ext wVU.drew w' → w'.cell? ⟨w.heap.size, 0, none⟩ = some (.int .i64 r.kind) := fun w' h => ((GVU.out.trans ((Ext.refl wVU).drew.trans h)).cell hz1').trans (Q1.out 0)
      have r1 : ∀ w', Ext wVU.drew w' → w'.cell? ⟨w.heap.size, 1, none⟩ = some (.string r.name) := fun w' h => ((GVU.out.trans ((Ext.refl wVU).drew.trans h)).cell hz1').trans (Q1.out 1)
      have r2 : ∀ w', Ext wVU.drew w' → w'.cell? ⟨w.heap.size, 2, none⟩ = some (.int .i64 r.ver) := fun w' h => ((GVU.out.trans ((Ext.refl wVU).drew.trans h)).cell hz1').trans (Q1.out 2)
      have r3 : ∀ w', Ext wVU.drew w' → w'.cell? ⟨w.heap.size, 3, none⟩ = some (.int .i64 r.port) := fun w' h => ((GVU.out.trans ((Ext.refl wVU).drew.trans h)).cell hz1').trans (Q1.out 3)
      have r4 : ∀ w', Ext wVU.drew w' → w'.cell? ⟨w.heap.size, 4, none⟩ = some (.string r.to) := fun w' h => ((GVU.out.trans ((Ext.refl wVU).drew.trans h)).cell hz1').trans (Q1.out 4)
      have r5 : ∀ w', Ext wVU.drew w' → w'.cell? ⟨w.heap.size, 5, none⟩ = some (.slice B m d) := fun w' h => ((GVU.out.trans ((Ext.refl wVU).drew.trans h)).cell hz1').trans (Q1.out 5)
      have r6 : ∀ w', Ext wVU.drew w' → w'.cell? ⟨w.heap.size, 6, none⟩ = some (.slice B' m' d') := fun w' h => ((GVU.out.trans ((Ext.refl wVU).drew.trans h)).cell hz1').trans (Q1.out 6)
      have x0 : ∀ w', Ext wVU.drew w' → w'.cell? ⟨bX, 0, none⟩ = some (.int .i64 r.kind) := fun w' h => ((LVU.out.trans ((Ext.refl wVU).drew.trans h)).cell hzX).trans (qX.out 0)
      have x1 : ∀ w', Ext wVU.drew w' → w'.cell? ⟨bX, 1, none⟩ = some (.string r.name) := fun w' h => ((LVU.out.trans ((Ext.refl wVU).drew.trans h)).cell hzX).trans (qX.out 1)
      have x2 : ∀ w', Ext wVU.drew w' → w'.cell? ⟨bX, 2, none⟩ = some (.int .i64 r.ver) := fun w' h => ((LVU.out.trans ((Ext.refl wVU).drew.trans h)).cell hzX).trans (qX.out 2)
      have x3 : ∀ w', Ext wVU.drew w' → w'.cell? ⟨bX, 3, none⟩ = some (.int .i64 r.port) := fun w' h => ((LVU.out.trans ((Ext.refl wVU).drew.trans h)).cell hzX).trans (qX.out 3)
      have x4 : ∀ w', Ext wVU.drew w' → w'.cell? ⟨bX, 4, none⟩ = some (.string r.to) := fun w' h => ((LVU.out.trans ((Ext.refl wVU).drew.trans h)).cell hzX).trans (qX.out 4)
      have x5 : ∀ w', Ext wVU.drew w' → w'.cell? ⟨bX, 5, none⟩ = some (.slice CX pX fX) := fun w' h => ((LVU.out.trans ((Ext.refl wVU).drew.trans h)).cell hzX).trans (qX.out 5)
      have x6 : ∀ w', Ext wVU.drew w' → w'.cell? ⟨bX, 6, none⟩ = some (.slice CX' pX' fX') := fun w' h => ((LVU.out.trans ((Ext.refl wVU).drew.trans h)).cell hzX).trans (qX.out 6)
      have y0 : ∀ w', Ext wVU.drew w' → w'.cell? ⟨bY, 0, none⟩ = some (.int .i64 xY.kind) := fun w' h => ((MVU.out.trans ((Ext.refl wVU).drew.trans h)).cell hzY).trans (qY.out 0)
      have y1 : ∀ w', Ext wVU.drew w' → w'.cell? ⟨bY, 1, none⟩ = some (.string xY.name) := fun w' h => ((MVU.out.trans ((Ext.refl wVU).drew.trans h)).cell hzY).trans (qY.out 1)
      have y2 : ∀ w', Ext wVU.drew w' → w'.cell? ⟨bY, 2, none⟩ = some (.int .i64 xY.ver) := fun w' h => ((MVU.out.trans ((Ext.refl wVU).drew.trans h)).cell hzY).trans (qY.out 2)
      have y3 : ∀ w', Ext wVU.drew w' → w'.cell? ⟨bY, 3, none⟩ = some (.int .i64 xY.port) := fun w' h => ((MVU.out.trans ((Ext.refl wVU).drew.trans h)).cell hzY).trans (qY.out 3)
      have y4 : ∀ w', Ext wVU.drew w' → w'.cell? ⟨bY, 4, none⟩ = some (.string xY.to) := fun w' h => ((MVU.out.trans ((Ext.refl wVU).drew.trans h)).cell hzY).trans (qY.out 4)
      have y5 : ∀ w', Ext wVU.drew w' → w'.cell? ⟨bY, 5, none⟩ = some (.slice CY pY fY) := fun w' h => ((MVU.out.trans ((Ext.refl wVU).drew.trans h)).cell hzY).trans (qY.out 5)
      have y6 : ∀ w', Ext wVU.drew w' → w'.cell? ⟨bY, 6, none⟩ = some (.slice CY' pY' fY') := fun w' h => ((MVU.out.trans ((Ext.refl wVU).drew.trans h)).cell hzY).trans (qY.out 6)
      have z0 : ∀ w', Ext wVU.drew w' → w'.cell? ⟨bZ, 0, none⟩ = some (.int .i64 xZ.kind) := fun w' h => ((NVU.out.trans ((Ext.refl wVU).drew.trans h)).cell hzZ).trans (qZ.out 0)
      have z1 : ∀ w', Ext wVU.drew w' → w'.cell? ⟨bZ, 1, none⟩ = some (.string xZ.name) := fun w' h => ((NVU.out.trans ((Ext.refl wVU).drew.trans h)).cell hzZ).trans (qZ.out 1)
      have z2 : ∀ w', Ext wVU.drew w' → w'.cell? ⟨bZ, 2, none⟩ = some (.int .i64 xZ.ver) := fun w' h => ((NVU.out.trans ((Ext.refl wVU).drew.trans h)).cell hzZ).trans (qZ.out 2)
      have z3 : ∀ w', Ext wVU.drew w' → w'.cell? ⟨bZ, 3, none⟩ = some (.int .i64 xZ.port) := fun w' h => ((NVU.out.trans ((Ext.refl wVU).drew.trans h)).cell hzZ).trans (qZ.out 3)
      have z4 : ∀ w', Ext wVU.drew w' → w'.cell? ⟨bZ, 4, none⟩ = some (.string xZ.to) := fun w' h => ((NVU.out.trans ((Ext.refl wVU).drew.trans h)).cell hzZ).trans (qZ.out 4)
      have z5 : ∀ w', Ext wVU.drew w' → w'.cell? ⟨bZ, 5, none⟩ = some (.slice CZ pZ fZ) := fun w' h => ((NVU.out.trans ((Ext.refl wVU).drew.trans h)).cell hzZ).trans (qZ.out 5)
      have z6 : ∀ w', Ext wVU.drew w' → w'.cell? ⟨bZ, 6, none⟩ = some (.slice CZ' pZ' fZ') := fun w' h => ((NVU.out.trans ((Ext.refl wVU).drew.trans h)).cell hzZ).trans (qZ.out 6)
      have k0 : ∀ w', Ext wVU.drew w' → w'.cell? ⟨w.heap.size + 1, 0, none⟩ = some (.int .i64 r.kind) := fun w' h => ((GVU.out.trans ((Ext.refl wVU).drew.trans h)).cell hz1).trans (P1.out 0)
      have k1 : ∀ w', Ext wVU.drew w' → w'.cell? ⟨w.heap.size + 1, 1, none⟩ = some (.string r.name) := fun w' h => ((GVU.out.trans ((Ext.refl wVU).drew.trans h)).cell hz1).trans (P1.out 1)
      go_wp2_with fail
      have hSw : Ext wVU.drew wVU.drew := Ext.refl _
      refine wpS_begin (Ext wVU.drew) (by kernel_rfl) ?_
      refine wpS_take 0 (v := ?_) hSw rfl (by kernel_rfl) (by kernel_rfl) (by kernel_rfl) (by rfl) (fun w' hin => ?_) ?_
      rotate_left
      · (try simp only [] at hin); go_simp <;> with_reducible rfl
      try simp only [Act.put, List.setIfInBounds_toArray, List.set_cons_zero, List.set_cons_succ]
      refine wpS_take 1 (v := ?_) hSw rfl (by kernel_rfl) (by kernel_rfl) (by kernel_rfl) (by rfl) (fun w' hin => ?_) ?_
      rotate_left
      · (try simp only [] at hin); go_simp <;> with_reducible rfl
      try simp only [Act.put, List.setIfInBounds_toArray, List.set_cons_zero, List.set_cons_succ]
      refine wpS_take 2 (v := ?_) hSw rfl (by kernel_rfl) (by kernel_rfl) (by kernel_rfl) (by rfl) (fun w' hin => ?_) ?_
      rotate_left
      · (try simp only [] at hin); go_simp <;> with_reducible rfl
      try simp only [Act.put, List.setIfInBounds_toArray, List.set_cons_zero, List.set_cons_succ]
      refine wpS_take 3 (v := ?_) hSw rfl (by kernel_rfl) (by kernel_rfl) (by kernel_rfl) (by rfl) (fun w' hin => ?_) ?_
      rotate_left
      · (try simp only [] at hin); go_simp <;> with_reducible rfl
      try simp only [Act.put, List.setIfInBounds_toArray, List.set_cons_zero, List.set_cons_succ]
      refine wpS_take 4 (v := ?_) hSw rfl (by kernel_rfl) (by kernel_rfl) (by kernel_rfl) (by rfl) (fun w' hin => ?_) ?_
      rotate_left
      · (try simp only [] at hin); go_simp <;> with_reducible rfl
      try simp only [Act.put, List.setIfInBounds_toArray, List.set_cons_zero, List.set_cons_succ]
      refine wpS_one 5 rfl (by kernel_rfl) (by rfl) (fun K hK => ?_)
      go_simp
      refine (same_any All All r r CX pX fX CX' pX' fX' B m d B' m' d' _ (HYX.out.up ((DX.out.trans LVU.out).trans ((Ext.refl wVU).drew.trans hSw))) (HV.out.up ((E1.out.trans GVU.out).trans ((Ext.refl wVU).drew.trans hSw)))).mono ?_
      rintro e wa5 ⟨rfl, hba5⟩
      have Ea5 : Ext wVU.drew wa5 := Ext.trans hSw hba5
      rw [sameR_self]
      simp only []
      refine hK.out _ _ (Ext wVU.drew) (fun _ h => h) (Ea5) (fun hSw => ?_)
      clear hK K
      try simp only [Act.put, List.setIfInBounds_toArray, List.set_cons_zero, List.set_cons_succ]
      refine wpS_take 6 (v := ?_) hSw rfl (by kernel_rfl) (by kernel_rfl) (by kernel_rfl) (by rfl) (fun w' hin => ?_) ?_
      rotate_left
      · (try simp only [] at hin); go_simp <;> with_reducible rfl
      try simp only [Act.put, List.setIfInBounds_toArray, List.set_cons_zero, List.set_cons_succ]
      refine wpS_take 7 (v := ?_) hSw rfl (by kernel_rfl) (by kernel_rfl) (by kernel_rfl) (by rfl) (fun w' hin => ?_) ?_
      rotate_left
      · (try simp only [] at hin); go_simp <;> with_reducible rfl
      try simp only [Act.put, List.setIfInBounds_toArray, List.set_cons_zero, List.set_cons_succ]
      refine wpS_take 8 (v := ?_) hSw rfl (by kernel_rfl) (by kernel_rfl) (by kernel_rfl) (by rfl) (fun w' hin => ?_) ?_
      rotate_left
      · (try simp only [] at hin); go_simp <;> with_reducible rfl
      try simp only [Act.put, List.setIfInBounds_toArray, List.set_cons_zero, List.set_cons_succ]
      refine wpS_take 9 (v := ?_) hSw rfl (by kernel_rfl) (by kernel_rfl) (by kernel_rfl) (by rfl) (fun w' hin => ?_) ?_
      rotate_left
      · (try simp only [] at hin); go_simp <;> with_reducible rfl
      try simp only [Act.put, List.setIfInBounds_toArray, List.set_cons_zero, List.set_cons_succ]
      refine wpS_take 10 (v := ?_) hSw rfl (by kernel_rfl) (by kernel_rfl) (by kernel_rfl) (by rfl) (fun w' hin => ?_) ?_
      rotate_left
      · (try simp only [] at hin); go_simp <;> with_reducible rfl
      try simp only [Act.put, List.setIfInBounds_toArray, List.set_cons_zero, List.set_cons_succ]
      refine wpS_one 11 rfl (by kernel_rfl) (by rfl) (fun K hK => ?_)
      go_simp
      refine (key_any r B m d B' m' d' _).mono ?_
      rintro e wa11 ⟨rfl, hba11⟩
      have Ea11 : Ext wVU.drew wa11 := Ext.trans Ea5 hba11
      simp only []
      refine hK.out _ _ (Ext wVU.drew) (fun _ h => h) (Ea11) (fun hSw => ?_)
      clear hK K
      try simp only [Act.put, List.setIfInBounds_toArray, List.set_cons_zero, List.set_cons_succ]
      refine wpS_take 12 (v := ?_) hSw rfl (by kernel_rfl) (by kernel_rfl) (by kernel_rfl) (by rfl) (fun w' hin => ?_) ?_
      rotate_left
      · (try simp only [] at hin); go_simp <;> with_reducible rfl
      try simp only [Act.put, List.setIfInBounds_toArray, List.set_cons_zero, List.set_cons_succ]
      refine wpS_take 13 (v := ?_) hSw rfl (by kernel_rfl) (by kernel_rfl) (by kernel_rfl) (by rfl) (fun w' hin => ?_) ?_
      rotate_left
      · (try simp only [] at hin); go_simp <;> with_reducible rfl
      try simp only [Act.put, List.setIfInBounds_toArray, List.set_cons_zero, List.set_cons_succ]
      refine wpS_skip 14 hSw rfl (by kernel_rfl) (by kernel_rfl) (by kernel_rfl) (by rfl) ?_
      try simp only [Act.put, List.setIfInBounds_toArray, List.set_cons_zero, List.set_cons_succ]
      refine wpS_skip 15 hSw rfl (by kernel_rfl) (by kernel_rfl) (by kernel_rfl) (by rfl) ?_
      try simp only [Act.put, List.setIfInBounds_toArray, List.set_cons_zero, List.set_cons_succ]
      refine wpS_skip 16 hSw rfl (by kernel_rfl) (by kernel_rfl) (by kernel_rfl) (by rfl) ?_
      try simp only [Act.put, List.setIfInBounds_toArray, List.set_cons_zero, List.set_cons_succ]
      refine wpS_skip 17 hSw rfl (by kernel_rfl) (by kernel_rfl) (by kernel_rfl) (by rfl) ?_
      try simp only [Act.put, List.setIfInBounds_toArray, List.set_cons_zero, List.set_cons_succ]
      refine wpS_skip 18 hSw rfl (by kernel_rfl) (by kernel_rfl) (by kernel_rfl) (by rfl) ?_
      try simp only [Act.put, List.setIfInBounds_toArray, List.set_cons_zero, List.set_cons_succ]
      refine wpS_skip 19 hSw rfl (by kernel_rfl) (by kernel_rfl) (by kernel_rfl) (by rfl) ?_
      try simp only [Act.put, List.setIfInBounds_toArray, List.set_cons_zero, List.set_cons_succ]
      refine wpS_skip 20 hSw rfl (by kernel_rfl) (by kernel_rfl) (by kernel_rfl) (by rfl) ?_
      try simp only [Act.put, List.setIfInBounds_toArray, List.set_cons_zero, List.set_cons_succ]
      refine wpS_skip 21 hSw rfl (by kernel_rfl) (by kernel_rfl) (by kernel_rfl) (by rfl) ?_
      try simp only [Act.put, List.setIfInBounds_toArray, List.set_cons_zero, List.set_cons_succ]
      refine wpS_skip 22 hSw rfl (by kernel_rfl) (by kernel_rfl) (by kernel_rfl) (by rfl) ?_
      try simp only [Act.put, List.setIfInBounds_toArray, List.set_cons_zero, List.set_cons_succ]
      refine wpS_take 23 (v := ?_) hSw rfl (by kernel_rfl) (by kernel_rfl) (by kernel_rfl) (by rfl) (fun w' hin => ?_) ?_
      rotate_left
      · (try simp only [] at hin); go_simp <;> with_reducible rfl
      try simp only [Act.put, List.setIfInBounds_toArray, List.set_cons_zero, List.set_cons_succ]
      refine wpS_take 24 (v := ?_) hSw rfl (by kernel_rfl) (by kernel_rfl) (by kernel_rfl) (by rfl) (fun w' hin => ?_) ?_
      rotate_left
      · (try simp only [] at hin); go_simp <;> with_reducible rfl
      try simp only [Act.put, List.setIfInBounds_toArray, List.set_cons_zero, List.set_cons_succ]
      refine wpS_take 25 (v := ?_) hSw rfl (by kernel_rfl) (by kernel_rfl) (by kernel_rfl) (by rfl) (fun w' hin => ?_) ?_
      rotate_left
      · (try simp only [] at hin); go_simp <;> with_reducible rfl
      try simp only [Act.put, List.setIfInBounds_toArray, List.set_cons_zero, List.set_cons_succ]
      refine wpS_take 26 (v := ?_) hSw rfl (by kernel_rfl) (by kernel_rfl) (by kernel_rfl) (by rfl) (fun w' hin => ?_) ?_
      rotate_left
      · (try simp only [] at hin); go_simp <;> with_reducible rfl
      try simp only [Act.put, List.setIfInBounds_toArray, List.set_cons_zero, List.set_cons_succ]
      refine wpS_take 27 (v := ?_) hSw rfl (by kernel_rfl) (by kernel_rfl) (by kernel_rfl) (by rfl) (fun w' hin => ?_) ?_
      rotate_left
      · (try simp only [] at hin); go_simp <;> with_reducible rfl
      try simp only [Act.put, List.setIfInBounds_toArray, List.set_cons_zero, List.set_cons_succ]
      refine wpS_take 28 (v := ?_) hSw rfl (by kernel_rfl) (by kernel_rfl) (by kernel_rfl) (by rfl) (fun w' hin => ?_) ?_
      rotate_left
      · (try simp only [] at hin); go_simp <;> with_reducible rfl
      try simp only [Act.put, List.setIfInBounds_toArray, List.set_cons_zero, List.set_cons_succ]
      refine wpS_take 29 (v := ?_) hSw rfl (by kernel_rfl) (by kernel_rfl) (by kernel_rfl) (by rfl) (fun w' hin => ?_) ?_
      rotate_left
      · (try simp only [] at hin); go_simp <;> with_reducible rfl
      try simp only [Act.put, List.setIfInBounds_toArray, List.set_cons_zero, List.set_cons_succ]
      refine wpS_take 30 (v := ?_) hSw rfl (by kernel_rfl) (by kernel_rfl) (by kernel_rfl) (by rfl) (fun w' hin => ?_) ?_
      rotate_left
      · (try simp only [] at hin); go_simp <;> with_reducible rfl
      try simp only [Act.put, List.setIfInBounds_toArray, List.set_cons_zero, List.set_cons_succ]
      refine wpS_take 31 (v := ?_) hSw rfl (by kernel_rfl) (by kernel_rfl) (by kernel_rfl) (by rfl) (fun w' hin => ?_) ?_
      rotate_left
      · (try simp only [] at hin); go_simp <;> with_reducible rfl
      try simp only [Act.put, List.setIfInBounds_toArray, List.set_cons_zero, List.set_cons_succ]
      refine wpS_one 32 rfl (by kernel_rfl) (by rfl) (fun K hK => ?_)
      go_simp
      refine (key_any r B m d B' m' d' _).mono ?_
      rintro e wa32 ⟨rfl, hba32⟩
      have Ea32 : Ext wVU.drew wa32 := Ext.trans Ea11 hba32
      simp only []
      refine hK.out _ _ (Ext wVU.drew) (fun _ h => h) (Ea32) (fun hSw => ?_)
      clear hK K
      try simp only [Act.put, List.setIfInBounds_toArray, List.set_cons_zero, List.set_cons_succ]
      refine wpS_one 33 rfl (by kernel_rfl) (by rfl) (fun K hK => ?_)
      go_simp
      refine (without_any r.key A n c l _ HSLa.out (by omega) (ResL.keep Ha.out ((E1.out.trans GVU.out).trans ((Ext.refl wVU).drew.trans hSw)).keep)).mono ?_
      rintro e wa33 ⟨Cq, pq, fq, rfl, hsq, hAq, hba33⟩
      have Ea33 : Ext wVU.drew wa33 := Ext.trans Ea32 hba33
      simp only []
      refine hK.out _ _ (Ext wVU.drew) (fun _ h => h) (Ea33) (fun hSw => ?_)
      clear hK K
      try simp only [Act.put, List.setIfInBounds_toArray, List.set_cons_zero, List.set_cons_succ]
      refine wpS_one 34 rfl (by kernel_rfl) (by rfl) (fun K hK => ?_)
      go_simp
      refine (tabSame_any Ao Cq no co pq fq (withoutT (withT l r) r.key) (withoutT l r.key) _ (Nat.le_trans HSo.out.1 HSo.out.2.1) (Nat.le_trans hsq.1 hsq.2.1) (ResL.keep HAo.out (RVU.out.trans ((Ext.refl wVU).drew.trans hSw)).keep) hAq).mono ?_
      rintro e wa34 ⟨rfl, hba34⟩
      have Ea34 : Ext wVU.drew wa34 := Ext.trans Ea33 hba34
      rw [decide_eq_true (without_withT HS.out.2.2.1 r)]
      simp only []
      refine hK.out _ _ (Ext wVU.drew) (fun _ h => h) (Ea34) (fun hSw => ?_)
      clear hK K
      try simp only [Act.put, List.setIfInBounds_toArray, List.set_cons_zero, List.set_cons_succ]
      refine wpS_take 35 (v := ?_) hSw rfl (by kernel_rfl) (by kernel_rfl) (by kernel_rfl) (by rfl) (fun w' hin => ?_) ?_
      rotate_left
      · (try simp only [] at hin); go_simp <;> with_reducible rfl
      try simp only [Act.put, List.setIfInBounds_toArray, List.set_cons_zero, List.set_cons_succ]
      refine wpS_take 36 (v := ?_) hSw rfl (by kernel_rfl) (by kernel_rfl) (by kernel_rfl) (by rfl) (fun w' hin => ?_) ?_
      rotate_left
      · (try simp only [] at hin); go_simp <;> with_reducible rfl
      try simp only [Act.put, List.setIfInBounds_toArray, List.set_cons_zero, List.set_cons_succ]
      refine wpS_done (by kernel_rfl) ?_
      have E8 := Lib.hid ((Ext.refl wVU).drew.trans hSw)
      have E9 := Lib.hid ((E1.out.trans GVU.out).trans ((Ext.refl wVU).drew.trans hSw))
      clear r0 r1 r2 r3 r4 r5 r6 x0 x1 x2 x3 x4 x5 x6 y0 y1 y2 y3 y4 y5 y6 z0 z1 z2 z3 z4 z5 z6 k0 k1 hSw
      cases oU with
      | true =>
        have hn1 : nw = n := by have h8 := len_withT HS.out.2.2.1 r; rw [← HOU.out] at h8; simp only [if_true] at h8; omega
        have hn2 : ((nw : Int) == (n : Int)) = true := by rw [hn1]; simp
        go_wp2_with fail
        go_ret
        exact ⟨rfl, E9.out⟩
      | false =>
        have hn1 : nw = n + 1 := by have h8 := len_withT HS.out.2.2.1 r; rw [← HOU.out] at h8; simp only [Bool.false_eq_true, if_false] at h8; omega
        have hn2 : ((nw : Int) == (n : Int) + 1) = true := by rw [hn1]; simp
        have hon : withoutT (withT l r) r.key = l := by
          rw [without_withT HS.out.2.2.1 r]
          refine without_none ?_
          have h8 := HOU.out
          cases hg : getT l r.key with
          | none => rfl
          | some x => rw [hg] at h8; cases h8
        have HON := Lib.hid hon
        clear hon
        go_wp2_with fail
        refine (tabSame_any Ao A no co n c (withoutT (withT l r) r.key) l _ (Nat.le_trans HSo.out.1 HSo.out.2.1) HMa.out (ResL.keep HAo.out (RVU.out.trans E8.out).keep) (ResL.keep Ha.out E9.out.keep)).mono ?_
        rintro e wz ⟨rfl, hbz⟩
        rw [decide_eq_true HON.out]
        have E10 := Lib.hid (E9.out.trans hbz)
        clear hbz
        go_wp2_with fail
        go_ret
        exact ⟨rfl, E10.out⟩
    · have hq : ¬ kn.toList = r.name.toList := fun e => hnm (tx_inj (by rw [← tx_toList, ← tx_toList]; exact e))
      have hkk : (⟨r.kind, kn⟩ : Ky) ≠ r.key := fun e => hnm (by injection e)
      have hg : getT (withT l r) ⟨r.kind, kn⟩ = getT l ⟨r.kind, kn⟩ := by rw [get_withT HS.out.2.2.1, if_neg hkk]
      obtain rfl : oY = oZ := by rw [HOY.out, HOZ.out, hg]
      obtain rfl : xY = xZ := by
        have a := HXY.out
        rw [hg] at a
        exact a.symm.trans HXZ.out
      have hoo : (oY != oY) = false := by simp
      clear hg hkk
      have r0 : ∀ w', Ext wVU.drew w' → w'.cell? ⟨w.heap.size, 0, none⟩ = some (.int .i64 r.kind) := fun w' h => ((GVU.out.trans ((Ext.refl wVU).drew.trans h)).cell hz1').trans (Q1.out 0)
      have r1 : ∀ w', Ext wVU.drew w' → w'.cell? ⟨w.heap.size, 1, none⟩ = some (.string r.name) := fun w' h => ((GVU.out.trans ((Ext.refl wVU).drew.trans h)).cell hz1').trans (Q1.out 1)
      have r2 : ∀ w', Ext wVU.drew w' → w'.cell? ⟨w.heap.size, 2, none⟩ = some (.int .i64 r.ver) := fun w' h => ((GVU.out.trans ((Ext.refl wVU).drew.trans h)).cell hz1').trans (Q1.out 2)
      have r3 : ∀ w', Ext wVU.drew w' → w'.cell? ⟨w.heap.size, 3, none⟩ = some (.int .i64 r.port) := fun w' h => ((GVU.out.trans ((Ext.refl wVU).drew.trans h)).cell hz1').trans (Q1.out 3)
      have r4 : ∀ w', Ext wVU.drew w' → w'.cell? ⟨w.heap.size, 4, none⟩ = some (.string r.to) := fun w' h => ((GVU.out.trans ((Ext.refl wVU).drew.trans h)).cell hz1').trans (Q1.out 4)
      have r5 : ∀ w', Ext wVU.drew w' → w'.cell? ⟨w.heap.size, 5, none⟩ = some (.slice B m d) := fun w' h => ((GVU.out.trans ((Ext.refl wVU).drew.trans h)).cell hz1').trans (Q1.out 5)
      have r6 : ∀ w', Ext wVU.drew w' → w'.cell? ⟨w.heap.size, 6, none⟩ = some (.slice B' m' d') := fun w' h => ((GVU.out.trans ((Ext.refl wVU).drew.trans h)).cell hz1').trans (Q1.out 6)
      have x0 : ∀ w', Ext wVU.drew w' → w'.cell? ⟨bX, 0, none⟩ = some (.int .i64 r.kind) := fun w' h => ((LVU.out.trans ((Ext.refl wVU).drew.trans h)).cell hzX).trans (qX.out 0)
      have x1 : ∀ w', Ext wVU.drew w' → w'.cell? ⟨bX, 1, none⟩ = some (.string r.name) := fun w' h => ((LVU.out.trans ((Ext.refl wVU).drew.trans h)).cell hzX).trans (qX.out 1)
      have x2 : ∀ w', Ext wVU.drew w' → w'.cell? ⟨bX, 2, none⟩ = some (.int .i64 r.ver) := fun w' h => ((LVU.out.trans ((Ext.refl wVU).drew.trans h)).cell hzX).trans (qX.out 2)
      have x3 : ∀ w', Ext wVU.drew w' → w'.cell? ⟨bX, 3, none⟩ = some (.int .i64 r.port) := fun w' h => ((LVU.out.trans ((Ext.refl wVU).drew.trans h)).cell hzX).trans (qX.out 3)
      have x4 : ∀ w', Ext wVU.drew w' → w'.cell? ⟨bX, 4, none⟩ = some (.string r.to) := fun w' h => ((LVU.out.trans ((Ext.refl wVU).drew.trans h)).cell hzX).trans (qX.out 4)
      have x5 : ∀ w', Ext wVU.drew w' → w'.cell? ⟨bX, 5, none⟩ = some (.slice CX pX fX) := fun w' h => ((LVU.out.trans ((Ext.refl wVU).drew.trans h)).cell hzX).trans (qX.out 5)
      have x6 : ∀ w', Ext wVU.drew w' → w'.cell? ⟨bX, 6, none⟩ = some (.slice CX' pX' fX') := fun w' h => ((LVU.out.trans ((Ext.refl wVU).drew.trans h)).cell hzX).trans (qX.out 6)
      have y0 : ∀ w', Ext wVU.drew w' → w'.cell? ⟨bY, 0, none⟩ = some (.int .i64 xY.kind) := fun w' h => ((MVU.out.trans ((Ext.refl wVU).drew.trans h)).cell hzY).trans (qY.out 0)
      have y1 : ∀ w', Ext wVU.drew w' → w'.cell? ⟨bY, 1, none⟩ = some (.string xY.name) := fun w' h => ((MVU.out.trans ((Ext.refl wVU).drew.trans h)).cell hzY).trans (qY.out 1)
      have y2 : ∀ w', Ext wVU.drew w' → w'.cell? ⟨bY, 2, none⟩ = some (.int .i64 xY.ver) := fun w' h => ((MVU.out.trans ((Ext.refl wVU).drew.trans h)).cell hzY).trans (qY.out 2)
      have y3 : ∀ w', Ext wVU.drew w' → w'.cell? ⟨bY, 3, none⟩ = some (.int .i64 xY.port) := fun w' h => ((MVU.out.trans ((Ext.refl wVU).drew.trans h)).cell hzY).trans (qY.out 3)
      have y4 : ∀ w', Ext wVU.drew w' → w'.cell? ⟨bY, 4, none⟩ = some (.string xY.to) := fun w' h => ((MVU.out.trans ((Ext.refl wVU).drew.trans h)).cell hzY).trans (qY.out 4)
      have y5 : ∀ w', Ext wVU.drew w' → w'.cell? ⟨bY, 5, none⟩ = some (.slice CY pY fY) := fun w' h => ((MVU.out.trans ((Ext.refl wVU).drew.trans h)).cell hzY).trans (qY.out 5)
      have y6 : ∀ w', Ext wVU.drew w' → w'.cell? ⟨bY, 6, none⟩ = some (.slice CY' pY' fY') := fun w' h => ((MVU.out.trans ((Ext.refl wVU).drew.trans h)).cell hzY).trans (qY.out 6)
      have z0 : ∀ w', Ext wVU.drew w' → w'.cell? ⟨bZ, 0, none⟩ = some (.int .i64 xY.kind) := fun w' h => ((NVU.out.trans ((Ext.refl wVU).drew.trans h)).cell hzZ).trans (qZ.out 0)
      have z1 : ∀ w', Ext wVU.drew w' → w'.cell? ⟨bZ, 1, none⟩ = some (.string xY.name) := fun w' h => ((NVU.out.trans ((Ext.refl wVU).drew.trans h)).cell hzZ).trans (qZ.out 1)
      have z2 : ∀ w', Ext wVU.drew w' → w'.cell? ⟨bZ, 2, none⟩ = some (.int .i64 xY.ver) := fun w' h => ((NVU.out.trans ((Ext.refl wVU).drew.trans h)).cell hzZ).trans (qZ.out 2)
      have z3 : ∀ w', Ext wVU.drew w' → w'.cell? ⟨bZ, 3, none⟩ = some (.int .i64 xY.port) := fun w' h => ((NVU.out.trans ((Ext.refl wVU).drew.trans h)).cell hzZ).trans (qZ.out 3)
      have z4 : ∀ w', Ext wVU.drew w' → w'.cell? ⟨bZ, 4, none⟩ = some (.string xY.to) := fun w' h => ((NVU.out.trans ((Ext.refl wVU).drew.trans h)).cell hzZ).trans (qZ.out 4)
      have z5 : ∀ w', Ext wVU.drew w' → w'.cell? ⟨bZ, 5, none⟩ = some (.slice CZ pZ fZ) := fun w' h => ((NVU.out.trans ((Ext.refl wVU).drew.trans h)).cell hzZ).trans (qZ.out 5)
      have z6 : ∀ w', Ext wVU.drew w' → w'.cell? ⟨bZ, 6, none⟩ = some (.slice CZ' pZ' fZ') := fun w' h => ((NVU.out.trans ((Ext.refl wVU).drew.trans h)).cell hzZ).trans (qZ.out 6)
      have k0 : ∀ w', Ext wVU.drew w' → w'.cell? ⟨w.heap.size + 1, 0, none⟩ = some (.int .i64 r.kind) := fun w' h => ((GVU.out.trans ((Ext.refl wVU).drew.trans h)).cell hz1).trans (P1.out 0)
      have k1 : ∀ w', Ext wVU.drew w' → w'.cell? ⟨w.heap.size + 1, 1, none⟩ = some (.string kn) := fun w' h => ((GVU.out.trans ((Ext.refl wVU).drew.trans h)).cell hz1).trans (P1.out 1)
      go_wp2_with fail
      have hSw : Ext wVU.drew wVU.drew := Ext.refl _
      refine wpS_begin (Ext wVU.drew) (by kernel_rfl) ?_
      refine wpS_take 0 (v := ?_) hSw rfl (by kernel_rfl) (by kernel_rfl) (by kernel_rfl) (by rfl) (fun w' hin => ?_) ?_
      rotate_left
      · (try simp only [] at hin); go_simp <;> with_reducible rfl
      try simp only [Act.put, List.setIfInBounds_toArray, List.set_cons_zero, List.set_cons_succ]
      refine wpS_take 1 (v := ?_) hSw rfl (by kernel_rfl) (by kernel_rfl) (by kernel_rfl) (by rfl) (fun w' hin => ?_) ?_
      rotate_left
      · (try simp only [] at hin); go_simp <;> with_reducible rfl
      try simp only [Act.put, List.setIfInBounds_toArray, List.set_cons_zero, List.set_cons_succ]
      refine wpS_take 2 (v := ?_) hSw rfl (by kernel_rfl) (by kernel_rfl) (by kernel_rfl) (by rfl) (fun w' hin => ?_) ?_
      rotate_left
      · (try simp only [] at hin); go_simp <;> with_reducible rfl
      try simp only [Act.put, List.setIfInBounds_toArray, List.set_cons_zero, List.set_cons_succ]
      refine wpS_take 3 (v := ?_) hSw rfl (by kernel_rfl) (by kernel_rfl) (by kernel_rfl) (by rfl) (fun w' hin => ?_) ?_
      rotate_left
      · (try simp only [] at hin); go_simp <;> with_reducible rfl
      try simp only [Act.put, List.setIfInBounds_toArray, List.set_cons_zero, List.set_cons_succ]
      refine wpS_take 4 (v := ?_) hSw rfl (by kernel_rfl) (by kernel_rfl) (by kernel_rfl) (by rfl) (fun w' hin => ?_) ?_
      rotate_left
      · (try simp only [] at hin); go_simp <;> with_reducible rfl
      try simp only [Act.put, List.setIfInBounds_toArray, List.set_cons_zero, List.set_cons_succ]
      refine wpS_one 5 rfl (by kernel_rfl) (by rfl) (fun K hK => ?_)
      go_simp
      refine (same_any All All r r CX pX fX CX' pX' fX' B m d B' m' d' _ (HYX.out.up ((DX.out.trans LVU.out).trans ((Ext.refl wVU).drew.trans hSw))) (HV.out.up ((E1.out.trans GVU.out).trans ((Ext.refl wVU).drew.trans hSw)))).mono ?_
      rintro e wa5 ⟨rfl, hba5⟩
      have Ea5 : Ext wVU.drew wa5 := Ext.trans hSw hba5
      rw [sameR_self]
      simp only []
      refine hK.out _ _ (Ext wVU.drew) (fun _ h => h) (Ea5) (fun hSw => ?_)
      clear hK K
      try simp only [Act.put, List.setIfInBounds_toArray, List.set_cons_zero, List.set_cons_succ]
      refine wpS_take 6 (v := ?_) hSw rfl (by kernel_rfl) (by kernel_rfl) (by kernel_rfl) (by rfl) (fun w' hin => ?_) ?_
      rotate_left
      · (try simp only [] at hin); go_simp <;> with_reducible rfl
      try simp only [Act.put, List.setIfInBounds_toArray, List.set_cons_zero, List.set_cons_succ]
      refine wpS_take 7 (v := ?_) hSw rfl (by kernel_rfl) (by kernel_rfl) (by kernel_rfl) (by rfl) (fun w' hin => ?_) ?_
      rotate_left
      · (try simp only [] at hin); go_simp <;> with_reducible rfl
      try simp only [Act.put, List.setIfInBounds_toArray, List.set_cons_zero, List.set_cons_succ]
      refine wpS_take 8 (v := ?_) hSw rfl (by kernel_rfl) (by kernel_rfl) (by kernel_rfl) (by rfl) (fun w' hin => ?_) ?_
      rotate_left
      · (try simp only [] at hin); go_simp <;> with_reducible rfl
      try simp only [Act.put, List.setIfInBounds_toArray, List.set_cons_zero, List.set_cons_succ]
      refine wpS_take 9 (v := ?_) hSw rfl (by kernel_rfl) (by kernel_rfl) (by kernel_rfl) (by rfl) (fun w' hin => ?_) ?_
      rotate_left
      · (try simp only [] at hin); go_simp <;> with_reducible rfl
      try simp only [Act.put, List.setIfInBounds_toArray, List.set_cons_zero, List.set_cons_succ]
      refine wpS_take 10 (v := ?_) hSw rfl (by kernel_rfl) (by kernel_rfl) (by kernel_rfl) (by rfl) (fun w' hin => ?_) ?_
      rotate_left
      · (try simp only [] at hin); go_simp <;> with_reducible rfl
      try simp only [Act.put, List.setIfInBounds_toArray, List.set_cons_zero, List.set_cons_succ]
      refine wpS_one 11 rfl (by kernel_rfl) (by rfl) (fun K hK => ?_)
      go_simp
      refine (key_any r B m d B' m' d' _).mono ?_
      rintro e wa11 ⟨rfl, hba11⟩
      have Ea11 : Ext wVU.drew wa11 := Ext.trans Ea5 hba11
      simp only []
      refine hK.out _ _ (Ext wVU.drew) (fun _ h => h) (Ea11) (fun hSw => ?_)
      clear hK K
      try simp only [Act.put, List.setIfInBounds_toArray, List.set_cons_zero, List.set_cons_succ]
      refine wpS_take 12 (v := ?_) hSw rfl (by kernel_rfl) (by kernel_rfl) (by kernel_rfl) (by rfl) (fun w' hin => ?_) ?_
      rotate_left
      · (try simp only [] at hin); go_simp <;> with_reducible rfl
      try simp only [Act.put, List.setIfInBounds_toArray, List.set_cons_zero, List.set_cons_succ]
      refine wpS_take 13 (v := ?_) hSw rfl (by kernel_rfl) (by kernel_rfl) (by kernel_rfl) (by rfl) (fun w' hin => ?_) ?_
      rotate_left
      · (try simp only [] at hin); go_simp <;> with_reducible rfl
      try simp only [Act.put, List.setIfInBounds_toArray, List.set_cons_zero, List.set_cons_succ]
      refine wpS_take 14 (v := ?_) hSw rfl (by kernel_rfl) (by kernel_rfl) (by kernel_rfl) (by rfl) (fun w' hin => ?_) ?_
      rotate_left
      · (try simp only [] at hin); go_simp <;> with_reducible rfl
      try simp only [Act.put, List.setIfInBounds_toArray, List.set_cons_zero, List.set_cons_succ]
      refine wpS_take 15 (v := ?_) hSw rfl (by kernel_rfl) (by kernel_rfl) (by kernel_rfl) (by rfl) (fun w' hin => ?_) ?_
      rotate_left
      · (try simp only [] at hin); go_simp <;> with_reducible rfl
      try simp only [Act.put, List.setIfInBounds_toArray, List.set_cons_zero, List.set_cons_succ]
      refine wpS_take 16 (v := ?_) hSw rfl (by kernel_rfl) (by kernel_rfl) (by kernel_rfl) (by rfl) (fun w' hin => ?_) ?_
      rotate_left
      · (try simp only [] at hin); go_simp <;> with_reducible rfl
      try simp only [Act.put, List.setIfInBounds_toArray, List.set_cons_zero, List.set_cons_succ]
      refine wpS_take 17 (v := ?_) hSw rfl (by kernel_rfl) (by kernel_rfl) (by kernel_rfl) (by rfl) (fun w' hin => ?_) ?_
      rotate_left
      · (try simp only [] at hin); go_simp <;> with_reducible rfl
      try simp only [Act.put, List.setIfInBounds_toArray, List.set_cons_zero, List.set_cons_succ]
      refine wpS_take 18 (v := ?_) hSw rfl (by kernel_rfl) (by kernel_rfl) (by kernel_rfl) (by rfl) (fun w' hin => ?_) ?_
      rotate_left
      · (try simp only [] at hin); go_simp <;> with_reducible rfl
      try simp only [Act.put, List.setIfInBounds_toArray, List.set_cons_zero, List.set_cons_succ]
      refine wpS_take 19 (v := ?_) hSw rfl (by kernel_rfl) (by kernel_rfl) (by kernel_rfl) (by rfl) (fun w' hin => ?_) ?_
      rotate_left
      · (try simp only [] at hin); go_simp <;> with_reducible rfl
      try simp only [Act.put, List.setIfInBounds_toArray, List.set_cons_zero, List.set_cons_succ]
      refine wpS_one 20 rfl (by kernel_rfl) (by rfl) (fun K hK => ?_)
      go_simp
      refine (same_any All All xY xY CY pY fY CY' pY' fY' CZ pZ fZ CZ' pZ' fZ' _ (HYY.out.up ((DY.out.trans MVU.out).trans ((Ext.refl wVU).drew.trans hSw))) (HYZ.out.up ((DZ.out.trans NVU.out).trans ((Ext.refl wVU).drew.trans hSw)))).mono ?_
      rintro e wa20 ⟨rfl, hba20⟩
      have Ea20 : Ext wVU.drew wa20 := Ext.trans Ea11 hba20
      rw [sameR_self]
      simp only []
      refine hK.out _ _ (Ext wVU.drew) (fun _ h => h) (Ea20) (fun hSw => ?_)
      clear hK K
      try simp only [Act.put, List.setIfInBounds_toArray, List.set_cons_zero, List.set_cons_succ]
      refine wpS_take 21 (v := ?_) hSw rfl (by kernel_rfl) (by kernel_rfl) (by kernel_rfl) (by rfl) (fun w' hin => ?_) ?_
      rotate_left
      · (try simp only [] at hin); go_simp <;> with_reducible rfl
      try simp only [Act.put, List.setIfInBounds_toArray, List.set_cons_zero, List.set_cons_succ]
      refine wpS_take 22 (v := ?_) hSw rfl (by kernel_rfl) (by kernel_rfl) (by kernel_rfl) (by rfl) (fun w' hin => ?_) ?_
      rotate_left
      · (try simp only [] at hin); go_simp <;> with_reducible rfl
      try simp only [Act.put, List.setIfInBounds_toArray, List.set_cons_zero, List.set_cons_succ]
      refine wpS_take 23 (v := ?_) hSw rfl (by kernel_rfl) (by kernel_rfl) (by kernel_rfl) (by rfl) (fun w' hin => ?_) ?_
      rotate_left
      · (try simp only [] at hin); go_simp <;> with_reducible rfl
      try simp only [Act.put, List.setIfInBounds_toArray, List.set_cons_zero, List.set_cons_succ]
      refine wpS_take 24 (v := ?_) hSw rfl (by kernel_rfl) (by kernel_rfl) (by kernel_rfl) (by rfl) (fun w' hin => ?_) ?_
      rotate_left
      · (try simp only [] at hin); go_simp <;> with_reducible rfl
      try simp only [Act.put, List.setIfInBounds_toArray, List.set_cons_zero, List.set_cons_succ]
      refine wpS_take 25 (v := ?_) hSw rfl (by kernel_rfl) (by kernel_rfl) (by kernel_rfl) (by rfl) (fun w' hin => ?_) ?_
      rotate_left
      · (try simp only [] at hin); go_simp <;> with_reducible rfl
      try simp only [Act.put, List.setIfInBounds_toArray, List.set_cons_zero, List.set_cons_succ]
      refine wpS_take 26 (v := ?_) hSw rfl (by kernel_rfl) (by kernel_rfl) (by kernel_rfl) (by rfl) (fun w' hin => ?_) ?_
      rotate_left
      · (try simp only [] at hin); go_simp <;> with_reducible rfl
      try simp only [Act.put, List.setIfInBounds_toArray, List.set_cons_zero, List.set_cons_succ]
      refine wpS_take 27 (v := ?_) hSw rfl (by kernel_rfl) (by kernel_rfl) (by kernel_rfl) (by rfl) (fun w' hin => ?_) ?_
      rotate_left
      · (try simp only [] at hin); go_simp <;> with_reducible rfl
      try simp only [Act.put, List.setIfInBounds_toArray, List.set_cons_zero, List.set_cons_succ]
      refine wpS_take 28 (v := ?_) hSw rfl (by kernel_rfl) (by kernel_rfl) (by kernel_rfl) (by rfl) (fun w' hin => ?_) ?_
      rotate_left
      · (try simp only [] at hin); go_simp <;> with_reducible rfl
      try simp only [Act.put, List.setIfInBounds_toArray, List.set_cons_zero, List.set_cons_succ]
      refine wpS_take 29 (v := ?_) hSw rfl (by kernel_rfl) (by kernel_rfl) (by kernel_rfl) (by rfl) (fun w' hin => ?_) ?_
      rotate_left
      · (try simp only [] at hin); go_simp <;> with_reducible rfl
      try simp only [Act.put, List.setIfInBounds_toArray, List.set_cons_zero, List.set_cons_succ]
      refine wpS_take 30 (v := ?_) hSw rfl (by kernel_rfl) (by kernel_rfl) (by kernel_rfl) (by rfl) (fun w' hin => ?_) ?_
      rotate_left
      · (try simp only [] at hin); go_simp <;> with_reducible rfl
      try simp only [Act.put, List.setIfInBounds_toArray, List.set_cons_zero, List.set_cons_succ]
      refine wpS_take 31 (v := ?_) hSw rfl (by kernel_rfl) (by kernel_rfl) (by kernel_rfl) (by rfl) (fun w' hin => ?_) ?_
      rotate_left
      · (try simp only [] at hin); go_simp <;> with_reducible rfl
      try simp only [Act.put, List.setIfInBounds_toArray, List.set_cons_zero, List.set_cons_succ]
      refine wpS_one 32 rfl (by kernel_rfl) (by rfl) (fun K hK => ?_)
      go_simp
      refine (key_any r B m d B' m' d' _).mono ?_
      rintro e wa32 ⟨rfl, hba32⟩
      have Ea32 : Ext wVU.drew wa32 := Ext.trans Ea20 hba32
      simp only []
      refine hK.out _ _ (Ext wVU.drew) (fun _ h => h) (Ea32) (fun hSw => ?_)
      clear hK K
      try simp only [Act.put, List.setIfInBounds_toArray, List.set_cons_zero, List.set_cons_succ]
      refine wpS_one 33 rfl (by kernel_rfl) (by rfl) (fun K hK => ?_)
      go_simp
      refine (without_any r.key A n c l _ HSLa.out (by omega) (ResL.keep Ha.out ((E1.out.trans GVU.out).trans ((Ext.refl wVU).drew.trans hSw)).keep)).mono ?_
      rintro e wa33 ⟨Cq, pq, fq, rfl, hsq, hAq, hba33⟩
      have Ea33 : Ext wVU.drew wa33 := Ext.trans Ea32 hba33
      simp only []
      refine hK.out _ _ (Ext wVU.drew) (fun _ h => h) (Ea33) (fun hSw => ?_)
      clear hK K
      try simp only [Act.put, List.setIfInBounds_toArray, List.set_cons_zero, List.set_cons_succ]
      refine wpS_one 34 rfl (by kernel_rfl) (by rfl) (fun K hK => ?_)
      go_simp
      refine (tabSame_any Ao Cq no co pq fq (withoutT (withT l r) r.key) (withoutT l r.key) _ (Nat.le_trans HSo.out.1 HSo.out.2.1) (Nat.le_trans hsq.1 hsq.2.1) (ResL.keep HAo.out (RVU.out.trans ((Ext.refl wVU).drew.trans hSw)).keep) hAq).mono ?_
      rintro e wa34 ⟨rfl, hba34⟩
      have Ea34 : Ext wVU.drew wa34 := Ext.trans Ea33 hba34
      rw [decide_eq_true (without_withT HS.out.2.2.1 r)]
      simp only []
      refine hK.out _ _ (Ext wVU.drew) (fun _ h => h) (Ea34) (fun hSw => ?_)
      clear hK K
      try simp only [Act.put, List.setIfInBounds_toArray, List.set_cons_zero, List.set_cons_succ]
      refine wpS_take 35 (v := ?_) hSw rfl (by kernel_rfl) (by kernel_rfl) (by kernel_rfl) (by rfl) (fun w' hin => ?_) ?_
      rotate_left
      · (try simp only [] at hin); go_simp <;> with_reducible rfl
      try simp only [Act.put, List.setIfInBounds_toArray, List.set_cons_zero, List.set_cons_succ]
      refine wpS_take 36 (v := ?_) hSw rfl (by kernel_rfl) (by kernel_rfl) (by kernel_rfl) (by rfl) (fun w' hin => ?_) ?_
      rotate_left
      · (try simp only [] at hin); go_simp <;> with_reducible rfl
      try simp only [Act.put, List.setIfInBounds_toArray, List.set_cons_zero, List.set_cons_succ]
      refine wpS_done (by kernel_rfl) ?_
      have E8 := Lib.hid ((Ext.refl wVU).drew.trans hSw)
      have E9 := Lib.hid ((E1.out.trans GVU.out).trans ((Ext.refl wVU).drew.trans hSw))
      clear r0 r1 r2 r3 r4 r5 r6 x0 x1 x2 x3 x4 x5 x6 y0 y1 y2 y3 y4 y5 y6 z0 z1 z2 z3 z4 z5 z6 k0 k1 hSw
      cases oU with
      | true =>
        have hn1 : nw = n := by have h8 := len_withT HS.out.2.2.1 r; rw [← HOU.out] at h8; simp only [if_true] at h8; omega
        have hn2 : ((nw : Int) == (n : Int)) = true := by rw [hn1]; simp
        go_wp2_with fail
        go_ret
        exact ⟨rfl, E9.out⟩
      | false =>
        have hn1 : nw = n + 1 := by have h8 := len_withT HS.out.2.2.1 r; rw [← HOU.out] at h8; simp only [Bool.false_eq_true, if_false] at h8; omega
        have hn2 : ((nw : Int) == (n : Int) + 1) = true := by rw [hn1]; simp
        have hon : withoutT (withT l r) r.key = l := by
          rw [without_withT HS.out.2.2.1 r]
          refine without_none ?_
          have h8 := HOU.out
          cases hg : getT l r.key with
          | none => rfl
          | some x => rw [hg] at h8; cases h8
        have HON := Lib.hid hon
        clear hon
        go_wp2_with fail
        refine (tabSame_any Ao A no co n c (withoutT (withT l r) r.key) l _ (Nat.le_trans HSo.out.1 HSo.out.2.1) HMa.out (ResL.keep HAo.out (RVU.out.trans E8.out).keep) (ResL.keep Ha.out E9.out.keep)).mono ?_
        rintro e wz ⟨rfl, hbz⟩
        rw [decide_eq_true HON.out]
        have E10 := Lib.hid (E9.out.trans hbz)
        clear hbz
        go_wp2_with fail
        go_ret
        exact ⟨rfl, E10.out⟩
  · have hq : (kk == r.kind) = false := by simpa using hkd
    have hkk : (⟨kk, kn⟩ : Ky) ≠ r.key := fun e => hkd (by injection e)
    have hg : getT (withT l r) ⟨kk, kn⟩ = getT l ⟨kk, kn⟩ := by rw [get_withT HS.out.2.2.1, if_neg hkk]
    obtain rfl : oY = oZ := by rw [HOY.out, HOZ.out, hg]
    obtain rfl : xY = xZ := by
      have a := HXY.out
      rw [hg] at a
      exact a.symm.trans HXZ.out
    have hoo : (oY != oY) = false := by simp
    clear hg hkk
    have r0 : ∀ w', Ext wVU.drew w' → w'.cell? ⟨w.heap.size, 0, none⟩ = some (.int .i64 r.kind) := fun w' h => ((GVU.out.trans ((Ext.refl wVU).drew.trans h)).cell hz1').trans (Q1.out 0)
    have r1 : ∀ w', Ext wVU.drew w' → w'.cell? ⟨w.heap.size, 1, none⟩ = some (.string r.name) := fun w' h => ((GVU.out.trans ((Ext.refl wVU).drew.trans h)).cell hz1').trans (Q1.out 1)
    have r2 : ∀ w', Ext wVU.drew w' → w'.cell? ⟨w.heap.size, 2, none⟩ = some (.int .i64 r.ver) := fun w' h => ((GVU.out.trans ((Ext.refl wVU).drew.trans h)).cell hz1').trans (Q1.out 2)
    have r3 : ∀ w', Ext wVU.drew w' → w'.cell? ⟨w.heap.size, 3, none⟩ = some (.int .i64 r.port) := fun w' h => ((GVU.out.trans ((Ext.refl wVU).drew.trans h)).cell hz1').trans (Q1.out 3)
    have r4 : ∀ w', Ext wVU.drew w' → w'.cell? ⟨w.heap.size, 4, none⟩ = some (.string r.to) := fun w' h => ((GVU.out.trans ((Ext.refl wVU).drew.trans h)).cell hz1').trans (Q1.out 4)
    have r5 : ∀ w', Ext wVU.drew w' → w'.cell? ⟨w.heap.size, 5, none⟩ = some (.slice B m d) := fun w' h => ((GVU.out.trans ((Ext.refl wVU).drew.trans h)).cell hz1').trans (Q1.out 5)
    have r6 : ∀ w', Ext wVU.drew w' → w'.cell? ⟨w.heap.size, 6, none⟩ = some (.slice B' m' d') := fun w' h => ((GVU.out.trans ((Ext.refl wVU).drew.trans h)).cell hz1').trans (Q1.out 6)
    have x0 : ∀ w', Ext wVU.drew w' → w'.cell? ⟨bX, 0, none⟩ = some (.int .i64 r.kind) := fun w' h => ((LVU.out.trans ((Ext.refl wVU).drew.trans h)).cell hzX).trans (qX.out 0)
    have x1 : ∀ w', Ext wVU.drew w' → w'.cell? ⟨bX, 1, none⟩ = some (.string r.name) := fun w' h => ((LVU.out.trans ((Ext.refl wVU).drew.trans h)).cell hzX).trans (qX.out 1)
    have x2 : ∀ w', Ext wVU.drew w' → w'.cell? ⟨bX, 2, none⟩ = some (.int .i64 r.ver) := fun w' h => ((LVU.out.trans ((Ext.refl wVU).drew.trans h)).cell hzX).trans (qX.out 2)
    have x3 : ∀ w', Ext wVU.drew w' → w'.cell? ⟨bX, 3, none⟩ = some (.int .i64 r.port) := fun w' h => ((LVU.out.trans ((Ext.refl wVU).drew.trans h)).cell hzX).trans (qX.out 3)
    have x4 : ∀ w', Ext wVU.drew w' → w'.cell? ⟨bX, 4, none⟩ = some (.string r.to) := fun w' h => ((LVU.out.trans ((Ext.refl wVU).drew.trans h)).cell hzX).trans (qX.out 4)
    have x5 : ∀ w', Ext wVU.drew w' → w'.cell? ⟨bX, 5, none⟩ = some (.slice CX pX fX) := fun w' h => ((LVU.out.trans ((Ext.refl wVU).drew.trans h)).cell hzX).trans (qX.out 5)
    have x6 : ∀ w', Ext wVU.drew w' → w'.cell? ⟨bX, 6, none⟩ = some (.slice CX' pX' fX') := fun w' h => ((LVU.out.trans ((Ext.refl wVU).drew.trans h)).cell hzX).trans (qX.out 6)
    have y0 : ∀ w', Ext wVU.drew w' → w'.cell? ⟨bY, 0, none⟩ = some (.int .i64 xY.kind) := fun w' h => ((MVU.out.trans ((Ext.refl wVU).drew.trans h)).cell hzY).trans (qY.out 0)
    have y1 : ∀ w', Ext wVU.drew w' → w'.cell? ⟨bY, 1, none⟩ = some (.string xY.name) := fun w' h => ((MVU.out.trans ((Ext.refl wVU).drew.trans h)).cell hzY).trans (qY.out 1)
    have y2 : ∀ w', Ext wVU.drew w' → w'.cell? ⟨bY, 2, none⟩ = some (.int .i64 xY.ver) := fun w' h => ((MVU.out.trans ((Ext.refl wVU).drew.trans h)).cell hzY).trans (qY.out 2)
    have y3 : ∀ w', Ext wVU.drew w' → w'.cell? ⟨bY, 3, none⟩ = some (.int .i64 xY.port) := fun w' h => ((MVU.out.trans ((Ext.refl wVU).drew.trans h)).cell hzY).trans (qY.out 3)
    have y4 : ∀ w', Ext wVU.drew w' → w'.cell? ⟨bY, 4, none⟩ = some (.string xY.to) := fun w' h => ((MVU.out.trans ((Ext.refl wVU).drew.trans h)).cell hzY).trans (qY.out 4)
    have y5 : ∀ w', Ext wVU.drew w' → w'.cell? ⟨bY, 5, none⟩ = some (.slice CY pY fY) := fun w' h => ((MVU.out.trans ((Ext.refl wVU).drew.trans h)).cell hzY).trans (qY.out 5)
    have y6 : ∀ w', Ext wVU.drew w' → w'.cell? ⟨bY, 6, none⟩ = some (.slice CY' pY' fY') := fun w' h => ((MVU.out.trans ((Ext.refl wVU).drew.trans h)).cell hzY).trans (qY.out 6)
    have z0 : ∀ w', Ext wVU.drew w' → w'.cell? ⟨bZ, 0, none⟩ = some (.int .i64 xY.kind) := fun w' h => ((NVU.out.trans ((Ext.refl wVU).drew.trans h)).cell hzZ).trans (qZ.out 0)
    have z1 : ∀ w', Ext wVU.drew w' → w'.cell? ⟨bZ, 1, none⟩ = some (.string xY.name) := fun w' h => ((NVU.out.trans ((Ext.refl wVU).drew.trans h)).cell hzZ).trans (qZ.out 1)
    have z2 : ∀ w', Ext wVU.drew w' → w'.cell? ⟨bZ, 2, none⟩ = some (.int .i64 xY.ver) := fun w' h => ((NVU.out.trans ((Ext.refl wVU).drew.trans h)).cell hzZ).trans (qZ.out 2)
    have z3 : ∀ w', Ext wVU.drew w' → w'.cell? ⟨bZ, 3, none⟩ = some (.int .i64 xY.port) := fun w' h => ((NVU.out.trans ((Ext.refl wVU).drew.trans h)).cell hzZ).trans (qZ.out 3)
    have z4 : ∀ w', Ext wVU.drew w' → w'.cell? ⟨bZ, 4, none⟩ = some (.string xY.to) := fun w' h => ((NVU.out.trans ((Ext.refl wVU).drew.trans h)).cell hzZ).trans (qZ.out 4)
    have z5 : ∀ w', Ext wVU.drew w' → w'.cell? ⟨bZ, 5, none⟩ = some (.slice CZ pZ fZ) := fun w' h => ((NVU.out.trans ((Ext.refl wVU).drew.trans h)).cell hzZ).trans (qZ.out 5)
    have z6 : ∀ w', Ext wVU.drew w' → w'.cell? ⟨bZ, 6, none⟩ = some (.slice CZ' pZ' fZ') := fun w' h => ((NVU.out.trans ((Ext.refl wVU).drew.trans h)).cell hzZ).trans (qZ.out 6)
    have k0 : ∀ w', Ext wVU.drew w' → w'.cell? ⟨w.heap.size + 1, 0, none⟩ = some (.int .i64 kk) := fun w' h => ((GVU.out.trans ((Ext.refl wVU).drew.trans h)).cell hz1).trans (P1.out 0)
    have k1 : ∀ w', Ext wVU.drew w' → w'.cell? ⟨w.heap.size + 1, 1, none⟩ = some (.string kn) := fun w' h => ((GVU.out.trans ((Ext.refl wVU).drew.trans h)).cell hz1).trans (P1.out 1)
    go_wp2_with fail
    have hSw : Ext wVU.drew wVU.drew := Ext.refl _
    refine wpS_begin (Ext wVU.drew) (by kernel_rfl) ?_
    refine wpS_take 0 (v := ?_) hSw rfl (by kernel_rfl) (by kernel_rfl) (by kernel_rfl) (by rfl) (fun w' hin => ?_) ?_
    rotate_left
    · (try simp only [] at hin); go_simp <;> with_reducible rfl
    try simp only [Act.put, List.setIfInBounds_toArray, List.set_cons_zero, List.set_cons_succ]
    refine wpS_take 1 (v := ?_) hSw rfl (by kernel_rfl) (by kernel_rfl) (by kernel_rfl) (by rfl) (fun w' hin => ?_) ?_
    rotate_left
    · (try simp only [] at hin); go_simp <;> with_reducible rfl
    try simp only [Act.put, List.setIfInBounds_toArray, List.set_cons_zero, List.set_cons_succ]
    refine wpS_take 2 (v := ?_) hSw rfl (by kernel_rfl) (by kernel_rfl) (by kernel_rfl) (by rfl) (fun w' hin => ?_) ?_
    rotate_left
    · (try simp only [] at hin); go_simp <;> with_reducible rfl
    try simp only [Act.put, List.setIfInBounds_toArray, List.set_cons_zero, List.set_cons_succ]
    refine wpS_take 3 (v := ?_) hSw rfl (by kernel_rfl) (by kernel_rfl) (by kernel_rfl) (by rfl) (fun w' hin => ?_) ?_
    rotate_left
    · (try simp only [] at hin); go_simp <;> with_reducible rfl
    try simp only [Act.put, List.setIfInBounds_toArray, List.set_cons_zero, List.set_cons_succ]
    refine wpS_take 4 (v := ?_) hSw rfl (by kernel_rfl) (by kernel_rfl) (by kernel_rfl) (by rfl) (fun w' hin => ?_) ?_
    rotate_left
    · (try simp only [] at hin); go_simp <;> with_reducible rfl
    try simp only [Act.put, List.setIfInBounds_toArray, List.set_cons_zero, List.set_cons_succ]
    refine wpS_one 5 rfl (by kernel_rfl) (by rfl) (fun K hK => ?_)
    go_simp
    refine (same_any All All r r CX pX fX CX' pX' fX' B m d B' m' d' _ (HYX.out.up ((DX.out.trans LVU.out).trans ((Ext.refl wVU).drew.trans hSw))) (HV.out.up ((E1.out.trans GVU.out).trans ((Ext.refl wVU).drew.trans hSw)))).mono ?_
    rintro e wa5 ⟨rfl, hba5⟩
    have Ea5 : Ext wVU.drew wa5 := Ext.trans hSw hba5
    rw [sameR_self]
    simp only []
    refine hK.out _ _ (Ext wVU.drew) (fun _ h => h) (Ea5) (fun hSw => ?_)
    clear hK K
    try simp only [Act.put, List.setIfInBounds_toArray, List.set_cons_zero, List.set_cons_succ]
    refine wpS_take 6 (v := ?_) hSw rfl (by kernel_rfl) (by kernel_rfl) (by kernel_rfl) (by rfl) (fun w' hin => ?_) ?_
    rotate_left
    · (try simp only [] at hin); go_simp <;> with_reducible rfl
    try simp only [Act.put, List.setIfInBounds_toArray, List.set_cons_zero, List.set_cons_succ]
    refine wpS_take 7 (v := ?_) hSw rfl (by kernel_rfl) (by kernel_rfl) (by kernel_rfl) (by rfl) (fun w' hin => ?_) ?_
    rotate_left
    · (try simp only [] at hin); go_simp <;> with_reducible rfl
    try simp only [Act.put, List.setIfInBounds_toArray, List.set_cons_zero, List.set_cons_succ]
    refine wpS_take 8 (v := ?_) hSw rfl (by kernel_rfl) (by kernel_rfl) (by kernel_rfl) (by rfl) (fun w' hin => ?_) ?_
    rotate_left
    · (try simp only [] at hin); go_simp <;> with_reducible rfl
    try simp only [Act.put, List.setIfInBounds_toArray, List.set_cons_zero, List.set_cons_succ]
    refine wpS_take 9 (v := ?_) hSw rfl (by kernel_rfl) (by kernel_rfl) (by kernel_rfl) (by rfl) (fun w' hin => ?_) ?_
    rotate_left
    · (try simp only [] at hin); go_simp <;> with_reducible rfl
    try simp only [Act.put, List.setIfInBounds_toArray, List.set_cons_zero, List.set_cons_succ]
    refine wpS_take 10 (v := ?_) hSw rfl (by kernel_rfl) (by kernel_rfl) (by kernel_rfl) (by rfl) (fun w' hin => ?_) ?_
    rotate_left
    · (try simp only [] at hin); go_simp <;> with_reducible rfl
    try simp only [Act.put, List.setIfInBounds_toArray, List.set_cons_zero, List.set_cons_succ]
    refine wpS_one 11 rfl (by kernel_rfl) (by rfl) (fun K hK => ?_)
    go_simp
    refine (key_any r B m d B' m' d' _).mono ?_
    rintro e wa11 ⟨rfl, hba11⟩
    have Ea11 : Ext wVU.drew wa11 := Ext.trans Ea5 hba11
    simp only []
    refine hK.out _ _ (Ext wVU.drew) (fun _ h => h) (Ea11) (fun hSw => ?_)
    clear hK K
    try simp only [Act.put, List.setIfInBounds_toArray, List.set_cons_zero, List.set_cons_succ]
    refine wpS_take 12 (v := ?_) hSw rfl (by kernel_rfl) (by kernel_rfl) (by kernel_rfl) (by rfl) (fun w' hin => ?_) ?_
    rotate_left
    · (try simp only [] at hin); go_simp <;> with_reducible rfl
    try simp only [Act.put, List.setIfInBounds_toArray, List.set_cons_zero, List.set_cons_succ]
    refine wpS_take 13 (v := ?_) hSw rfl (by kernel_rfl) (by kernel_rfl) (by kernel_rfl) (by rfl) (fun w' hin => ?_) ?_
    rotate_left
    · (try simp only [] at hin); go_simp <;> with_reducible rfl
    try simp only [Act.put, List.setIfInBounds_toArray, List.set_cons_zero, List.set_cons_succ]
    refine wpS_take 14 (v := ?_) hSw rfl (by kernel_rfl) (by kernel_rfl) (by kernel_rfl) (by rfl) (fun w' hin => ?_) ?_
    rotate_left
    · (try simp only [] at hin); go_simp <;> with_reducible rfl
    try simp only [Act.put, List.setIfInBounds_toArray, List.set_cons_zero, List.set_cons_succ]
    refine wpS_take 15 (v := ?_) hSw rfl (by kernel_rfl) (by kernel_rfl) (by kernel_rfl) (by rfl) (fun w' hin => ?_) ?_
    rotate_left
    · (try simp only [] at hin); go_simp <;> with_reducible rfl
    try simp only [Act.put, List.setIfInBounds_toArray, List.set_cons_zero, List.set_cons_succ]
    refine wpS_take 16 (v := ?_) hSw rfl (by kernel_rfl) (by kernel_rfl) (by kernel_rfl) (by rfl) (fun w' hin => ?_) ?_
    rotate_left
    · (try simp only [] at hin); go_simp <;> with_reducible rfl
    try simp only [Act.put, List.setIfInBounds_toArray, List.set_cons_zero, List.set_cons_succ]
    refine wpS_take 17 (v := ?_) hSw rfl (by kernel_rfl) (by kernel_rfl) (by kernel_rfl) (by rfl) (fun w' hin => ?_) ?_
    rotate_left
    · (try simp only [] at hin); go_simp <;> with_reducible rfl
    try simp only [Act.put, List.setIfInBounds_toArray, List.set_cons_zero, List.set_cons_succ]
    refine wpS_take 18 (v := ?_) hSw rfl (by kernel_rfl) (by kernel_rfl) (by kernel_rfl) (by rfl) (fun w' hin => ?_) ?_
    rotate_left
    · (try simp only [] at hin); go_simp <;> with_reducible rfl
    try simp only [Act.put, List.setIfInBounds_toArray, List.set_cons_zero, List.set_cons_succ]
    refine wpS_take 19 (v := ?_) hSw rfl (by kernel_rfl) (by kernel_rfl) (by kernel_rfl) (by rfl) (fun w' hin => ?_) ?_
    rotate_left
    · (try simp only [] at hin); go_simp <;> with_reducible rfl
    try simp only [Act.put, List.setIfInBounds_toArray, List.set_cons_zero, List.set_cons_succ]
    refine wpS_one 20 rfl (by kernel_rfl) (by rfl) (fun K hK => ?_)
    go_simp
    refine (same_any All All xY xY CY pY fY CY' pY' fY' CZ pZ fZ CZ' pZ' fZ' _ (HYY.out.up ((DY.out.trans MVU.out).trans ((Ext.refl wVU).drew.trans hSw))) (HYZ.out.up ((DZ.out.trans NVU.out).trans ((Ext.refl wVU).drew.trans hSw)))).mono ?_
    rintro e wa20 ⟨rfl, hba20⟩
    have Ea20 : Ext wVU.drew wa20 := Ext.trans Ea11 hba20
    rw [sameR_self]
    simp only []
    refine hK.out _ _ (Ext wVU.drew) (fun _ h => h) (Ea20) (fun hSw => ?_)
    clear hK K
    try simp only [Act.put, List.setIfInBounds_toArray, List.set_cons_zero, List.set_cons_succ]
    refine wpS_take 21 (v := ?_) hSw rfl (by kernel_rfl) (by kernel_rfl) (by kernel_rfl) (by rfl) (fun w' hin => ?_) ?_
    rotate_left
    · (try simp only [] at hin); go_simp <;> with_reducible rfl
    try simp only [Act.put, List.setIfInBounds_toArray, List.set_cons_zero, List.set_cons_succ]
    refine wpS_take 22 (v := ?_) hSw rfl (by kernel_rfl) (by kernel_rfl) (by kernel_rfl) (by rfl) (fun w' hin => ?_) ?_
    rotate_left
    · (try simp only [] at hin); go_simp <;> with_reducible rfl
    try simp only [Act.put, List.setIfInBounds_toArray, List.set_cons_zero, List.set_cons_succ]
    refine wpS_take 23 (v := ?_) hSw rfl (by kernel_rfl) (by kernel_rfl) (by kernel_rfl) (by rfl) (fun w' hin => ?_) ?_
    rotate_left
    · (try simp only [] at hin); go_simp <;> with_reducible rfl
    try simp only [Act.put, List.setIfInBounds_toArray, List.set_cons_zero, List.set_cons_succ]
    refine wpS_take 24 (v := ?_) hSw rfl (by kernel_rfl) (by kernel_rfl) (by kernel_rfl) (by rfl) (fun w' hin => ?_) ?_
    rotate_left
    · (try simp only [] at hin); go_simp <;> with_reducible rfl
    try simp only [Act.put, List.setIfInBounds_toArray, List.set_cons_zero, List.set_cons_succ]
    refine wpS_take 25 (v := ?_) hSw rfl (by kernel_rfl) (by kernel_rfl) (by kernel_rfl) (by rfl) (fun w' hin => ?_) ?_
    rotate_left
    · (try simp only [] at hin); go_simp <;> with_reducible rfl
    try simp only [Act.put, List.setIfInBounds_toArray, List.set_cons_zero, List.set_cons_succ]
    refine wpS_take 26 (v := ?_) hSw rfl (by kernel_rfl) (by kernel_rfl) (by kernel_rfl) (by rfl) (fun w' hin => ?_) ?_
    rotate_left
    · (try simp only [] at hin); go_simp <;> with_reducible rfl
    try simp only [Act.put, List.setIfInBounds_toArray, List.set_cons_zero, List.set_cons_succ]
    refine wpS_take 27 (v := ?_) hSw rfl (by kernel_rfl) (by kernel_rfl) (by kernel_rfl) (by rfl) (fun w' hin => ?_) ?_
    rotate_left
    · (try simp only [] at hin); go_simp <;> with_reducible rfl
    try simp only [Act.put, List.setIfInBounds_toArray, List.set_cons_zero, List.set_cons_succ]
    refine wpS_take 28 (v := ?_) hSw rfl (by kernel_rfl) (by kernel_rfl) (by kernel_rfl) (by rfl) (fun w' hin => ?_) ?_
    rotate_left
    · (try simp only [] at hin); go_simp <;> with_reducible rfl
    try simp only [Act.put, List.setIfInBounds_toArray, List.set_cons_zero, List.set_cons_succ]
    refine wpS_take 29 (v := ?_) hSw rfl (by kernel_rfl) (by kernel_rfl) (by kernel_rfl) (by rfl) (fun w' hin => ?_) ?_
    rotate_left
    · (try simp only [] at hin); go_simp <;> with_reducible rfl
    try simp only [Act.put, List.setIfInBounds_toArray, List.set_cons_zero, List.set_cons_succ]
    refine wpS_take 30 (v := ?_) hSw rfl (by kernel_rfl) (by kernel_rfl) (by kernel_rfl) (by rfl) (fun w' hin => ?_) ?_
    rotate_left
    · (try simp only [] at hin); go_simp <;> with_reducible rfl
    try simp only [Act.put, List.setIfInBounds_toArray, List.set_cons_zero, List.set_cons_succ]
    refine wpS_take 31 (v := ?_) hSw rfl (by kernel_rfl) (by kernel_rfl) (by kernel_rfl) (by rfl) (fun w' hin => ?_) ?_
    rotate_left
    · (try simp only [] at hin); go_simp <;> with_reducible rfl
    try simp only [Act.put, List.setIfInBounds_toArray, List.set_cons_zero, List.set_cons_succ]
    refine wpS_one 32 rfl (by kernel_rfl) (by rfl) (fun K hK => ?_)
    go_simp
    refine (key_any r B m d B' m' d' _).mono ?_
    rintro e wa32 ⟨rfl, hba32⟩
    have Ea32 : Ext wVU.drew wa32 := Ext.trans Ea20 hba32
    simp only []
    refine hK.out _ _ (Ext wVU.drew) (fun _ h => h) (Ea32) (fun hSw => ?_)
    clear hK K
    try simp only [Act.put, List.setIfInBounds_toArray, List.set_cons_zero, List.set_cons_succ]
    refine wpS_one 33 rfl (by kernel_rfl) (by rfl) (fun K hK => ?_)
    go_simp
    refine (without_any r.key A n c l _ HSLa.out (by omega) (ResL.keep Ha.out ((E1.out.trans GVU.out).trans ((Ext.refl wVU).drew.trans hSw)).keep)).mono ?_
    rintro e wa33 ⟨Cq, pq, fq, rfl, hsq, hAq, hba33⟩
    have Ea33 : Ext wVU.drew wa33 := Ext.trans Ea32 hba33
    simp only []
    refine hK.out _ _ (Ext wVU.drew) (fun _ h => h) (Ea33) (fun hSw => ?_)
    clear hK K
    try simp only [Act.put, List.setIfInBounds_toArray, List.set_cons_zero, List.set_cons_succ]
    refine wpS_one 34 rfl (by kernel_rfl) (by rfl) (fun K hK => ?_)
    go_simp
    refine (tabSame_any Ao Cq no co pq fq (withoutT (withT l r) r.key) (withoutT l r.key) _ (Nat.le_trans HSo.out.1 HSo.out.2.1) (Nat.le_trans hsq.1 hsq.2.1) (ResL.keep HAo.out (RVU.out.trans ((Ext.refl wVU).drew.trans hSw)).keep) hAq).mono ?_
    rintro e wa34 ⟨rfl, hba34⟩
    have Ea34 : Ext wVU.drew wa34 := Ext.trans Ea33 hba34
    rw [decide_eq_true (without_withT HS.out.2.2.1 r)]
    simp only []
    refine hK.out _ _ (Ext wVU.drew) (fun _ h => h) (Ea34) (fun hSw => ?_)
    clear hK K
    try simp only [Act.put, List.setIfInBounds_toArray, List.set_cons_zero, List.set_cons_succ]
    refine wpS_take 35 (v := ?_) hSw rfl (by kernel_rfl) (by kernel_rfl) (by kernel_rfl) (by rfl) (fun w' hin => ?_) ?_
    rotate_left
    · (try simp only [] at hin); go_simp <;> with_reducible rfl
    try simp only [Act.put, List.setIfInBounds_toArray, List.set_cons_zero, List.set_cons_succ]
    refine wpS_take 36 (v := ?_) hSw rfl (by kernel_rfl) (by kernel_rfl) (by kernel_rfl) (by rfl) (fun w' hin => ?_) ?_
    rotate_left
    · (try simp only [] at hin); go_simp <;> with_reducible rfl
    try simp only [Act.put, List.setIfInBounds_toArray, List.set_cons_zero, List.set_cons_succ]
    refine wpS_done (by kernel_rfl) ?_
    have E8 := Lib.hid ((Ext.refl wVU).drew.trans hSw)
    have E9 := Lib.hid ((E1.out.trans GVU.out).trans ((Ext.refl wVU).drew.trans hSw))
    clear r0 r1 r2 r3 r4 r5 r6 x0 x1 x2 x3 x4 x5 x6 y0 y1 y2 y3 y4 y5 y6 z0 z1 z2 z3 z4 z5 z6 k0 k1 hSw
    cases oU with
    | true =>
      have hn1 : nw = n := by have h8 := len_withT HS.out.2.2.1 r; rw [← HOU.out] at h8; simp only [if_true] at h8; omega
      have hn2 : ((nw : Int) == (n : Int)) = true := by rw [hn1]; simp
      go_wp2_with fail
      go_ret
      exact ⟨rfl, E9.out⟩
    | false =>
      have hn1 : nw = n + 1 := by have h8 := len_withT HS.out.2.2.1 r; rw [← HOU.out] at h8; simp only [Bool.false_eq_true, if_false] at h8; omega
      have hn2 : ((nw : Int) == (n : Int) + 1) = true := by rw [hn1]; simp
      have hon : withoutT (withT l r) r.key = l := by
        rw [without_withT HS.out.2.2.1 r]
        refine without_none ?_
        have h8 := HOU.out
        cases hg : getT l r.key with
        | none => rfl
        | some x => rw [hg] at h8; cases h8
      have HON := Lib.hid hon
      clear hon
      go_wp2_with fail
      refine (tabSame_any Ao A no co n c (withoutT (withT l r) r.key) l _ (Nat.le_trans HSo.out.1 HSo.out.2.1) HMa.out (ResL.keep HAo.out (RVU.out.trans E8.out).keep) (ResL.keep Ha.out E9.out.keep)).mono ?_
      rintro e wz ⟨rfl, hbz⟩
      rw [decide_eq_true HON.out]
      have E10 := Lib.hid (E9.out.trans hbz)
      clear hbz
      go_wp2_with fail
      go_ret
      exact ⟨rfl, E10.out⟩
end Go.Proofs.YtepifkmileilfaaDoor
