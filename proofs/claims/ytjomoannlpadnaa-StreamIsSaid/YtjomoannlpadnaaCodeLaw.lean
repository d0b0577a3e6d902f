/- What the helpers of the laws of layer 2 compute: awake, and the document's Number, Text, Size. -/
import Derived.Test.YtjomoannlpadnaaCodeRead
import Derived.Outline
namespace Go.Proofs.Ytjomoannlpadnaa
open Go.RowKit
attribute [local go_sem ↓] run_max2 run_min2

/-- a reader that has just been made -/
theorem RdAt.box {w : World} {A : Option Addr} {n c : Nat} {bs : List UInt8} (e : Int) (hB : Byts w A n bs) (hA : A = none → c = 0) (hnc : n ≤ c) (hcm : c ≤ 9223372036854775807) :
    RdAt (w.alloc (.cells #[.slice A n c, .int .i64 e] 62)) w.heap.size ⟨bs, e⟩ := by
  refine ⟨A, n, c, heap_alloc_new w _, hA, hnc, hcm, ArrR.up hB (Ext.new _ _), fun hn b o e => ?_⟩
  obtain ⟨b', o', e', hb, _⟩ := hB.2 hn
  rw [e] at e'
  injection e' with e'
  injection e' with e1 e2
  omega
theorem RdAt.cells {w : World} {g : Nat} {r : Rd} (h : RdAt w g r) : ∃ A n c, (∀ i, w.cell? ⟨g, i, none⟩ = #[Value.slice A n c, Value.int .i64 r.e][i]?) ∧ (∀ i, w.frozen? ⟨g, i, none⟩ = false) ∧ (A = none → c = 0) ∧ n ≤ c ∧ c ≤ 9223372036854775807 ∧ Byts w A n r.b := by
  obtain ⟨A, n, c, hg, h1, h2, h3, hB, _⟩ := h
  obtain ⟨g0, g1⟩ := blk_rules hg
  exact ⟨A, n, c, g0, g1, h1, h2, h3, hB⟩

theorem awake_num : (Rd.mk [172, 2, 2, 97, 98] 0).num 300 = (⟨[2, 97, 98], 0⟩, 300) := by
  have h := Rd.num_put (m := 300) (by omega) [2, 97, 98] (i := 300) (by decide)
  rw [show enc 300 = [172, 2] from by decide] at h
  exact h
theorem awake_txt : (Rd.mk [2, 97, 98] 0).txt 2 = (⟨[], 0⟩, [97, 98]) := by
  have h := Rd.txt_put (s := [97, 98]) (by decide) [] (i := 2) (by decide)
  rw [show enc ([97, 98] : List UInt8).length = [2] from by decide] at h
  exact h
set_option maxRecDepth 100000 in
set_option maxHeartbeats 800000 in
theorem awake02 (w : World) : Calls Try.prog 37 #[] w fun e w' => e = .returned (.bool true) ∧ Ext w w' := by
  go_enter Try.func37, Try.ntmps37
  go_wp2_with fail
  refine (number_any none 0 0 [] 300 w ArrR.nil_ (fun _ => rfl) (by omega)).mono ?_
  rintro e w1 ⟨v1, rfl, hown1, hb1⟩
  obtain ⟨A1, c1, rfl, hn1, hm1, hA1, hB1, -⟩ := own_byts hown1
  rw [show ([] ++ enc (bnd 300) : List UInt8) = [172, 2] from by decide] at hB1
  rw [show 0 + (enc (bnd 300)).length = 2 from by decide] at hB1 hn1 ⊢
  clear hown1
  go_wp2_with fail
  refine (text_any _ _ _ [172, 2] _ w1 hB1 hA1 (by omega) (by decide)).mono ?_
  rintro e w2 ⟨v2, rfl, hown2, hb2⟩
  obtain ⟨A2, c2, rfl, hn2, hm2, hA2, hB2, -⟩ := own_byts hown2
  rw [show 2 + (encT (ByteArray.mk #[97, 98]).data.toList).length = 5 from by decide] at hB2 hn2 ⊢
  rw [show ([172, 2] ++ encT (ByteArray.mk #[97, 98]).data.toList : List UInt8) = [172, 2, 2, 97, 98] from by decide] at hB2
  unfold maxLen at hm2
  have hR := RdAt.box (w := w2) 0 hB2 hA2 hn2 hm2
  have HR := Lib.hid hR
  have HB := Lib.hid hB2
  have E2 := Lib.hid (hb1.trans hb2)
  clear hown2 hR hB1 hb1 hb2
  obtain ⟨b, o, u0, rfl, hbl, hu0, hc0⟩ := Byts.at_ hB2 (k := 0) (by omega)
  obtain ⟨b', o', u1, e, -, hu1, hc1⟩ := Byts.at_ hB2 (k := 1) (by omega)
  injection e with e
  injection e with e1 e2
  subst e1 e2
  obtain rfl : u0 = 172 := by simpa using hu0.symm
  obtain rfl : u1 = 2 := by simpa using hu1.symm
  clear hB2 hu0 hu1
  go_wp2_with fail
  refine (num_any w2.heap.size ⟨[172, 2, 2, 97, 98], 0⟩ 300 _ HR.out).mono ?_
  rintro e w3 ⟨rfl, hr3, ho3⟩
  rw [awake_num] at hr3 ⊢
  go_wp2_with fail
  refine (txt_any w2.heap.size _ 2 _ hr3).mono ?_
  rintro e w4 ⟨rfl, hr4, ho4⟩
  rw [awake_txt] at hr4 ⊢
  rw [show bstr ([97, 98] : List UInt8) = ⟨#[97, 98]⟩ from rfl]
  have EX := Lib.hid (Only.ext (Ext.new w2 _) (ho3.trans ho4) (Nat.le_refl _))
  rw [Nat.add_zero] at hc0
  have d0 : w4.cell? ⟨b, o, none⟩ = some (.int .u8 172) := (EX.out.cell hbl).trans hc0
  have d1 : w4.cell? ⟨b, o + 1, none⟩ = some (.int .u8 2) := (EX.out.cell hbl).trans hc1
  have H4 := Lib.hid hr4
  clear hr3 ho3 ho4 hc0 hc1 hr4
  go_wp2_with fail
  refine (done_any w2.heap.size _ _ H4.out).mono ?_
  rintro e w5 ⟨rfl, hr5, ho5⟩
  rw [show (Rd.mk [] 0).done = 0 from by decide]
  go_wp2_with fail
  refine (size_any _ _).mono ?_
  rintro e w6 ⟨rfl, rfl⟩
  rw [show (enc (bnd 300)).length = 2 from by decide]
  go_wp2_with fail
  go_ret
  exact ⟨rfl, E2.out.trans (Only.ext EX.out ho5 (Nat.le_refl _))⟩

set_option maxHeartbeats 400000 in
theorem refBound_any (n : Int) (w : World) : Calls Try.prog 71 #[.int .i64 n] w fun e w' => e = .returned (.int .i64 (bnd n : Nat)) ∧ w = w' := by
  have h := Lib.hid (bnd_cast n)
  go_enter Try.func71, Try.ntmps71
  go_wp2_with fail
  go_ret
  exact ⟨ret_int h.out, rfl⟩

set_option maxRecDepth 100000 in
set_option maxHeartbeats 400000 in
theorem refNumber_any (A : Option Addr) (n c : Nat) (bs : List UInt8) (k : Int) (w : World) (hA : Byts w A n bs) (hc : A = none → c = 0) (hn : n ≤ 1000000000) :
    Calls Try.prog 39 #[.slice A n c, .int .i64 k] w fun e w' => ∃ v, e = .returned v ∧ w'.ownsRow w.heap.size 5 1 v (n + (enc (bnd k)).length) ((bs ++ enc (bnd k)).map byteV) ∧ Ext w w' := by
  have hE := own_empty_lit w w.heap.size 5 1 (Nat.le_refl _)
  have hF := hA.flat.up (Ext.new w (.cells #[] 5))
  have hzn : w.heap.size ≤ (w.alloc (.cells #[] 5)).heap.size := by simp
  have HZ := Lib.hid hzn
  clear hzn
  go_enter Try.func39, Try.ntmps39
  go_wp2_with (at_builtin
               obtain ⟨v1, w1, hrun, hown1, hg1, _⟩ := run_append_flat elem_byte 42 hE c hF (byteV_one bs) (by omega) (by omega) HZ.out hc
               refine Lib.wpList_append_run _ rfl _ _ _ _ rfl _ _ rfl rfl v1 w1 hrun ?_)
  have hb1 : Ext w w1 := (Ext.new w _).grown hg1 hE (Nat.le_refl _)
  rw [Nat.zero_add, List.nil_append] at hown1
  clear hE hF hg1 hrun
  refine (refBound_any _ _).mono ?_
  rintro e w2 ⟨rfl, rfl⟩
  go_wp2_with fail
  go_loopw [1, 5] (fun i t wr => ∃ (f m : Nat) (pre : List UInt8), i = .int .i64 m ∧ Hid (m < 128 ^ (f + 1)) ∧ m ≤ 2147483647 ∧ Hid (pre ++ encF f m = enc (bnd k)) ∧ wr.ownsRow w.heap.size 5 1 t (n + pre.length) ((bs ++ pre).map byteV) ∧ Hid (Ext w wr)) (fun i _ _ => (intOf i).toNat)
  case atStart => exact ⟨4, bnd k, [], rfl, Lib.hid (pow5 (bnd_le k)), bnd_le k, rfl, by simpa using hown1, hb1⟩
  case round =>
    obtain ⟨f, m, pre, rfl, HM, hm, HE, hown, HX⟩ := hrel
    have HN : Hid (n + pre.length ≤ 1000000010) := Lib.hid (by
      have h1 := congrArg List.length HE.out
      have h2 := enc_len (bnd k)
      rw [List.length_append] at h1
      omega)
    have hz : w.heap.size ≤ wr.heap.size := HX.out.size
    by_cases hlt : 128 ≤ m
    · have hbyte : ((m : Int) % 128 + 128) = ((UInt8.ofNat (m % 128 + 128)).toNat : Int) := by rw [ofNat_lt (by omega)]; omega
      obtain ⟨u, hu⟩ : ∃ u : UInt8, u = UInt8.ofNat (m % 128 + 128) := ⟨_, rfl⟩
      rw [← hu] at hbyte
      have hcell : (Value.int IntKind.u8 ((m : Int) % 128 + 128)) = byteV u := by unfold byteV; rw [← hbyte]
      have HU := Lib.hid hu
      have HC := Lib.hid hcell
      clear hu hbyte hcell
      go_wp2_with (at_builtin
                   rw [HC.out]
                   obtain ⟨v', w2, hrun, hown2, hg2, _⟩ := run_append_flat elem_byte 42 (own_up hown (Ext.new wr (.cells #[byteV u] 5))) 1 (flat_one wr (byteV u) 5) (by simp [Value.oneCell', byteV]) (by have := HN.out; omega) (by have := HN.out; omega) (by simp; omega) (fun h => by cases h)
                   refine Lib.wpList_append_run _ rfl _ _ _ _ rfl _ _ rfl rfl v' w2 hrun ?_)
      go_roundw
      case rel =>
        obtain ⟨f', rfl⟩ : ∃ f', f = f' + 1 := ⟨f - 1, by
          have h1 := HM.out
          rcases Nat.eq_zero_or_pos f with h0 | h0
          · subst h0; simp at h1; omega
          · omega⟩
        refine ⟨f', m / 128, pre ++ [u], by rw [Int.natCast_ediv]; rfl, div_pow HM.out, by omega, ?_, ?_, ((HX.out.alloc _).grown hg2 (own_up hown (Ext.new wr (.cells #[byteV u] 5))) (Nat.le_refl _))⟩
        · have := HE.out
          rw [encF_ge hlt] at this
          rw [HU.out, List.append_assoc]
          exact this
        · rw [List.length_append, List.length_singleton, ← List.append_assoc, List.map_append]
          exact hown2
      case measure => simp [intOf]; omega
    · have hml : m < 128 := by omega
      have hbyte : (m : Int) = ((UInt8.ofNat m).toNat : Int) := by rw [ofNat_lt (by omega)]
      obtain ⟨u, hu⟩ : ∃ u : UInt8, u = UInt8.ofNat m := ⟨_, rfl⟩
      rw [← hu] at hbyte
      have HU := Lib.hid hu
      have hcell : (Value.int IntKind.u8 (m : Int)) = byteV u := by unfold byteV; rw [← hbyte]
      have HC := Lib.hid hcell
      clear hu hbyte hcell
      go_wp2_with (at_builtin
                   rw [HC.out]
                   obtain ⟨v', w2, hrun, hown2, hg2, _⟩ := run_append_flat elem_byte 42 (own_up hown (Ext.new wr (.cells #[byteV u] 5))) 1 (flat_one wr (byteV u) 5) (by simp [Value.oneCell', byteV]) (by have := HN.out; omega) (by have := HN.out; omega) (by simp; omega) (fun h => by cases h)
                   refine Lib.wpList_append_run _ rfl _ _ _ _ rfl _ _ rfl rfl v' w2 hrun ?_)
      go_ret
      have he : enc (bnd k) = pre ++ [u] := by rw [← HE.out, encF_lt hml, HU.out]
      refine ⟨_, rfl, ?_, (HX.out.alloc _).grown hg2 (own_up hown (Ext.new wr (.cells #[byteV u] 5))) (Nat.le_refl _)⟩
      rw [he, List.length_append, List.length_singleton, ← List.append_assoc, List.map_append]
      exact hown2

set_option maxRecDepth 100000 in
set_option maxHeartbeats 400000 in
theorem refText_any (A : Option Addr) (n c : Nat) (bs : List UInt8) (s : ByteArray) (w : World) (hA : Byts w A n bs) (hc : A = none → c = 0) (hn : n ≤ 1000000000) (hs : s.size ≤ 1000000000) :
    Calls Try.prog 41 #[.slice A n c, .string s] w fun e w' => ∃ v, e = .returned v ∧ w'.ownsRow w.heap.size 5 1 v (n + (encT s.data.toList).length) ((bs ++ encT s.data.toList).map byteV) ∧ Ext w w' := by
  obtain ⟨ht, ⟨i, hi, hz, hsize, hby⟩, hzs, hsz⟩ := elem_byte
  have HT := Lib.hid (show encT s.data.toList = enc (bnd (s.size : Int)) ++ s.data.toList by unfold encT; rw [size_toList, bnd_of (by omega)])
  go_enter Try.func41, Try.ntmps41
  go_wp2_with fail
  refine (refNumber_any _ _ _ bs _ _ hA hc hn).mono ?_
  rintro e w1 ⟨v1, rfl, hown1, hb1⟩
  have hl := enc_len (bnd (s.size : Int))
  have hz1 : w.heap.size ≤ w1.heap.size := hb1.size
  go_wp2_with (at_builtin
               obtain ⟨v', w2, hrun, hown2, hg2, _⟩ := Lib.run_append_own_string (P := Try.prog) w1 w.heap.size 42 9 42 5 i ht Try.underlying9 hi hz hsize hby v1 _ _ hown1 s (by unfold maxLen; omega) (by omega) hz1
               refine Lib.wpList_append_run _ rfl _ _ _ _ rfl _ _ rfl rfl v' w2 hrun ?_)
  go_ret
  refine ⟨_, rfl, ?_, hb1.grown hg2 hown1 (Nat.le_refl _)⟩
  rw [HT.out, List.length_append, size_toList, ← List.append_assoc, List.map_append, ← Nat.add_assoc, ← strCells_byteV]
  exact hown2

set_option maxRecDepth 100000 in
set_option maxHeartbeats 400000 in
theorem refSize_any (k : Int) (w : World) : Calls Try.prog 43 #[.int .i64 k] w fun e w' => e = .returned (.int .i64 ((enc (bnd k)).length : Nat)) ∧ Ext w w' := by
  go_enter Try.func43, Try.ntmps43
  go_wp2_with fail
  refine (refNumber_any none 0 0 [] k w ArrR.nil_ (fun _ => rfl) (by omega)).mono ?_
  rintro e w1 ⟨v1, rfl, hown1, hb1⟩
  obtain ⟨A1, c1, rfl, -, -, -, -, -⟩ := own_byts hown1
  rw [Nat.zero_add]
  clear hown1
  go_wp2_with fail
  go_ret
  exact ⟨rfl, hb1⟩
end Go.Proofs.Ytjomoannlpadnaa
