/- What the document's functions of layer 2 compute: Number, Text, number, TakeNumber, TakeText; a reader of the document's in memory. -/
import Derived.Test.YtfdjbnofcniodaaGreatDoorQTakeAll
import Derived.Test.YtfdjbnofcniodaaGreatDoorQPutAll
import Derived.Outline
namespace Go.Proofs.YtfdjbnofcniodaaGreatDoor
open Lib (hid)
set_option maxHeartbeats 2000000
set_option maxRecDepth 100000
set_option linter.unusedVariables false
open Go.RowKit
attribute [local go_sem ↓] run_max2 run_min2
theorem refBound_any (n : Int) (w : World) : Calls Tryz.prog 173 #[.int .i64 n] w fun e w' => e = .returned (.int .i64 (bnd n : Nat)) ∧ w = w' := by
 have h := hid (bnd_cast n)
 go_enter Tryz.func173, Tryz.ntmps173
 go_wp2_with fail
 go_ret
 exact ⟨ret_int h.out, rfl⟩
theorem refNumber_any (A : Option Addr) (n c : Nat) (bs : List UInt8) (k : Int) (w : World) (hA : Byts w A n bs) (hc : A = none → c = 0) (hn : n ≤ 1000000000) :
  Calls Tryz.prog 98 #[.slice A n c, .int .i64 k] w fun e w' => ∃ v, e = .returned v ∧ w'.ownsRow w.heap.size 5 1 v (n + (enc (bnd k)).length) ((bs ++ enc (bnd k)).map byteV) ∧ Ext w w' := by
 have hE := own_empty_lit w w.heap.size 5 1 (Nat.le_refl _)
 have hF := hA.flat.up (Ext.new w (.cells #[] 5))
 have hzn : w.heap.size ≤ (w.alloc (.cells #[] 5)).heap.size := by simp
 have HZ := hid hzn
 clear hzn
 go_enter Tryz.func98, Tryz.ntmps98
 go_wp2_with (at_builtin
              obtain ⟨v1, w1, hrun, hown1, hg1, _⟩ := run_append_flat elem_byte 22 hE c hF (byteV_one bs) (by omega) (by omega) HZ.out hc
              refine Lib.wpList_append_run _ rfl _ _ _ _ rfl _ _ rfl rfl v1 w1 hrun ?_)
 have hb1 : Ext w w1 := (Ext.new w _).grown hg1 hE (Nat.le_refl _)
 rw [Nat.zero_add, List.nil_append] at hown1
 clear hE hF hg1 hrun
 refine (refBound_any _ _).mono ?_
 rintro e w2 ⟨rfl, rfl⟩
 go_wp2_with fail
 go_loopw [1, 5] (fun i t wr => ∃ (f m : Nat) (pre : List UInt8), i = .int .i64 m ∧ Hid (m < 128 ^ (f + 1)) ∧ m ≤ 2147483647 ∧ Hid (pre ++ encF f m = enc (bnd k)) ∧ wr.ownsRow w.heap.size 5 1 t (n + pre.length) ((bs ++ pre).map byteV) ∧ Hid (Ext w wr)) (fun i _ _ => (intOf i).toNat)
 case atStart => exact ⟨4, bnd k, [], rfl, hid (pow5 (bnd_le k)), bnd_le k, rfl, by simpa using hown1, hb1⟩
 case round =>
  obtain ⟨f, m, pre, rfl, HM, hm, HE, hown, HX⟩ := hrel
  have HN : Hid (n + pre.length ≤ 1000000010) := hid (by
   have h1 := congrArg List.length HE.out
   have h2 := enc_len (bnd k)
   rw [List.length_append] at h1
   omega)
  have hz : w.heap.size ≤ wr.heap.size := HX.out.size
  by_cases hlt : 128 ≤ m
  ·have hbyte : ((m : Int) % 128 + 128) = ((UInt8.ofNat (m % 128 + 128)).toNat : Int) := by rw [ofNat_lt (by omega)]; omega
   obtain ⟨u, hu⟩ : ∃ u : UInt8, u = UInt8.ofNat (m % 128 + 128) := ⟨_, rfl⟩
   rw [← hu] at hbyte
   have hcell : (Value.int IntKind.u8 ((m : Int) % 128 + 128)) = byteV u := by unfold byteV; rw [← hbyte]
   have HU := hid hu
   have HC := hid hcell
   clear hu hbyte hcell
   go_wp2_with (at_builtin
                rw [HC.out]
                obtain ⟨v', w2, hrun, hown2, hg2, _⟩ := run_append_flat elem_byte 22 (own_up hown (Ext.new wr (.cells #[byteV u] 5))) 1 (flat_one wr (byteV u) 5) (by simp [Value.oneCell', byteV]) (by have := HN.out; omega) (by have := HN.out; omega) (by simp; omega) (fun h => by cases h)
                refine Lib.wpList_append_run _ rfl _ _ _ _ rfl _ _ rfl rfl v' w2 hrun ?_)
   go_roundw
   case rel =>
    obtain ⟨f', rfl⟩ : ∃ f', f = f' + 1 := ⟨f - 1, by
     have h1 := HM.out
     rcases Nat.eq_zero_or_pos f with h0 | h0
     ·subst h0; simp at h1; omega
     ·omega⟩
    refine ⟨f', m / 128, pre ++ [u], by rw [Int.natCast_ediv]; rfl, div_pow HM.out, by omega, ?_, ?_, ((HX.out.alloc _).grown hg2 (own_up hown (Ext.new wr (.cells #[byteV u] 5))) (Nat.le_refl _))⟩
    ·have := HE.out
     rw [encF_ge hlt] at this
     rw [HU.out, List.append_assoc]
     exact this
    ·rw [List.length_append, List.length_singleton, ← List.append_assoc, List.map_append]
     exact hown2
   case measure => simp [intOf]; omega
  ·have hml : m < 128 := by omega
   have hbyte : (m : Int) = ((UInt8.ofNat m).toNat : Int) := by rw [ofNat_lt (by omega)]
   obtain ⟨u, hu⟩ : ∃ u : UInt8, u = UInt8.ofNat m := ⟨_, rfl⟩
   rw [← hu] at hbyte
   have HU := hid hu
   have hcell : (Value.int IntKind.u8 (m : Int)) = byteV u := by unfold byteV; rw [← hbyte]
   have HC := hid hcell
   clear hu hbyte hcell
   go_wp2_with (at_builtin
                rw [HC.out]
                obtain ⟨v', w2, hrun, hown2, hg2, _⟩ := run_append_flat elem_byte 22 (own_up hown (Ext.new wr (.cells #[byteV u] 5))) 1 (flat_one wr (byteV u) 5) (by simp [Value.oneCell', byteV]) (by have := HN.out; omega) (by have := HN.out; omega) (by simp; omega) (fun h => by cases h)
                refine Lib.wpList_append_run _ rfl _ _ _ _ rfl _ _ rfl rfl v' w2 hrun ?_)
   go_ret
   have he : enc (bnd k) = pre ++ [u] := by rw [← HE.out, encF_lt hml, HU.out]
   refine ⟨_, rfl, ?_, (HX.out.alloc _).grown hg2 (own_up hown (Ext.new wr (.cells #[byteV u] 5))) (Nat.le_refl _)⟩
   rw [he, List.length_append, List.length_singleton, ← List.append_assoc, List.map_append]
   exact hown2
theorem refText_any (A : Option Addr) (n c : Nat) (bs : List UInt8) (s : ByteArray) (w : World) (hA : Byts w A n bs) (hc : A = none → c = 0) (hn : n ≤ 1000000000) (hs : s.size ≤ 1000000000) :
  Calls Tryz.prog 99 #[.slice A n c, .string s] w fun e w' => ∃ v, e = .returned v ∧ w'.ownsRow w.heap.size 5 1 v (n + (encT s.data.toList).length) ((bs ++ encT s.data.toList).map byteV) ∧ Ext w w' := by
 obtain ⟨ht, ⟨i, hi, hz, hsize, hby⟩, hzs, hsz⟩ := elem_byte
 have HT := hid (show encT s.data.toList = enc (bnd (s.size : Int)) ++ s.data.toList by unfold encT; rw [size_toList, bnd_of (by omega)])
 go_enter Tryz.func99, Tryz.ntmps99
 go_wp2_with fail
 refine (refNumber_any _ _ _ bs _ _ hA hc hn).mono ?_
 rintro e w1 ⟨v1, rfl, hown1, hb1⟩
 have hl := enc_len (bnd (s.size : Int))
 have hz1 : w.heap.size ≤ w1.heap.size := hb1.size
 go_wp2_with (at_builtin
              obtain ⟨v', w2, hrun, hown2, hg2, _⟩ := Lib.run_append_own_string (P := Tryz.prog) w1 w.heap.size 22 9 22 5 i ht Tryz.underlying9 hi hz hsize hby v1 _ _ hown1 s (by unfold maxLen; omega) (by omega) hz1
              refine Lib.wpList_append_run _ rfl _ _ _ _ rfl _ _ rfl rfl v' w2 hrun ?_)
 go_ret
 refine ⟨_, rfl, ?_, hb1.grown hg2 hown1 (Nat.le_refl _)⟩
 rw [HT.out, List.length_append, size_toList, ← List.append_assoc, List.map_append, ← Nat.add_assoc, ← strCells_byteV]
 exact hown2
theorem refNumber_lay (A : Option Addr) (n c : Nat) (bs : List UInt8) (k : Int) (w : World) (hA : Byts w A n bs) (hc : A = none → c = 0) (hn : n ≤ 1000000000) : Calls Tryz.prog 98 #[.slice A n c, .int .i64 k] w (LayN w n bs (enc (bnd k))) :=
 (refNumber_any A n c bs k w hA hc hn).mono fun _ _ h => LayN.of h
theorem refText_lay (A : Option Addr) (n c : Nat) (bs : List UInt8) (s : ByteArray) (w : World) (hA : Byts w A n bs) (hc : A = none → c = 0) (hn : n ≤ 1000000000) (hs : s.size ≤ 1000000000) : Calls Tryz.prog 99 #[.slice A n c, .string s] w (LayN w n bs (encT (tx s))) :=
 (refText_any A n c bs s w hA hc hn hs).mono fun _ _ h => LayN.of h
def numR (bs : List UInt8) (k : Int) : Nat × Nat × Int := if (parse bs).2.2 ≠ 0 then (0, 0, (parse bs).2.2) else if bnd k < (parse bs).1 then (0, 0, 3) else parse bs
theorem refNum_any (A : Option Addr) (n c : Nat) (bs : List UInt8) (k : Int) (w : World) (hA : Byts w A n bs) :
  Calls Tryz.prog 212 #[.slice A n c, .int .i64 k] w fun e w' => e = .returned (.tuple #[.int .i64 ((numR bs k).1 : Nat), .int .i64 ((numR bs k).2.1 : Nat), .int .i64 (numR bs k).2.2]) ∧ w' = w := by
 have HB := hid hA
 have HL := hid hA.len
 clear hA
 go_enter Tryz.func212, Tryz.ntmps212
 go_wp2_with fail
 go_loop [7, 8, 9] (fun t f i => ∃ (j x m : Nat), j ≤ 5 ∧ i = .int .i64 j ∧ t = .int .i64 x ∧ f = .int .i64 m ∧ Hid (parseF (5 - j) j x (bs.drop j) = parse bs) ∧ Hid (x < 128 ^ j) ∧ Hid (m = 128 ^ j)) (fun _ _ i => 5 - (intOf i).toNat)
 case atStart => exact ⟨0, 0, 1, by omega, rfl, rfl, rfl, hid rfl, hid (by decide), hid rfl⟩
 case round =>
  obtain ⟨j, x, m, hj, rfl, rfl, rfl, HP, HX, HM⟩ := hrel
  by_cases hlt : j < 5
  ·by_cases hn : n ≤ j
   ·have HR : Hid (numR bs k = (0, 0, 1)) := hid (by
     have h1 := HP.out
     have hl := HL.out
     rw [List.drop_eq_nil_of_le (by omega), show 5 - j = (5 - j - 1) + 1 by omega] at h1
     unfold numR
     rw [← h1]
     rfl)
    go_wp2_with fail
    go_ret3
    exact ⟨by rw [HR.out]; rfl, rfl⟩
   ·obtain ⟨b, o, u, rfl, hb0, hu, hcell⟩ := Byts.at_ HB.out (k := j) (by omega)
    have hm4 : m ≤ 268435456 := by
     rw [HM.out]
     exact Nat.le_trans (Nat.pow_le_pow_right (by omega) (show j ≤ 4 by omega)) (by decide)
    have hxm : x < m := by rw [HM.out]; exact HX.out
    obtain ⟨z, hz⟩ : ∃ z, z = u.toNat % 128 * m := ⟨_, rfl⟩
    have hzl : z ≤ 127 * m := by rw [hz]; exact Nat.mul_le_mul_right _ (by omega)
    have hst := HP.out
    rw [parseF_step (by omega) hu, ← HM.out, ← hz] at hst
    have hylt : x + z < 128 ^ (j + 1) := by have := step_lt u HX.out; rw [← HM.out, ← hz] at this; exact this
    have hmn : m * 128 = 128 ^ (j + 1) := by rw [HM.out, Nat.pow_succ]
    have hz1 : (u.toNat : Int) % 128 * (m : Int) = (z : Int) := by rw [hz]; push_cast; rfl
    have hz2 : IntKind.i64.wrap ((x : Int) + (z : Int)) = ((x + z : Nat) : Int) := by rw [IntKind.wrap_i64]; omega
    have hz3 : IntKind.i64.wrap ((m : Int) * 128) = ((m * 128 : Nat) : Int) := by rw [IntKind.wrap_i64]; omega
    have hz4 : IntKind.i64.wrap (z : Int) = (z : Int) := by rw [IntKind.wrap_i64]; omega
    have hu8 : u.toNat < 256 := u.toNat_lt
    have HS := hid hst
    have HYL := hid hylt
    have HMN := hid hmn
    clear hu hst hylt hmn hz
    by_cases h1 : 128 ≤ u.toNat
    ·go_wp2_with fail
     go_round
     case rel => exact ⟨j + 1, x + z, m * 128, by omega, by go_num, rfl, rfl, hid (by rw [← HS.out, if_pos h1]), HYL, HMN⟩
     case measure => simp [intOf]; omega
    ·by_cases h2 : u.toNat = 0 ∧ 0 < j
     ·have HR : Hid (numR bs k = (0, 0, 2)) := hid (by unfold numR; rw [← HS.out, if_neg h1, if_pos h2]; rfl)
      obtain ⟨h2, h3⟩ := h2
      go_wp2_with fail
      go_ret3
      exact ⟨by rw [HR.out]; rfl, rfl⟩
     ·have HR : Hid (parse bs = (x + z, j + 1, 0)) := hid (by rw [← HS.out, if_neg h1, if_neg h2])
      have H2 := hid h2
      clear h2
      by_cases h3 : bnd k < x + z
      ·have HQ : Hid (numR bs k = (0, 0, 3)) := hid (by unfold numR; rw [HR.out, if_neg (by simp), if_pos h3])
       go_wp2_with fail
       ·rename_i hj0 hq _
        have hq := eq_of_beq hq
        exact absurd ⟨by omega, by omega⟩ H2.out
       all_goals
        refine (refBound_any k _).mono ?_
        rintro e w1 ⟨rfl, rfl⟩
        go_wp2_with fail
        go_ret3
        exact ⟨by rw [HQ.out]; rfl, rfl⟩
      ·have HQ : Hid (numR bs k = (x + z, j + 1, 0)) := hid (by unfold numR; rw [HR.out, if_neg (by simp), if_neg h3])
       go_wp2_with fail
       ·rename_i hj0 hq _
        have hq := eq_of_beq hq
        exact absurd ⟨by omega, by omega⟩ H2.out
       all_goals
        refine (refBound_any k _).mono ?_
        rintro e w1 ⟨rfl, rfl⟩
        go_wp2_with fail
        go_ret3
        exact ⟨by rw [HQ.out]; go_num, rfl⟩
  ·obtain rfl : j = 5 := by omega
   have HR : Hid (numR bs k = (0, 0, 2)) := hid (by
    have h1 := HP.out
    unfold numR
    rw [← h1]
    rfl)
   go_wp2_with fail
   go_ret3
   exact ⟨by rw [HR.out]; rfl, rfl⟩
theorem numR_cases (bs : List UInt8) (i : Int) : (∃ er, (er = 1 ∨ er = 2 ∨ er = 3) ∧ numR bs i = (0, 0, er) ∧ (Rd.mk bs 0).num i = (⟨bs, er⟩, 0)) ∨
  (∃ m j, numR bs i = (m, j, 0) ∧ 0 < j ∧ j ≤ bs.length ∧ (Rd.mk bs 0).num i = (⟨bs.drop j, 0⟩, m)) := by
 by_cases hp : (parse bs).2.2 = 0
 ·by_cases hb : bnd i < (parse bs).1
  ·left
   exact ⟨3, .inr (.inr rfl), by unfold numR; rw [if_neg (by simpa using hp), if_pos hb], Rd.num_big (r := ⟨bs, 0⟩) rfl hp hb⟩
  ·right
   have h := Rd.num_ok (r := ⟨bs, 0⟩) rfl hp hb
   obtain ⟨m, k, z, hx⟩ : ∃ m k z, parse bs = (m, k, z) := ⟨_, _, _, rfl⟩
   obtain rfl : z = 0 := by rw [hx] at hp; exact hp
   have ho := parse_once hx
   simp only [hx] at h
   exact ⟨m, k, by unfold numR; rw [if_neg (by simpa using hp), if_neg hb, hx], ho.1, ho.2.2.1, h⟩
 ·left
  refine ⟨(parse bs).2.2, ?_, by unfold numR; rw [if_pos hp], Rd.num_bad (r := ⟨bs, 0⟩) rfl i hp⟩
  rcases parse_err bs with h0 | h0 | h0
  ·exact absurd h0 hp
  ·rw [h0]; exact .inl rfl
  ·rw [h0]; exact .inr (.inl rfl)
def RfAt (w : World) (g : Nat) (r : Rd) : Prop := ∃ A n c, w.heap[g]? = some (.cells #[.slice A n c, .int .i64 r.e] 29 (0, 0)) ∧ (A = none → c = 0) ∧ n ≤ c ∧ c ≤ 9223372036854775807 ∧ Byts w A n r.b ∧ OffG g A n
theorem RfAt.drewN {w : World} {g : Nat} {r : Rd} (h : RfAt w g r) (n : Nat) : RfAt (w.drewN n) g r := by
 obtain ⟨A, m, c, hg, h1, h2, h3, hB, ho⟩ := h
 exact ⟨A, m, c, hg, h1, h2, h3, ArrR.up hB ((Ext.refl w).drewN n), ho⟩
theorem RfAt.up {w w' : World} {g : Nat} {r : Rd} (h : RfAt w g r) (hx : Ext w w') : RfAt w' g r := by
 obtain ⟨A, m, c, hg, h1, h2, h3, hB, ho⟩ := h
 exact ⟨A, m, c, (hx.block (Array.getElem?_eq_some_iff.1 hg).1).trans hg, h1, h2, h3, ArrR.up hB hx, ho⟩
theorem RfAt.lt {w : World} {g : Nat} {r : Rd} (h : RfAt w g r) : g < w.heap.size := by
 obtain ⟨A, m, c, hg, _⟩ := h
 exact (Array.getElem?_eq_some_iff.1 hg).1
theorem RfAt.setE {w : World} {g : Nat} {r : Rd} (h : RfAt w g r) (e : Int) : RfAt (w.setCell ⟨g, 1, none⟩ (.int .i64 e)) g ⟨r.b, e⟩ := by
 obtain ⟨A, m, c, hg, h1, h2, h3, hB, ho⟩ := h
 exact ⟨A, m, c, blk_set hg _, h1, h2, h3, hB.only ho ((Only.refl g w).set _ _), ho⟩
theorem RfAt.setB {w : World} {g : Nat} {r : Rd} {b o n c : Nat} (hg : w.heap[g]? = some (.cells #[.slice (some ⟨b, o, none⟩) n c, .int .i64 r.e] 29 (0, 0))) (hnc : n ≤ c) (hcm : c ≤ 9223372036854775807) (hB : Byts w (some ⟨b, o, none⟩) n r.b) (ho : OffG g (some ⟨b, o, none⟩) n) {k : Nat} (hk : k ≤ n) :
  RfAt (w.setCell ⟨g, 0, none⟩ (.slice (some ⟨b, o + k, none⟩) (n - k) (c - k))) g ⟨r.b.drop k, r.e⟩ := by
 refine ⟨_, _, _, blk_set hg _, (fun h => by cases h), by omega, by omega, (byts_drop hB k).only ?_ ((Only.refl g w).set _ _), ?_⟩ <;>
 ·intro hn b' o' e
  injection e with e
  injection e with e1 e2
  subst e1
  exact ho (by omega) b o rfl
theorem RfAt.setB0 {w : World} {g : Nat} {r : Rd} {A : Option Addr} {n c : Nat} (hg : w.heap[g]? = some (.cells #[.slice A n c, .int .i64 r.e] 29 (0, 0))) (hB : Byts w A n r.b) :
  RfAt (w.setCell ⟨g, 0, none⟩ (.slice A 0 0)) g ⟨r.b.drop n, r.e⟩ := by
 refine ⟨_, _, _, blk_set hg _, fun _ => rfl, Nat.le_refl _, by omega, ?_, fun h => absurd h (by omega)⟩
 rw [List.drop_eq_nil_of_le (by rw [hB.1]; exact Nat.le_refl _)]
 exact ArrR.nil_
def RfPost (w : World) (g : Nat) (r : Rd) (v : Value) (e : Ending) (w' : World) : Prop := e = .returned v ∧ RfAt w' g r ∧ Only g w w'
theorem RfAt.box {w : World} {A : Option Addr} {n c : Nat} {bs : List UInt8} (e : Int) (hB : Byts w A n bs) (hA : A = none → c = 0) (hnc : n ≤ c) (hcm : c ≤ 9223372036854775807) :
  RfAt (w.alloc (.cells #[.slice A n c, .int .i64 e] 29)) w.heap.size ⟨bs, e⟩ := by
 refine ⟨A, n, c, heap_alloc_new w _, hA, hnc, hcm, ArrR.up hB (Ext.new _ _), fun hn b o e => ?_⟩
 obtain ⟨b', o', e', hb, _⟩ := hB.2 hn
 rw [e] at e'
 injection e' with e'
 injection e' with e1 e2
 omega
theorem RfAt.cells {w : World} {g : Nat} {r : Rd} (h : RfAt w g r) : ∃ A n c, (∀ i, w.cell? ⟨g, i, none⟩ = #[Value.slice A n c, Value.int .i64 r.e][i]?) ∧ (∀ i, w.frozen? ⟨g, i, none⟩ = false) ∧ (A = none → c = 0) ∧ n ≤ c ∧ c ≤ 9223372036854775807 ∧ Byts w A n r.b := by
 obtain ⟨A, n, c, hg, h1, h2, h3, hB, _⟩ := h
 obtain ⟨g0, g1⟩ := blk_rules hg
 exact ⟨A, n, c, g0, g1, h1, h2, h3, hB⟩
section
variable {g base size n : Nat} {e : TypeId} {v : Value} {xs : List Value} {W w3 : World}
theorem rfat_grown {r : Rd} (h : RfAt W g r) (hg3 : W.grownBy w3 v.ownBlock) (hown : W.ownsRow base e size v n xs) (hb : g < base) : RfAt w3 g r := by
 obtain ⟨A, m, c, hg, h1, h2, h3, hB, ho⟩ := h
 have hlt : g < W.heap.size := (Array.getElem?_eq_some_iff.1 hg).1
 refine ⟨A, m, c, (hg3.block g hlt (fun e' => by have := (hown.lt g e'.symm).1; omega)).trans hg, h1, h2, h3, ⟨hB.1, fun hm => ?_⟩, ho⟩
 obtain ⟨b, o, e1, hbl, hc⟩ := hB.2 hm
 have hbg := ho hm b o e1
 refine ⟨b, o, e1, Nat.lt_of_lt_of_le hbl hg3.size, fun k x hx => ?_⟩
 obtain ⟨cs, a1, a2, a3⟩ := hc k x hx
 exact ⟨cs, a1, a2, fun j u hu => (World.cell?_of_block (hg3.block b hbl (fun e' => by have := (hown.lt b e'.symm).1; omega))).trans (a3 j u hu)⟩
end
theorem RfAt.setFar {w : World} {g p i : Nat} {r : Rd} (h : RfAt w g r) (hp : g < p) (u : Value) : RfAt (w.setCell ⟨p, i, none⟩ u) g r := by
 obtain ⟨A, m, c, hg, h1, h2, h3, hB, ho⟩ := h
 refine ⟨A, m, c, (blk_far (by omega) u).trans hg, h1, h2, h3, ⟨hB.1, fun hm => ?_⟩, ho⟩
 obtain ⟨b, o, e1, hbl, hc⟩ := hB.2 hm
 have hbg := ho hm b o e1
 refine ⟨b, o, e1, by simpa [World.setCell] using hbl, fun k x hx => ?_⟩
 obtain ⟨cs, a1, a2, a3⟩ := hc k x hx
 exact ⟨cs, a1, a2, fun j v hv => (World.cell?_of_block (blk_far (g := b) (Nat.ne_of_lt (Nat.lt_trans hbg hp)) u)).trans (a3 j v hv)⟩
def TakePost (w : World) (A0 : Option Addr) (n0 : Nat) (r : Rd) (x : Value) (e : Ending) (w' : World) : Prop :=
 ∃ A n c, e = .returned (.tuple #[.agg #[.slice A n c, .int .i64 r.e], x]) ∧ Byts w' A n r.b ∧ (A = none → c = 0) ∧ n ≤ c ∧ c ≤ 9223372036854775807 ∧ (∀ g, OffG g A0 n0 → OffG g A n) ∧ Ext w w'
theorem offG_zero {g : Nat} {A : Option Addr} : OffG g A 0 := fun h => absurd h (by omega)
theorem offG_drop {g b o n k m : Nat} (h : OffG g (some ⟨b, o, none⟩) n) (hn : 0 < m → 0 < n) : OffG g (some ⟨b, k, none⟩) m := fun hm b' o' e => by
 injection e with e; injection e with e1 e2; subst e1; exact h (hn hm) b o rfl
theorem refTakeNum_any (A : Option Addr) (n c : Nat) (rd : Rd) (i : Int) (w : World) (hA : Byts w A n rd.b) (hc : A = none → c = 0) (hnc : n ≤ c) (hcm : c ≤ 9223372036854775807) :
  Calls Tryz.prog 169 #[.agg #[.slice A n c, .int .i64 rd.e], .int .i64 i] w (TakePost w A n (rd.num i).1 (.int .i64 ((rd.num i).2 : Nat))) := by
 have HL := hid hA.len
 have HA := hid hA
 have HAc := hid hc
 clear hA hc
 by_cases he0 : rd.e = 0; rotate_left
 ·have HR := hid (Rd.num_err he0 i)
  have hb : (rd.e != 0) = true := by simpa using he0
  have EX : Hid (Ext w ((w.alloc (.cells #[.slice A n c, .int .i64 rd.e] 29)).alloc (.cells #[.slice A n c, .int .i64 rd.e] 29))) := hid ((Ext.new _ _).alloc _)
  clear he0
  go_enter Tryz.func169, Tryz.ntmps169
  go_wp2_with fail
  exact bodyPost_ret (v := .tuple #[.agg #[.slice A n c, .int .i64 rd.e], .int .i64 0]) (by simp [results, Tryz.results169, go_sem]) rfl ⟨A, n, c, by rw [HR.out]; rfl, by rw [HR.out]; exact ArrR.up HA.out EX.out, HAc.out, hnc, hcm, fun _ h => h, EX.out⟩
 obtain ⟨bs, er0⟩ := rd
 obtain rfl : er0 = 0 := he0
 try simp only [] at HL HA ⊢
 have EX : Hid (Ext w ((w.alloc (.cells #[.slice A n c, .int .i64 0] 29)).alloc (.cells #[.slice none 0 0, .int .i64 0] 29))) := hid ((Ext.new _ _).alloc _)
 go_enter Tryz.func169, Tryz.ntmps169
 go_wp2_with fail
 refine (refNum_any A n c bs i _ (ArrR.up HA.out EX.out)).mono ?_
 rintro e w1 ⟨rfl, rfl⟩
 rcases numR_cases bs i with ⟨er, he, hR, hN⟩ | ⟨m, j, hR, hj0, hjl, hN⟩
 ·rw [hR]
  have hb : (er != 0) = true := by rcases he with rfl | rfl | rfl <;> decide
  have HN := hid hN
  clear hR hN he
  go_wp2_with fail
  exact bodyPost_ret (v := .tuple #[.agg #[.slice A n c, .int .i64 er], .int .i64 0]) (by simp [results, Tryz.results169, go_sem]) rfl ⟨A, n, c, by rw [HN.out]; rfl, by rw [HN.out]; exact ArrR.up HA.out ((Ext.new _ _).alloc _), HAc.out, hnc, hcm, fun _ h => h, (Ext.new _ _).alloc _⟩
 ·rw [hR]
  have HN := hid hN
  obtain ⟨b, o, rfl, -⟩ := HA.out.2 (by have := HL.out; omega)
  have j1 : (j : Int) ≤ (n : Int) := by have := HL.out; omega
  have hn0 : 0 < n := by omega
  clear hR hN
  go_wp2_with fail
  ·exact bodyPost_ret (v := .tuple #[.agg #[.slice (some ⟨b, o, none⟩) (n - j) 0, .int .i64 0], .int .i64 m]) (by simp [results, Tryz.results169, go_sem]) rfl ⟨_, n - j, 0, by rw [HN.out], by rw [HN.out]; exact ⟨by rw [List.length_drop, HL.out], fun h => absurd h (by omega)⟩, (fun h => by cases h), by omega, by omega, (fun _ h => offG_drop h (fun _ => hn0)), (Ext.new _ _).alloc _⟩
  ·exact bodyPost_ret (v := .tuple #[.agg #[.slice (some ⟨b, o + j, none⟩) (n - j) (c - j), .int .i64 0], .int .i64 m]) (by simp [results, Tryz.results169, go_sem]) rfl ⟨_, n - j, c - j, by rw [HN.out], by rw [HN.out]; exact ArrR.up (byts_drop HA.out j) ((Ext.new _ _).alloc _), (fun h => by cases h), by omega, by omega, (fun _ h => offG_drop h (fun _ => hn0)), (Ext.new _ _).alloc _⟩
theorem byts_low {w w1 V : World} {A : Option Addr} {n : Nat} {bs : List UInt8} (h : Byts w1 A n bs) (ho : OffG w.heap.size A n) (e1 : Ext w w1) (eV : Ext w V) : Byts V A n bs :=
 ⟨h.1, fun hn => by
  obtain ⟨b, o, e, hb, hc⟩ := h.2 hn
  have hbl := ho hn b o e
  refine ⟨b, o, e, Nat.lt_of_lt_of_le hbl eV.size, fun k x hx => ?_⟩
  obtain ⟨cs, hl, hr, hcs⟩ := hc k x hx
  exact ⟨cs, hl, hr, fun j u hu => ((eV.cell hbl).trans (e1.cell hbl).symm).trans (hcs j u hu)⟩⟩
theorem offG_self {w : World} {A : Option Addr} {n : Nat} {bs : List UInt8} (h : Byts w A n bs) : OffG w.heap.size A n := fun hn b o e => by
 obtain ⟨b', o', e', hb, _⟩ := h.2 hn
 rw [e] at e'; injection e' with e'; injection e' with e1 e2; omega
theorem two_setD {w W V : World} {p : Nat} {T : TypeId} {x0 x1 a0 a1 : Value} (h : W.heap[p]? = some (.cells #[x0, x1] T (0, 0))) (hp : w.heap.size ≤ p) (he : Ext w W)
  (o : Obj) (hV : (((W.setCell ⟨p, 0, none⟩ a0).setCell ⟨p, 1, none⟩ a1).alloc o).drew = V) : V.heap[p]? = some (.cells #[a0, a1] T (0, 0)) ∧ Ext w V := by
 subst hV
 have h1 := blk_set (i := 1) (blk_set (i := 0) h a0) a1
 exact ⟨((Ext.new _ o).block (Array.getElem?_eq_some_iff.1 h1).1).trans h1, (((he.set hp a0).set hp a1).alloc o).drew⟩
theorem two_set {w W V : World} {p : Nat} {T : TypeId} {x0 x1 a0 a1 : Value} (h : W.heap[p]? = some (.cells #[x0, x1] T (0, 0))) (hp : w.heap.size ≤ p) (he : Ext w W)
  (o : Obj) (hV : ((W.setCell ⟨p, 0, none⟩ a0).setCell ⟨p, 1, none⟩ a1).alloc o = V) : V.heap[p]? = some (.cells #[a0, a1] T (0, 0)) ∧ Ext w V := by
 subst hV
 have h1 := blk_set (i := 1) (blk_set (i := 0) h a0) a1
 exact ⟨((Ext.new _ o).block (Array.getElem?_eq_some_iff.1 h1).1).trans h1, ((he.set hp a0).set hp a1).alloc o⟩
theorem refTakeTxt_any (A : Option Addr) (n c : Nat) (rd : Rd) (i : Int) (w : World) (hA : Byts w A n rd.b) (hc : A = none → c = 0) (hnc : n ≤ c) (hcm : c ≤ 9223372036854775807) :
  Calls Tryz.prog 170 #[.agg #[.slice A n c, .int .i64 rd.e], .int .i64 i] w (TakePost w A n (rd.txt i).1 (.string (bstr (rd.txt i).2))) := by
 have HA := hid hA
 have HAc := hid hc
 clear hA hc
 go_enter Tryz.func170, Tryz.ntmps170
 go_wp2_with fail
 refine (refTakeNum_any A n c rd i _ (ArrR.up HA.out ((Ext.new _ _).alloc _)) HAc.out hnc hcm).mono ?_
 rintro e w1 ⟨A1, n1, c1, rfl, hB1, hA1, hn1, hc1, ho1, hb1⟩
 have hle := Rd.num_le rd i
 have hbl := bnd_le i
 have HT := hid (show rd.txt i = if (rd.num i).1.e ≠ 0 then ((rd.num i).1, []) else if (rd.num i).1.b.length < (rd.num i).2 then (⟨(rd.num i).1.b, 1⟩, []) else (⟨(rd.num i).1.b.drop (rd.num i).2, 0⟩, (rd.num i).1.b.take (rd.num i).2) from rfl)
 obtain ⟨r1, m, h1⟩ : ∃ r1 m, rd.num i = (r1, m) := ⟨_, _, rfl⟩
 rw [h1] at hB1 hle ⊢
 have HT' : Hid (rd.txt i = if r1.e ≠ 0 then (r1, []) else if r1.b.length < m then (⟨r1.b, 1⟩, []) else (⟨r1.b.drop m, 0⟩, r1.b.take m)) := hid (by rw [HT.out, h1])
 simp only [] at hB1 hle ⊢
 have HL1 := hid hB1.len
 have HB1 := hid hB1
 have HA1 := hid hA1
 have HO1 := hid ho1
 have E1 := hid (((Ext.new _ _).alloc _).trans hb1)
 have hzs : w.heap.size + 1 < w1.heap.size := by have := hb1.size; simp at this; omega
 obtain ⟨-, KR⟩ := box2b hb1
 have KR := hid KR.1
 obtain ⟨k0, k1⟩ := blk_rules KR.out
 clear h1 HT hb1 hB1 ho1 hA1
 by_cases he : r1.e = 0; rotate_left
 ·have HR : Hid (rd.txt i = (r1, [])) := hid (by rw [HT'.out, if_pos he])
  have hb : (r1.e != 0) = true := by simpa using he
  have EX := hid (E1.out.trans (Ext.new w1 (.cells #[.slice A1 n1 c1, .int .i64 r1.e] 29)))
  clear he
  go_wp2_with fail
  generalize hV : ((w1.setCell { block := w.heap.size + 1, off := 0 } (Value.slice A1 n1 c1)).setCell { block := w.heap.size + 1, off := 1 } (Value.int IntKind.i64 r1.e)).alloc (.cells #[.slice A1 n1 c1, .int .i64 r1.e] 29) = V
  obtain ⟨BV, EV⟩ := two_set KR.out (by omega) E1.out _ hV
  obtain ⟨z0, -⟩ := blk_rules BV
  clear hV
  exact bodyPost_ret (v := .tuple #[.agg #[.slice A1 n1 c1, .int .i64 r1.e], .string ⟨#[]⟩]) (by simp [results, Tryz.results170, go_sem, z0]) rfl ⟨_, _, _, by rw [HR.out]; rfl, by rw [HR.out]; exact byts_low HB1.out (HO1.out _ (offG_self HA.out)) E1.out EV, HA1.out, hn1, hc1, HO1.out, EV⟩
 have hb : (r1.e != 0) = false := by simpa using he
 obtain ⟨b1, e1⟩ := r1
 obtain rfl : e1 = 0 := he
 simp only [] at HT' HB1 HL1 hb ⊢
 by_cases hl : n1 < m
 ·have HR : Hid (rd.txt i = (⟨b1, 1⟩, [])) := hid (by rw [HT'.out, if_neg (by simp), if_pos (by rw [HL1.out]; exact hl)])
  have EX := hid (E1.out.trans (Ext.new w1 (.cells #[.slice A1 n1 c1, .int .i64 0] 29)))
  go_wp2_with fail
  generalize hV : ((w1.setCell { block := w.heap.size + 1, off := 0 } (Value.slice A1 n1 c1)).setCell { block := w.heap.size + 1, off := 1 } (Value.int IntKind.i64 1)).alloc (.cells #[.slice A1 n1 c1, .int .i64 0] 29) = V
  obtain ⟨BV, EV⟩ := two_set KR.out (by omega) E1.out _ hV
  obtain ⟨z0, -⟩ := blk_rules BV
  clear hV
  exact bodyPost_ret (v := .tuple #[.agg #[.slice A1 n1 c1, .int .i64 1], .string ⟨#[]⟩]) (by simp [results, Tryz.results170, go_sem, z0]) rfl ⟨_, _, _, by rw [HR.out]; rfl, by rw [HR.out]; exact byts_low HB1.out (HO1.out _ (offG_self HA.out)) E1.out EV, HA1.out, hn1, hc1, HO1.out, EV⟩
 have HR : Hid (rd.txt i = (⟨b1.drop m, 0⟩, b1.take m)) := hid (by rw [HT'.out, if_neg (by simp), if_neg (by rw [HL1.out]; exact hl)])
 have hmn : m ≤ n1 := by omega
 have i1 : (m : Int) ≤ (n1 : Int) := by omega
 have i2 : (m : Int) ≤ (c1 : Int) := by omega
 have C0 : Ext w ((w1.alloc (.cells #[.slice A1 n1 c1, .int .i64 0] 29)).drew) := (E1.out.trans (Ext.new w1 _)).drew
 have kc := fun (X : World) (hX : Ext w X) => run_conv (P := Tryz.prog) Tryz.underlying22 Tryz.underlying5 Tryz.underlying9 (byts_take (byts_low HB1.out (HO1.out _ (offG_self HA.out)) E1.out hX) hmn) c1
 have kc1 := kc _ C0
 clear C0
 have kc2 := fun (a b : Value) => kc _ (((((E1.out.set (p := ⟨w.heap.size + 1, 0, none⟩) (by simp) a).set (p := ⟨w.heap.size + 1, 1, none⟩) (by simp) b).alloc (.cells #[.slice A1 n1 c1, .int .i64 0] 29))).drew)
 clear kc
 cases A1 with
 | none =>
  obtain rfl := HA1.out rfl
  obtain rfl : n1 = 0 := by omega
  obtain rfl : m = 0 := by omega
  go_wp2_with fail
  go_region
  go_wp2_with fail
  generalize hV : (((w1.setCell { block := w.heap.size + 1, off := 0 } (Value.slice none 0 0)).setCell { block := w.heap.size + 1, off := 1 } (Value.int IntKind.i64 0)).alloc (.cells #[.slice none 0 0, .int .i64 0] 29)).drew = V
  obtain ⟨BV, EV⟩ := two_setD KR.out (by omega) E1.out _ hV
  obtain ⟨z0, -⟩ := blk_rules BV
  clear hV
  exact bodyPost_ret (v := .tuple #[.agg #[.slice none 0 0, .int .i64 0], .string (bstr (b1.take 0))]) (by simp [results, Tryz.results170, go_sem, z0]) rfl ⟨_, _, _, by rw [HR.out], by rw [HR.out]; exact ⟨by rw [List.length_drop, HL1.out]; try omega, fun h => absurd h (by omega)⟩, (fun _ => rfl), by omega, by omega, (fun g _ => offG_zero), EV⟩
 | some ad =>
  by_cases hcap : c1 = m
  ·subst hcap
   obtain rfl : n1 = c1 := by omega
   go_wp2_with fail
   go_region
   go_wp2_with fail
   generalize hV : (((w1.setCell { block := w.heap.size + 1, off := 0 } (Value.slice (some ad) 0 0)).setCell { block := w.heap.size + 1, off := 1 } (Value.int IntKind.i64 0)).alloc (.cells #[.slice (some ad) n1 n1, .int .i64 0] 29)).drew = V
   obtain ⟨BV, EV⟩ := two_setD KR.out (by omega) E1.out _ hV
   obtain ⟨z0, -⟩ := blk_rules BV
   clear hV
   exact bodyPost_ret (v := .tuple #[.agg #[.slice (some ad) 0 0, .int .i64 0], .string (bstr (b1.take n1))]) (by simp [results, Tryz.results170, go_sem, z0]) rfl ⟨_, _, _, by rw [HR.out], by rw [HR.out]; exact ⟨by rw [List.length_drop, HL1.out]; omega, fun h => absurd h (by omega)⟩, (fun h => by cases h), by omega, by omega, (fun g _ => offG_zero), EV⟩
  ·rcases Nat.eq_zero_or_pos n1 with h0 | h0
   ·subst h0
    obtain rfl : m = 0 := by omega
    go_wp2_with fail
    go_region
    go_wp2_with fail
    generalize hV : (((w1.setCell { block := w.heap.size + 1, off := 0 } (Value.slice (some ad) 0 c1)).setCell { block := w.heap.size + 1, off := 1 } (Value.int IntKind.i64 0)).alloc (.cells #[.slice (some ad) 0 c1, .int .i64 0] 29)).drew = V
    obtain ⟨BV, EV⟩ := two_setD KR.out (by omega) E1.out _ hV
    obtain ⟨z0, -⟩ := blk_rules BV
    clear hV
    exact bodyPost_ret (v := .tuple #[.agg #[.slice (some ad) 0 c1, .int .i64 0], .string (bstr [])]) (by simp [results, Tryz.results170, go_sem, z0]) rfl ⟨_, _, _, by rw [HR.out]; rfl, by rw [HR.out]; exact ⟨by rw [List.length_drop, HL1.out], fun h => absurd h (by omega)⟩, (fun h => by cases h), by omega, by omega, (fun g _ => offG_zero), EV⟩
   ·obtain ⟨b, o, e, -⟩ := HB1.out.2 h0
    injection e with e
    subst e
    have hcm : (m : Int) < (c1 : Int) := by omega
    go_wp2_with fail
    go_region
    go_wp2_with fail
    generalize hV : (((w1.setCell { block := w.heap.size + 1, off := 0 } (Value.slice (some ⟨b, o + m, none⟩) (n1 - m) (c1 - m))).setCell { block := w.heap.size + 1, off := 1 } (Value.int IntKind.i64 0)).alloc (.cells #[.slice (some ⟨b, o, none⟩) n1 c1, .int .i64 0] 29)).drew = V
    obtain ⟨BV, EV⟩ := two_setD KR.out (by omega) E1.out _ hV
    obtain ⟨z0, -⟩ := blk_rules BV
    clear hV
    exact bodyPost_ret (v := .tuple #[.agg #[.slice (some ⟨b, o + m, none⟩) (n1 - m) (c1 - m), .int .i64 0], .string (bstr (b1.take m))]) (by simp [results, Tryz.results170, go_sem, z0]) rfl ⟨_, _, _, by rw [HR.out], by rw [HR.out]; exact byts_low (byts_drop HB1.out m) (offG_drop (HO1.out _ (offG_self HA.out)) (fun _ => h0)) E1.out EV, (fun h => by cases h), by omega, by omega, (fun g h => offG_drop (HO1.out _ h) (fun _ => h0)), EV⟩
theorem rfat_new {w1 V : World} {g n1 c1 : Nat} {A1 : Option Addr} {r : Rd} {a b : Value} (hg : w1.heap[g]? = some (.cells #[a, b] 29 (0, 0))) (hB : Byts w1 A1 n1 r.b) (ho : OffG g A1 n1) (hA : A1 = none → c1 = 0) (hn : n1 ≤ c1) (hc : c1 ≤ 9223372036854775807)
  (o : Obj) (hV : ((w1.setCell ⟨g, 0, none⟩ (.slice A1 n1 c1)).setCell ⟨g, 1, none⟩ (.int .i64 r.e)).alloc o = V) : RfAt V g r ∧ Only g w1 V := by
 subst hV
 have h1 := blk_set (i := 1) (blk_set (i := 0) hg (.slice A1 n1 c1)) (.int .i64 r.e)
 have hO : Only g w1 (((w1.setCell ⟨g, 0, none⟩ (.slice A1 n1 c1)).setCell ⟨g, 1, none⟩ (.int .i64 r.e)).alloc o) := (((Only.refl g w1).set 0 _).set 1 _).trans (Only.of_ext (Ext.new _ o))
 exact ⟨⟨A1, n1, c1, ((Ext.new _ o).block (Array.getElem?_eq_some_iff.1 h1).1).trans h1, hA, hn, hc, hB.only ho hO, ho⟩, hO⟩
theorem refNum04_any (g : Nat) (rd : Rd) (i : Int) (w : World) (h : RfAt w g rd) :
  Calls Tryz.prog 86 #[.pointer (some ⟨g, 0, none⟩), .int .i64 i] w (RfPost w g (rd.num i).1 (.int .i64 ((rd.num i).2 : Nat))) := by
 obtain ⟨A, n, c, hg, hA, hnc, hcm, hB, ho⟩ := h
 obtain ⟨g0, g1⟩ := blk_rules hg
 have hgl : g < w.heap.size := (Array.getElem?_eq_some_iff.1 hg).1
 have HG := hid hg
 have HB := hid hB
 have HO := hid ho
 clear hg hB ho
 go_enter Tryz.func86, Tryz.ntmps86
 go_wp2_with fail
 refine (refTakeNum_any A n c rd i _ HB.out hA hnc hcm).mono ?_
 rintro e w1 ⟨A1, n1, c1, rfl, hB1, hA1, hn1, hc1, ho1, hb1⟩
 have HB1 := hid hB1
 have HA1 := hid hA1
 have HO1 := hid (ho1 _ HO.out)
 have HG1 := hid ((hb1.block hgl).trans HG.out)
 have hgl1 : g < w1.heap.size := Nat.lt_of_lt_of_le hgl hb1.size
 have E1 := hid hb1
 clear hB1 hA1 ho1 hb1 g0 g1
 obtain ⟨k0, k1⟩ := blk_rules HG1.out
 go_wp2_with fail
 generalize hV : ((w1.setCell { block := g, off := 0 } (Value.slice A1 n1 c1)).setCell { block := g, off := 1 } (Value.int IntKind.i64 (rd.num i).1.e)).alloc (.cells #[.slice A1 n1 c1, .int .i64 (rd.num i).1.e] 29) = V
 obtain ⟨hr, hv⟩ := rfat_new HG1.out HB1.out HO1.out HA1.out hn1 hc1 _ hV
 clear hV
 go_ret
 exact ⟨rfl, hr, (Only.of_ext E1.out).trans hv⟩
theorem refTxt04_any (g : Nat) (rd : Rd) (i : Int) (w : World) (h : RfAt w g rd) :
  Calls Tryz.prog 87 #[.pointer (some ⟨g, 0, none⟩), .int .i64 i] w (RfPost w g (rd.txt i).1 (.string (bstr (rd.txt i).2))) := by
 obtain ⟨A, n, c, hg, hA, hnc, hcm, hB, ho⟩ := h
 obtain ⟨g0, g1⟩ := blk_rules hg
 have hgl : g < w.heap.size := (Array.getElem?_eq_some_iff.1 hg).1
 have HG := hid hg
 have HB := hid hB
 have HO := hid ho
 clear hg hB ho
 go_enter Tryz.func87, Tryz.ntmps87
 go_wp2_with fail
 refine (refTakeTxt_any A n c rd i _ HB.out hA hnc hcm).mono ?_
 rintro e w1 ⟨A1, n1, c1, rfl, hB1, hA1, hn1, hc1, ho1, hb1⟩
 have HB1 := hid hB1
 have HA1 := hid hA1
 have HO1 := hid (ho1 _ HO.out)
 have HG1 := hid ((hb1.block hgl).trans HG.out)
 have hgl1 : g < w1.heap.size := Nat.lt_of_lt_of_le hgl hb1.size
 have E1 := hid hb1
 clear hB1 hA1 ho1 hb1 g0 g1
 obtain ⟨k0, k1⟩ := blk_rules HG1.out
 go_wp2_with fail
 generalize hV : ((w1.setCell { block := g, off := 0 } (Value.slice A1 n1 c1)).setCell { block := g, off := 1 } (Value.int IntKind.i64 (rd.txt i).1.e)).alloc (.cells #[.slice A1 n1 c1, .int .i64 (rd.txt i).1.e] 29) = V
 obtain ⟨hr, hv⟩ := rfat_new HG1.out HB1.out HO1.out HA1.out hn1 hc1 _ hV
 clear hV
 go_ret
 exact ⟨rfl, hr, (Only.of_ext E1.out).trans hv⟩
theorem refNum10_any (g : Nat) (rd : Rd) (i : Int) (w : World) (h : RfAt w g rd) :
  Calls Tryz.prog 136 #[.pointer (some ⟨g, 0, none⟩), .int .i64 i] w (RfPost w g (rd.num i).1 (.int .i64 ((rd.num i).2 : Nat))) := by
 obtain ⟨A, n, c, hg, hA, hnc, hcm, hB, ho⟩ := h
 obtain ⟨g0, g1⟩ := blk_rules hg
 have hgl : g < w.heap.size := (Array.getElem?_eq_some_iff.1 hg).1
 have HG := hid hg
 have HB := hid hB
 have HO := hid ho
 clear hg hB ho
 go_enter Tryz.func136, Tryz.ntmps136
 go_wp2_with fail
 refine (refTakeNum_any A n c rd i _ HB.out hA hnc hcm).mono ?_
 rintro e w1 ⟨A1, n1, c1, rfl, hB1, hA1, hn1, hc1, ho1, hb1⟩
 have HB1 := hid hB1
 have HA1 := hid hA1
 have HO1 := hid (ho1 _ HO.out)
 have HG1 := hid ((hb1.block hgl).trans HG.out)
 have hgl1 : g < w1.heap.size := Nat.lt_of_lt_of_le hgl hb1.size
 have E1 := hid hb1
 clear hB1 hA1 ho1 hb1 g0 g1
 obtain ⟨k0, k1⟩ := blk_rules HG1.out
 go_wp2_with fail
 generalize hV : ((w1.setCell { block := g, off := 0 } (Value.slice A1 n1 c1)).setCell { block := g, off := 1 } (Value.int IntKind.i64 (rd.num i).1.e)).alloc (.cells #[.slice A1 n1 c1, .int .i64 (rd.num i).1.e] 29) = V
 obtain ⟨hr, hv⟩ := rfat_new HG1.out HB1.out HO1.out HA1.out hn1 hc1 _ hV
 clear hV
 go_ret
 exact ⟨rfl, hr, (Only.of_ext E1.out).trans hv⟩
end Go.Proofs.YtfdjbnofcniodaaGreatDoor
