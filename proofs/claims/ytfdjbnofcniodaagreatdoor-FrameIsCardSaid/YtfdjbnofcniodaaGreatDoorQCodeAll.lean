/- bytes.Clone, slices.Grow, slices.Concat at []byte and [][]byte. -/
import Derived.Test.YtfdjbnofcniodaaGreatDoorRows
import Derived.Test.YtfdjbnofcniodaaGreatDoorQGround
import Derived.Laws.BitsAllLaws
import Derived.Laws.BitsLemmas
import Derived.Outline
import Derived.Lib.AppendStr
namespace Go.Proofs.YtfdjbnofcniodaaGreatDoor
open Lib (hid)
set_option maxHeartbeats 800000
set_option maxRecDepth 100000
open Go.RowKit
theorem elem_byte : ElemOk Tryz.prog 22 5 (.int .u8 0) 1 1 := ElemOk.mk Tryz.underlying22 (by kernel_rfl) rfl (by omega)
theorem clone_any (A : Option Addr) (n c : Nat) (bs : List UInt8) (w : World) (hA : Byts w A n bs) (hc : A = none → c = 0) (hn : n ≤ 140737488355328) :
  Calls Tryz.prog 92 #[.slice A n c] w fun e w' => ∃ v, e = .returned v ∧ w'.ownsRow w.heap.size 5 1 v n (bs.map byteV) ∧ Ext w w' := by
 have q := fun (w : World) (a : Option Addr) (n c n' c' : Nat) => Lib.run_eql_slice_nil (P := Tryz.prog) w 22 _ a n c n' c' Tryz.underlying22
 cases A with
 | none =>
  obtain rfl := hc rfl
  have h0 : n = 0 := by
   rcases Nat.eq_zero_or_pos n with h | h
   ·exact h
   ·obtain ⟨_, _, h', _⟩ := hA.2 h
    cases h'
  subst h0
  have hb : bs = [] := List.eq_nil_of_length_eq_zero hA.1
  subst hb
  go_enter Tryz.func92, Tryz.ntmps92
  go_wp2_with fail
  go_ret
  exact ⟨_, rfl, own_nil, Ext.refl _⟩
 | some a =>
  go_enter Tryz.func92, Tryz.ntmps92
  have hE := own_empty_lit w w.heap.size 5 1 (Nat.le_refl _)
  have hF := hA.flat.up (Ext.new w (.cells #[] 5))
  go_wp2_with (at_builtin
               obtain ⟨v', w1, hrun, hown1, hg1, _⟩ := run_append_flat elem_byte 22 hE c hF (byteV_one bs) (by omega) (by omega) (by simp) (fun h => by cases h)
               refine Lib.wpList_append_run _ rfl _ _ _ _ rfl _ _ rfl rfl v' w1 hrun ?_)
  go_ret
  exact ⟨_, rfl, by simpa using hown1, (Ext.new _ _).grown hg1 hE (Nat.le_refl _)⟩
theorem or128 (m : Nat) : (m ||| 128) % 256 = m % 128 + 128 := by
 have h1 : (m ||| 128) % 2 ^ 8 = m % 2 ^ 8 ||| 128 % 2 ^ 8 := Nat.or_mod_two_pow
 have h2 : (m ||| 128) % 256 = m % 256 ||| 128 := h1
 rw [h2]
 obtain ⟨r, hr, hx⟩ : ∃ r, r < 128 ∧ (m % 256 = r ∨ m % 256 = 128 + r) := ⟨m % 128, by omega, by omega⟩
 have h3 : 2 ^ 7 * 1 + r = 2 ^ 7 * 1 ||| r := Nat.two_pow_add_eq_or_of_lt (by omega) 1
 have h4 : 128 + r = 128 ||| r := h3
 rcases hx with hx | hx
 ·rw [hx, Nat.or_comm, ← h4]; omega
 ·rw [hx, h4, Nat.or_comm, ← Nat.or_assoc, Nat.or_self, ← h4]; omega
theorem i64_or (a b : Nat) (ha : a < 9223372036854775808) (hb : b < 9223372036854775808) : bits .or .i64 (a : Int) (b : Int) = ((a ||| b : Nat) : Int) := by
 have hx : a ||| b < 2 ^ 63 := Nat.or_lt_two_pow (by omega) (by omega)
 show IntKind.i64.wrap ((BitVec.ofInt 64 (a : Int) ||| BitVec.ofInt 64 (b : Int)).toNat : Int) = _
 rw [BitVec.toNat_or, ofInt_i64_lt a ha, ofInt_i64_lt b hb, IntKind.wrap_i64]
 omega
theorem or_more (m : Nat) (hm : m ≤ 2147483647) : bits .or .i64 (m : Int) 128 % 256 = ((UInt8.ofNat (m % 128 + 128)).toNat : Int) := by
 rw [show (128 : Int) = ((128 : Nat) : Int) from rfl, i64_or m 128 (by omega) (by omega), UInt8.toNat_ofNat']
 have := or128 m
 omega
theorem u8_andNot (u : UInt8) : bits .andNot .u8 (u.toNat : Int) 128 = ((u.toNat % 128 : Nat) : Int) := by
 have h : ∀ n : Fin 256, bits .andNot .u8 ((n.val : Nat) : Int) 128 = ((n.val % 128 : Nat) : Int) := by decide +kernel
 exact h ⟨u.toNat, u.toNat_lt⟩
theorem pow7 (j : Nat) : 2 ^ (j * 7) = 128 ^ j := by
 rw [Nat.mul_comm, Nat.pow_mul]
theorem pow128_le {j : Nat} (h : j < 5) : 128 ^ j ≤ 268435456 := by
 have := Nat.pow_le_pow_right (n := 128) (by omega) (show j ≤ 4 by omega)
 simpa using this
theorem parse_bits {x j : Nat} (u : UInt8) (hj : j < 5) (hx : x < 128 ^ j) :
  bits .or .i64 (x : Int) (RowKit.wrap64 (RowKit.wrap64 (bits .andNot .u8 (u.toNat : Int) 128) * 2 ^ (j * 7))) = ((x + u.toNat % 128 * 128 ^ j : Nat) : Int) := by
 have h1 := pow128_le hj
 have h2 : u.toNat % 128 * 128 ^ j ≤ 127 * 268435456 := Nat.mul_le_mul (by omega) h1
 have e1 : RowKit.wrap64 ((u.toNat % 128 : Nat) : Int) = ((u.toNat % 128 : Nat) : Int) := by unfold RowKit.wrap64; omega
 have e2 : ((u.toNat % 128 : Nat) : Int) * 2 ^ (j * 7) = ((u.toNat % 128 * 128 ^ j : Nat) : Int) := by
  rw [← pow7]
  push_cast
  rfl
 rw [u8_andNot, e1, e2]
 have e3 : RowKit.wrap64 ((u.toNat % 128 * 128 ^ j : Nat) : Int) = ((u.toNat % 128 * 128 ^ j : Nat) : Int) := by unfold RowKit.wrap64; omega
 rw [e3, i64_or _ _ (by omega) (by omega)]
 congr 1
 have h3 : 2 ^ (j * 7) * (u.toNat % 128) + x = 2 ^ (j * 7) * (u.toNat % 128) ||| x := Nat.two_pow_add_eq_or_of_lt (by rw [pow7]; exact hx) _
 rw [pow7, Nat.mul_comm] at h3
 rw [Nat.or_comm, ← h3, Nat.add_comm]
open Go.RowKit
attribute [local go_sem ↓] run_max2 run_min2
theorem bounded_any (n : Int) (w : World) : Calls Tryz.prog 155 #[.int .i64 n] w fun e w' => e = .returned (.int .i64 (bnd n : Nat)) ∧ w = w' := by
 have h := hid (bnd_cast n)
 go_enter Tryz.func155, Tryz.ntmps155
 go_wp2_with fail
 go_ret
 exact ⟨ret_int h.out, rfl⟩
theorem number_any (A : Option Addr) (n c : Nat) (bs : List UInt8) (k : Int) (w : World) (hA : Byts w A n bs) (hc : A = none → c = 0) (hn : n ≤ 1000000000) :
  Calls Tryz.prog 93 #[.slice A n c, .int .i64 k] w fun e w' => ∃ v, e = .returned v ∧ w'.ownsRow w.heap.size 5 1 v (n + (enc (bnd k)).length) ((bs ++ enc (bnd k)).map byteV) ∧ Ext w w' := by
 go_enter Tryz.func93, Tryz.ntmps93
 go_wp2_with fail
 refine (clone_any _ _ _ _ _ hA hc (by omega)).mono ?_
 rintro e w1 ⟨v1, rfl, hown1, hb1⟩
 go_wp2_with fail
 refine (bounded_any _ _).mono ?_
 rintro e w2 ⟨rfl, rfl⟩
 go_wp2_with fail
 go_loopw [1, 5] (fun i t wr => ∃ (f m : Nat) (pre : List UInt8), i = .int .i64 m ∧ Hid (m < 128 ^ (f + 1)) ∧ m ≤ 2147483647 ∧ Hid (pre ++ encF f m = enc (bnd k)) ∧ wr.ownsRow w.heap.size 5 1 t (n + pre.length) ((bs ++ pre).map byteV) ∧ Hid (Ext w wr)) (fun i _ _ => (intOf i).toNat)
 case atStart => exact ⟨4, bnd k, [], rfl, hid (pow5 (bnd_le k)), bnd_le k, rfl, by simpa using hown1, hb1⟩
 case round =>
  obtain ⟨f, m, pre, rfl, HM, hm, HE, hown, HX⟩ := hrel
  have HN : Hid (n + pre.length ≤ 1000000010) := hid (by
   have h1 := congrArg List.length HE.out
   have h2 := enc_len (bnd k)
   rw [List.length_append] at h1
   omega)
  have hz : w.heap.size ≤ wr.heap.size := HX.out.size
  by_cases hlt : 128 ≤ m
  ·obtain ⟨u, hu⟩ : ∃ u : UInt8, u = UInt8.ofNat (m % 128 + 128) := ⟨_, rfl⟩
   have hbit : bits BinOp.or IntKind.i64 (m : Int) 128 % 256 = (u.toNat : Int) := by rw [hu]; exact or_more m hm
   have HU := hid hu
   clear hu
   go_wp2_with (at_builtin
                obtain ⟨v', w2, hrun, hown2, hg2, _⟩ := run_append_flat elem_byte 22 (own_up hown (Ext.new wr (.cells #[byteV u] 5))) 1 (flat_one wr (byteV u) 5) (by simp [Value.oneCell', byteV]) (by have := HN.out; omega) (by have := HN.out; omega) (by simp; omega) (fun h => by cases h)
                refine Lib.wpList_append_run _ rfl _ _ _ _ rfl _ _ rfl rfl v' w2 hrun ?_)
   go_roundw
   case rel =>
    obtain ⟨f', rfl⟩ : ∃ f', f = f' + 1 := ⟨f - 1, by
     have h1 := HM.out
     rcases Nat.eq_zero_or_pos f with h0 | h0
     ·subst h0; simp at h1; omega
     ·omega⟩
    refine ⟨f', m / 128, pre ++ [u], by rw [Int.natCast_ediv]; rfl, div_pow HM.out, by omega, ?_, ?_, ((HX.out.alloc _).grown hg2 (own_up hown (Ext.new wr (.cells #[byteV u] 5))) (Nat.le_refl _))⟩
    ·have := HE.out
     rw [encF_ge hlt] at this
     rw [HU.out, List.append_assoc]
     exact this
    ·rw [List.length_append, List.length_singleton, ← List.append_assoc, List.map_append]
     exact hown2
   case measure => simp [intOf]; omega
  ·have hml : m < 128 := by omega
   have hbyte : (m : Int) = ((UInt8.ofNat m).toNat : Int) := by rw [ofNat_lt (by omega)]
   obtain ⟨u, hu⟩ : ∃ u : UInt8, u = UInt8.ofNat m := ⟨_, rfl⟩
   rw [← hu] at hbyte
   have HB := hid hbyte
   have HU := hid hu
   have hcell : (Value.int IntKind.u8 (m : Int)) = byteV u := by unfold byteV; rw [← hbyte]
   have HC := hid hcell
   clear hu hbyte hcell
   go_wp2_with (at_builtin
                rw [HC.out]
                obtain ⟨v', w2, hrun, hown2, hg2, _⟩ := run_append_flat elem_byte 22 (own_up hown (Ext.new wr (.cells #[byteV u] 5))) 1 (flat_one wr (byteV u) 5) (by simp [Value.oneCell', byteV]) (by have := HN.out; omega) (by have := HN.out; omega) (by simp; omega) (fun h => by cases h)
                refine Lib.wpList_append_run _ rfl _ _ _ _ rfl _ _ rfl rfl v' w2 hrun ?_)
   go_ret
   have he : enc (bnd k) = pre ++ [u] := by rw [← HE.out, encF_lt hml, HU.out]
   refine ⟨_, rfl, ?_, (HX.out.alloc _).grown hg2 (own_up hown (Ext.new wr (.cells #[byteV u] 5))) (Nat.le_refl _)⟩
   rw [he, List.length_append, List.length_singleton, ← List.append_assoc, List.map_append]
   exact hown2
theorem strCells_byteV (s : ByteArray) : Lib.strCells s = s.data.toList.map byteV := rfl
theorem size_toList (s : ByteArray) : s.data.toList.length = s.size := by rw [Array.length_toList]; rfl
theorem text_any (A : Option Addr) (n c : Nat) (bs : List UInt8) (s : ByteArray) (w : World) (hA : Byts w A n bs) (hc : A = none → c = 0) (hn : n ≤ 1000000000) (hs : s.size ≤ 1000000000) :
  Calls Tryz.prog 94 #[.slice A n c, .string s] w fun e w' => ∃ v, e = .returned v ∧ w'.ownsRow w.heap.size 5 1 v (n + (encT s.data.toList).length) ((bs ++ encT s.data.toList).map byteV) ∧ Ext w w' := by
 obtain ⟨ht, ⟨i, hi, hz, hsize, hby⟩, hzs, hsz⟩ := elem_byte
 have HT := hid (show encT s.data.toList = enc (bnd (s.size : Int)) ++ s.data.toList by unfold encT; rw [size_toList, bnd_of (by omega)])
 go_enter Tryz.func94, Tryz.ntmps94
 go_wp2_with fail
 refine (number_any _ _ _ bs _ _ hA hc hn).mono ?_
 rintro e w1 ⟨v1, rfl, hown1, hb1⟩
 have hl := enc_len (bnd (s.size : Int))
 have hz1 : w.heap.size ≤ w1.heap.size := hb1.size
 go_wp2_with (at_builtin
              obtain ⟨v', w2, hrun, hown2, hg2, _⟩ := Lib.run_append_own_string (P := Tryz.prog) w1 w.heap.size 22 9 22 5 i ht Tryz.underlying9 hi hz hsize hby v1 _ _ hown1 s (by unfold maxLen; omega) (by omega) hz1
              refine Lib.wpList_append_run _ rfl _ _ _ _ rfl _ _ rfl rfl v' w2 hrun ?_)
 go_ret
 refine ⟨_, rfl, ?_, hb1.grown hg2 hown1 (Nat.le_refl _)⟩
 rw [HT.out, List.length_append, size_toList, ← List.append_assoc, List.map_append, ← Nat.add_assoc, ← strCells_byteV]
 exact hown2
open Go.RowKit
attribute [local go_sem ↓] run_max2 run_min2
def OffG (g : Nat) (A : Option Addr) (n : Nat) : Prop := 0 < n → ∀ b o, A = some ⟨b, o, none⟩ → b < g
def RdAt (w : World) (g : Nat) (r : Rd) : Prop := ∃ A n c, w.heap[g]? = some (.cells #[.slice A n c, .int .i64 r.e] 27 (0, 0)) ∧ (A = none → c = 0) ∧ n ≤ c ∧ c ≤ 9223372036854775807 ∧ Byts w A n r.b ∧ OffG g A n
theorem parse_any (g : Nat) (r : Rd) (w : World) (h : RdAt w g r) :
  Calls Tryz.prog 154 #[.pointer (some ⟨g, 0, none⟩)] w fun e w' => e = .returned (.tuple #[.int .i64 ((parse r.b).1 : Nat), .int .i64 ((parse r.b).2.1 : Nat), .int .i64 (parse r.b).2.2]) ∧ ∃ nq, w' = w.drewN nq := by
 obtain ⟨A, n, c, hg, hA, hnc, hcm, hB, -⟩ := h
 obtain ⟨g0, -⟩ := blk_rules hg
 have HB := hid hB
 clear hg
 obtain ⟨M, hM⟩ : ∃ M : Nat, min (n : Int) 5 = (M : Int) := ⟨min n 5, by omega⟩
 have hM0 : max (M : Int) 0 = (M : Int) := by omega
 have hMn : M ≤ n := by omega
 have hM5 : M ≤ 5 := by omega
 have HM : Hid (M = n ∨ M = 5) := hid (by omega)
 have HL := hid hB.len
 clear hB
 go_enter Tryz.func154, Tryz.ntmps154
 go_wp2_with fail
 go_quiet (fail)
 go_wp2_with fail
 clear hM hM0
 go_loop [5, 20] (fun t i => ∃ (j x : Nat), j ≤ M ∧ i = .int .i64 j ∧ t = .int .i64 x ∧ Hid (parseF (5 - j) j x (r.b.drop j) = parse r.b) ∧ Hid (x < 128 ^ j)) (fun _ i => M - (intOf i).toNat)
 case atStart => exact ⟨0, 0, Nat.zero_le _, rfl, rfl, hid rfl, hid (by decide)⟩
 case round =>
  obtain ⟨j, x, hj, rfl, rfl, HP, HX⟩ := hrel
  by_cases hlt : j < M
  ·obtain ⟨b, o, u, rfl, hb0, hu, hcell⟩ := Byts.at_ HB.out (k := j) (by omega)
   obtain ⟨y, hy⟩ : ∃ y, y = x + u.toNat % 128 * 128 ^ j := ⟨_, rfl⟩
   have hbit := parse_bits u (show j < 5 by omega) HX.out
   have hst := HP.out
   rw [parseF_step (by omega) hu] at hst
   have hylt := step_lt u HX.out
   rw [← hy] at hbit hst hylt
   have HS := hid hst
   have HYL := hid hylt
   clear hu hst hy hylt
   by_cases h1 : 128 ≤ u.toNat
   ·go_wp2_with fail
    go_round
    case rel => exact ⟨j + 1, y, by omega, by go_num, rfl, hid (by rw [← HS.out, if_pos h1]), HYL⟩
    case measure => simp [intOf]; omega
   ·by_cases h2 : u.toNat = 0 ∧ 0 < j
    ·have HR : Hid (parse r.b = (0, 0, 2)) := hid (by rw [← HS.out, if_neg h1, if_pos h2])
     obtain ⟨h2, h3⟩ := h2
     go_wp2_with fail
     go_ret3
     exact ⟨by rw [HR.out]; rfl, _, rfl⟩
    ·have HR : Hid (parse r.b = (y, j + 1, 0)) := hid (by rw [← HS.out, if_neg h1, if_neg h2])
     have H2 := hid h2
     clear h2
     go_wp2_with fail
     all_goals first
      | exact absurd ⟨by assumption, by assumption⟩ H2.out
      | (go_ret3
         exact ⟨by rw [HR.out]; rfl, _, rfl⟩)
  ·have HR : Hid (parse r.b = (0, 0, if n < 5 then 1 else 2)) := hid (by
    obtain rfl : j = M := by omega
    have h1 := HP.out
    by_cases hn : n < 5
    ·have := HM.out
     have hl := HL.out
     rw [if_pos hn, ← h1, List.drop_eq_nil_of_le (by omega), show 5 - j = (5 - j - 1) + 1 by omega]
     rfl
    ·have := HM.out
     obtain rfl : j = 5 := by omega
     rw [if_neg hn, ← h1]
     rfl)
   by_cases hn : n < 5
   ·go_wp2_with fail
    go_ret3
    exact ⟨by rw [HR.out, if_pos hn]; rfl, _, rfl⟩
   ·go_wp2_with fail
    go_ret3
    exact ⟨by rw [HR.out, if_neg hn]; rfl, _, rfl⟩
abbrev Only (g : Nat) (w w' : World) : Prop := w.grownBy w' (some g)
section
variable {a b w w' : World} {g : Nat}
theorem Only.refl (g : Nat) (w : World) : Only g w w := World.grownBy.refl w _
theorem Only.drewN (h : Only g a w) (n : Nat) : Only g a (w.drewN n) := ⟨h.os, h.tape, h.output, h.size, h.block⟩
theorem Only.drew (h : Only g a w) : Only g a w.drew := ⟨h.os, h.tape, h.output, h.size, h.block⟩
theorem Only.set (h : Only g a w) (i : Nat) (u : Value) : Only g a (w.setCell ⟨g, i, none⟩ u) :=
 ⟨h.os, h.tape, h.output, by simpa [World.setCell] using h.size, fun k hk hne => (Below.heap_setCell w ⟨g, i, none⟩ u k (fun e => hne (by rw [e]))).trans (h.block k hk hne)⟩
theorem Only.trans (h : Only g a b) (k : Only g b w) : Only g a w :=
 ⟨k.os.trans h.os, k.tape.trans h.tape, k.output.trans h.output, Nat.le_trans h.size k.size, fun i hi hne => (k.block i (Nat.lt_of_lt_of_le hi h.size) hne).trans (h.block i hi hne)⟩
theorem Only.of_ext (h : Ext a w) : Only g a w := ⟨h.os, h.tape, h.output, h.size, fun _ hi _ => h.block hi⟩
theorem Only.ext (h : Ext a b) (k : Only g b w) (hg : a.heap.size ≤ g) : Ext a w := Below.grown h k h.size fun _ e => by injection e with e; omega
theorem Only.cell (h : Only g a w) {b o : Nat} (hb : b < a.heap.size) (hne : b ≠ g) : w.cell? ⟨b, o, none⟩ = a.cell? ⟨b, o, none⟩ := World.cell?_of_block (h.block b hb (fun e => hne (by injection e)))
end
theorem Byts.only {w w' : World} {g n : Nat} {A : Option Addr} {bs : List UInt8} (h : Byts w A n bs) (ho : OffG g A n) (hk : Only g w w') : Byts w' A n bs :=
 ⟨h.1, fun hn => by
  obtain ⟨b, o, e, hb, hc⟩ := h.2 hn
  refine ⟨b, o, e, Nat.lt_of_lt_of_le hb hk.size, fun k x hx => ?_⟩
  obtain ⟨cs, hl, hr, hcs⟩ := hc k x hx
  exact ⟨cs, hl, hr, fun j u hu => (hk.cell hb (Nat.ne_of_lt (ho hn b o e))).trans (hcs j u hu)⟩⟩
theorem RdAt.drewN {w : World} {g : Nat} {r : Rd} (h : RdAt w g r) (n : Nat) : RdAt (w.drewN n) g r := by
 obtain ⟨A, m, c, hg, h1, h2, h3, hB, ho⟩ := h
 exact ⟨A, m, c, hg, h1, h2, h3, ArrR.up hB ((Ext.refl w).drewN n), ho⟩
theorem RdAt.up {w w' : World} {g : Nat} {r : Rd} (h : RdAt w g r) (hx : Ext w w') : RdAt w' g r := by
 obtain ⟨A, m, c, hg, h1, h2, h3, hB, ho⟩ := h
 exact ⟨A, m, c, (hx.block (Array.getElem?_eq_some_iff.1 hg).1).trans hg, h1, h2, h3, ArrR.up hB hx, ho⟩
theorem RdAt.lt {w : World} {g : Nat} {r : Rd} (h : RdAt w g r) : g < w.heap.size := by
 obtain ⟨A, m, c, hg, _⟩ := h
 exact (Array.getElem?_eq_some_iff.1 hg).1
theorem RdAt.setE {w : World} {g : Nat} {r : Rd} (h : RdAt w g r) (e : Int) : RdAt (w.setCell ⟨g, 1, none⟩ (.int .i64 e)) g ⟨r.b, e⟩ := by
 obtain ⟨A, m, c, hg, h1, h2, h3, hB, ho⟩ := h
 exact ⟨A, m, c, blk_set hg _, h1, h2, h3, hB.only ho ((Only.refl g w).set _ _), ho⟩
theorem byts_drop {w : World} {b o n : Nat} {bs : List UInt8} (h : Byts w (some ⟨b, o, none⟩) n bs) (k : Nat) : Byts w (some ⟨b, o + k, none⟩) (n - k) (bs.drop k) := by
 refine ⟨by rw [List.length_drop, h.1], fun hp => ?_⟩
 obtain ⟨b', o', e, hb, hc⟩ := h.2 (by omega)
 injection e with e
 injection e with e1 e2
 subst e1 e2
 refine ⟨b, o + k, rfl, hb, fun i x hx => ?_⟩
 rw [List.getElem?_drop] at hx
 obtain ⟨cs, hl, hr, hcs⟩ := hc _ x hx
 refine ⟨cs, hl, hr, fun j u hu => ?_⟩
 have := hcs j u hu
 rw [show o + k + i * 1 + j = o + (k + i) * 1 + j by omega]
 exact this
theorem byts_take {w : World} {A : Option Addr} {n k : Nat} {bs : List UInt8} (h : Byts w A n bs) (hk : k ≤ n) : Byts w A k (bs.take k) := by
 refine ⟨by rw [List.length_take, h.1]; omega, fun hp => ?_⟩
 obtain ⟨b, o, e, hb, hc⟩ := h.2 (by omega)
 refine ⟨b, o, e, hb, fun i x hx => ?_⟩
 have hi : i < k := by have := (List.getElem?_eq_some_iff.1 hx).1; rw [List.length_take] at this; omega
 rw [List.getElem?_take_of_lt hi] at hx
 exact hc i x hx
theorem RdAt.setB {w : World} {g : Nat} {r : Rd} {b o n c : Nat} (hg : w.heap[g]? = some (.cells #[.slice (some ⟨b, o, none⟩) n c, .int .i64 r.e] 27 (0, 0))) (hnc : n ≤ c) (hcm : c ≤ 9223372036854775807) (hB : Byts w (some ⟨b, o, none⟩) n r.b) (ho : OffG g (some ⟨b, o, none⟩) n) {k : Nat} (hk : k ≤ n) :
  RdAt (w.setCell ⟨g, 0, none⟩ (.slice (some ⟨b, o + k, none⟩) (n - k) (c - k))) g ⟨r.b.drop k, r.e⟩ := by
 refine ⟨_, _, _, blk_set hg _, (fun h => by cases h), by omega, by omega, (byts_drop hB k).only ?_ ((Only.refl g w).set _ _), ?_⟩ <;>
 ·intro hn b' o' e
  injection e with e
  injection e with e1 e2
  subst e1
  exact ho (by omega) b o rfl
theorem RdAt.setB0 {w : World} {g : Nat} {r : Rd} {A : Option Addr} {n c : Nat} (hg : w.heap[g]? = some (.cells #[.slice A n c, .int .i64 r.e] 27 (0, 0))) (hB : Byts w A n r.b) :
  RdAt (w.setCell ⟨g, 0, none⟩ (.slice A 0 0)) g ⟨r.b.drop n, r.e⟩ := by
 refine ⟨_, _, _, blk_set hg _, fun _ => rfl, Nat.le_refl _, by omega, ?_, fun h => absurd h (by omega)⟩
 rw [List.drop_eq_nil_of_le (by rw [hB.1]; exact Nat.le_refl _)]
 exact ArrR.nil_
def RdPost (w : World) (g : Nat) (r : Rd) (v : Value) (e : Ending) (w' : World) : Prop := e = .returned v ∧ RdAt w' g r ∧ Only g w w'
theorem fail_any (g : Nat) (r : Rd) (en : Int) (w : World) (h : RdAt w g r) :
  Calls Tryz.prog 152 #[.pointer (some ⟨g, 0, none⟩), .int .i64 en] w (RdPost w g ⟨r.b, if r.e = 0 then en else r.e⟩ (.tuple #[])) := by
 have H := hid h
 obtain ⟨A, n, c, hg, -⟩ := h
 obtain ⟨g0, g1⟩ := blk_rules hg
 clear hg
 by_cases he : r.e = 0
 ·have hb : (r.e == 0) = true := by simpa using he
  have HE := hid he
  clear he
  go_enter Tryz.func152, Tryz.ntmps152
  go_wp2_with fail
  go_end0
  exact ⟨rfl, H.out.setE en, (Only.refl g w).set _ _⟩
 ·have hb : (r.e == 0) = false := by simpa using he
  have HE := hid he
  clear he
  go_enter Tryz.func152, Tryz.ntmps152
  go_wp2_with fail
  go_end0
  exact ⟨rfl, H.out, Only.refl g w⟩
theorem parse_take {bs : List UInt8} (h : (parse bs).2.2 = 0) : (parse bs).2.1 ≤ bs.length :=
 (parse_once (bs := bs) (v := (parse bs).1) (j := (parse bs).2.1) (by rw [← h])).2.2.1
theorem num_any (g : Nat) (r : Rd) (i : Int) (w : World) (h : RdAt w g r) :
  Calls Tryz.prog 75 #[.pointer (some ⟨g, 0, none⟩), .int .i64 i] w (RdPost w g (r.num i).1 (.int .i64 ((r.num i).2 : Nat))) := by
 have H := hid h
 obtain ⟨A, n, c, hg, hA, hnc, hcm, hB, ho⟩ := h
 obtain ⟨g0, g1⟩ := blk_rules hg
 have HG := hid hg
 have HB := hid hB
 have HO := hid ho
 clear hg hB ho
 by_cases he : r.e = 0
 ·have hb : (r.e != 0) = false := by simpa using he
  by_cases hp : (parse r.b).2.2 = 0
  ·by_cases hl : bnd i < (parse r.b).1
   ·have HR := hid (Rd.num_big he hp hl)
    have HE := hid he
    obtain ⟨x, y, z, hxyz⟩ : ∃ x y z, parse r.b = (x, y, z) := ⟨_, _, _, rfl⟩
    obtain rfl : z = 0 := by rw [hxyz] at hp; exact hp
    rw [hxyz] at hl
    simp only [] at hl
    have HX := hid hxyz
    clear he hp hxyz
    go_enter Tryz.func75, Tryz.ntmps75
    go_wp2_with fail
    refine (parse_any g r _ H.out).mono ?_
    rintro e w1 ⟨rfl, nq, rfl⟩
    rw [HX.out]
    go_wp2_with fail
    refine (bounded_any _ _).mono ?_
    rintro e w3 ⟨rfl, rfl⟩
    go_wp2_with fail
    refine (fail_any g r 3 _ (H.out.drewN nq)).mono ?_
    rintro e w2 ⟨rfl, hr2, ho2⟩
    go_wp2_with fail
    go_ret
    exact ⟨by rw [HR.out]; rfl, by rw [HR.out]; rw [if_pos HE.out] at hr2; exact hr2, ((Only.refl g w).drewN nq).trans ho2⟩
   ·have HR := hid (Rd.num_ok he hp hl)
    have HE := hid he
    have hk := parse_take hp
    obtain ⟨x, y, z, hxyz⟩ : ∃ x y z, parse r.b = (x, y, z) := ⟨_, _, _, rfl⟩
    obtain rfl : z = 0 := by rw [hxyz] at hp; exact hp
    have hpos := (parse_once hxyz).1
    rw [hxyz] at hl hk
    simp only [] at hl hk
    rw [HB.out.len] at hk
    have HX := hid hxyz
    clear he hp hxyz
    obtain ⟨b, o, u, rfl, -, -, -⟩ := Byts.at_ HB.out (k := 0) (by omega)
    go_enter Tryz.func75, Tryz.ntmps75
    by_cases hcap : c = y
    ·subst hcap
     obtain rfl : n = c := by omega
     have HR' : Hid (r.b.drop n = (⟨r.b.drop n, r.e⟩ : Rd).b) := hid rfl
     go_wp2_with fail
     refine (parse_any g r _ H.out).mono ?_
     rintro e w1 ⟨rfl, nq, rfl⟩
     rw [HX.out]
     go_wp2_with fail
     refine (bounded_any _ _).mono ?_
     rintro e w3 ⟨rfl, rfl⟩
     go_wp2_with fail
     go_ret
     refine ⟨by rw [HR.out, HX.out]; rfl, ?_, ((Only.refl g w).drewN nq).set _ _⟩
     rw [HR.out, HX.out]
     have := RdAt.setB0 (w := w.drewN nq) (r := r) HG.out (ArrR.up HB.out ((Ext.refl w).drewN nq))
     rw [HE.out] at this
     exact this
    ·go_wp2_with fail
     refine (parse_any g r _ H.out).mono ?_
     rintro e w1 ⟨rfl, nq, rfl⟩
     rw [HX.out]
     go_wp2_with fail
     refine (bounded_any _ _).mono ?_
     rintro e w3 ⟨rfl, rfl⟩
     go_wp2_with fail
     go_ret
     refine ⟨by rw [HR.out, HX.out]; rfl, ?_, ((Only.refl g w).drewN nq).set _ _⟩
     rw [HR.out, HX.out]
     have := RdAt.setB (w := w.drewN nq) (r := r) HG.out hnc hcm (ArrR.up HB.out ((Ext.refl w).drewN nq)) HO.out hk
     rw [HE.out] at this
     exact this
  ·have HR := hid (Rd.num_bad he i hp)
   have HE := hid he
   obtain ⟨x, y, z, hxyz⟩ : ∃ x y z, parse r.b = (x, y, z) := ⟨_, _, _, rfl⟩
   have hz : (z != 0) = true := by rw [hxyz] at hp; simpa using hp
   have hz' : (z == 0) = false := by rw [hxyz] at hp; simpa using hp
   have HX := hid hxyz
   clear he hp hxyz
   go_enter Tryz.func75, Tryz.ntmps75
   go_wp2_with fail
   refine (parse_any g r _ H.out).mono ?_
   rintro e w1 ⟨rfl, nq, rfl⟩
   rw [HX.out]
   go_wp2_with fail
   refine (fail_any g r z _ (H.out.drewN nq)).mono ?_
   rintro e w2 ⟨rfl, hr2, ho2⟩
   go_wp2_with fail
   go_ret
   exact ⟨by rw [HR.out]; rfl, by rw [HR.out, HX.out]; rw [if_pos HE.out] at hr2; exact hr2, ((Only.refl g w).drewN nq).trans ho2⟩
 ·have HR := hid (Rd.num_err he i)
  have hb : (r.e != 0) = true := by simpa using he
  clear he
  go_enter Tryz.func75, Tryz.ntmps75
  go_wp2_with fail
  go_ret
  exact ⟨by rw [HR.out]; rfl, by rw [HR.out]; exact H.out, Only.refl g w⟩
theorem txt_any (g : Nat) (r : Rd) (i : Int) (w : World) (h : RdAt w g r) :
  Calls Tryz.prog 76 #[.pointer (some ⟨g, 0, none⟩), .int .i64 i] w (RdPost w g (r.txt i).1 (.string (bstr (r.txt i).2))) := by
 have hmf : ∀ (fn : Fn) (first cap : Array Value) (w : World), (Instr.makeFunc fn first cap).run Tryz.prog w = .ok (.func fn first cap) w := fun _ _ _ _ => rfl
 go_enter Tryz.func76, Tryz.ntmps76
 go_wp2_with fail
 refine (num_any g r i _ h).mono ?_
 rintro e w1 ⟨rfl, hr1, ho1⟩
 have hle := Rd.num_le r i
 have hbl := bnd_le i
 have HT := hid (show r.txt i = if (r.num i).1.e ≠ 0 then ((r.num i).1, []) else if (r.num i).1.b.length < (r.num i).2 then (⟨(r.num i).1.b, 1⟩, []) else (⟨(r.num i).1.b.drop (r.num i).2, 0⟩, (r.num i).1.b.take (r.num i).2) from rfl)
 obtain ⟨r1, m, h1⟩ : ∃ r1 m, r.num i = (r1, m) := ⟨_, _, rfl⟩
 rw [h1] at hr1 hle ⊢
 have HT' : Hid (r.txt i = if r1.e ≠ 0 then (r1, []) else if r1.b.length < m then (⟨r1.b, 1⟩, []) else (⟨r1.b.drop m, 0⟩, r1.b.take m)) := hid (by rw [HT.out, h1])
 simp only [] at hr1 hle ⊢
 have H1 := hid hr1
 have HO1 := hid ho1
 clear h1 HT h ho1
 obtain ⟨A, n, c, hg, hA, hnc, hcm, hB, ho⟩ := hr1
 obtain ⟨g0, g1⟩ := blk_rules hg
 have HG := hid hg
 have HB := hid hB
 have HO := hid ho
 clear hg hB ho
 by_cases he : r1.e = 0
 ·have hb : (r1.e != 0) = false := by simpa using he
  have HE := hid he
  clear he
  by_cases hl : n < m
  ·have HR : Hid (r.txt i = (⟨r1.b, 1⟩, [])) := hid (by rw [HT'.out, if_neg (by simpa using HE.out), if_pos (by rw [HB.out.len]; exact hl)])
   go_wp2_with fail
   refine (fail_any g r1 1 _ H1.out).mono ?_
   rintro e w2 ⟨rfl, hr2, ho2⟩
   go_wp2_with fail
   go_ret
   exact ⟨by rw [HR.out]; rfl, by rw [HR.out]; rw [if_pos HE.out] at hr2; exact hr2, HO1.out.trans ho2⟩
  ·have HR : Hid (r.txt i = (⟨r1.b.drop m, 0⟩, r1.b.take m)) := hid (by rw [HT'.out, if_neg (by simpa using HE.out), if_neg (by rw [HB.out.len]; exact hl)])
   have hmn : m ≤ n := by omega
   have kc := run_conv (P := Tryz.prog) Tryz.underlying22 Tryz.underlying5 Tryz.underlying9 (byts_take HB.out hmn) c
   cases A with
   | none =>
    obtain rfl := hA rfl
    obtain rfl : n = 0 := by omega
    obtain rfl : m = 0 := by omega
    go_wp2_with fail
    go_ret
    refine ⟨by rw [HR.out]; rfl, ?_, HO1.out.set _ _⟩
    rw [HR.out]
    have := RdAt.setB0 (w := w1) (r := r1) HG.out HB.out
    rw [HE.out] at this
    exact this
   | some a =>
    have hmc : (m : Int) ≤ (c : Int) := by omega
    rcases Nat.eq_zero_or_pos n with h0 | hpos
    ·subst h0
     obtain rfl : m = 0 := by omega
     have HZ : Hid (r1.b = []) := hid (List.eq_nil_of_length_eq_zero HB.out.len)
     by_cases hc0 : c = 0
     ·subst hc0
      go_wp2_with fail
      go_ret
      refine ⟨by rw [HR.out]; rfl, ?_, HO1.out.set _ _⟩
      rw [HR.out, HZ.out]
      have hg := HG.out
      rw [HE.out] at hg
      exact ⟨_, _, _, blk_set hg _, (fun h => by cases h), Nat.le_refl _, by omega, ArrR.nil_, fun h => absurd h (by omega)⟩
     ·go_wp2_with fail
      go_ret
      refine ⟨by rw [HR.out]; rfl, ?_, HO1.out.set _ _⟩
      rw [HR.out, HZ.out]
      have hg := HG.out
      rw [HE.out] at hg
      exact ⟨_, _, _, blk_set hg _, (fun h => by cases h), hnc, hcm, ArrR.nil_, fun h => absurd h (by omega)⟩
    ·obtain ⟨b, o, u, e, -, -, -⟩ := Byts.at_ HB.out (k := 0) hpos
     injection e with e
     subst e
     by_cases hcap : c = m
     ·subst hcap
      obtain rfl : n = c := by omega
      go_wp2_with fail
      go_ret
      refine ⟨by rw [HR.out]; rfl, ?_, HO1.out.set _ _⟩
      rw [HR.out]
      have := RdAt.setB0 (w := w1) (r := r1) HG.out HB.out
      rw [HE.out] at this
      exact this
     ·go_wp2_with fail
      go_ret
      refine ⟨by rw [HR.out]; rfl, ?_, HO1.out.set _ _⟩
      rw [HR.out]
      have := RdAt.setB (w := w1) (r := r1) HG.out hnc hcm HB.out HO.out hmn
      rw [HE.out] at this
      exact this
 ·have HR : Hid (r.txt i = (r1, [])) := hid (by rw [HT'.out, if_pos he])
  have hb : (r1.e != 0) = true := by simpa using he
  clear he
  go_wp2_with fail
  go_ret
  exact ⟨by rw [HR.out]; rfl, by rw [HR.out]; exact H1.out, HO1.out⟩
theorem done_any (g : Nat) (r : Rd) (w : World) (h : RdAt w g r) :
  Calls Tryz.prog 73 #[.pointer (some ⟨g, 0, none⟩)] w (RdPost w g ⟨r.b, r.done⟩ (.int .i64 r.done)) := by
 have H := hid h
 obtain ⟨A, n, c, hg, hA, hnc, hcm, hB, ho⟩ := h
 obtain ⟨g0, g1⟩ := blk_rules hg
 have HL := hid hB.len
 clear hg hB ho
 by_cases hn : 0 < n
 ·have HR : Hid (r.done = if r.e = 0 then 2 else r.e) := hid (by
   unfold Rd.done
   by_cases he : r.e = 0
   ·rw [if_pos ⟨by rw [HL.out]; exact hn, he⟩, if_pos he]
   ·rw [if_neg (fun h => he h.2), if_neg he])
  go_enter Tryz.func73, Tryz.ntmps73
  go_wp2_with fail
  refine (fail_any g r 2 _ H.out).mono ?_
  rintro e w2 ⟨rfl, hr2, ho2⟩
  rw [← HR.out] at hr2
  have H2 := hid hr2
  obtain ⟨A2, n2, c2, hg2, -⟩ := hr2
  obtain ⟨k0, k1⟩ := blk_rules hg2
  clear hg2
  go_wp2_with fail
  go_ret
  exact ⟨rfl, H2.out, ho2⟩
 ·have HR : Hid (r.done = r.e) := hid (by unfold Rd.done; rw [if_neg (fun h => hn (by rw [← HL.out]; exact h.1))])
  go_enter Tryz.func73, Tryz.ntmps73
  go_wp2_with fail
  go_ret
  exact ⟨by rw [HR.out]; rfl, by rw [HR.out]; exact H.out, Only.refl g w⟩
end Go.Proofs.YtfdjbnofcniodaaGreatDoor
