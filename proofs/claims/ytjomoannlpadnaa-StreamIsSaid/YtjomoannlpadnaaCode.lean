/- What the functions of package code compute that lay numbers and texts. -/
import Derived.Test.YtjomoannlpadnaaRows
import Derived.Test.YtjomoannlpadnaaBytes
import Derived.Test.YtjomoannlpadnaaCodePlain
import Derived.Test.YtjomoannlpadnaaMem2
import Derived.Test.YtjomoannlpadnaaBits
import Derived.Outline
import Derived.Lib.AppendStr
namespace Go.Proofs.Ytjomoannlpadnaa
open Go.RowKit
attribute [local go_sem ↓] run_max2 run_min2

set_option maxHeartbeats 400000 in
theorem bounded_any (n : Int) (w : World) : Calls Try.prog 70 #[.int .i64 n] w fun e w' => e = .returned (.int .i64 (bnd n : Nat)) ∧ w = w' := by
  have h := Lib.hid (bnd_cast n)
  go_enter Try.func70, Try.ntmps70
  go_wp2_with fail
  go_ret
  exact ⟨ret_int h.out, rfl⟩

set_option maxRecDepth 100000 in
set_option maxHeartbeats 400000 in
theorem number_any (A : Option Addr) (n c : Nat) (bs : List UInt8) (k : Int) (w : World) (hA : Byts w A n bs) (hc : A = none → c = 0) (hn : n ≤ 1000000000) :
    Calls Try.prog 38 #[.slice A n c, .int .i64 k] w fun e w' => ∃ v, e = .returned v ∧ w'.ownsRow w.heap.size 5 1 v (n + (enc (bnd k)).length) ((bs ++ enc (bnd k)).map byteV) ∧ Ext w w' := by
  go_enter Try.func38, Try.ntmps38
  go_wp2_with fail
  refine (clone_any _ _ _ _ _ hA hc (by omega)).mono ?_
  rintro e w1 ⟨v1, rfl, hown1, hb1⟩
  go_wp2_with fail
  refine (bounded_any _ _).mono ?_
  rintro e w2 ⟨rfl, rfl⟩
  go_wp2_with fail
  go_loopw [1, 5] (fun i t wr => ∃ (f m : Nat) (pre : List UInt8), i = .int .i64 m ∧ Hid (m < 128 ^ (f + 1)) ∧ m ≤ 2147483647 ∧ Hid (pre ++ encF f m = enc (bnd k)) ∧ wr.ownsRow w.heap.size 5 1 t (n + pre.length) ((bs ++ pre).map byteV) ∧ Hid (Ext w wr)) (fun i _ _ => (intOf i).toNat)
  case atStart => exact ⟨4, bnd k, [], rfl, Lib.hid (pow5 (bnd_le k)), bnd_le k, rfl, by simpa using hown1, hb1⟩
  case round =>
    obtain ⟨f, m, pre, rfl, HM, hm, HE, hown, HX⟩ := hrel
    have HN : Hid (n + pre.length ≤ 1000000010) := Lib.hid (by
      have h1 := congrArg List.length HE.out
      have h2 := enc_len (bnd k)
      rw [List.length_append] at h1
      omega)
    have hz : w.heap.size ≤ wr.heap.size := HX.out.size
    by_cases hlt : 128 ≤ m
    · obtain ⟨u, hu⟩ : ∃ u : UInt8, u = UInt8.ofNat (m % 128 + 128) := ⟨_, rfl⟩
      have hbit : bits BinOp.or IntKind.i64 (m : Int) 128 % 256 = (u.toNat : Int) := by rw [hu]; exact or_more m hm
      have HU := Lib.hid hu
      clear hu
      go_wp2_with (at_builtin
                   obtain ⟨v', w2, hrun, hown2, hg2, _⟩ := run_append_flat elem_byte 42 (own_up hown (Ext.new wr (.cells #[byteV u] 5))) 1 (flat_one wr (byteV u) 5) (by simp [Value.oneCell', byteV]) (by have := HN.out; omega) (by have := HN.out; omega) (by simp; omega) (fun h => by cases h)
                   refine Lib.wpList_append_run _ rfl _ _ _ _ rfl _ _ rfl rfl v' w2 hrun ?_)
      go_roundw
      case rel =>
        obtain ⟨f', rfl⟩ : ∃ f', f = f' + 1 := ⟨f - 1, by
          have h1 := HM.out
          rcases Nat.eq_zero_or_pos f with h0 | h0
          · subst h0; simp at h1; omega
          · omega⟩
        refine ⟨f', m / 128, pre ++ [u], by rw [Int.natCast_ediv]; rfl, div_pow HM.out, by omega, ?_, ?_, ((HX.out.alloc _).grown hg2 (own_up hown (Ext.new wr (.cells #[byteV u] 5))) (Nat.le_refl _))⟩
        · have := HE.out
          rw [encF_ge hlt] at this
          rw [HU.out, List.append_assoc]
          exact this
        · rw [List.length_append, List.length_singleton, ← List.append_assoc, List.map_append]
          exact hown2
      case measure => simp [intOf]; omega
    · have hml : m < 128 := by omega
      have hbyte : (m : Int) = ((UInt8.ofNat m).toNat : Int) := by rw [ofNat_lt (by omega)]
      obtain ⟨u, hu⟩ : ∃ u : UInt8, u = UInt8.ofNat m := ⟨_, rfl⟩
      rw [← hu] at hbyte
      have HB := Lib.hid hbyte
      have HU := Lib.hid hu
      have hcell : (Value.int IntKind.u8 (m : Int)) = byteV u := by unfold byteV; rw [← hbyte]
      have HC := Lib.hid hcell
      clear hu hbyte hcell
      go_wp2_with (at_builtin
                   rw [HC.out]
                   obtain ⟨v', w2, hrun, hown2, hg2, _⟩ := run_append_flat elem_byte 42 (own_up hown (Ext.new wr (.cells #[byteV u] 5))) 1 (flat_one wr (byteV u) 5) (by simp [Value.oneCell', byteV]) (by have := HN.out; omega) (by have := HN.out; omega) (by simp; omega) (fun h => by cases h)
                   refine Lib.wpList_append_run _ rfl _ _ _ _ rfl _ _ rfl rfl v' w2 hrun ?_)
      go_ret
      have he : enc (bnd k) = pre ++ [u] := by rw [← HE.out, encF_lt hml, HU.out]
      refine ⟨_, rfl, ?_, (HX.out.alloc _).grown hg2 (own_up hown (Ext.new wr (.cells #[byteV u] 5))) (Nat.le_refl _)⟩
      rw [he, List.length_append, List.length_singleton, ← List.append_assoc, List.map_append]
      exact hown2

/-- a text as bytes with how many there are ahead -/
def encT (s : List UInt8) : List UInt8 := enc s.length ++ s
theorem strCells_byteV (s : ByteArray) : Lib.strCells s = s.data.toList.map byteV := rfl
theorem size_toList (s : ByteArray) : s.data.toList.length = s.size := by rw [Array.length_toList]; rfl

set_option maxRecDepth 100000 in
set_option maxHeartbeats 400000 in
theorem text_any (A : Option Addr) (n c : Nat) (bs : List UInt8) (s : ByteArray) (w : World) (hA : Byts w A n bs) (hc : A = none → c = 0) (hn : n ≤ 1000000000) (hs : s.size ≤ 1000000000) :
    Calls Try.prog 40 #[.slice A n c, .string s] w fun e w' => ∃ v, e = .returned v ∧ w'.ownsRow w.heap.size 5 1 v (n + (encT s.data.toList).length) ((bs ++ encT s.data.toList).map byteV) ∧ Ext w w' := by
  obtain ⟨ht, ⟨i, hi, hz, hsize, hby⟩, hzs, hsz⟩ := elem_byte
  have HT := Lib.hid (show encT s.data.toList = enc (bnd (s.size : Int)) ++ s.data.toList by unfold encT; rw [size_toList, bnd_of (by omega)])
  go_enter Try.func40, Try.ntmps40
  go_wp2_with fail
  refine (number_any _ _ _ bs _ _ hA hc hn).mono ?_
  rintro e w1 ⟨v1, rfl, hown1, hb1⟩
  have hl := enc_len (bnd (s.size : Int))
  have hz1 : w.heap.size ≤ w1.heap.size := hb1.size
  go_wp2_with (at_builtin
               obtain ⟨v', w2, hrun, hown2, hg2, _⟩ := Lib.run_append_own_string (P := Try.prog) w1 w.heap.size 42 9 42 5 i ht Try.underlying9 hi hz hsize hby v1 _ _ hown1 s (by unfold maxLen; omega) (by omega) hz1
               refine Lib.wpList_append_run _ rfl _ _ _ _ rfl _ _ rfl rfl v' w2 hrun ?_)
  go_ret
  refine ⟨_, rfl, ?_, hb1.grown hg2 hown1 (Nat.le_refl _)⟩
  rw [HT.out, List.length_append, size_toList, ← List.append_assoc, List.map_append, ← Nat.add_assoc, ← strCells_byteV]
  exact hown2

set_option maxRecDepth 100000 in
set_option maxHeartbeats 400000 in
theorem size_any (k : Int) (w : World) : Calls Try.prog 42 #[.int .i64 k] w fun e w' => e = .returned (.int .i64 ((enc (bnd k)).length : Nat)) ∧ w = w' := by
  go_enter Try.func42, Try.ntmps42
  go_wp2_with fail
  refine (bounded_any _ _).mono ?_
  rintro e w2 ⟨rfl, rfl⟩
  go_wp2_with fail
  go_loop [0, 3] (fun i t => ∃ (f m j : Nat), i = .int .i64 m ∧ Hid (m < 128 ^ (f + 1)) ∧ m ≤ 2147483647 ∧ t = .int .i64 j ∧ j ≤ 5 ∧ Hid (j + (encF f m).length = 1 + (enc (bnd k)).length)) (fun i _ => (intOf i).toNat)
  case atStart => exact ⟨4, bnd k, 1, rfl, Lib.hid (pow5 (bnd_le k)), bnd_le k, rfl, by omega, rfl⟩
  case round =>
    obtain ⟨f, m, j, rfl, HM, hm, rfl, hj, HJ⟩ := hrel
    by_cases hlt : 128 ≤ m
    · go_wp2_with fail
      go_round
      case rel =>
        obtain ⟨f', rfl⟩ : ∃ f', f = f' + 1 := ⟨f - 1, by
          have h1 := HM.out
          rcases Nat.eq_zero_or_pos f with h0 | h0
          · subst h0; simp at h1; omega
          · omega⟩
        have h1 := HJ.out
        rw [encF_ge hlt, List.length_cons] at h1
        have h2 := encF_pos f' (m / 128)
        have h3 := enc_len (bnd k)
        exact ⟨f', m / 128, j + 1, by rw [Int.natCast_ediv]; rfl, div_pow HM.out, by omega, by go_num, by omega, Lib.hid (by omega)⟩
      case measure => simp [intOf]; omega
    · have h1 := HJ.out
      rw [encF_lt (by omega)] at h1
      obtain rfl : j = (enc (bnd k)).length := by simp at h1; omega
      clear h1
      go_wp2_with fail
      go_ret
      exact ⟨rfl, rfl⟩
end Go.Proofs.Ytjomoannlpadnaa
