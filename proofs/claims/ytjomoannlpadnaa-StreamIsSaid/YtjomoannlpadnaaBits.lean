/- Bits of numbers, as sums: what code's text does with them. No program. -/
import Derived.Test.YtjomoannlpadnaaBase
import Derived.Laws.BitsAllLaws
import Derived.Laws.BitsLemmas
namespace Go.Proofs.Ytjomoannlpadnaa

theorem or128 (m : Nat) : (m ||| 128) % 256 = m % 128 + 128 := by
  have h1 : (m ||| 128) % 2 ^ 8 = m % 2 ^ 8 ||| 128 % 2 ^ 8 := Nat.or_mod_two_pow
  have h2 : (m ||| 128) % 256 = m % 256 ||| 128 := h1
  rw [h2]
  obtain ⟨r, hr, hx⟩ : ∃ r, r < 128 ∧ (m % 256 = r ∨ m % 256 = 128 + r) := ⟨m % 128, by omega, by omega⟩
  have h3 : 2 ^ 7 * 1 + r = 2 ^ 7 * 1 ||| r := Nat.two_pow_add_eq_or_of_lt (by omega) 1
  have h4 : 128 + r = 128 ||| r := h3
  rcases hx with hx | hx
  · rw [hx, Nat.or_comm, ← h4]; omega
  · rw [hx, h4, Nat.or_comm, ← Nat.or_assoc, Nat.or_self, ← h4]; omega
theorem i64_or (a b : Nat) (ha : a < 9223372036854775808) (hb : b < 9223372036854775808) : bits .or .i64 (a : Int) (b : Int) = ((a ||| b : Nat) : Int) := by
  have hx : a ||| b < 2 ^ 63 := Nat.or_lt_two_pow (by omega) (by omega)
  show IntKind.i64.wrap ((BitVec.ofInt 64 (a : Int) ||| BitVec.ofInt 64 (b : Int)).toNat : Int) = _
  rw [BitVec.toNat_or, ofInt_i64_lt a ha, ofInt_i64_lt b hb, IntKind.wrap_i64]
  omega
theorem or_more (m : Nat) (hm : m ≤ 2147483647) : bits .or .i64 (m : Int) 128 % 256 = ((UInt8.ofNat (m % 128 + 128)).toNat : Int) := by
  rw [show (128 : Int) = ((128 : Nat) : Int) from rfl, i64_or m 128 (by omega) (by omega), UInt8.toNat_ofNat']
  have := or128 m
  omega
theorem u8_andNot (u : UInt8) : bits .andNot .u8 (u.toNat : Int) 128 = ((u.toNat % 128 : Nat) : Int) := by
  have h : ∀ n : Fin 256, bits .andNot .u8 ((n.val : Nat) : Int) 128 = ((n.val % 128 : Nat) : Int) := by decide +kernel
  exact h ⟨u.toNat, u.toNat_lt⟩
theorem pow7 (j : Nat) : 2 ^ (j * 7) = 128 ^ j := by
  rw [Nat.mul_comm, Nat.pow_mul]
theorem pow128_le {j : Nat} (h : j < 5) : 128 ^ j ≤ 268435456 := by
  have := Nat.pow_le_pow_right (n := 128) (by omega) (show j ≤ 4 by omega)
  simpa using this
theorem parse_bits {x j : Nat} (u : UInt8) (hj : j < 5) (hx : x < 128 ^ j) :
    bits .or .i64 (x : Int) (RowKit.wrap64 (RowKit.wrap64 (bits .andNot .u8 (u.toNat : Int) 128) * 2 ^ (j * 7))) = ((x + u.toNat % 128 * 128 ^ j : Nat) : Int) := by
  have h1 := pow128_le hj
  have h2 : u.toNat % 128 * 128 ^ j ≤ 127 * 268435456 := Nat.mul_le_mul (by omega) h1
  have e1 : RowKit.wrap64 ((u.toNat % 128 : Nat) : Int) = ((u.toNat % 128 : Nat) : Int) := by unfold RowKit.wrap64; omega
  have e2 : ((u.toNat % 128 : Nat) : Int) * 2 ^ (j * 7) = ((u.toNat % 128 * 128 ^ j : Nat) : Int) := by
    rw [← pow7]
    push_cast
    rfl
  rw [u8_andNot, e1, e2]
  have e3 : RowKit.wrap64 ((u.toNat % 128 * 128 ^ j : Nat) : Int) = ((u.toNat % 128 * 128 ^ j : Nat) : Int) := by unfold RowKit.wrap64; omega
  rw [e3, i64_or _ _ (by omega) (by omega)]
  congr 1
  have h3 : 2 ^ (j * 7) * (u.toNat % 128) + x = 2 ^ (j * 7) * (u.toNat % 128) ||| x := Nat.two_pow_add_eq_or_of_lt (by rw [pow7]; exact hx) _
  rw [pow7, Nat.mul_comm] at h3
  rw [Nat.or_comm, ← h3, Nat.add_comm]
end Go.Proofs.Ytjomoannlpadnaa
