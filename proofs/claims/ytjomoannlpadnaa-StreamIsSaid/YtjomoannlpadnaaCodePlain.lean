/- Plain: numbers and texts as bytes; a reader of them. No program. -/
import Derived.Test.YtjomoannlpadnaaBase
namespace Go.Proofs.Ytjomoannlpadnaa

/-- a number brought to what may be -/
def bnd (n : Int) : Nat := (max 0 (min n 2147483647)).toNat
theorem bnd_le (n : Int) : bnd n ≤ 2147483647 := by unfold bnd; omega
theorem bnd_of {n : Nat} (h : n ≤ 2147483647) : bnd n = n := by unfold bnd; omega
theorem bnd_cast (n : Int) : max 0 (min n 2147483647) = (bnd n : Int) := by unfold bnd; omega
theorem bnd_mono {a b : Int} (h : a ≤ b) : bnd a ≤ bnd b := by unfold bnd; omega

def encF : Nat → Nat → List UInt8
  | 0, n => [UInt8.ofNat n]
  | f + 1, n => if 128 ≤ n then UInt8.ofNat (n % 128 + 128) :: encF f (n / 128) else [UInt8.ofNat n]
def enc (n : Nat) : List UInt8 := encF 4 n
theorem encF_lt {f n : Nat} (h : n < 128) : encF f n = [UInt8.ofNat n] := by
  cases f with
  | zero => rfl
  | succ f => unfold encF; rw [if_neg (by omega)]
theorem encF_ge {f n : Nat} (h : 128 ≤ n) : encF (f + 1) n = UInt8.ofNat (n % 128 + 128) :: encF f (n / 128) := by
  conv => lhs; unfold encF
  rw [if_pos h]
theorem encF_pos (f n : Nat) : 0 < (encF f n).length := by
  cases f with
  | zero => simp [encF]
  | succ f => unfold encF; split <;> simp
theorem encF_len (f n : Nat) : (encF f n).length ≤ f + 1 := by
  induction f generalizing n with
  | zero => simp [encF]
  | succ f ih => unfold encF; split; simp; exact ih _; simp
theorem enc_pos (n : Nat) : 0 < (enc n).length := encF_pos _ _
theorem enc_len (n : Nat) : (enc n).length ≤ 5 := encF_len _ _
theorem encF_mono {f a b : Nat} (h : a ≤ b) : (encF f a).length ≤ (encF f b).length := by
  induction f generalizing a b with
  | zero => simp [encF]
  | succ f ih =>
    by_cases ha : 128 ≤ a
    · rw [encF_ge ha, encF_ge (by omega)]
      have := ih (a := a / 128) (b := b / 128) (Nat.div_le_div_right h)
      simpa using this
    · rw [encF_lt (by omega)]
      exact encF_pos _ _
theorem enc_mono {a b : Nat} (h : a ≤ b) : (enc a).length ≤ (enc b).length := encF_mono h
theorem pow5 {n : Nat} (h : n ≤ 2147483647) : n < 128 ^ 5 := by
  have : (128 : Nat) ^ 5 = 34359738368 := by decide
  omega
theorem div_pow {f n : Nat} (h : n < 128 ^ (f + 1 + 1)) : n / 128 < 128 ^ (f + 1) := by
  rw [Nat.div_lt_iff_lt_mul (by omega), ← Nat.pow_succ]; exact h

/-- the number that bytes begin with, how many bytes it has, what is wrong -/
def parseF : Nat → Nat → Nat → List UInt8 → Nat × Nat × Int
  | 0, _, _, _ => (0, 0, 2)
  | _ + 1, _, _, [] => (0, 0, 1)
  | f + 1, k, n, c :: r =>
    if 128 ≤ c.toNat then parseF f (k + 1) (n + c.toNat % 128 * 128 ^ k) r
    else if c.toNat = 0 ∧ 0 < k then (0, 0, 2) else (n + c.toNat % 128 * 128 ^ k, k + 1, 0)
def parse (bs : List UInt8) : Nat × Nat × Int := parseF 5 0 0 bs
theorem ofNat_lt {n : Nat} (h : n < 256) : (UInt8.ofNat n).toNat = n := by rw [UInt8.toNat_ofNat']; omega
theorem ofNat_toNat (c : UInt8) : UInt8.ofNat c.toNat = c := by simp

/-- one step -/
theorem parseF_step {bs : List UInt8} {j x : Nat} {u : UInt8} (hj : j < 5) (hu : bs[j]? = some u) : parseF (5 - j) j x (bs.drop j) =
    if 128 ≤ u.toNat then parseF (5 - (j + 1)) (j + 1) (x + u.toNat % 128 * 128 ^ j) (bs.drop (j + 1))
    else if u.toNat = 0 ∧ 0 < j then (0, 0, 2) else (x + u.toNat % 128 * 128 ^ j, j + 1, 0) := by
  rw [drop_of hu, show 5 - j = (5 - (j + 1)) + 1 by omega]
  conv => lhs; unfold parseF
theorem step_lt {j x : Nat} (u : UInt8) (hx : x < 128 ^ j) : x + u.toNat % 128 * 128 ^ j < 128 ^ (j + 1) := by
  have h1 : u.toNat % 128 ≤ 127 := by omega
  have h2 : u.toNat % 128 * 128 ^ j ≤ 127 * 128 ^ j := Nat.mul_le_mul_right _ h1
  rw [Nat.pow_succ]
  omega

theorem parseF_enc (f : Nat) : ∀ (k n m : Nat) (rest : List UInt8), m < 128 ^ (f + 1) → (0 < k → 0 < m) → parseF (f + 1) k n (encF f m ++ rest) = (n + m * 128 ^ k, k + (encF f m).length, 0) := by
  induction f with
  | zero =>
    intro k n m rest hm hk
    have h1 : m < 128 := by simpa using hm
    rw [encF_lt h1]
    simp only [List.cons_append, List.nil_append, parseF]
    rw [ofNat_lt (by omega), if_neg (by omega), if_neg (by omega), Nat.mod_eq_of_lt h1]
    rfl
  | succ f ih =>
    intro k n m rest hm hk
    by_cases h : 128 ≤ m
    · rw [encF_ge h]
      simp only [List.cons_append, parseF]
      rw [ofNat_lt (by omega), if_pos (by omega), ih _ _ _ _ (div_pow hm) (by omega)]
      have e1 : (m % 128 + 128) % 128 = m % 128 := by omega
      have e2 : m % 128 * 128 ^ k + m / 128 * 128 ^ (k + 1) = m * 128 ^ k := by
        rw [Nat.pow_succ, ← Nat.mul_assoc, Nat.mul_right_comm, ← Nat.add_mul]
        congr 1
        omega
      rw [e1, Nat.add_assoc, e2]
      simp only [List.length_cons]
      congr 2
      omega
    · have h1 : m < 128 := by omega
      rw [encF_lt h1]
      simp only [List.cons_append, List.nil_append, parseF]
      rw [ofNat_lt (by omega), if_neg (by omega), if_neg (by omega), Nat.mod_eq_of_lt h1]
      rfl
theorem parse_enc {m : Nat} (h : m ≤ 2147483647) (rest : List UInt8) : parse (enc m ++ rest) = (m, (enc m).length, 0) := by
  unfold parse enc
  rw [parseF_enc 4 0 0 m rest (pow5 h) (by omega)]
  simp

theorem parseF_short (f : Nat) : ∀ (k n m j : Nat), j < (encF f m).length → parseF (f + 1) k n ((encF f m).take j) = (0, 0, 1) := by
  induction f with
  | zero =>
    intro k n m j hj
    have : j = 0 := by simp [encF] at hj; exact hj
    subst this
    simp [parseF]
  | succ f ih =>
    intro k n m j hj
    by_cases h : 128 ≤ m
    · rw [encF_ge h] at hj ⊢
      cases j with
      | zero => simp [parseF]
      | succ j =>
        rw [List.take_succ_cons]
        unfold parseF
        rw [ofNat_lt (by omega), if_pos (by omega)]
        exact ih _ _ _ _ (by simpa using hj)
    · rw [encF_lt (by omega)] at hj ⊢
      have : j = 0 := by simp at hj; exact hj
      subst this
      simp [parseF]
theorem parse_short {m j : Nat} (h : j < (enc m).length) : parse ((enc m).take j) = (0, 0, 1) := parseF_short 4 0 0 m j h

theorem parseF_once (f : Nat) : ∀ (k n : Nat) (bs : List UInt8) (v j : Nat), parseF (f + 1) k n bs = (v, j, 0) → ∃ m, v = n + m * 128 ^ k ∧ k < j ∧ j ≤ k + f + 1 ∧ j - k ≤ bs.length ∧ (0 < k → 0 < m) ∧ m < 128 ^ (f + 1) ∧ encF f m = bs.take (j - k) := by
  induction f with
  | zero =>
    intro k n bs v j h
    cases bs with
    | nil => simp [parseF] at h
    | cons c r =>
      unfold parseF at h
      split at h
      · simp [parseF] at h
      · rename_i h1
        split at h
        · simp at h
        · rename_i h2
          injection h with h3 h4
          injection h4 with h4 _
          subst h3 h4
          refine ⟨c.toNat, by rw [Nat.mod_eq_of_lt (by omega)], by omega, by omega, by simp, by omega, by simpa using h1, ?_⟩
          rw [Nat.add_sub_cancel_left]
          simp [encF]
  | succ f ih =>
    intro k n bs v j h
    cases bs with
    | nil => simp [parseF] at h
    | cons c r =>
      unfold parseF at h
      split at h
      · rename_i h1
        obtain ⟨m, g1, g2, g3, g4, g5, g6, g7⟩ := ih _ _ _ _ _ h
        have hc : c.toNat < 256 := c.toNat_lt
        refine ⟨c.toNat % 128 + 128 * m, ?_, by omega, by omega, by simp; omega, by have := g5 (by omega); omega, ?_, ?_⟩
        · rw [g1, Nat.pow_succ, Nat.add_assoc]
          congr 1
          rw [Nat.add_mul]
          congr 1
          rw [Nat.mul_comm 128 m, Nat.mul_assoc, Nat.mul_comm 128]
        · rw [Nat.pow_succ]; omega
        · have hm := g5 (by omega)
          rw [encF_ge (by omega)]
          have e1 : (c.toNat % 128 + 128 * m) % 128 + 128 = c.toNat := by omega
          have e2 : (c.toNat % 128 + 128 * m) / 128 = m := by omega
          rw [e1, e2, g7, ofNat_toNat]
          have e3 : j - k = (j - (k + 1)) + 1 := by omega
          rw [e3, List.take_succ_cons]
      · rename_i h1
        split at h
        · simp at h
        · rename_i h2
          injection h with h3 h4
          injection h4 with h4 _
          subst h3 h4
          refine ⟨c.toNat, by rw [Nat.mod_eq_of_lt (by omega)], by omega, by omega, by simp, by omega, ?_, ?_⟩
          · have : (128 : Nat) ≤ 128 ^ (f + 1 + 1) := by
              rw [Nat.pow_succ]
              exact Nat.le_mul_of_pos_left _ (Nat.pow_pos (by omega))
            omega
          · rw [Nat.add_sub_cancel_left, encF_lt (by omega)]
            simp
/-- what is taken of any bytes is put as just these -/
theorem parse_once {bs : List UInt8} {v j : Nat} (h : parse bs = (v, j, 0)) : 0 < j ∧ j ≤ 5 ∧ j ≤ bs.length ∧ enc v = bs.take j := by
  obtain ⟨m, g1, g2, g3, g4, _, _, g7⟩ := parseF_once 4 0 0 bs v j h
  simp at g1
  subst g1
  exact ⟨g2, by omega, by simpa using g4, by unfold enc; simpa using g7⟩
/-- the error is 0, 1 or 2 -/
theorem parseF_err (f : Nat) : ∀ (k n : Nat) (bs : List UInt8), (parseF f k n bs).2.2 = 0 ∨ parseF f k n bs = (0, 0, 1) ∨ parseF f k n bs = (0, 0, 2) := by
  induction f with
  | zero => intro k n bs; exact .inr (.inr rfl)
  | succ f ih =>
    intro k n bs
    cases bs with
    | nil => exact .inr (.inl rfl)
    | cons c r =>
      unfold parseF
      split
      · exact ih _ _ _
      · split
        · exact .inr (.inr rfl)
        · exact .inl rfl
theorem parse_err (bs : List UInt8) : (parse bs).2.2 = 0 ∨ parse bs = (0, 0, 1) ∨ parse bs = (0, 0, 2) := parseF_err 5 0 0 bs
/-- more bytes behind change nothing, but where it is short -/
theorem parseF_more (f : Nat) : ∀ (k n : Nat) (bs more : List UInt8), parseF f k n bs ≠ (0, 0, 1) → parseF f k n (bs ++ more) = parseF f k n bs := by
  induction f with
  | zero => intro k n bs more _; rfl
  | succ f ih =>
    intro k n bs more h
    cases bs with
    | nil => exact absurd rfl h
    | cons c r =>
      rw [List.cons_append]
      unfold parseF at h ⊢
      split
      · rename_i h1
        rw [if_pos h1] at h
        exact ih _ _ _ _ h
      · rfl
theorem parse_more {bs : List UInt8} (more : List UInt8) (h : parse bs ≠ (0, 0, 1)) : parse (bs ++ more) = parse bs := parseF_more 5 0 0 bs more h
/-- how great -/
theorem parseF_lt (f : Nat) : ∀ (k n : Nat) (bs : List UInt8), n < 128 ^ k → (parseF f k n bs).1 < 128 ^ (k + f) := by
  induction f with
  | zero => intro k n bs hn; exact Nat.pow_pos (by omega)
  | succ f ih =>
    intro k n bs hn
    have hstep : ∀ c : UInt8, n + c.toNat % 128 * 128 ^ k < 128 ^ (k + 1) := by
      intro c
      have h1 : c.toNat % 128 ≤ 127 := by omega
      have h2 : c.toNat % 128 * 128 ^ k ≤ 127 * 128 ^ k := Nat.mul_le_mul_right _ h1
      rw [Nat.pow_succ]
      omega
    cases bs with
    | nil => exact Nat.pow_pos (by omega)
    | cons c r =>
      unfold parseF
      split
      · have := ih (k + 1) _ r (hstep c)
        rw [show k + (f + 1) = k + 1 + f by omega]
        exact this
      · split
        · exact Nat.pow_pos (by omega)
        · refine Nat.lt_of_lt_of_le (hstep c) (Nat.pow_le_pow_right (by omega) (by omega))
theorem parse_lt (bs : List UInt8) : (parse bs).1 < 34359738368 := by
  have := parseF_lt 5 0 0 bs (by simp)
  unfold parse
  simpa using this

structure Rd where
  b : List UInt8
  e : Int
def Rd.num (r : Rd) (limit : Int) : Rd × Nat :=
  if r.e ≠ 0 then (r, 0)
  else if (parse r.b).2.2 ≠ 0 then (⟨r.b, (parse r.b).2.2⟩, 0)
  else if bnd limit < (parse r.b).1 then (⟨r.b, 3⟩, 0)
  else (⟨r.b.drop (parse r.b).2.1, 0⟩, (parse r.b).1)
def Rd.txt (r : Rd) (limit : Int) : Rd × List UInt8 :=
  if (r.num limit).1.e ≠ 0 then ((r.num limit).1, [])
  else if (r.num limit).1.b.length < (r.num limit).2 then (⟨(r.num limit).1.b, 1⟩, [])
  else (⟨(r.num limit).1.b.drop (r.num limit).2, 0⟩, (r.num limit).1.b.take (r.num limit).2)
def Rd.done (r : Rd) : Int := if 0 < r.b.length ∧ r.e = 0 then 2 else r.e
theorem Rd.num_err {r : Rd} (h : r.e ≠ 0) (i : Int) : r.num i = (r, 0) := by unfold Rd.num; rw [if_pos h]
theorem Rd.txt_err {r : Rd} (h : r.e ≠ 0) (i : Int) : r.txt i = (r, []) := by unfold Rd.txt; rw [Rd.num_err h, if_pos h]
theorem Rd.done_err {r : Rd} (h : r.e ≠ 0) : r.done = r.e := by unfold Rd.done; rw [if_neg (by omega)]
theorem Rd.num_bad {r : Rd} (h : r.e = 0) (i : Int) (hp : (parse r.b).2.2 ≠ 0) : r.num i = (⟨r.b, (parse r.b).2.2⟩, 0) := by unfold Rd.num; rw [if_neg (by simpa using h), if_pos hp]
theorem Rd.num_big {r : Rd} (h : r.e = 0) {i : Int} (hp : (parse r.b).2.2 = 0) (hb : bnd i < (parse r.b).1) : r.num i = (⟨r.b, 3⟩, 0) := by
  unfold Rd.num; rw [if_neg (by simpa using h), if_neg (by simpa using hp), if_pos hb]
theorem Rd.num_ok {r : Rd} (h : r.e = 0) {i : Int} (hp : (parse r.b).2.2 = 0) (hb : ¬ bnd i < (parse r.b).1) : r.num i = (⟨r.b.drop (parse r.b).2.1, 0⟩, (parse r.b).1) := by
  unfold Rd.num; rw [if_neg (by simpa using h), if_neg (by simpa using hp), if_neg hb]
/-- a number that was put is taken -/
theorem Rd.num_put {m : Nat} (hm : m ≤ 2147483647) (rest : List UInt8) {i : Int} (hi : m ≤ bnd i) : (Rd.mk (enc m ++ rest) 0).num i = (⟨rest, 0⟩, m) := by
  have hp := parse_enc hm rest
  rw [Rd.num_ok rfl (by simp only [hp]) (by simp only [hp]; omega)]
  simp only [hp, List.drop_left]
theorem Rd.num_put_big {m : Nat} (hm : m ≤ 2147483647) (rest : List UInt8) {i : Int} (hi : bnd i < m) : (Rd.mk (enc m ++ rest) 0).num i = (⟨enc m ++ rest, 3⟩, 0) := by
  have hp := parse_enc hm rest
  rw [Rd.num_big rfl (by simp only [hp]) (by simp only [hp]; omega)]
theorem Rd.num_short {m j : Nat} (hj : j < (enc m).length) (i : Int) : (Rd.mk ((enc m).take j) 0).num i = (⟨(enc m).take j, 1⟩, 0) := by
  have hp := parse_short hj
  rw [Rd.num_bad rfl _ (by simp only [hp]; decide)]
  simp only [hp]
theorem Rd.txt_put {s : List UInt8} (hs : s.length ≤ 2147483647) (rest : List UInt8) {i : Int} (hi : s.length ≤ bnd i) : (Rd.mk (enc s.length ++ (s ++ rest)) 0).txt i = (⟨rest, 0⟩, s) := by
  unfold Rd.txt
  rw [Rd.num_put hs _ hi]
  simp
/-- what a number's taking leaves -/
theorem Rd.num_le (r : Rd) (i : Int) : (r.num i).2 ≤ bnd i := by
  unfold Rd.num
  split
  · simp
  · split
    · simp
    · split
      · simp
      · rename_i h; simp only []; omega
end Go.Proofs.Ytjomoannlpadnaa
