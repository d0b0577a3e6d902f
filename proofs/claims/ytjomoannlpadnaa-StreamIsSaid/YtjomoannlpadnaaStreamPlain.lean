/- Plain: streams of bytes. No program. -/
import Derived.Test.YtjomoannlpadnaaCodePlain
namespace Go.Proofs.Ytjomoannlpadnaa
set_option linter.unusedVariables false

/-- what bytes begin with: it, how many bytes it takes, what is wrong -/
def next (bs : List UInt8) : List UInt8 × Nat × Int :=
  if ((Rd.mk bs 0).num 100000).1.e ≠ 0 then ([], 0, ((Rd.mk bs 0).num 100000).1.e)
  else if ((Rd.mk bs 0).num 100000).1.b.length < ((Rd.mk bs 0).num 100000).2 then ([], 0, 1)
  else (((Rd.mk bs 0).num 100000).1.b.take ((Rd.mk bs 0).num 100000).2, bs.length - ((Rd.mk bs 0).num 100000).1.b.length + ((Rd.mk bs 0).num 100000).2, 0)
theorem bnd100 : bnd 100000 = 100000 := by decide

/-- the three ways -/
theorem next_cases (bs : List UInt8) :
    (∃ e, (e = 1 ∨ e = 2 ∨ e = 3) ∧ (Rd.mk bs 0).num 100000 = (⟨bs, e⟩, 0) ∧ next bs = ([], 0, e)) ∨
    (∃ m k, parse bs = (m, k, 0) ∧ m ≤ 100000 ∧ 0 < k ∧ k ≤ bs.length ∧ enc m = bs.take k ∧ (Rd.mk bs 0).num 100000 = (⟨bs.drop k, 0⟩, m) ∧
      ((bs.length < k + m ∧ next bs = ([], 0, 1)) ∨ (k + m ≤ bs.length ∧ next bs = ((bs.drop k).take m, k + m, 0)))) := by
  by_cases hp : (parse bs).2.2 = 0
  · by_cases hb : bnd 100000 < (parse bs).1
    · left
      have h := Rd.num_big (r := ⟨bs, 0⟩) rfl hp hb
      exact ⟨3, .inr (.inr rfl), h, by unfold next; rw [h, if_pos (show (3 : Int) ≠ 0 by decide)]⟩
    · right
      have h := Rd.num_ok (r := ⟨bs, 0⟩) rfl hp hb
      obtain ⟨m, k, z, hx⟩ : ∃ m k z, parse bs = (m, k, z) := ⟨_, _, _, rfl⟩
      obtain rfl : z = 0 := by rw [hx] at hp; exact hp
      have ho := parse_once hx
      rw [hx] at hb
      simp only [hx] at h
      rw [bnd100] at hb
      refine ⟨m, k, hx, by simpa using hb, ho.1, ho.2.2.1, ho.2.2.2, h, ?_⟩
      unfold next
      rw [h]
      simp only [List.length_drop]
      rw [if_neg (by simp)]
      have hk := ho.2.2.1
      by_cases hl : bs.length - k < m
      · left
        exact ⟨by omega, by rw [if_pos hl]⟩
      · right
        refine ⟨by omega, ?_⟩
        rw [if_neg hl]
        congr 2
        omega
  · left
    have h := Rd.num_bad (r := ⟨bs, 0⟩) rfl 100000 hp
    refine ⟨(parse bs).2.2, ?_, h, by unfold next; rw [h, if_pos hp]⟩
    rcases parse_err bs with h0 | h0 | h0
    · exact absurd h0 hp
    · rw [h0]; exact .inl rfl
    · rw [h0]; exact .inr (.inl rfl)
theorem next_pos {bs p : List UInt8} {n : Nat} (h : next bs = (p, n, 0)) : 0 < n ∧ n ≤ bs.length ∧ p.length < n := by
  rcases next_cases bs with ⟨e, he, _, h2⟩ | ⟨m, k, _, _, hk, hkl, _, _, ⟨_, h2⟩ | ⟨hl, h2⟩⟩
  · rw [h] at h2; injection h2 with _ h2; injection h2 with _ h2; omega
  · rw [h] at h2; injection h2 with _ h2; injection h2 with _ h2; omega
  · rw [h] at h2; injection h2 with h3 h2; injection h2 with h4 _
    refine ⟨by omega, by omega, ?_⟩
    rw [h3, List.length_take, List.length_drop]
    omega

structure Bf where
  rest : List UInt8
  bad : Int
def Bf.sane (x : Bf) : Bool := if x.bad = 0 then decide ((next x.rest).2.2 = 1) else decide (x.rest.length = 0)
def drainF : Nat → List UInt8 → List (List UInt8) × Bf
  | 0, bs => ([], ⟨bs, 0⟩)
  | f + 1, bs => if (next bs).2.2 = 1 then ([], ⟨bs, 0⟩) else if (next bs).2.2 ≠ 0 then ([], ⟨[], (next bs).2.2⟩)
    else ((next bs).1 :: (drainF f (bs.drop (next bs).2.1)).1, (drainF f (bs.drop (next bs).2.1)).2)
def drain (bs : List UInt8) : List (List UInt8) × Bf := drainF (bs.length + 1) bs
theorem next_e (bs : List UInt8) : (next bs).2.2 = 0 ∨ (next bs).2.2 = 1 ∨ (next bs).2.2 = 2 ∨ (next bs).2.2 = 3 := by
  rcases next_cases bs with ⟨e, he, _, h2⟩ | ⟨m, k, _, _, hk, hkl, _, _, ⟨_, h2⟩ | ⟨hl, h2⟩⟩ <;> rw [h2] <;> simp_all
theorem drainF_enough (f : Nat) : ∀ (g : Nat) (bs : List UInt8), bs.length < f → bs.length < g → drainF f bs = drainF g bs := by
  induction f with
  | zero => intro g bs h; omega
  | succ f ih =>
    intro g bs h1 h2
    obtain ⟨g', rfl⟩ : ∃ g', g = g' + 1 := ⟨g - 1, by omega⟩
    unfold drainF
    by_cases he : (next bs).2.2 = 1
    · rw [if_pos he, if_pos he]
    · rw [if_neg he, if_neg he]
      by_cases he0 : (next bs).2.2 = 0
      · rw [if_neg (by simpa using he0), if_neg (by simpa using he0)]
        obtain ⟨p, n, z, hx⟩ : ∃ p n z, next bs = (p, n, z) := ⟨_, _, _, rfl⟩
        obtain rfl : z = 0 := by rw [hx] at he0; exact he0
        have hp := next_pos hx
        rw [hx]
        simp only []
        rw [ih g' (bs.drop n) (by rw [List.length_drop]; omega) (by rw [List.length_drop]; omega)]
      · rw [if_pos he0, if_pos he0]
theorem drain_short {bs : List UInt8} (h : (next bs).2.2 = 1) : drain bs = ([], ⟨bs, 0⟩) := by unfold drain drainF; rw [if_pos h]
theorem drain_bad {bs : List UInt8} (h : (next bs).2.2 ≠ 1) (h0 : (next bs).2.2 ≠ 0) : drain bs = ([], ⟨[], (next bs).2.2⟩) := by unfold drain drainF; rw [if_neg h, if_pos h0]
theorem drain_ok {bs p : List UInt8} {n : Nat} (h : next bs = (p, n, 0)) : drain bs = (p :: (drain (bs.drop n)).1, (drain (bs.drop n)).2) := by
  have hp := next_pos h
  have he : drainF bs.length (bs.drop n) = drain (bs.drop n) := drainF_enough _ _ _ (by rw [List.length_drop]; omega) (by omega)
  conv => lhs; unfold drain drainF
  rw [if_neg (by rw [h]; simp), if_neg (by rw [h]; simp), h]
  simp only []
  rw [he]
/-- how the rest ends: short, or with an error -/
theorem drain_end (n : Nat) : ∀ bs : List UInt8, bs.length ≤ n → ((drain bs).2.bad = 0 ∧ (next (drain bs).2.rest).2.2 = 1) ∨ ((drain bs).2.rest = [] ∧ ((drain bs).2.bad = 2 ∨ (drain bs).2.bad = 3)) := by
  induction n with
  | zero =>
    intro bs h
    have : bs = [] := List.eq_nil_of_length_eq_zero (by omega)
    subst this
    left
    have h1 : (next []).2.2 = 1 := by decide
    rw [drain_short h1]
    exact ⟨rfl, h1⟩
  | succ n ih =>
    intro bs h
    by_cases h1 : (next bs).2.2 = 1
    · left
      rw [drain_short h1]
      exact ⟨rfl, h1⟩
    · by_cases h0 : (next bs).2.2 = 0
      · obtain ⟨p, k, z, hx⟩ : ∃ p n z, next bs = (p, n, z) := ⟨_, _, _, rfl⟩
        obtain rfl : z = 0 := by rw [hx] at h0; exact h0
        have hp := next_pos hx
        rw [drain_ok hx]
        exact ih _ (by rw [List.length_drop]; omega)
      · right
        rw [drain_bad h1 h0]
        refine ⟨rfl, ?_⟩
        rcases next_e bs with h2 | h2 | h2 | h2
        · exact absurd h2 h0
        · exact absurd h2 h1
        · exact .inl h2
        · exact .inr h2
def Bf.norm (x : Bf) : Bf := if x.sane = true then x else ⟨[], 0⟩
def Bf.feed (x : Bf) (b : List UInt8) : Bf × List (List UInt8) := if x.norm.bad = 0 then ((drain (x.norm.rest ++ b)).2, (drain (x.norm.rest ++ b)).1) else (x.norm, [])
theorem Bf.norm_sane {x : Bf} (h : x.sane = true) : x.norm = x := by unfold Bf.norm; rw [if_pos h]
theorem drain_sane (bs : List UInt8) : (drain bs).2.sane = true := by
  unfold Bf.sane
  rcases drain_end _ bs (Nat.le_refl _) with ⟨h1, h2⟩ | ⟨h1, h2⟩
  · rw [if_pos h1, h2]; rfl
  · rw [if_neg (by omega), h1]; rfl
theorem feed_sane (x : Bf) (b : List UInt8) : (x.feed b).1.sane = true := by
  unfold Bf.feed
  split
  · exact drain_sane _
  · unfold Bf.norm
    split
    · assumption
    · have h1 : (next []).2.2 = 1 := by decide
      unfold Bf.sane
      rw [if_pos rfl]
      exact decide_eq_true h1
end Go.Proofs.Ytjomoannlpadnaa
