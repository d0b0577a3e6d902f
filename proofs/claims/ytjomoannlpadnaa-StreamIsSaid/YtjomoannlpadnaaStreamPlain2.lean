/- Plain: streams, what more bytes do; what is wrapped comes again. No program. -/
import Derived.Test.YtjomoannlpadnaaStreamPlain
import Derived.Test.YtjomoannlpadnaaCode
namespace Go.Proofs.Ytjomoannlpadnaa
set_option linter.unusedVariables false

theorem next_more {bs : List UInt8} (more : List UInt8) (h : (next bs).2.2 ≠ 1) : next (bs ++ more) = next bs := by
  rcases next_cases bs with ⟨e, he, hnum, h2⟩ | ⟨m, k, hp, hm, hk, hkl, henc, hnum, ⟨hl, h2⟩ | ⟨hl, h2⟩⟩
  · have he1 : e ≠ 1 := by intro h3; rw [h2] at h; exact h h3
    have hpm : parse bs ≠ (0, 0, 1) := by
      intro h3
      have := Rd.num_bad (r := ⟨bs, 0⟩) rfl 100000 (by simp only [h3]; decide)
      rw [hnum] at this
      injection this with this _
      injection this with _ this
      simp only [h3] at this
      exact he1 this
    have hmore := parse_more more hpm
    have hnum2 : (Rd.mk (bs ++ more) 0).num 100000 = (⟨bs ++ more, e⟩, 0) := by
      by_cases hp : (parse bs).2.2 = 0
      · by_cases hb : bnd 100000 < (parse bs).1
        · have h4 := Rd.num_big (r := ⟨bs, 0⟩) rfl hp hb
          rw [hnum] at h4
          injection h4 with h4 _
          injection h4 with _ h4
          have h5 := Rd.num_big (r := ⟨bs ++ more, 0⟩) rfl (i := 100000) (by simp only [hmore]; exact hp) (by simp only [hmore]; exact hb)
          rw [h5, h4]
        · have h4 := Rd.num_ok (r := ⟨bs, 0⟩) rfl hp hb
          rw [hnum] at h4
          injection h4 with h4 _
          injection h4 with _ h4
          omega
      · have h4 := Rd.num_bad (r := ⟨bs, 0⟩) rfl 100000 hp
        rw [hnum] at h4
        injection h4 with h4 _
        injection h4 with _ h4
        have h5 := Rd.num_bad (r := ⟨bs ++ more, 0⟩) rfl 100000 (by simp only [hmore]; exact hp)
        rw [h5]
        simp only [hmore]
        rw [h4]
    rw [h2]
    unfold next
    rw [hnum2, if_pos (by simp only []; omega)]
  · rw [h2] at h; exact absurd rfl h
  · have hmore := parse_more more (bs := bs) (by rw [hp]; simp)
    have hb : ¬ bnd 100000 < (parse (bs ++ more)).1 := by rw [hmore, hp, bnd100]; simpa using hm
    have hnum2 := Rd.num_ok (r := ⟨bs ++ more, 0⟩) rfl (i := 100000) (by simp only [hmore, hp]) hb
    simp only [hmore, hp] at hnum2
    rw [h2]
    unfold next
    rw [hnum2, if_neg (by simp)]
    simp only [List.length_drop, List.length_append]
    rw [if_neg (by omega), List.drop_append_of_le_length hkl, List.take_append_of_le_length (by rw [List.length_drop]; omega)]
    congr 2
    omega
/-- more bytes behind -/
theorem drain_append (n : Nat) : ∀ (a b : List UInt8), a.length ≤ n → drain (a ++ b) = if (drain a).2.bad = 0 then ((drain a).1 ++ (drain ((drain a).2.rest ++ b)).1, (drain ((drain a).2.rest ++ b)).2) else drain a := by
  induction n with
  | zero =>
    intro a b h
    have : a = [] := List.eq_nil_of_length_eq_zero (by omega)
    subst this
    rw [drain_short (bs := []) (by decide)]
    simp
  | succ n ih =>
    intro a b h
    by_cases h1 : (next a).2.2 = 1
    · rw [drain_short h1]; simp
    · by_cases h0 : (next a).2.2 = 0
      · obtain ⟨p, k, z, hx⟩ : ∃ p n z, next a = (p, n, z) := ⟨_, _, _, rfl⟩
        obtain rfl : z = 0 := by rw [hx] at h0; exact h0
        have hp := next_pos hx
        have hx2 : next (a ++ b) = (p, k, 0) := by rw [next_more b h1, hx]
        rw [drain_ok hx2, drain_ok hx, List.drop_append_of_le_length hp.2.1, ih (a.drop k) b (by rw [List.length_drop]; omega)]
        by_cases hb : (drain (a.drop k)).2.bad = 0
        · rw [if_pos hb, if_pos hb]; rfl
        · rw [if_neg hb, if_neg hb]
      · have hm := next_more b h1
        rw [drain_bad h1 h0, drain_bad (by rw [hm]; exact h1) (by rw [hm]; exact h0), hm, if_neg h0]
/-- a new stream -/
def B0 : Bf := ⟨[], 0⟩
theorem B0_sane : B0.sane = true := by
  have h1 : (next []).2.2 = 1 := by decide
  unfold Bf.sane
  rw [if_pos (show B0.bad = 0 from rfl)]
  exact decide_eq_true h1
theorem feed0 (a : List UInt8) : B0.feed a = ((drain a).2, (drain a).1) := by
  unfold Bf.feed
  rw [Bf.norm_sane B0_sane, if_pos (show B0.bad = 0 from rfl)]
  rfl
/-- one behind the other -/
theorem feed_chain (a b : List UInt8) : B0.feed (a ++ b) = (((B0.feed a).1.feed b).1, (B0.feed a).2 ++ ((B0.feed a).1.feed b).2) := by
  rw [feed0, feed0, drain_append _ a b (Nat.le_refl _)]
  simp only []
  have hs := drain_sane a
  unfold Bf.feed
  rw [Bf.norm_sane hs]
  by_cases hb : (drain a).2.bad = 0
  · rw [if_pos hb, if_pos hb]
  · rw [if_neg hb, if_neg hb]; simp
/-- what is wrapped -/
theorem encT_len (p : List UInt8) : (encT p).length = (enc p.length).length + p.length := by unfold encT; rw [List.length_append]
theorem enc_small {n : Nat} (h : n ≤ 300) : (enc n).length ≤ 2 := by
  have : enc n = if 128 ≤ n then UInt8.ofNat (n % 128 + 128) :: encF 3 (n / 128) else [UInt8.ofNat n] := rfl
  rw [this]
  split
  · rw [encF_lt (by omega)]; simp
  · simp
theorem next_wrap {p : List UInt8} (h : p.length ≤ 100000) (rest : List UInt8) : next (encT p ++ rest) = (p, (encT p).length, 0) := by
  have hn := Rd.num_put (m := p.length) (by omega) (p ++ rest) (i := 100000) (by rw [bnd100]; exact h)
  unfold encT next
  rw [List.append_assoc, hn, if_neg (by simp)]
  simp only [List.length_append]
  rw [if_neg (by omega), List.take_left]
  congr 2
  omega
theorem next_part {p : List UInt8} (h : p.length ≤ 100000) {j : Nat} (hj : j < (encT p).length) : (next ((encT p).take j)).2.2 = 1 := by
  have hl := encT_len p
  rcases Nat.lt_or_ge j (enc p.length).length with h1 | h1
  · have e1 : (encT p).take j = (enc p.length).take j := by unfold encT; rw [List.take_append_of_le_length (by omega)]
    have h2 := Rd.num_short h1 100000
    rw [e1]
    unfold next
    rw [h2, if_pos (by simp)]
  · have e1 : (encT p).take j = enc p.length ++ p.take (j - (enc p.length).length) := by
      unfold encT; rw [List.take_append, List.take_of_length_le h1]
    have h2 := Rd.num_put (m := p.length) (by omega) (p.take (j - (enc p.length).length)) (i := 100000) (by rw [bnd100]; exact h)
    rw [e1]
    unfold next
    rw [h2, if_neg (by simp)]
    simp only [List.length_take]
    rw [if_pos (by omega)]
/-- texts that are wrapped, one behind the other, and the beginning of one more -/
theorem drain_row (l : List (List UInt8)) (hl : ∀ p ∈ l, p.length ≤ 100000) (part : List UInt8) (hp : (next part).2.2 = 1) : drain ((l.map encT).flatten ++ part) = (l, ⟨part, 0⟩) := by
  induction l with
  | nil => exact drain_short hp
  | cons p l ih =>
    have hn := next_wrap (hl p (by simp)) ((l.map encT).flatten ++ part)
    rw [List.map_cons, List.flatten_cons, List.append_assoc, drain_ok hn, List.drop_left, ih (fun q hq => hl q (by simp [hq]))]
/-- how long what has come is -/
def weigh : List (List UInt8) → Nat
  | [] => 0
  | p :: l => p.length + 1 + weigh l
theorem drain_weigh (n : Nat) : ∀ bs : List UInt8, bs.length ≤ n → weigh (drain bs).1 + (drain bs).2.rest.length ≤ bs.length := by
  induction n with
  | zero =>
    intro bs h
    have : bs = [] := List.eq_nil_of_length_eq_zero (by omega)
    subst this
    rw [drain_short (bs := []) (by decide)]
    simp [weigh]
  | succ n ih =>
    intro bs h
    by_cases h1 : (next bs).2.2 = 1
    · rw [drain_short h1]; simp [weigh]
    · by_cases h0 : (next bs).2.2 = 0
      · obtain ⟨p, k, z, hx⟩ : ∃ p n z, next bs = (p, n, z) := ⟨_, _, _, rfl⟩
        obtain rfl : z = 0 := by rw [hx] at h0; exact h0
        have hp := next_pos hx
        rw [drain_ok hx]
        have := ih (bs.drop k) (by rw [List.length_drop]; omega)
        rw [List.length_drop] at this
        simp only [weigh]
        omega
      · rw [drain_bad h1 h0]; simp [weigh]
theorem weigh_snoc (l : List (List UInt8)) (p : List UInt8) : weigh (l ++ [p]) = weigh l + p.length + 1 := by
  induction l with
  | nil => simp [weigh]
  | cons q l ih => rw [List.cons_append]; simp only [weigh]; rw [ih]; omega
theorem weigh_take (l : List (List UInt8)) (k : Nat) : weigh (l.take k) ≤ weigh l := by
  induction l generalizing k with
  | nil => simp
  | cons q l ih =>
    cases k with
    | zero => simp [weigh]
    | succ k => rw [List.take_succ_cons]; simp only [weigh]; have := ih k; omega
/-- a bad stream stays so -/
theorem feed_bad_stays {x : Bf} (hs : x.sane = true) (hb : x.bad ≠ 0) (b : List UInt8) : x.feed b = (x, []) := by
  unfold Bf.feed
  rw [Bf.norm_sane hs, if_neg hb]
/-- what is next, wrapped again -/
theorem next_wrapped {bs p : List UInt8} {n : Nat} (h : next bs = (p, n, 0)) : p.length ≤ 100000 ∧ encT p = bs.take n ∧ n ≤ bs.length := by
  rcases next_cases bs with ⟨e, he, _, h2⟩ | ⟨m, k, hp, hm, hk, hkl, henc, _, ⟨_, h2⟩ | ⟨hl, h2⟩⟩
  · rw [h] at h2; injection h2 with _ h2; injection h2 with _ h2; omega
  · rw [h] at h2; injection h2 with _ h2; injection h2 with _ h2; omega
  · rw [h] at h2
    injection h2 with h3 h2
    injection h2 with h4 _
    have hpl : p.length = m := by rw [h3, List.length_take, List.length_drop]; omega
    refine ⟨by omega, ?_, by omega⟩
    unfold encT
    rw [hpl, henc, h3, h4]
    exact (List.take_add ..).symm
theorem drain_count2 (n : Nat) : ∀ bs : List UInt8, bs.length ≤ n → (drain bs).1.length ≤ bs.length := by
  intro bs _
  have h := drain_weigh _ bs (Nat.le_refl _)
  have : ∀ l : List (List UInt8), l.length ≤ weigh l := by
    intro l
    induction l with
    | nil => simp
    | cons p l ih => simp only [weigh, List.length_cons]; omega
  have := this (drain bs).1
  omega
/-- how much is left, how much has come -/
theorem feed_rest {x : Bf} (hs : x.sane = true) (b : List UInt8) : (x.feed b).1.rest.length ≤ x.rest.length + b.length ∧ (x.feed b).2.length ≤ x.rest.length + b.length := by
  unfold Bf.feed
  rw [Bf.norm_sane hs]
  split
  · have h1 := drain_weigh _ (x.rest ++ b) (Nat.le_refl _)
    have h2 := drain_count2 _ (x.rest ++ b) (Nat.le_refl _)
    rw [List.length_append] at h1 h2
    exact ⟨by simp only []; omega, h2⟩
  · simp
end Go.Proofs.Ytjomoannlpadnaa
