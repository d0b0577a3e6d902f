/- Plain: names, hosts, paths and patterns as lists of bytes. -/
namespace Go.Proofs.YtepifkmileilfaaDoor
set_option linter.unusedVariables false
def lowB (c : UInt8) : Bool := decide (97 ≤ c.toNat) && decide (c.toNat ≤ 122)
def partB (c : UInt8) : Bool := lowB c || (decide (48 ≤ c.toNat) && decide (c.toNat ≤ 57)) || decide (c.toNat = 45)
def saneN (l : List UInt8) : Bool := decide (l.length ≤ 12) && l.all partB && (match l.head? with | none => false | some c => lowB c)
def splitD : List UInt8 → List (List UInt8)
  | [] => [[]]
  | c :: r => if c = 46 then [] :: splitD r else (c :: (splitD r).headD []) :: (splitD r).tail
def namesB (l : List UInt8) : Bool := (splitD l).all saneN
def trimStar (l : List UInt8) : List UInt8 := if l.take 2 = [42, 46] then l.drop 2 else l
def hostB (l : List UInt8) : Bool := decide (l.length ≤ 40) && (decide (l = [42]) || namesB (trimStar l))
def pathC (c : UInt8) : Bool := partB c || decide (c.toNat = 47)
def pathB (l : List UInt8) : Bool := l.all pathC && decide (l.length ≤ 40) && decide (l.head? = some 47)
def sfx (t h : List UInt8) : Bool := decide (t <:+ h)
def matchB (p h : List UInt8) : Bool := hostB p && hostB h && decide (h.head? ≠ some 42) && (decide (p = [42]) || decide (p = h) || (decide (p.head? = some 42) && decide (p.tail.length < h.length) && sfx p.tail h))
def underB (p q : List UInt8) : Bool := decide (p <+: q) && pathB p && pathB q && (decide (q.drop p.length = []) || decide (p.getLast? = some 47) || decide ((q.drop p.length).head? = some 47))
def widthN (l : List UInt8) : Int := if l = [42] then 0 else if l.take 2 = [42, 46] then (l.length : Int) else 9223372036854775807
def cmpI (a b : Int) : Int := if a < b then -1 else if b < a then 1 else 0
def narrowN (a b : List UInt8) : Int := cmpI (widthN a) (widthN b)

theorem sane_nil : saneN [] = false := rfl
theorem sane_head {c : UInt8} {r : List UInt8} (h : saneN (c :: r) = true) : lowB c = true := by
  unfold saneN at h; simp only [List.head?_cons, Bool.and_eq_true] at h; exact h.2
theorem sane_cons {s : List UInt8} (h : saneN s = true) : ∃ c r, s = c :: r ∧ lowB c = true := by
  cases s with
  | nil => rw [sane_nil] at h; cases h
  | cons c r => exact ⟨c, r, rfl, sane_head h⟩
theorem sane_part {s : List UInt8} (h : saneN s = true) : ∀ c ∈ s, partB c = true := by
  unfold saneN at h; simp only [Bool.and_eq_true, List.all_eq_true] at h; exact h.1.2
theorem sane_len {s : List UInt8} (h : saneN s = true) : 1 ≤ s.length ∧ s.length ≤ 12 := by
  obtain ⟨c, r, rfl, _⟩ := sane_cons h
  refine ⟨by simp, ?_⟩
  unfold saneN at h; simp only [Bool.and_eq_true, decide_eq_true_eq] at h; exact h.1.1
theorem low_nums {c : UInt8} (h : lowB c = true) : 97 ≤ c.toNat ∧ c.toNat ≤ 122 := by
  unfold lowB at h; simpa using h
theorem part_ne {c : UInt8} (h : partB c = true) : c ≠ 46 ∧ c ≠ 42 ∧ c ≠ 47 := by
  refine ⟨?_, ?_, ?_⟩ <;> (rintro rfl; exact absurd h (by decide))
theorem low_ne {c : UInt8} (h : lowB c = true) : c ≠ 46 ∧ c ≠ 42 ∧ c ≠ 47 := part_ne (by unfold partB; rw [h]; rfl)
theorem splitD_app {s : List UInt8} (hs : ∀ c ∈ s, c ≠ 46) (h : List UInt8) : splitD (s ++ 46 :: h) = s :: splitD h := by
  induction s with
  | nil => simp [splitD]
  | cons c r ih =>
    have hc : c ≠ 46 := hs c (by simp)
    have := ih fun d hd => hs d (by simp [hd])
    simp [splitD, hc, this]
theorem splitD_one {s : List UInt8} (hs : ∀ c ∈ s, c ≠ 46) : splitD s = [s] := by
  induction s with
  | nil => simp [splitD]
  | cons c r ih =>
    have hc : c ≠ 46 := hs c (by simp)
    have := ih fun d hd => hs d (by simp [hd])
    simp [splitD, hc, this]
theorem names_nil : namesB [] = false := by decide
theorem names_cons {p : List UInt8} (h : namesB p = true) : ∃ c r, p = c :: r ∧ lowB c = true := by
  cases p with
  | nil => rw [names_nil] at h; cases h
  | cons c r =>
    refine ⟨c, r, rfl, ?_⟩
    unfold namesB splitD at h
    by_cases hc : c = 46
    · rw [if_pos hc] at h
      simp [sane_nil] at h
    · rw [if_neg hc] at h
      simp only [List.all_cons, Bool.and_eq_true] at h
      exact sane_head h.1
theorem names_app {s : List UInt8} (hs : saneN s = true) (h : List UInt8) : namesB (s ++ 46 :: h) = namesB h := by
  unfold namesB
  rw [splitD_app (fun c hc => (part_ne (sane_part hs c hc)).1)]
  simp [hs]
theorem take2_ne {p : List UInt8} (h : p.head? ≠ some 42) : p.take 2 ≠ [42, 46] := by
  intro e
  cases p with
  | nil => simp at e
  | cons c r => simp at e; exact h (by simp [e.1])
theorem take2_form {p : List UInt8} (h : p.take 2 = [42, 46]) : p = 42 :: 46 :: p.drop 2 := by
  match p, h with
  | [], h => simp at h
  | [c], h => simp at h
  | c :: d :: r, h => simp at h; obtain ⟨rfl, rfl⟩ := h; rfl
theorem trim_same {p : List UInt8} (h : p.head? ≠ some 42) : trimStar p = p := by unfold trimStar; rw [if_neg (take2_ne h)]
theorem host_cases {p : List UInt8} (h : hostB p = true) : p.length ≤ 40 ∧ (p = [42] ∨ (p.take 2 = [42, 46] ∧ namesB (p.drop 2) = true) ∨ (p.head? ≠ some 42 ∧ p.take 2 ≠ [42, 46] ∧ p ≠ [42] ∧ namesB p = true)) := by
  unfold hostB at h
  simp only [Bool.and_eq_true, Bool.or_eq_true, decide_eq_true_eq] at h
  refine ⟨h.1, ?_⟩
  rcases h.2 with h2 | h2
  · exact .inl h2
  · unfold trimStar at h2
    by_cases ht : p.take 2 = [42, 46]
    · rw [if_pos ht] at h2; exact .inr (.inl ⟨ht, h2⟩)
    · rw [if_neg ht] at h2
      obtain ⟨c, r, rfl, hc⟩ := names_cons h2
      refine .inr (.inr ⟨?_, ht, ?_, h2⟩)
      · intro e; simp at e; exact (low_ne hc).2.1 e
      · intro e; simp at e; exact (low_ne hc).2.1 e.1
theorem host_plain {h : List UInt8} (hh : hostB h = true) (hs : h.head? ≠ some 42) : h.length ≤ 40 ∧ namesB h = true ∧ ∃ c r, h = c :: r ∧ lowB c = true := by
  obtain ⟨hl, h1 | h1 | h1⟩ := host_cases hh
  · subst h1; simp at hs
  · exact absurd h1.1 (take2_ne hs)
  · exact ⟨hl, h1.2.2.2, names_cons h1.2.2.2⟩
theorem host_ne {h : List UInt8} (hh : hostB h = true) : ∃ c r, h = c :: r := by
  obtain ⟨hl, h1 | h1 | h1⟩ := host_cases hh
  · exact ⟨_, _, h1⟩
  · exact ⟨_, _, take2_form h1.1⟩
  · obtain ⟨c, r, e, _⟩ := names_cons h1.2.2.2; exact ⟨c, r, e⟩

/-! ### Patterns -/
theorem match_good {p h : List UInt8} (hm : matchB p h = true) : hostB p = true ∧ hostB h = true ∧ h.head? ≠ some 42 := by
  unfold matchB at hm; simp only [Bool.and_eq_true, decide_eq_true_eq] at hm
  exact ⟨hm.1.1.1, hm.1.1.2, hm.1.2⟩
theorem match_of {p h : List UInt8} (hp : hostB p = true) (hh : hostB h = true) (hs : h.head? ≠ some 42) : matchB p h = (decide (p = [42]) || decide (p = h) || (decide (p.head? = some 42) && decide (p.tail.length < h.length) && sfx p.tail h)) := by
  unfold matchB; rw [hp, hh, decide_eq_true hs]; rfl
theorem host_all : hostB [42] = true := by decide
theorem match_star {h : List UInt8} (hh : hostB h = true) (hs : h.head? ≠ some 42) : matchB [42] h = true := by rw [match_of host_all hh hs]; simp
theorem match_self {h : List UInt8} (hh : hostB h = true) (hs : h.head? ≠ some 42) : matchB h h = true := by rw [match_of hh hh hs]; simp
theorem match_plain {p h : List UInt8} (hp : hostB p = true) (hh : hostB h = true) (hs : h.head? ≠ some 42) (hps : p.head? ≠ some 42) : matchB p h = decide (p = h) := by
  rw [match_of hp hh hs, decide_eq_false (p := p.head? = some 42) hps, decide_eq_false (p := p = [42]) (by rintro rfl; simp at hps)]; simp
theorem match_tail {p h : List UInt8} (hp : hostB p = true) (hh : hostB h = true) (hs : h.head? ≠ some 42) (hps : p.head? = some 42) (hn : p ≠ [42]) : matchB p h = (decide (p.tail.length < h.length) && sfx p.tail h) := by
  rw [match_of hp hh hs, decide_eq_true hps, decide_eq_false hn, decide_eq_false (p := p = h) (by rintro rfl; exact hs hps)]; simp
theorem match_forms {p h : List UInt8} (hm : matchB p h = true) : hostB p = true ∧ hostB h = true ∧ h.head? ≠ some 42 ∧ p.length ≤ 40 ∧
    (p = [42] ∨ (p.take 2 ≠ [42, 46] ∧ p ≠ [42] ∧ p = h) ∨ (p.take 2 = [42, 46] ∧ p ≠ [42] ∧ p.tail.length < h.length ∧ p.tail <:+ h)) := by
  obtain ⟨hp, hh, hs⟩ := match_good hm
  obtain ⟨hl, h1 | h1 | h1⟩ := host_cases hp
  · exact ⟨hp, hh, hs, hl, .inl h1⟩
  · have e := take2_form h1.1
    have hn : p ≠ [42] := by rw [e]; simp
    rw [match_tail hp hh hs (by rw [e]; rfl) hn] at hm
    simp only [Bool.and_eq_true, decide_eq_true_eq, sfx] at hm
    exact ⟨hp, hh, hs, hl, .inr (.inr ⟨h1.1, hn, hm.1, hm.2⟩)⟩
  · rw [match_plain hp hh hs h1.1] at hm
    exact ⟨hp, hh, hs, hl, .inr (.inl ⟨h1.2.1, h1.2.2.1, by simpa using hm⟩)⟩
theorem match_tails {p h : List UInt8} (hp : hostB p = true) (hh : hostB h = true) (hs : h.head? ≠ some 42) (hps : p.take 2 = [42, 46]) (h1 : p.tail.length < h.length) (h2 : p.tail <:+ h) : matchB p h = true := by
  have e := take2_form hps
  rw [match_tail hp hh hs (by rw [e]; rfl) (by rw [e]; simp), decide_eq_true h1]
  simp [sfx, h2]
theorem width_all : widthN [42] = 0 := rfl
theorem width_star {p : List UInt8} (h : p.take 2 = [42, 46]) : widthN p = (p.length : Int) ∧ 2 ≤ p.length := by
  have e := take2_form h
  refine ⟨?_, by rw [e]; simp⟩
  unfold widthN; rw [if_neg (by rw [e]; simp), if_pos h]
theorem width_plain {p : List UInt8} (h : p.take 2 ≠ [42, 46]) (hn : p ≠ [42]) : widthN p = 9223372036854775807 := by
  unfold widthN; rw [if_neg hn, if_neg h]
theorem width_nonneg (p : List UInt8) (h : p.length ≤ 1000) : 0 ≤ widthN p ∧ widthN p ≤ 9223372036854775807 := by
  unfold widthN; split
  · omega
  · split <;> omega
theorem cmp_anti (a b : Int) : cmpI a b = - cmpI b a := by unfold cmpI; split <;> split <;> (try split) <;> omega
theorem narrow_anti (a b : List UInt8) : narrowN a b = - narrowN b a := cmp_anti _ _
theorem cmp_zero {a b : Int} (h : cmpI a b = 0) : a = b := by
  unfold cmpI at h
  split at h
  · omega
  · split at h <;> omega
theorem cmp_pos {a b : Int} (h : 0 < cmpI a b) : b < a := by
  unfold cmpI at h
  split at h
  · omega
  · split at h <;> omega
theorem tail_of {p : List UInt8} (h : p.take 2 = [42, 46]) : p = 42 :: p.tail := by
  have e := take2_form h
  rw [e]; rfl
theorem narrow_same {a b h : List UInt8} (ha : matchB a h = true) (hb : matchB b h = true) (hn : narrowN a b = 0) : a = b := by
  have hw := cmp_zero hn
  obtain ⟨_, _, _, hal, ha⟩ := match_forms ha
  obtain ⟨_, _, _, hbl, hb⟩ := match_forms hb
  rcases ha with ha | ha | ha <;> rcases hb with hb | hb | hb
  · rw [ha, hb]
  · rw [ha, width_all, width_plain hb.1 hb.2.1] at hw; omega
  · rw [ha, width_all, (width_star hb.1).1] at hw; have := (width_star hb.1).2; omega
  · rw [hb, width_all, width_plain ha.1 ha.2.1] at hw; omega
  · rw [ha.2.2, hb.2.2]
  · rw [width_plain ha.1 ha.2.1, (width_star hb.1).1] at hw; omega
  · rw [hb, width_all, (width_star ha.1).1] at hw; have := (width_star ha.1).2; omega
  · rw [width_plain hb.1 hb.2.1, (width_star ha.1).1] at hw; omega
  · rw [(width_star ha.1).1, (width_star hb.1).1] at hw
    have hl : a.tail.length = b.tail.length := by simp; omega
    have h1 := List.suffix_of_suffix_length_le ha.2.2.2 hb.2.2.2 (by omega)
    rw [tail_of ha.1, tail_of hb.1, h1.eq_of_length hl]
theorem narrow_less {a b h o : List UInt8} (ha : matchB a h = true) (hb : matchB b h = true) (hn : 0 < narrowN a b) (ho : matchB a o = true) : matchB b o = true := by
  have hw := cmp_pos hn
  obtain ⟨hag, hh, hs, hal, ha1⟩ := match_forms ha
  obtain ⟨_, hoh, hos, _, ho1⟩ := match_forms ho
  obtain ⟨hbg, _, _, hbl, hb1⟩ := match_forms hb
  rcases hb1 with hb1 | hb1 | hb1
  · rw [hb1]; exact match_star hoh hos
  · exfalso
    rw [width_plain hb1.1 hb1.2.1] at hw
    have := (width_nonneg a (by omega)).2
    omega
  · have hwb := (width_star hb1.1)
    rw [hwb.1] at hw
    rcases ha1 with ha1 | ha1 | ha1
    · rw [ha1, width_all] at hw; omega
    · rcases ho1 with ho1 | ho1 | ho1
      · exact absurd ho1 ha1.2.1
      · rw [← ho1.2.2, ha1.2.2]; exact hb
      · exact absurd ho1.1 ha1.1
    · rw [(width_star ha1.1).1] at hw
      rcases ho1 with ho1 | ho1 | ho1
      · exact absurd ho1 ha1.2.1
      · exact absurd ha1.1 ho1.1
      · have hlen : b.tail.length ≤ a.tail.length := by simp; omega
        have h1 := List.suffix_of_suffix_length_le hb1.2.2.2 ha1.2.2.2 hlen
        exact match_tails hbg hoh hos hb1.1 (by omega) (h1.trans ho1.2.2.2)

/-! ### A name more -/
theorem star_trim (h : List UInt8) : trimStar (42 :: 46 :: h) = h := rfl
theorem star_host {h : List UInt8} (hn : namesB h = true) : hostB (42 :: 46 :: h) = decide (h.length + 2 ≤ 40) := by
  unfold hostB; rw [star_trim, hn]; simp
theorem long_head {s : List UInt8} (hs : saneN s = true) (h : List UInt8) : (s ++ 46 :: h).head? ≠ some 42 := by
  obtain ⟨c, r, rfl, hc⟩ := sane_cons hs
  simp; exact (low_ne hc).2.1
theorem long_host {s h : List UInt8} (hs : saneN s = true) (hn : namesB h = true) : hostB (s ++ 46 :: h) = decide ((s ++ 46 :: h).length ≤ 40) := by
  unfold hostB; rw [trim_same (long_head hs h), names_app hs, hn]; simp
theorem star_no {h : List UInt8} (hs : h.head? ≠ some 42) : matchB (42 :: 46 :: h) h = false := by
  unfold matchB
  rw [Bool.and_eq_false_iff]; right
  have h1 : (42 :: 46 :: h : List UInt8) ≠ h := fun e => by have := congrArg List.length e; simp at this; omega
  have h2 : ¬ (h.length + 1 < h.length) := by omega
  simp [h1, h2]
theorem star_yes {s h : List UInt8} (hs : saneN s = true) (hn : namesB h = true) : matchB (42 :: 46 :: h) (s ++ 46 :: h) = (decide ((s ++ 46 :: h).length ≤ 40) && decide ((42 :: 46 :: h : List UInt8).length ≤ 40)) := by
  have h1 := long_host hs hn
  have h2 := star_host hn
  have h3 := sane_len hs
  by_cases a : (s ++ 46 :: h).length ≤ 40
  · by_cases b : (42 :: 46 :: h : List UInt8).length ≤ 40
    · rw [decide_eq_true a, decide_eq_true b]
      rw [decide_eq_true a] at h1
      rw [decide_eq_true (by simpa using b)] at h2
      exact match_tails h2 h1 (long_head hs h) rfl (by simp; omega) (List.suffix_append _ _)
    · rw [decide_eq_false b, Bool.and_false]
      rw [decide_eq_false (by simpa using b)] at h2
      unfold matchB; rw [h2]; rfl
  · rw [decide_eq_false a, Bool.false_and]
    rw [decide_eq_false a] at h1
    unfold matchB; rw [h1]; simp

/-! ### Paths -/
theorem path_cons {p : List UInt8} (h : pathB p = true) : ∃ r, p = 47 :: r := by
  unfold pathB at h; simp only [Bool.and_eq_true, decide_eq_true_eq] at h
  cases p with
  | nil => simp at h
  | cons c r => have := h.2; simp at this; exact ⟨r, by rw [this]⟩
theorem path_len {p : List UInt8} (h : pathB p = true) : p.length ≤ 40 := by
  unfold pathB at h; simp only [Bool.and_eq_true, decide_eq_true_eq] at h; exact h.1.2
theorem path_root : pathB [47] = true := by decide
theorem under_root (c : List UInt8) : underB [47] c = pathB c := by
  unfold underB
  rw [path_root]
  cases h : pathB c with
  | false => simp
  | true => obtain ⟨r, rfl⟩ := path_cons h; simp
theorem under_self (c : List UInt8) : underB c c = pathB c := by
  unfold underB
  cases h : pathB c <;> simp
theorem under_pre {a c : List UInt8} (h : underB a c = true) : a <+: c ∧ pathB c = true ∧ pathB a = true := by
  unfold underB at h; simp only [Bool.and_eq_true, decide_eq_true_eq] at h
  exact ⟨h.1.1.1, h.1.2, h.1.1.2⟩
theorem under_trans {a b c : List UInt8} (h1 : underB a b = true) (h2 : underB b c = true) : underB a c = true := by
  obtain ⟨p1, q1, r1⟩ := under_pre h1
  obtain ⟨p2, q2, r2⟩ := under_pre h2
  unfold underB at h1 h2 ⊢
  simp only [Bool.and_eq_true, Bool.or_eq_true, decide_eq_true_eq] at h1 h2 ⊢
  refine ⟨⟨⟨p1.trans p2, r1⟩, q2⟩, ?_⟩
  obtain ⟨x, rfl⟩ := p1
  obtain ⟨y, rfl⟩ := p2
  rcases h1.2 with (h | h) | h
  · simp at h
    subst h
    simpa using h2.2
  · exact .inl (.inr h)
  · refine .inr ?_
    simp at h ⊢
    simp [h]
theorem path_app {p s : List UInt8} (hp : pathB p = true) (hs : s.all pathC = true) : pathB (p ++ s) = decide ((p ++ s).length ≤ 40) := by
  obtain ⟨r, rfl⟩ := path_cons hp
  unfold pathB at hp ⊢
  simp only [Bool.and_eq_true] at hp
  rw [List.all_append, hp.1.1, hs]; simp
theorem sane_pathC {s : List UInt8} (hs : saneN s = true) : s.all pathC = true := by
  rw [List.all_eq_true]; intro c hc; unfold pathC; rw [sane_part hs c hc]; rfl
theorem under_more {p s : List UInt8} (hp : pathB p = true) (hs : saneN s = true) : underB p (p ++ 47 :: s) = decide ((p ++ 47 :: s).length ≤ 40) := by
  have h1 : pathB (p ++ 47 :: s) = decide ((p ++ 47 :: s).length ≤ 40) := path_app hp (by rw [List.all_cons, sane_pathC hs]; decide)
  unfold underB; rw [h1, hp, decide_eq_true (List.prefix_append _ _)]; simp
theorem under_bare {p s : List UInt8} (hp : pathB p = true) (hs : saneN s = true) : underB p (p ++ s) = (decide ((p ++ s).length ≤ 40) && decide (p.getLast? = some 47)) := by
  have h1 : pathB (p ++ s) = decide ((p ++ s).length ≤ 40) := path_app hp (sane_pathC hs)
  obtain ⟨c, r, rfl, hc⟩ := sane_cons hs
  have := (low_ne hc).2.2
  unfold underB; rw [h1, hp, decide_eq_true (List.prefix_append _ _)]; simp [this]
end Go.Proofs.YtepifkmileilfaaDoor
