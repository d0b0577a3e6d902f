/- Plain: configurations: lists of resources in the order of their keys. -/
import Derived.Test.YtfdjbnofcniodaaGreatDoorPlain
namespace Go.Proofs.YtfdjbnofcniodaaGreatDoor
set_option linter.unusedVariables false

/-! ### the order of keys -/
theorem cmpI_range (a b : Int) : cmpI a b = -1 ∨ cmpI a b = 0 ∨ cmpI a b = 1 := by unfold cmpI; split; exact .inl rfl; split; exact .inr (.inr rfl); exact .inr (.inl rfl)
theorem cmpI_iff (a b : Int) : (cmpI a b = -1 ↔ a < b) ∧ (cmpI a b = 0 ↔ a = b) ∧ (cmpI a b = 1 ↔ b < a) := by
  unfold cmpI
  split
  · refine ⟨⟨fun _ => by omega, fun _ => rfl⟩, ⟨fun h => by omega, fun h => by omega⟩, ⟨fun h => by omega, fun h => by omega⟩⟩
  · split
    · refine ⟨⟨fun h => by omega, fun h => by omega⟩, ⟨fun h => by omega, fun h => by omega⟩, ⟨fun h => by omega, fun _ => rfl⟩⟩
    · refine ⟨⟨fun h => by omega, fun h => by omega⟩, ⟨fun h => by omega, fun _ => rfl⟩, ⟨fun h => by omega, fun h => by omega⟩⟩
theorem cmpK_range (a b : Ky) : cmpK a b = -1 ∨ cmpK a b = 0 ∨ cmpK a b = 1 := by
  unfold cmpK
  split
  · exact cmpI_range _ _
  · exact cb_range _ _
theorem ky_eq {a b : Ky} (h1 : a.kind = b.kind) (h2 : tx a.name = tx b.name) : a = b := by cases a; cases b; simp only at h1 h2; subst h1; rw [tx_inj h2]
theorem cmpK_zero (a b : Ky) : cmpK a b = 0 ↔ a = b := by
  unfold cmpK
  constructor
  · intro h
    split at h
    · rename_i h0; exact absurd h h0
    · rename_i h0
      exact ky_eq ((cmpI_iff _ _).2.1.1 (Classical.not_not.1 h0)) (cb_zero.1 h)
  · rintro rfl
    rw [if_neg (by rw [(cmpI_iff _ _).2.1.2 rfl]; simp)]
    exact cb_zero.2 rfl
def ltK (a b : Ky) : Prop := cmpK a b = -1
theorem cmpK_anti (a b : Ky) : cmpK a b = - cmpK b a := by
  unfold cmpK
  have e : cmpI a.kind b.kind = - cmpI b.kind a.kind := by
    rcases Int.lt_trichotomy a.kind b.kind with h | h | h
    · rw [(cmpI_iff _ _).1.2 h, (cmpI_iff _ _).2.2.2 h]
    · rw [(cmpI_iff _ _).2.1.2 h, (cmpI_iff _ _).2.1.2 h.symm]; rfl
    · rw [(cmpI_iff _ _).2.2.2 h, (cmpI_iff _ _).1.2 h]; rfl
  by_cases h : cmpI b.kind a.kind = 0
  · rw [if_neg (by rw [e, h]; simp), if_neg (by simpa using h)]
    exact cb_anti _ _
  · rw [if_pos (by rw [e]; omega), if_pos h]; exact e
theorem ltK_flip {a b : Ky} : cmpK a b = 1 ↔ ltK b a := by unfold ltK; rw [cmpK_anti a b]; omega
theorem ltK_irrefl (a : Ky) : ¬ ltK a a := by unfold ltK; rw [(cmpK_zero a a).2 rfl]; decide
theorem ltK_trans {a b c : Ky} (h1 : ltK a b) (h2 : ltK b c) : ltK a c := by
  unfold ltK at *
  unfold cmpK at *
  have hI : ∀ x y : Int, cmpI x y ≠ 0 → cmpI x y = -1 → x < y := fun x y _ h => (cmpI_iff x y).1.1 h
  have cb3 : ∀ x y z : List UInt8, Lib.compareBytes x y = -1 → Lib.compareBytes y z = -1 → Lib.compareBytes x z = -1 := fun x y z p q => by
    have h := cb_trans (a := x) (b := y) (c := z) (by omega) (by omega)
    rcases cb_range x z with h' | h' | h'
    · exact h'
    · have e := cb_zero.1 h'
      subst e
      have := cb_anti x y
      omega
    · omega
  by_cases p : cmpI a.kind b.kind = 0
  · rw [if_neg (by simpa using p)] at h1
    have ep := (cmpI_iff _ _).2.1.1 p
    by_cases q : cmpI b.kind c.kind = 0
    · rw [if_neg (by simpa using q)] at h2
      have eq := (cmpI_iff _ _).2.1.1 q
      rw [if_neg (by rw [ep, q]; simp)]
      exact cb3 _ _ _ h1 h2
    · rw [if_pos q] at h2
      rw [ep, if_pos q]; exact h2
  · rw [if_pos p] at h1
    have l1 := (cmpI_iff _ _).1.1 h1
    by_cases q : cmpI b.kind c.kind = 0
    · have eq := (cmpI_iff _ _).2.1.1 q
      rw [← eq, if_pos p]; exact h1
    · rw [if_pos q] at h2
      have l2 := (cmpI_iff _ _).1.1 h2
      have : cmpI a.kind c.kind = -1 := (cmpI_iff _ _).1.2 (by omega)
      rw [this]; rfl
theorem ltK_or {a b : Ky} : ltK a b ∨ a = b ∨ ltK b a := by
  rcases cmpK_range a b with h | h | h
  · exact .inl h
  · exact .inr (.inl ((cmpK_zero a b).1 h))
  · exact .inr (.inr (ltK_flip.1 h))
theorem ltK_ne {a b : Ky} (h : ltK a b) : a ≠ b := by rintro rfl; exact ltK_irrefl _ h
theorem ltK_asymm {a b : Ky} (h : ltK a b) : ¬ ltK b a := fun h' => ltK_irrefl _ (ltK_trans h h')

/-! ### configurations -/
/-- in the order of their keys -/
def Srt (l : List Rs) : Prop := l.Pairwise (fun x y => ltK x.key y.key)
def portsOk (l : List Rs) : Bool := goFrom (fun pre x => !pre.contains x) [] ((l.filter (fun r => decide (r.kind = 0))).map Rs.port)
def ordB : List Rs → Bool
  | [] => true
  | x :: r => (match r with | [] => true | y :: _ => decide (cmpK x.key y.key < 0)) && ordB r
/-- the first that is not 0 -/
def firstE {α : Type} (f : α → Int) : List α → Int
  | [] => 0
  | x :: r => if f x ≠ 0 then f x else firstE f r
def saneT (l : List Rs) : Int := if 64 < l.length then 3 else if firstE saneR l ≠ 0 then firstE saneR l else if ordB l = false then 2 else if portsOk l = false then 13 else 0
def getT (l : List Rs) (k : Ky) : Option Rs := l.find? (fun r => decide (r.key = k))
def belowT (l : List Rs) (k : Ky) : List Rs := l.filter (fun x => decide (cmpK x.key k = -1))
def aboveT (l : List Rs) (k : Ky) : List Rs := l.filter (fun x => decide (cmpK x.key k = 1))
def withT (l : List Rs) (r : Rs) : List Rs := belowT l r.key ++ [r] ++ aboveT l r.key
def withoutT (l : List Rs) (k : Ky) : List Rs := l.filter (fun x => !decide (x.key = k))
def kindT (l : List Rs) (k : Int) : List Rs := l.filter (fun r => decide (r.kind = k))
def addsT (a b : List Rs) : List Rs := b.filter (fun r => match getT a r.key with | none => true | some x => !sameR x r)
def goneT (a b : List Rs) : List Ky := (a.map Rs.key).filter (fun k => !(getT b k).isSome)
def patchT (l adds : List Rs) (gone : List Ky) : List Rs := adds.foldl withT (gone.foldl withoutT l)

theorem ordB_iff (l : List Rs) : ordB l = true ↔ Srt l := by
  induction l with
  | nil => simp [ordB, Srt]
  | cons x r ih =>
    unfold ordB Srt
    rw [List.pairwise_cons, Bool.and_eq_true, ih]
    cases r with
    | nil => simp [Srt]
    | cons y r =>
      simp only [decide_eq_true_eq]
      have hlt : cmpK x.key y.key < 0 ↔ ltK x.key y.key := by unfold ltK; rcases cmpK_range x.key y.key with h | h | h <;> omega
      rw [hlt]
      constructor
      · rintro ⟨h1, h2⟩
        refine ⟨fun z hz => ?_, h2⟩
        rcases List.mem_cons.1 hz with rfl | hz
        · exact h1
        · exact ltK_trans h1 ((List.pairwise_cons.1 h2).1 z hz)
      · rintro ⟨h1, h2⟩
        exact ⟨h1 y (by simp), h2⟩
theorem firstE_zero {α : Type} (f : α → Int) (l : List α) : firstE f l = 0 ↔ ∀ x ∈ l, f x = 0 := by
  induction l with
  | nil => simp [firstE]
  | cons x r ih =>
    unfold firstE
    by_cases h : f x = 0
    · rw [if_neg (by simpa using h), ih]; simp [h]
    · rw [if_pos h]; simp [h]
theorem goFrom_nodup {α : Type} [BEq α] [LawfulBEq α] (l : List α) : ∀ pre : List α, pre.Nodup → (goFrom (fun pre x => !pre.contains x) pre l = true ↔ (pre ++ l).Nodup) := by
  induction l with
  | nil => intro pre hp; simp [goFrom, hp]
  | cons x r ih =>
    intro pre hp
    unfold goFrom
    rw [Bool.and_eq_true]
    by_cases hx : x ∈ pre
    · constructor
      · rintro ⟨h, _⟩; simp [hx] at h
      · intro h
        exact absurd rfl ((List.nodup_append.1 h).2.2 x hx x (by simp))
    · have hp' : (pre ++ [x]).Nodup := by
        rw [List.nodup_append]
        refine ⟨hp, by simp, fun a ha b hb => ?_⟩
        simp at hb; subst hb; rintro rfl; exact hx ha
      rw [ih _ hp', List.append_assoc]
      simp [hx]
theorem portsOk_iff (l : List Rs) : portsOk l = true ↔ ((l.filter (fun r => decide (r.kind = 0))).map Rs.port).Nodup := by
  unfold portsOk
  rw [goFrom_nodup _ [] List.nodup_nil]; simp
structure SaneT (l : List Rs) : Prop where
  len : l.length ≤ 64
  each : ∀ x ∈ l, saneR x = 0
  ord : Srt l
  ports : ((l.filter (fun r => decide (r.kind = 0))).map Rs.port).Nodup
theorem saneT_iff (l : List Rs) : saneT l = 0 ↔ SaneT l := by
  unfold saneT
  constructor
  · intro h
    split at h
    · cases h
    split at h
    · rename_i h1; exact absurd h h1
    split at h
    · cases h
    split at h
    · cases h
    rename_i h1 h2 h3 h4
    exact ⟨by omega, (firstE_zero _ _).1 (Classical.not_not.1 h2), (ordB_iff l).1 (by simpa using h3), (portsOk_iff l).1 (by simpa using h4)⟩
  · rintro ⟨h1, h2, h3, h4⟩
    rw [if_neg (by omega), if_neg (by rw [(firstE_zero _ _).2 h2]; simp), (ordB_iff l).2 h3, (portsOk_iff l).2 h4]
    simp

/-! ### what is found -/
theorem Srt.uniq {l : List Rs} (h : Srt l) {x y : Rs} (hx : x ∈ l) (hy : y ∈ l) (he : x.key = y.key) : x = y := by
  induction l with
  | nil => simp at hx
  | cons z r ih =>
    obtain ⟨h1, h2⟩ := List.pairwise_cons.1 h
    rcases List.mem_cons.1 hx with e1 | hx' <;> rcases List.mem_cons.1 hy with e2 | hy'
    · rw [e1, e2]
    · exact absurd (e1 ▸ he) (ltK_ne (h1 y hy'))
    · exact absurd (e2 ▸ he.symm) (ltK_ne (h1 x hx'))
    · exact ih h2 hx' hy'
theorem getT_mem {l : List Rs} {k : Ky} {x : Rs} (h : getT l k = some x) : x ∈ l ∧ x.key = k := by
  unfold getT at h
  exact ⟨List.mem_of_find?_eq_some h, by simpa using List.find?_some h⟩
theorem getT_none {l : List Rs} {k : Ky} : getT l k = none ↔ ∀ x ∈ l, x.key ≠ k := by
  unfold getT; rw [List.find?_eq_none]; simp
theorem getT_of {l : List Rs} (h : Srt l) {x : Rs} (hx : x ∈ l) : getT l x.key = some x := by
  cases hg : getT l x.key with
  | none => exact absurd rfl (getT_none.1 hg x hx)
  | some y => obtain ⟨a, b⟩ := getT_mem hg; rw [h.uniq a hx b]
theorem getT_iff {l : List Rs} (h : Srt l) {k : Ky} {x : Rs} : getT l k = some x ↔ x ∈ l ∧ x.key = k :=
  ⟨getT_mem, fun ⟨a, b⟩ => by rw [← b]; exact getT_of h a⟩
theorem Srt.filter {l : List Rs} (h : Srt l) (p : Rs → Bool) : Srt (l.filter p) := List.Pairwise.filter p h
/-- two that hold the same are the same -/
theorem Srt.ext {l m : List Rs} (hl : Srt l) (hm : Srt m) (h : ∀ x, x ∈ l ↔ x ∈ m) : l = m := by
  induction l generalizing m with
  | nil =>
    cases m with
    | nil => rfl
    | cons y m => exact absurd ((h y).2 (by simp)) (by simp)
  | cons x l ih =>
    cases m with
    | nil => exact absurd ((h x).1 (by simp)) (by simp)
    | cons y m =>
      obtain ⟨l1, l2⟩ := List.pairwise_cons.1 hl
      obtain ⟨m1, m2⟩ := List.pairwise_cons.1 hm
      have hxy : x = y := by
        rcases List.mem_cons.1 ((h x).1 (by simp)) with e | hx
        · exact e
        rcases List.mem_cons.1 ((h y).2 (by simp)) with e | hy
        · exact e.symm
        exact absurd (m1 x hx) (ltK_asymm (l1 y hy))
      subst hxy
      congr 1
      refine ih l2 m2 fun z => ?_
      constructor
      · intro hz
        rcases List.mem_cons.1 ((h z).1 (List.mem_cons_of_mem _ hz)) with e | hz'
        · subst e; exact absurd (l1 z hz) (ltK_irrefl _)
        · exact hz'
      · intro hz
        rcases List.mem_cons.1 ((h z).2 (List.mem_cons_of_mem _ hz)) with e | hz'
        · subst e; exact absurd (m1 z hz) (ltK_irrefl _)
        · exact hz'
/-! ### with, without -/
theorem mem_withT {l : List Rs} {r x : Rs} : x ∈ withT l r ↔ x = r ∨ (x ∈ l ∧ x.key ≠ r.key) := by
  unfold withT belowT aboveT
  simp only [List.mem_append, List.mem_filter, List.mem_singleton, decide_eq_true_eq]
  have h0 := cmpK_zero x.key r.key
  have hr := cmpK_range x.key r.key
  constructor
  · rintro ((⟨h, e⟩ | h) | ⟨h, e⟩)
    · exact .inr ⟨h, fun e' => by rw [h0.2 e'] at e; cases e⟩
    · exact .inl h
    · exact .inr ⟨h, fun e' => by rw [h0.2 e'] at e; cases e⟩
  · rintro (h | ⟨h, hne⟩)
    · exact .inl (.inr h)
    · rcases hr with e | e | e
      · exact .inl (.inl ⟨h, e⟩)
      · exact absurd (h0.1 e) hne
      · exact .inr ⟨h, e⟩
theorem srt_withT {l : List Rs} (h : Srt l) (r : Rs) : Srt (withT l r) := by
  unfold withT Srt belowT aboveT
  rw [List.pairwise_append, List.pairwise_append]
  refine ⟨⟨h.filter _, by simp, fun x hx y hy => ?_⟩, h.filter _, fun x hx y hy => ?_⟩
  · simp at hy; subst hy
    exact (decide_eq_true_eq.mp (List.mem_filter.1 hx).2 : cmpK x.key y.key = -1)
  · have hy2 := ltK_flip.1 (of_decide_eq_true (List.mem_filter.1 hy).2)
    rcases List.mem_append.1 hx with hx | hx
    · exact ltK_trans (decide_eq_true_eq.mp (List.mem_filter.1 hx).2 : cmpK x.key r.key = -1) hy2
    · simp at hx; subst hx; exact hy2
theorem mem_withoutT {l : List Rs} {k : Ky} {x : Rs} : x ∈ withoutT l k ↔ x ∈ l ∧ x.key ≠ k := by unfold withoutT; simp
theorem srt_withoutT {l : List Rs} (h : Srt l) (k : Ky) : Srt (withoutT l k) := h.filter _
/-- the parts of a sorted list -/
theorem srt_parts {l : List Rs} (h : Srt l) (k : Ky) : l.length = (belowT l k).length + (l.filter (fun x => decide (x.key = k))).length + (aboveT l k).length := by
  unfold belowT aboveT
  clear h
  induction l with
  | nil => rfl
  | cons x r ih =>
    simp only [List.filter_cons]
    have h0 := cmpK_zero x.key k
    rcases cmpK_range x.key k with e | e | e
    · have : ¬ x.key = k := fun e' => by rw [h0.2 e'] at e; cases e
      simp [e, this]; omega
    · have : x.key = k := h0.1 e
      have n1 : ¬ cmpK x.key k = -1 := by omega
      have n2 : ¬ cmpK x.key k = 1 := by omega
      rw [if_neg (by simpa using n1), if_pos (by simpa using this), if_neg (by simpa using n2)]
      simp; omega
    · have : ¬ x.key = k := fun e' => by rw [h0.2 e'] at e; cases e
      simp [e, this]; omega
theorem srt_one {l : List Rs} (h : Srt l) (k : Ky) : (l.filter (fun x => decide (x.key = k))).length = if (getT l k).isSome then 1 else 0 := by
  induction l with
  | nil => rfl
  | cons x r ih =>
    obtain ⟨h1, h2⟩ := List.pairwise_cons.1 h
    unfold getT at ih ⊢
    rw [List.filter_cons, List.find?_cons]
    by_cases e : x.key = k
    · simp only [e, decide_true, if_true, List.length_cons, Option.isSome_some]
      have : r.filter (fun x => decide (x.key = k)) = [] := by
        rw [List.filter_eq_nil_iff]
        intro y hy
        have := ltK_ne (h1 y hy)
        simp only [decide_eq_true_eq]
        rw [← e]; exact fun e' => this e'.symm
      rw [this]; rfl
    · simp only [e, decide_false]
      exact ih h2
theorem len_withT {l : List Rs} (h : Srt l) (r : Rs) : (withT l r).length = if (getT l r.key).isSome then l.length else l.length + 1 := by
  have h1 := srt_parts h r.key
  have h2 := srt_one h r.key
  unfold withT
  simp only [List.length_append, List.length_singleton]
  split <;> rename_i hc
  · rw [if_pos hc] at h2; omega
  · rw [if_neg hc] at h2; omega
theorem get_withT {l : List Rs} (h : Srt l) (r : Rs) (k : Ky) : getT (withT l r) k = if k = r.key then some r else getT l k := by
  have hs := srt_withT h r
  by_cases e : k = r.key
  · rw [if_pos e, getT_iff hs]; exact ⟨mem_withT.2 (.inl rfl), e.symm⟩
  · rw [if_neg e]
    cases hg : getT l k with
    | none =>
      rw [getT_none] at hg ⊢
      intro x hx
      rcases mem_withT.1 hx with rfl | ⟨hx, _⟩
      · exact fun e' => e e'.symm
      · exact hg x hx
    | some y =>
      obtain ⟨a, b⟩ := getT_mem hg
      rw [getT_iff hs]
      exact ⟨mem_withT.2 (.inr ⟨a, by rw [b]; exact e⟩), b⟩
theorem get_withoutT {l : List Rs} (h : Srt l) (k k' : Ky) : getT (withoutT l k) k' = if k' = k then none else getT l k' := by
  have hs := srt_withoutT h k
  by_cases e : k' = k
  · rw [if_pos e, getT_none]; intro x hx; rw [e]; exact (mem_withoutT.1 hx).2
  · rw [if_neg e]
    cases hg : getT l k' with
    | none => rw [getT_none] at hg ⊢; intro x hx; exact hg x (mem_withoutT.1 hx).1
    | some y =>
      obtain ⟨a, b⟩ := getT_mem hg
      rw [getT_iff hs]; exact ⟨mem_withoutT.2 ⟨a, by rw [b]; exact e⟩, b⟩
theorem without_withT {l : List Rs} (h : Srt l) (r : Rs) : withoutT (withT l r) r.key = withoutT l r.key := by
  refine (srt_withoutT (srt_withT h r) _).ext (srt_withoutT h _) fun x => ?_
  rw [mem_withoutT, mem_withoutT, mem_withT]
  constructor
  · rintro ⟨rfl | h1, h2⟩
    · exact absurd rfl h2
    · exact h1
  · rintro ⟨h1, h2⟩; exact ⟨.inr ⟨h1, h2⟩, h2⟩
theorem without_none {l : List Rs} {k : Ky} (h : getT l k = none) : withoutT l k = l := by
  unfold withoutT; rw [List.filter_eq_self]; intro x hx; have := getT_none.1 h x hx; simp [this]

/-! ### patched -/
theorem srt_patchT {l : List Rs} (h : Srt l) (adds : List Rs) (gone : List Ky) : Srt (patchT l adds gone) := by
  unfold patchT
  have h1 : ∀ (g : List Ky) (l : List Rs), Srt l → Srt (g.foldl withoutT l) := by
    intro g; induction g with
    | nil => intro l h; exact h
    | cons k g ih => intro l h; exact ih _ (srt_withoutT h k)
  have h2 : ∀ (g : List Rs) (l : List Rs), Srt l → Srt (g.foldl withT l) := by
    intro g; induction g with
    | nil => intro l h; exact h
    | cons k g ih => intro l h; exact ih _ (srt_withT h k)
  exact h2 _ _ (h1 _ _ h)
theorem mem_foldl_without : ∀ (g : List Ky) (l : List Rs) (x : Rs), x ∈ g.foldl withoutT l ↔ x ∈ l ∧ x.key ∉ g
  | [], l, x => by simp
  | k :: g, l, x => by
    rw [List.foldl_cons, mem_foldl_without g, mem_withoutT]
    simp [and_assoc]
theorem mem_foldl_with : ∀ (g : List Rs), Srt g → ∀ (l : List Rs) (x : Rs), x ∈ g.foldl withT l ↔ x ∈ g ∨ (x ∈ l ∧ x.key ∉ g.map Rs.key)
  | [], _, l, x => by simp
  | r :: g, h, l, x => by
    obtain ⟨h1, h2⟩ := List.pairwise_cons.1 h
    rw [List.foldl_cons, mem_foldl_with g h2, mem_withT]
    simp only [List.mem_cons, List.map_cons, not_or]
    constructor
    · rintro (a | ⟨rfl | ⟨a, b⟩, c⟩)
      · exact .inl (.inr a)
      · exact .inl (.inl rfl)
      · exact .inr ⟨a, b, c⟩
    · rintro ((rfl | a) | ⟨a, b, c⟩)
      · refine .inr ⟨.inl rfl, fun hm => ?_⟩
        obtain ⟨y, hy, e⟩ := List.mem_map.1 hm
        exact ltK_ne (h1 y hy) e.symm
      · exact .inl a
      · exact .inr ⟨.inr ⟨a, b⟩, c⟩
theorem mem_addsT {a b : List Rs} (ha : Srt a) {x : Rs} : x ∈ addsT a b ↔ x ∈ b ∧ x ∉ a := by
  unfold addsT
  rw [List.mem_filter]
  refine and_congr_right fun hx => ?_
  cases hg : getT a x.key with
  | none => simp only [true_iff]; intro hm; exact absurd rfl (getT_none.1 hg x hm)
  | some y =>
    obtain ⟨h1, h2⟩ := getT_mem hg
    simp only [Bool.not_eq_true']
    constructor
    · intro h hm
      have : y = x := ha.uniq h1 hm h2
      rw [(same_iff y x).2 this] at h; cases h
    · intro h
      cases hs : sameR y x with
      | false => rfl
      | true => rw [(same_iff y x).1 hs] at h1; exact absurd h1 h
theorem mem_goneT {a b : List Rs} {k : Ky} : k ∈ goneT a b ↔ k ∈ a.map Rs.key ∧ k ∉ b.map Rs.key := by
  unfold goneT
  rw [List.mem_filter]
  refine and_congr_right fun _ => ?_
  cases hg : getT b k with
  | none =>
    simp only [Option.isSome_none, Bool.not_false, true_iff]
    intro hm
    obtain ⟨y, hy, e⟩ := List.mem_map.1 hm
    exact getT_none.1 hg y hy e
  | some y =>
    obtain ⟨h1, h2⟩ := getT_mem hg
    simp only [Option.isSome_some, Bool.not_true, Bool.false_eq_true, false_iff, Classical.not_not]
    exact List.mem_map.2 ⟨y, h1, h2⟩
theorem patch_diff {a b : List Rs} (ha : Srt a) (hb : Srt b) : patchT a (addsT a b) (goneT a b) = b := by
  have hA : Srt (addsT a b) := hb.filter _
  refine (srt_patchT ha _ _).ext hb fun x => ?_
  unfold patchT
  rw [mem_foldl_with _ hA, mem_foldl_without, mem_addsT ha, mem_goneT]
  constructor
  · rintro (⟨h, _⟩ | ⟨⟨h1, h2⟩, h3⟩)
    · exact h
    · have hk : x.key ∈ b.map Rs.key := by
        refine Classical.byContradiction fun hn => h2 ⟨List.mem_map.2 ⟨x, h1, rfl⟩, hn⟩
      obtain ⟨y, hy, e⟩ := List.mem_map.1 hk
      by_cases hya : y ∈ a
      · have : y = x := ha.uniq hya h1 e
        rw [← this]; exact hy
      · exact absurd (List.mem_map.2 ⟨y, (mem_addsT ha).2 ⟨hy, hya⟩, e⟩) h3
  · intro h
    by_cases hx : x ∈ a
    · refine .inr ⟨⟨hx, fun hg => hg.2 (List.mem_map.2 ⟨x, h, rfl⟩)⟩, fun hm => ?_⟩
      obtain ⟨y, hy, e⟩ := List.mem_map.1 hm
      obtain ⟨h1, h2⟩ := (mem_addsT ha).1 hy
      have : y = x := hb.uniq h1 h e
      exact h2 (this ▸ hx)
    · exact .inl ⟨h, hx⟩
theorem adds_self {a : List Rs} (ha : Srt a) : addsT a a = [] := by
  rw [List.eq_nil_iff_forall_not_mem]
  intro x hx
  obtain ⟨h1, h2⟩ := (mem_addsT ha).1 hx
  exact h2 h1
theorem gone_self (a : List Rs) : goneT a a = [] := by
  rw [List.eq_nil_iff_forall_not_mem]
  intro k hk
  obtain ⟨h1, h2⟩ := mem_goneT.1 hk
  exact h2 h1

/-! ### as many both ways -/
theorem Srt.nodup {l : List Rs} (h : Srt l) : l.Nodup := List.Pairwise.imp (fun {a b} h => by rintro rfl; exact ltK_irrefl _ h) h
theorem Srt.keys {l : List Rs} (h : Srt l) : (l.map Rs.key).Nodup := by
  unfold List.Nodup
  rw [List.pairwise_map]
  exact List.Pairwise.imp (fun {a b} h => ltK_ne h) h
theorem len_filter_not {α : Type} (p : α → Bool) (l : List α) : l.length = (l.filter p).length + (l.filter (fun x => !p x)).length := by
  induction l with
  | nil => rfl
  | cons x r ih => simp only [List.filter_cons]; cases p x <;> simp <;> omega
theorem nodup_same {α : Type} {l m : List α} (hl : l.Nodup) (hm : m.Nodup) (h : ∀ x, x ∈ l ↔ x ∈ m) : l.length = m.length := ((List.perm_ext_iff_of_nodup hl hm).2 h).length_eq
theorem adds_len {a b : List Rs} (ha : Srt a) (hb : Srt b) : (b.length : Int) - (addsT a b).length = (a.length : Int) - (addsT b a).length := by
  have e1 := len_filter_not (fun r => match getT a r.key with | none => true | some x => !sameR x r) b
  have e2 := len_filter_not (fun r => match getT b r.key with | none => true | some x => !sameR x r) a
  have h : (b.filter (fun r => !(match getT a r.key with | none => true | some x => !sameR x r))).length = (a.filter (fun r => !(match getT b r.key with | none => true | some x => !sameR x r))).length := by
    refine nodup_same (hb.filter _).nodup (ha.filter _).nodup fun x => ?_
    have m1 := mem_addsT (b := b) ha (x := x)
    have m2 := mem_addsT (b := a) hb (x := x)
    unfold addsT at m1 m2
    rw [List.mem_filter] at m1 m2
    rw [List.mem_filter, List.mem_filter, Bool.not_eq_true', Bool.not_eq_true', ← Bool.not_eq_true, ← Bool.not_eq_true]
    constructor
    · rintro ⟨h1, h2⟩
      have hx : x ∈ a := Classical.byContradiction fun hn => h2 (m1.2 ⟨h1, hn⟩).2
      exact ⟨hx, fun h3 => (m2.1 ⟨hx, h3⟩).2 h1⟩
    · rintro ⟨h1, h2⟩
      have hx : x ∈ b := Classical.byContradiction fun hn => h2 (m2.2 ⟨h1, hn⟩).2
      exact ⟨hx, fun h3 => (m1.1 ⟨hx, h3⟩).2 h1⟩
  unfold addsT
  omega
/-- those that are new by their keys -/
theorem gone_len {a b : List Rs} (ha : Srt a) (hb : Srt b) : ((addsT a b).length : Int) - (goneT b a).length = ((addsT b a).length : Int) - (goneT a b).length := by
  have hd := adds_len ha hb
  have k1 := len_filter_not (fun k => !(getT b k).isSome) (a.map Rs.key)
  have k2 := len_filter_not (fun k => !(getT a k).isSome) (b.map Rs.key)
  have h : ((a.map Rs.key).filter (fun k => !!(getT b k).isSome)).length = ((b.map Rs.key).filter (fun k => !!(getT a k).isSome)).length := by
    refine nodup_same (ha.keys.filter _) (hb.keys.filter _) fun k => ?_
    have m1 := mem_goneT (a := a) (b := b) (k := k)
    have m2 := mem_goneT (a := b) (b := a) (k := k)
    unfold goneT at m1 m2
    rw [List.mem_filter] at m1 m2
    rw [List.mem_filter, List.mem_filter, Bool.not_eq_true', Bool.not_eq_true', ← Bool.not_eq_true, ← Bool.not_eq_true]
    constructor
    · rintro ⟨h1, h2⟩
      have hx : k ∈ b.map Rs.key := Classical.byContradiction fun hn => h2 (m1.2 ⟨h1, hn⟩).2
      exact ⟨hx, fun h3 => (m2.1 ⟨hx, h3⟩).2 h1⟩
    · rintro ⟨h1, h2⟩
      have hx : k ∈ a.map Rs.key := Classical.byContradiction fun hn => h2 (m2.2 ⟨h1, hn⟩).2
      exact ⟨hx, fun h3 => (m1.1 ⟨hx, h3⟩).2 h1⟩
  rw [List.length_map] at k1 k2
  have g1 : (goneT a b).length = ((a.map Rs.key).filter (fun k => !(getT b k).isSome)).length := rfl
  have g2 : (goneT b a).length = ((b.map Rs.key).filter (fun k => !(getT a k).isSome)).length := rfl
  omega
theorem diff_none {a b : List Rs} (ha : Srt a) (hb : Srt b) : (addsT a b).length + (goneT a b).length = 0 ↔ a = b := by
  constructor
  · intro h
    have h1 : addsT a b = [] := List.eq_nil_of_length_eq_zero (by omega)
    have h2 : goneT a b = [] := List.eq_nil_of_length_eq_zero (by omega)
    have := patch_diff ha hb
    rw [h1, h2] at this
    exact this
  · rintro rfl; rw [adds_self ha, gone_self]; rfl

/-! ### by kinds -/
theorem ltK_kind {a b : Ky} (h : ltK a b) : a.kind ≤ b.kind := by
  unfold ltK cmpK at h
  split at h
  · have := (cmpI_iff _ _).1.1 h; omega
  · rename_i h0; rw [(cmpI_iff _ _).2.1.1 (Classical.not_not.1 h0)]; exact Int.le_refl _
theorem kinds_all {l : List Rs} (h : Srt l) (hk : ∀ x ∈ l, 0 ≤ x.kind ∧ x.kind ≤ 3) : kindT l 0 ++ kindT l 1 ++ kindT l 2 ++ kindT l 3 = l := by
  have hcross : ∀ (i j : Int), i < j → ∀ x ∈ kindT l i, ∀ y ∈ kindT l j, ltK x.key y.key := fun i j hij x hx y hy => by
    unfold kindT at hx hy
    rw [List.mem_filter, decide_eq_true_eq] at hx hy
    unfold ltK cmpK
    have : cmpI x.key.kind y.key.kind = -1 := (cmpI_iff _ _).1.2 (by show x.kind < y.kind; omega)
    rw [this]; rfl
  have hs : ∀ i, Srt (kindT l i) := fun i => h.filter _
  have hS : Srt (kindT l 0 ++ kindT l 1 ++ kindT l 2 ++ kindT l 3) := by
    unfold Srt
    rw [List.pairwise_append, List.pairwise_append, List.pairwise_append]
    refine ⟨⟨⟨hs 0, hs 1, hcross 0 1 (by decide)⟩, hs 2, fun x hx y hy => ?_⟩, hs 3, fun x hx y hy => ?_⟩
    · rcases List.mem_append.1 hx with hx | hx
      · exact hcross 0 2 (by decide) x hx y hy
      · exact hcross 1 2 (by decide) x hx y hy
    · rcases List.mem_append.1 hx with hx | hx
      · rcases List.mem_append.1 hx with hx | hx
        · exact hcross 0 3 (by decide) x hx y hy
        · exact hcross 1 3 (by decide) x hx y hy
      · exact hcross 2 3 (by decide) x hx y hy
  refine hS.ext h fun x => ?_
  simp only [List.mem_append, kindT, List.mem_filter, decide_eq_true_eq]
  constructor
  · rintro (((h | h) | h) | h) <;> exact h.1
  · intro hx
    have := hk x hx
    have h4 : x.kind = 0 ∨ x.kind = 1 ∨ x.kind = 2 ∨ x.kind = 3 := by omega
    rcases h4 with e | e | e | e
    · exact .inl (.inl (.inl ⟨hx, e⟩))
    · exact .inl (.inl (.inr ⟨hx, e⟩))
    · exact .inl (.inr ⟨hx, e⟩)
    · exact .inr ⟨hx, e⟩
end Go.Proofs.YtfdjbnofcniodaaGreatDoor
