/- Plain: which rule best chooses. -/
import Derived.Test.YtepifkmileilfaaDoorRule2
namespace Go.Proofs.YtepifkmileilfaaDoor
set_option linter.unusedVariables false

theorem cmp_neg {a b : Int} (h : cmpI a b < 0) : a < b := by
  unfold cmpI at h; split at h; assumption; split at h <;> omega
theorem cmp_of_lt {a b : Int} (h : b < a) : 0 < cmpI a b := by
  unfold cmpI; rw [if_neg (by omega), if_pos h]; omega
theorem cmp_self (a : Int) : cmpI a a = 0 := by unfold cmpI; rw [if_neg (by omega), if_neg (by omega)]
/-- how wide a rule's host is -/
def wd (r : Ru) : Int := widthN (tx r.host)
theorem beats_iff (a b : Ru) : beatsB a b = true ↔ wd b < wd a ∨ (wd b = wd a ∧ b.pre.size < a.pre.size) := by
  unfold beatsB narrowN
  change (decide (0 < cmpI (wd a) (wd b)) || (decide (cmpI (wd a) (wd b) = 0) && decide (b.pre.size < a.pre.size))) = true ↔ _
  rw [Bool.or_eq_true, Bool.and_eq_true, decide_eq_true_eq, decide_eq_true_eq, decide_eq_true_eq]
  constructor
  · rintro (h | ⟨h, h2⟩)
    · exact .inl (cmp_pos h)
    · exact .inr ⟨(cmp_zero h).symm, h2⟩
  · rintro (h | ⟨h, h2⟩)
    · exact .inl (cmp_of_lt h)
    · exact .inr ⟨by rw [h]; exact cmp_self _, h2⟩
theorem beats_not (a b : Ru) : beatsB a b = false ↔ ¬ (wd b < wd a ∨ (wd b = wd a ∧ b.pre.size < a.pre.size)) := by
  rw [← beats_iff]; cases beatsB a b <;> simp

/-- what is known of the best so far -/
def Inv (h p : ByteArray) (l : List Ru) (s : Bool × Ru) : Prop :=
  (s.1 = false → ∀ x ∈ l, fitB x h p = false) ∧
  (s.1 = true → (∃ idx, idx < l.length ∧ l[idx]? = some s.2 ∧ fitB s.2 h p = true ∧ ∀ (i : Nat) (x : Ru), i < idx → l[i]? = some x → fitB x h p = true → beatsB s.2 x = true) ∧ ∀ x ∈ l, fitB x h p = true → beatsB x s.2 = false)
theorem Inv.step {h p : ByteArray} {l : List Ru} {s : Bool × Ru} (x : Ru) (hI : Inv h p l s) : Inv h p (l ++ [x]) (bestStep h p s x) := by
  obtain ⟨fd, r⟩ := s
  unfold bestStep
  cases hf : fitB x h p with
  | false =>
    rw [if_neg (by simp)]
    refine ⟨fun e y hy => ?_, fun e => ?_⟩
    · rcases List.mem_append.1 hy with hy | hy
      · exact hI.1 e y hy
      · simp at hy; subst hy; exact hf
    · obtain ⟨⟨idx, h1, h2, h3, h4⟩, h5⟩ := hI.2 e
      refine ⟨⟨idx, by simp; omega, by rw [List.getElem?_append_left h1]; exact h2, h3, fun i y hi hy hy2 => ?_⟩, fun y hy hy2 => ?_⟩
      · rw [List.getElem?_append_left (by omega)] at hy; exact h4 i y hi hy hy2
      · rcases List.mem_append.1 hy with hy | hy
        · exact h5 y hy hy2
        · simp at hy; subst hy; rw [hf] at hy2; cases hy2
  | true =>
    cases fd with
    | false =>
      rw [if_pos (by simp)]
      refine ⟨(fun e => by cases e), fun _ => ⟨⟨l.length, by simp, by simp, hf, fun i y hi hy hy2 => ?_⟩, fun y hy hy2 => ?_⟩⟩
      · rw [List.getElem?_append_left hi] at hy
        rw [hI.1 rfl y (List.mem_of_getElem? hy)] at hy2; cases hy2
      · rcases List.mem_append.1 hy with hy | hy
        · rw [hI.1 rfl y hy] at hy2; cases hy2
        · simp at hy; subst hy
          exact (beats_not _ _).2 (by simp only; omega)
    | true =>
      obtain ⟨⟨idx, h1, h2, h3, h4⟩, h5⟩ := hI.2 rfl
      simp only at h1 h2 h3 h4 h5
      cases hb : beatsB x r with
      | false =>
        rw [if_neg (by simp [hb])]
        refine ⟨(fun e => by cases e), fun _ => ⟨⟨idx, by simp; omega, by rw [List.getElem?_append_left h1]; exact h2, h3, fun i y hi hy hy2 => ?_⟩, fun y hy hy2 => ?_⟩⟩
        · rw [List.getElem?_append_left (by omega)] at hy; exact h4 i y hi hy hy2
        · rcases List.mem_append.1 hy with hy | hy
          · exact h5 y hy hy2
          · simp at hy; subst hy; exact hb
      | true =>
        rw [if_pos (by simp [hb])]
        have hb' := (beats_iff _ _).1 hb
        refine ⟨(fun e => by cases e), fun _ => ⟨⟨l.length, by simp, by simp, hf, fun i y hi hy hy2 => ?_⟩, fun y hy hy2 => ?_⟩⟩
        · rw [List.getElem?_append_left hi] at hy
          have := (beats_not _ _).1 (h5 y (List.mem_of_getElem? hy) hy2)
          refine (beats_iff _ _).2 ?_
          simp only
          omega
        · rcases List.mem_append.1 hy with hy | hy
          · have := (beats_not _ _).1 (h5 y hy hy2)
            refine (beats_not _ _).2 ?_
            simp only
            omega
          · simp at hy; subst hy
            exact (beats_not _ _).2 (by simp only; omega)
theorem best_inv (h p : ByteArray) (l : List Ru) : Inv h p l (bestS h p l) := by
  suffices H : ∀ (r l : List Ru) (s : Bool × Ru), Inv h p l s → Inv h p (l ++ r) (r.foldl (bestStep h p) s) by
    have := H l [] (false, ru0) ⟨fun _ x hx => (by simp at hx), fun e => (by cases e)⟩
    rw [List.nil_append] at this; exact this
  intro r
  induction r with
  | nil => intro l s hs; simpa using hs
  | cons x r ih =>
    intro l s hs
    have := ih (l ++ [x]) (bestStep h p s x) (hs.step x)
    simpa using this
end Go.Proofs.YtepifkmileilfaaDoor
