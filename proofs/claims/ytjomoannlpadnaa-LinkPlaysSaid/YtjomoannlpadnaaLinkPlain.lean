/- Plain: what a link's steps do to how often a text is there. -/
import Derived.Test.YtjomoannlpadnaaLinkAlike
namespace Go.Proofs.Ytjomoannlpadnaa
theorem cntQ_append (p q : List (List UInt8)) (b : List UInt8) : cntQ (p ++ q) b = cntQ p b + cntQ q b := by unfold cntQ; rw [List.filter_append, List.length_append]
theorem cntQ_one (x b : List UInt8) : cntQ [x] b = if (x == b) = true then 1 else 0 := by
  unfold cntQ
  by_cases h : (x == b) = true
  · rw [if_pos h]; simp only [List.filter_cons, List.filter_nil, if_pos h, List.length_singleton]
  · rw [if_neg h]; simp only [List.filter_cons, List.filter_nil, if_neg h, List.length_nil]
theorem cut_cnt {q : List (List UInt8)} {k : Nat} {x : List UInt8} (hk : q[k]? = some x) (b : List UInt8) : cntQ q b = cntQ (q.take k ++ q.drop (k + 1)) b + if (x == b) = true then 1 else 0 := by
  have hlt := (List.getElem?_eq_some_iff.1 hk).1
  have hx := (List.getElem?_eq_some_iff.1 hk).2
  have h1 : q = q.take k ++ ([x] ++ q.drop (k + 1)) := by
    conv => lhs; rw [← List.take_append_drop k q, List.drop_eq_getElem_cons hlt, hx]
    rfl
  conv => lhs; rw [h1]
  rw [cntQ_append, cntQ_append, cntQ_append, cntQ_one]
  omega
theorem ok_len {l : Lk} (h : l.ok = true) : l.q.length ≤ 32 := by have := l.sane_len; rw [Lk.sane_of h] at this; exact this
theorem send_cases {l : Lk} (h : l.ok = true) (b : List UInt8) : (l.q.length < 32 ∧ l.send b = (⟨l.ep, l.q ++ [b]⟩, 0)) ∨ (l.q.length = 32 ∧ l.send b = (l, 8)) := by
  have := ok_len h
  by_cases hn : l.q.length < 32
  · exact .inl ⟨hn, send_room h hn b⟩
  · exact .inr ⟨by omega, send_full h (by omega) b⟩
theorem take_none {l : Lk} (h : l.ok = true) (hq : l.q.length = 0) (i : Int) : l.take i = (l, [], 10) := by
  unfold Lk.take; rw [Lk.sane_of h, if_pos hq]
theorem take_some {l : Lk} (h : l.ok = true) (hq : 0 < l.q.length) (i : Int) : ∃ k x, k < l.q.length ∧ l.q[k]? = some x ∧ l.take i = (⟨l.ep, l.q.take k ++ l.q.drop (k + 1)⟩, x, 0) ∧ l.again i = l.send x := by
  have hlt : placeN l.q.length i < l.q.length := by
    unfold placeN
    have h1 : max 0 i % (l.q.length : Int) < l.q.length := Int.emod_lt_of_pos _ (by omega)
    have h2 : 0 ≤ max 0 i % (l.q.length : Int) := Int.emod_nonneg _ (by omega)
    omega
  refine ⟨placeN l.q.length i, l.q[placeN l.q.length i], hlt, List.getElem?_eq_getElem hlt, ?_, ?_⟩
  · unfold Lk.take; rw [Lk.sane_of h, if_neg (by omega), List.getElem?_eq_getElem hlt]; rfl
  · unfold Lk.again; rw [Lk.sane_of h, if_neg (by omega), List.getElem?_eq_getElem hlt]; rfl
theorem again_none {l : Lk} (h : l.ok = true) (hq : l.q.length = 0) (i : Int) : l.again i = (l, 10) := by
  unfold Lk.again; rw [Lk.sane_of h, if_pos hq]
theorem late_none {l : Lk} (h : l.ok = true) (hq : l.q.length = 0) (i : Int) : l.late i = (l, 10) := by
  unfold Lk.late; rw [take_none h hq, if_neg (by simp)]
theorem late_some {l : Lk} (h : l.ok = true) {i : Int} {k : Nat} {x : List UInt8} (hk : k < l.q.length) (ht : l.take i = (⟨l.ep, l.q.take k ++ l.q.drop (k + 1)⟩, x, 0)) : l.late i = (⟨l.ep, (l.q.take k ++ l.q.drop (k + 1)) ++ [x]⟩, 0) := by
  have := ok_len h
  unfold Lk.late
  rw [ht, if_pos rfl, send_room (cut_ok h hk) (by simp only [cut_len hk]; omega)]
theorem reset_cases {l : Lk} (h : l.ok = true) : (l.ep = 2147483647 ∧ l.reset = (l, 14)) ∨ (l.reset = (⟨l.ep + 1, []⟩, 0) ∧ (Lk.mk (l.ep + 1) []).ok = true) := by
  unfold Lk.reset
  rw [Lk.sane_of h]
  by_cases he : l.ep = 2147483647
  · exact .inl ⟨he, by rw [if_pos he]⟩
  · refine .inr ⟨by rw [if_neg he], ?_⟩
    unfold Lk.ok okL at *
    simp at h ⊢
    omega
end Go.Proofs.Ytjomoannlpadnaa
