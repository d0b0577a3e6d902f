/- What package pick's Beats, the closure of Rule, and the laws' few compute. -/
import Derived.Test.YtepifkmileilfaaDoorPick
import Derived.Test.YtepifkmileilfaaDoorNamesB
namespace Go.Proofs.YtepifkmileilfaaDoor
set_option linter.unusedVariables false
open Go.RowKit

/-- a rule: its host, its prefix, its weights -/
structure Ru where
  host : ByteArray
  pre : ByteArray
  ws : List (ByteArray × Int)
/-- three cells that hold a rule -/
def RuR (w : World) (cs : List Value) (r : Ru) : Prop := ∃ A n c, cs = [.string r.host, .string r.pre, .slice A n c] ∧ r.host.size ≤ maxLen ∧ r.pre.size ≤ maxLen ∧ n ≤ maxLen ∧ ArrR w 2 WtR A n r.ws
theorem RuR.up {w w' : World} {cs : List Value} {r : Ru} (h : RuR w cs r) (he : Ext w w') : RuR w' cs r := by
  obtain ⟨A, n, c, h1, h2, h3, h4, h5⟩ := h; exact ⟨A, n, c, h1, h2, h3, h4, h5.up he⟩
theorem RuR.at_ {w0 w : World} {A : Option Addr} {n k : Nat} {l : List Ru} (h : ArrR w 3 (RuR w0) A n l) (hk : k < n) :
    ∃ b o r As ns cs, A = some ⟨b, o, none⟩ ∧ b < w.heap.size ∧ l[k]? = some r ∧ w.cell? ⟨b, o + k * 3, none⟩ = some (.string r.host) ∧ w.cell? ⟨b, o + k * 3 + 1, none⟩ = some (.string r.pre) ∧ w.cell? ⟨b, o + k * 3 + 2, none⟩ = some (.slice As ns cs) ∧
      r.host.size ≤ maxLen ∧ r.pre.size ≤ maxLen ∧ ns ≤ maxLen ∧ ArrR w0 2 WtR As ns r.ws := by
  obtain ⟨b, o, p, cs, hA, hb, hl, _, hR, hcs⟩ := h.at_ hk
  obtain ⟨As, ns, c, rfl, h2, h3, h4, h5⟩ := hR
  exact ⟨b, o, p, As, ns, c, hA, hb, hl, hcs 0 _ rfl, hcs 1 _ rfl, hcs 2 _ rfl, h2, h3, h4, h5⟩

/-- is the first better than the second? -/
def beatsB (a b : Ru) : Bool := decide (0 < narrowN (tx a.host) (tx b.host)) || (decide (narrowN (tx a.host) (tx b.host) = 0) && decide (b.pre.size < a.pre.size))
def fitB (r : Ru) (h p : ByteArray) : Bool := matchB (tx r.host) (tx h) && underB (tx r.pre) (tx p)
def fewRB (l : List Ru) : Bool := l.all (fun r => decide (r.host.size ≤ 100) && decide (r.pre.size ≤ 100) && decide (r.ws.length ≤ 60)) && decide (l.length ≤ 40)
theorem beats_pos {a b : Ru} (h : 0 < narrowN (tx a.host) (tx b.host)) : beatsB a b = true := by unfold beatsB; simp [h]
theorem beats_neg {a b : Ru} (h : narrowN (tx a.host) (tx b.host) < 0) : beatsB a b = false := by unfold beatsB; rw [decide_eq_false (by omega), decide_eq_false (by omega)]; rfl
theorem beats_zero {a b : Ru} (h : narrowN (tx a.host) (tx b.host) = 0) : beatsB a b = decide (b.pre.size < a.pre.size) := by unfold beatsB; rw [decide_eq_false (by omega), decide_eq_true h]; simp

set_option maxHeartbeats 1000000 in
theorem beats_any (a b : Ru) (A A' : Option Addr) (n c n' c' : Nat) (w : World) (h1 : a.host.size ≤ maxLen) (h2 : b.host.size ≤ maxLen) :
    Calls Tryd.prog 20 #[.agg #[.string a.host, .string a.pre, .slice A n c], .agg #[.string b.host, .string b.pre, .slice A' n' c']] w fun e w' => e = .returned (.bool (beatsB a b)) ∧ Ext w w' := by
  obtain ⟨ha, pa, wa⟩ := a
  obtain ⟨hb, pb, wb⟩ := b
  simp only at h1 h2 ⊢
  have HP : Hid (0 < narrowN (tx ha) (tx hb) → beatsB ⟨ha, pa, wa⟩ ⟨hb, pb, wb⟩ = true) := Lib.hid fun h => beats_pos h
  have HM : Hid (narrowN (tx ha) (tx hb) < 0 → beatsB ⟨ha, pa, wa⟩ ⟨hb, pb, wb⟩ = false) := Lib.hid fun h => beats_neg h
  have HZ : Hid (narrowN (tx ha) (tx hb) = 0 → beatsB ⟨ha, pa, wa⟩ ⟨hb, pb, wb⟩ = decide (pb.size < pa.size)) := Lib.hid fun h => beats_zero h
  obtain ⟨v, hv⟩ : ∃ v, v = beatsB ⟨ha, pa, wa⟩ ⟨hb, pb, wb⟩ := ⟨_, rfl⟩
  obtain ⟨N, hN⟩ : ∃ N, N = narrowN (tx ha) (tx hb) := ⟨_, rfl⟩
  rw [← hv] at HP HM HZ ⊢
  rw [← hN] at HP HM HZ
  have HN := Lib.hid hN
  clear hv hN
  go_enter Tryd.func20, Tryd.ntmps20
  go_wp2_with fail
  refine (narrow_any _ _ _ h1 h2).mono ?_
  rintro e w1 ⟨rfl, rfl⟩
  rw [← HN.out]
  by_cases hp : 0 < N
  · go_wp2_with fail
    go_ret
    exact ⟨ret_bool (HP.out hp).symm, ((Ext.refl _).alloc _).alloc _⟩
  · by_cases hm : N < 0
    · go_wp2_with fail
      go_ret
      exact ⟨ret_bool (HM.out hm).symm, ((Ext.refl _).alloc _).alloc _⟩
    · go_wp2_with fail
      go_ret
      exact ⟨ret_bool ((HZ.out (by omega)).trans (by simp)).symm, ((Ext.refl _).alloc _).alloc _⟩

/-! ### few -/
theorem fewR_bad {l : List Ru} {k : Nat} {r : Ru} (h : l[k]? = some r) (hb : 100 < r.host.size ∨ 100 < r.pre.size ∨ 60 < r.ws.length) : fewRB l = false := by
  unfold fewRB
  rw [Bool.and_eq_false_iff]
  left
  rw [List.all_eq_false]
  refine ⟨r, List.mem_of_getElem? h, ?_⟩
  simp only [Bool.and_eq_true, decide_eq_true_eq, not_and]
  omega
theorem fewR_end {l : List Ru} (h : ∀ (k : Nat) (r : Ru), l[k]? = some r → r.host.size ≤ 100 ∧ r.pre.size ≤ 100 ∧ r.ws.length ≤ 60) : fewRB l = decide (l.length ≤ 40) := by
  unfold fewRB
  rw [show (l.all fun (r : Ru) => decide (r.host.size ≤ 100) && decide (r.pre.size ≤ 100) && decide (r.ws.length ≤ 60)) = true from ?_, Bool.true_and]
  rw [List.all_eq_true]
  intro r hr
  obtain ⟨k, hk⟩ := List.mem_iff_getElem?.1 hr
  obtain ⟨a, b, c⟩ := h k r hk
  simp [a, b, c]
theorem fewR_true {l : List Ru} (h : fewRB l = true) : l.length ≤ 40 ∧ ∀ r ∈ l, r.host.size ≤ 100 ∧ r.pre.size ≤ 100 ∧ r.ws.length ≤ 60 := by
  unfold fewRB at h
  rw [Bool.and_eq_true, List.all_eq_true, decide_eq_true_eq] at h
  refine ⟨h.2, fun r hr => ?_⟩
  have := h.1 r hr
  simp only [Bool.and_eq_true, decide_eq_true_eq] at this
  exact ⟨this.1.1, this.1.2, this.2⟩

set_option maxHeartbeats 1000000 in
theorem few07_any (A : Option Addr) (n c : Nat) (l : List Ru) (w : World) (hl : n ≤ 9223372036854775807) (hA : ArrR w 3 (RuR w) A n l) :
    Calls Tryd.prog 16 #[.slice A n c] w fun e w' => e = .returned (.bool (fewRB l)) ∧ w = w' := by
  go_enter Tryd.func16, Tryd.ntmps16
  go_wp2_with fail
  go_loopw [3] (fun i wr => ∃ k : Nat, k ≤ n ∧ i = .int .i64 k ∧ Hid (∀ (j : Nat) (r : Ru), j < k → l[j]? = some r → r.host.size ≤ 100 ∧ r.pre.size ≤ 100 ∧ r.ws.length ≤ 60) ∧ w = wr) (fun i _ => n - (intOf i).toNat)
  case atStart => exact ⟨0, Nat.zero_le _, rfl, Lib.hid (fun j r h => absurd h (by omega)), rfl⟩
  case round =>
    obtain ⟨k, hk, rfl, HB, rfl⟩ := hrel
    by_cases hlt : k < n
    · obtain ⟨b, o, r, As, ns, cs, rfl, hbB, hlk, hc1, hc2, hc3, -, -, -, h5⟩ := RuR.at_ hA hlt
      have hln := h5.len
      have HBad : Hid (100 < r.host.size ∨ 100 < r.pre.size ∨ 60 < ns → fewRB l = false) := Lib.hid fun h => fewR_bad hlk (by rw [hln]; exact h)
      have HGood : Hid (r.host.size ≤ 100 → r.pre.size ≤ 100 → ns ≤ 60 → ∀ (j : Nat) (r : Ru), j < k + 1 → l[j]? = some r → r.host.size ≤ 100 ∧ r.pre.size ≤ 100 ∧ r.ws.length ≤ 60) := Lib.hid fun a b c j r' hj hr => by
        rcases Nat.lt_or_ge j k with h | h
        · exact HB.out j r' h hr
        · obtain rfl : j = k := by omega
          rw [hlk] at hr; injection hr with hr; subst hr
          exact ⟨a, b, by omega⟩
      obtain ⟨rh, rp, rw_⟩ := r
      simp only at HBad HGood hc1 hc2
      clear hlk hln h5 HB
      have i1 : (0 : Int) ≤ (k : Int) := by omega
      have i2 : (k : Int) < (n : Int) := by omega
      by_cases g1 : 100 < rh.size
      · go_wp2_with fail
        go_ret
        exact ⟨ret_bool (HBad.out (.inl g1)).symm, rfl⟩
      · by_cases g2 : 100 < rp.size
        · go_wp2_with fail
          go_ret
          exact ⟨ret_bool (HBad.out (.inr (.inl g2))).symm, rfl⟩
        · by_cases g3 : 60 < ns
          · go_wp2_with fail
            go_ret
            exact ⟨ret_bool (HBad.out (.inr (.inr g3))).symm, rfl⟩
          · have HG := Lib.hid (HGood.out (by omega) (by omega) (by omega))
            go_wp2_with fail
            go_roundw
            case rel => exact ⟨k + 1, by omega, by go_num, HG, by first | trivial | rfl⟩
            case measure => simp [intOf]; omega
    · have HE : Hid (fewRB l = decide (n ≤ 40)) := Lib.hid (by
        have hn := hA.len
        rw [← hn]
        refine fewR_end fun j r hj => HB.out j r ?_ hj
        have := (List.getElem?_eq_some_iff.1 hj).1
        omega)
      go_wp2_with fail
      go_ret
      exact ⟨ret_bool (by rw [HE.out]; simp only [decide_eq_decide]; omega), rfl⟩
end Go.Proofs.YtepifkmileilfaaDoor
