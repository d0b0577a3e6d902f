/- What the helpers of the laws of layer 12 compute: ours, theirs, Few, Same, count, awake. -/
import Derived.Test.YtjomoannlpadnaaLink3
namespace Go.Proofs.Ytjomoannlpadnaa
open Go.RowKit
attribute [local go_sem ↓] run_max2 run_min2
attribute [local go_sem ↓] Go.wp_at_zero Go.wp_at_succ

set_option maxHeartbeats 400000 in
theorem ours_any (ep : Int) (A : Option Addr) (n c : Nat) (w : World) :
    Calls Try.prog 30 #[.agg #[.int .i64 ep, .slice A n c]] w fun e w' => e = .returned (.agg #[.int .i64 ep, .slice A n c]) ∧ Ext w w' := by
  go_enter Try.func30, Try.ntmps30
  go_wp2_with fail
  exact bodyPost_ret (v := .agg #[.int .i64 ep, .slice A n c]) (by simp [results, Try.results30, go_sem]) rfl ⟨rfl, (Ext.new _ _).alloc _⟩
set_option maxHeartbeats 400000 in
theorem theirs_any (ep : Int) (A : Option Addr) (n c : Nat) (w : World) :
    Calls Try.prog 36 #[.agg #[.int .i64 ep, .slice A n c]] w fun e w' => e = .returned (.agg #[.int .i64 ep, .slice A n c]) ∧ Ext w w' := by
  go_enter Try.func36, Try.ntmps36
  go_wp2_with fail
  exact bodyPost_ret (v := .agg #[.int .i64 ep, .slice A n c]) (by simp [results, Try.results36, go_sem]) rfl ⟨rfl, (Ext.new _ _).alloc _⟩

def fewQ (q : List (List UInt8)) : Bool := q.all fun b => decide (b.length ≤ 300)
def fewB (q : List (List UInt8)) : Bool := fewQ q && decide ((q.length : Int) ≤ 60)
theorem fewQ_hit {q : List (List UInt8)} {k : Nat} {b : List UInt8} (hk : q[k]? = some b) (hb : 300 < b.length) : fewB q = false := by
  unfold fewB fewQ
  rw [Bool.and_eq_false_iff]
  left
  rw [List.all_eq_false]
  exact ⟨b, List.mem_of_getElem? hk, by simp; omega⟩
set_option maxHeartbeats 400000 in
theorem few12_any (X : Nat → Prop) (ep : Int) (A : Option Addr) (n c : Nat) (q : List (List UInt8)) (w : World) (h : QRd w X A n q) (hm : n ≤ 9223372036854775807) :
    Calls Try.prog 28 #[.agg #[.int .i64 ep, .slice A n c]] w fun e w' => e = .returned (.bool (fewB q)) ∧ Ext w w' := by
  have HL := Lib.hid h.len
  have h0 := h.up (Ext.new w (.cells #[.int .i64 ep, .slice A n c] 37))
  have H := Lib.hid h0
  clear h h0
  go_enter Try.func28, Try.ntmps28
  go_wp2_with fail
  go_loop [3] (fun i => ∃ k : Nat, k ≤ n ∧ i = .int .i64 k ∧ Hid (∀ j b, j < k → q[j]? = some b → b.length ≤ 300)) (fun i => n - (intOf i).toNat)
  case atStart => exact ⟨0, Nat.zero_le _, rfl, Lib.hid fun j b hj => absurd hj (by omega)⟩
  case round =>
    obtain ⟨k, hk, rfl, HK⟩ := hrel
    by_cases hlt : k < n
    · obtain ⟨b, o, A', n', c', bs, rfl, hb, hqk, hcell, h1, h2, h3, h4⟩ := H.out.at_ hlt
      have hl3 := h3.len
      by_cases hbig : 300 < n'
      · have HF : Hid (fewB q = false) := Lib.hid (fewQ_hit hqk (by omega))
        clear hqk h3 h4 hl3
        go_wp2_with fail
        go_ret
        exact ⟨by rw [HF.out]; rfl, Ext.new _ _⟩
      · have HN : Hid (∀ j b, j < k + 1 → q[j]? = some b → b.length ≤ 300) := Lib.hid fun j b hj hq => by
          rcases Nat.lt_or_ge j k with h | h
          · exact HK.out j b h hq
          · obtain rfl : j = k := by omega
            rw [hqk] at hq
            injection hq with hq
            subst hq
            omega
        clear hqk h3 h4 hl3
        go_wp2_with fail
        go_round
        case rel => exact ⟨k + 1, by omega, by go_num, HN⟩
        case measure => simp [intOf]; omega
    · have HF : Hid (fewB q = decide ((n : Int) ≤ 60)) := Lib.hid (by
        unfold fewB
        rw [HL.out]
        have : fewQ q = true := by
          unfold fewQ
          rw [List.all_eq_true]
          intro b hb
          obtain ⟨j, hj⟩ := List.mem_iff_getElem?.1 hb
          have hjl := (List.getElem?_eq_some_iff.1 hj).1
          have := HK.out j b (by have := HL.out; omega) hj
          simpa using this
        rw [this]; rfl)
      go_wp2_with fail
      go_ret
      exact ⟨by rw [HF.out]; rfl, Ext.new _ _⟩
theorem fewB_len {q : List (List UInt8)} (h : fewB q = true) : q.length ≤ 60 ∧ ∀ b ∈ q, b.length ≤ 300 := by
  unfold fewB fewQ at h
  rw [Bool.and_eq_true, List.all_eq_true] at h
  refine ⟨by have := h.2; simp at this; omega, fun b hb => by simpa using h.1 b hb⟩

def sameB (a b : Lk) : Bool := decide (a.ep = b.ep) && decide (a.q = b.q)
theorem sameB_true {a b : Lk} (h : a = b) : sameB a b = true := by subst h; simp [sameB]
theorem conv_bytes {w : World} {A : Option Addr} {n : Nat} {bs : List UInt8} (h : Byts w A n bs) (c : Nat) : ∀ nq, (convert 42 9 (.slice A n c)).run Try.prog (w.drewN nq) = .ok (.string (bstr bs)) (w.drewN nq) :=
  fun nq => run_conv Try.underlying42 Try.underlying5 Try.underlying9 (ArrR.up h ((Ext.refl w).drewN nq)) c
set_option maxHeartbeats 1000000 in
theorem same12_any (X : Nat → Prop) (ea eb : Int) (A A' : Option Addr) (n n' c c' : Nat) (a b : Lk) (w : World) (ha : LkR w X ea A n c a) (hb : LkR w X eb A' n' c' b) (hm : n ≤ 9223372036854775807) :
    Calls Try.prog 35 #[.agg #[.int .i64 ea, .slice A n c], .agg #[.int .i64 eb, .slice A' n' c']] w fun e w' => e = .returned (.bool (sameB a b)) ∧ Ext w w' := by
  have HA := Lib.hid ha
  have HB := Lib.hid hb
  clear ha hb
  by_cases he : ea = eb
  · by_cases hn : n = n'
    · subst he hn
      have hx : Ext w ((w.alloc (.cells #[.int .i64 ea, .slice A n c] 37)).alloc (.cells #[.int .i64 ea, .slice A' n c'] 37)) := (Ext.new _ _).alloc _
      have HQA := Lib.hid (HA.out.2.1.up hx)
      have HQB := Lib.hid (HB.out.2.1.up hx)
      clear hx
      go_enter Try.func35, Try.ntmps35
      go_wp2_with fail
      generalize hW : (w.alloc (.cells #[.int .i64 ea, .slice A n c] 37)).alloc (.cells #[.int .i64 ea, .slice A' n c'] 37) = W at *
      have hx : Ext w W := by rw [← hW]; exact (Ext.new _ _).alloc _
      have k0 := (two_blocks w (.cells #[.int .i64 ea, .slice A n c] 37) (.cells #[.int .i64 ea, .slice A' n c'] 37))
      rw [hW] at k0
      obtain ⟨x0, -⟩ := blk_rules k0.1
      obtain ⟨x1, -⟩ := blk_rules k0.2
      have HX := Lib.hid hx
      clear hW k0 hx
      go_loopw [5] (fun i wr => ∃ k nq : Nat, k ≤ n ∧ i = .int .i64 k ∧ wr = W.drewN nq ∧ Hid (∀ j, j < k → a.q[j]? = b.q[j]?)) (fun i _ => n - (intOf i).toNat)
      case atStart => exact ⟨0, 0, Nat.zero_le _, rfl, rfl, Lib.hid fun j hj => absurd hj (by omega)⟩
      case round =>
        obtain ⟨k, nq, hk, rfl, rfl, HK⟩ := hrel
        by_cases hlt : k < n
        · obtain ⟨b1, o1, A1, n1, c1, s1, rfl, hb1, hq1, hc1, _, _, hs1, _⟩ := HQA.out.at_ hlt
          obtain ⟨b2, o2, A2, n2, c2, s2, rfl, hb2, hq2, hc2, _, _, hs2, _⟩ := HQB.out.at_ hlt
          have g1 := conv_bytes hs1 c1
          have g2 := conv_bytes hs2 c2
          have t1 := bstr_toList s1
          have t2 := bstr_toList s2
          have i1 : (0 : Int) ≤ (k : Int) := by omega
          have i2 : (k : Int) < (n : Int) := by omega
          have HQ1 := Lib.hid hq1
          have HQ2 := Lib.hid hq2
          clear hs1 hs2 hq1 hq2
          by_cases hss : s1 = s2
          · subst hss
            have hne : (s1 != s1) = false := by simp
            have HN : Hid (∀ j, j < k + 1 → a.q[j]? = b.q[j]?) := Lib.hid fun j hj => by
              rcases Nat.lt_or_ge j k with h | h
              · exact HK.out j h
              · obtain rfl : j = k := by omega
                rw [HQ1.out, HQ2.out]
            go_wp2_with fail
            go_quiet (fail)
            go_wp2_with fail
            go_roundw
            case rel => exact ⟨k + 1, _, by omega, by go_num, rfl, HN⟩
            case measure => simp [intOf]; omega
          · have hne : (s1 != s2) = true := by simp [hss]
            have heq : (s1 == s2) = false := by simp [hss]
            have heq' : ¬ s1 = s2 := hss
            have HF : Hid (sameB a b = false) := Lib.hid (by
              unfold sameB
              rw [Bool.and_eq_false_iff]
              right
              simp only [decide_eq_false_iff_not]
              intro h
              have h1 := HQ1.out
              rw [h, HQ2.out] at h1
              injection h1 with h1
              exact hss h1.symm)
            clear hss
            go_wp2_with fail
            go_quiet (fail)
            go_wp2_with fail
            go_ret
            exact ⟨by rw [HF.out]; rfl, (HX.out.drewN _).drewN _⟩
        · have HF : Hid (sameB a b = true) := Lib.hid (by
            unfold sameB
            rw [HA.out.1, HB.out.1]
            have : a.q = b.q := List.ext_getElem? fun j => by
              rcases Nat.lt_or_ge j n with h | h
              · exact HK.out j (by omega)
              · rw [List.getElem?_eq_none (by have := HA.out.len; omega), List.getElem?_eq_none (by have := HB.out.len; omega)]
            rw [this]; simp)
          go_wp2_with fail
          go_ret
          exact ⟨by rw [HF.out]; rfl, HX.out.drewN _⟩
    · have HF : Hid (sameB a b = false) := Lib.hid (by
        unfold sameB
        rw [Bool.and_eq_false_iff]
        right
        simp only [decide_eq_false_iff_not]
        intro h
        have h1 := HA.out.len
        have h2 := HB.out.len
        rw [h] at h1
        omega)
      subst he
      have hne : ((n : Int) != (n' : Int)) = true := by simp; omega
      go_enter Try.func35, Try.ntmps35
      go_wp2_with fail
      go_ret
      exact ⟨by rw [HF.out]; rfl, (Ext.new _ _).alloc _⟩
  · have HF : Hid (sameB a b = false) := Lib.hid (by
      unfold sameB
      rw [Bool.and_eq_false_iff]
      left
      simp only [decide_eq_false_iff_not, HA.out.1, HB.out.1]
      exact he)
    have hne : (ea != eb) = true := by simp [he]
    clear he
    go_enter Try.func35, Try.ntmps35
    go_wp2_with fail
    go_ret
    exact ⟨by rw [HF.out]; rfl, (Ext.new _ _).alloc _⟩
end Go.Proofs.Ytjomoannlpadnaa
