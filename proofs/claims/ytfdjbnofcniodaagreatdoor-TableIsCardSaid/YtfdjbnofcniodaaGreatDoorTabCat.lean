/- slices.Grow and slices.Concat at []api.Res. -/
import Derived.Test.YtfdjbnofcniodaaGreatDoorTab1
namespace Go.Proofs.YtfdjbnofcniodaaGreatDoor
set_option linter.unusedVariables false
open Go.RowKit

/-- how many elements the first k parts have -/
def cntP (parts : List (Option Addr × Nat × Nat)) (k : Nat) : Nat := ((parts.take k).map fun p => p.2.1).sum
theorem cntP_step {parts : List (Option Addr × Nat × Nat)} {k : Nat} {p : Option Addr × Nat × Nat} (h : parts[k]? = some p) : cntP parts (k + 1) = cntP parts k + p.2.1 := by
  unfold cntP; rw [take_snoc_of h]; simp
theorem cntP_le (parts : List (Option Addr × Nat × Nat)) {j k : Nat} (h : j ≤ k) : cntP parts j ≤ cntP parts k := by
  induction k with
  | zero => obtain rfl : j = 0 := by omega
            exact Nat.le_refl _
  | succ k ih =>
    rcases Nat.lt_or_ge j (k + 1) with hlt | hge
    · refine Nat.le_trans (ih (by omega)) ?_
      cases hk : parts[k]? with
      | some p => rw [cntP_step hk]; omega
      | none =>
        have : parts.length ≤ k := List.getElem?_eq_none_iff.1 hk
        unfold cntP
        rw [List.take_of_length_le this, List.take_of_length_le (Nat.le_succ_of_le this)]
        exact Nat.le_refl _
    · obtain rfl : j = k + 1 := by omega
      exact Nat.le_refl _

set_option maxHeartbeats 400000 in
set_option maxRecDepth 100000 in
theorem grow_res (n : Nat) (w : World) (hn : n ≤ 1000000) :
    Calls Tryz.prog 185 #[.slice none 0 0, .int .i64 (n : Int)] w fun e w' => ∃ v, e = .returned v ∧ w'.ownsRow w.heap.size 34 7 v 0 [] ∧ Ext w w' := by
  obtain ⟨ht, ⟨i, hi, hz, hsize, hby⟩, hzs, hsz⟩ := elem_res
  rcases Nat.eq_zero_or_pos n with h0 | h0
  · subst h0
    go_enter Tryz.func185, Tryz.ntmps185
    go_wp2_with fail
    go_ret
    exact ⟨_, rfl, own_nil, Ext.refl _⟩
  · have hrun := Lib.run_append_nil_zeros (P := Tryz.prog) w 42 3 42 34 i _ .i64 .i64 ht Tryz.underlying3 hi hz n h0 (by omega) (by omega) (by rw [hby]; omega)
    have hcap := grownCap_ge w n 0 34
    have hcm : grownCap w n 0 34 ≤ maxLen := grownCap_le_maxLen w n 0 34 (by simp only [maxLen]; omega)
    obtain ⟨C, hC⟩ : ∃ C, C = grownCap w n 0 34 := ⟨_, rfl⟩
    rw [← hC] at hrun hcap hcm
    have hown : (w.drew.alloc (.cells (Builtin.zeroCells (Value.cells (.agg #[.int .i64 0, .string ⟨#[]⟩, .int .i64 0, .int .i64 0, .string ⟨#[]⟩, .slice none 0 0, .slice none 0 0])) n ++ Builtin.zeroCells (Value.cells (.agg #[.int .i64 0, .string ⟨#[]⟩, .int .i64 0, .int .i64 0, .string ⟨#[]⟩, .slice none 0 0, .slice none 0 0])) (C - n)) 34)).ownsRow w.heap.size 34 7 (.slice (some ⟨w.heap.size, 0, none⟩) 0 C) 0 [] := by
      refine ⟨rfl, .inr ⟨w.heap.size, C, _, rfl, Nat.le_refl _, heap_alloc_new w.drew _, Nat.zero_le _, hcm, ?_, by simp⟩⟩
      simp [Builtin.zeroCells, Value.cells]; omega
    obtain ⟨ob, hob⟩ : ∃ ob, ob = Obj.cells (Builtin.zeroCells (Value.cells (.agg #[.int .i64 0, .string ⟨#[]⟩, .int .i64 0, .int .i64 0, .string ⟨#[]⟩, .slice none 0 0, .slice none 0 0])) n ++ Builtin.zeroCells (Value.cells (.agg #[.int .i64 0, .string ⟨#[]⟩, .int .i64 0, .int .i64 0, .string ⟨#[]⟩, .slice none 0 0, .slice none 0 0])) (C - n)) 34 := ⟨_, rfl⟩
    rw [← hob] at hrun hown
    have HR := Lib.hid hrun
    clear hob hC hrun ht hi hz hsize hby hzs hsz hcm hcap
    go_enter Tryz.func185, Tryz.ntmps185
    go_wp2_with (at_builtin
                 refine Lib.wpList_append_run _ rfl _ _ _ _ rfl _ _ rfl rfl _ _ HR.out ?_)
    go_ret
    exact ⟨_, rfl, hown, (Ext.refl w).drew.alloc _⟩

set_option maxHeartbeats 2000000 in
set_option maxRecDepth 100000 in
/-- rows of cells that lie somewhere: 'parts' (address, length, capacity) and their cells -/
theorem concat_res (A : Option Addr) (k c : Nat) (parts : List (Option Addr × Nat × Nat)) (news : List (List Value)) (w : World) (hA : ArrR w 1 (fun cs p => cs = [Value.slice p.1 p.2.1 p.2.2]) A k parts)
    (hl : news.length = parts.length) (hp : ∀ (i : Nat) (p : Option Addr × Nat × Nat), parts[i]? = some p → (p.1 = none → p.2.2 = 0) ∧ ∃ xs, news[i]? = some xs ∧ Flat w 7 p.1 p.2.1 xs ∧ (∀ u ∈ xs, u.oneCell' = true)) (hsum : cntP parts k ≤ 1000000) (hkb : k ≤ 1000000) :
    Calls Tryz.prog 119 #[.slice A k c] w fun e w' => ∃ v, e = .returned v ∧ w'.ownsRow w.heap.size 34 7 v (cntP parts k) news.flatten ∧ Ext w w' := by
  have hk := hA.1
  have hlen : ∀ j, j ≤ k → cntP parts j ≤ cntP parts k := fun j hj => cntP_le parts hj
  have hstep : ∀ j p, parts[j]? = some p → ∃ xs, news[j]? = some xs ∧ cntP parts (j + 1) = cntP parts j + p.2.1 ∧ (news.take (j + 1)).flatten = (news.take j).flatten ++ xs := by
    intro j p hj
    obtain ⟨_, xs, hx, hf, _⟩ := hp j p hj
    exact ⟨xs, hx, cntP_step hj, by rw [take_snoc_of hx]; simp⟩
  have Hk := Lib.hid hk
  have Hl := Lib.hid hl
  have Hstep := Lib.hid hstep
  have Hlen := Lib.hid hlen
  have Hp := Lib.hid hp
  clear hk hl hstep hlen hp
  go_enter Tryz.func119, Tryz.ntmps119
  go_wp2_with fail
  go_loop [3, 11] (fun t i => ∃ j : Nat, j ≤ k ∧ i = .int .i64 j ∧ t = .int .i64 (cntP parts j : Nat)) (fun _ i => k - (intOf i).toNat)
  case atStart => exact ⟨0, Nat.zero_le _, rfl, rfl⟩
  case round =>
    obtain ⟨j, hj, rfl, rfl⟩ := hrel
    by_cases hlt : j < k
    · obtain ⟨b, o, ⟨pa, pn, pc⟩, cs, rfl, hbB, hpj, _, hcs, hcell⟩ := hA.at_ hlt
      obtain rfl : cs = [Value.slice pa pn pc] := hcs
      have hc1 := hcell 0 _ rfl
      simp only [Nat.mul_one, Nat.add_zero] at hc1
      obtain ⟨xs, hx, hxl, hxt⟩ : ∃ xs, news[j]? = some xs ∧ cntP parts (j + 1) = cntP parts j + pn ∧ (news.take (j + 1)).flatten = (news.take j).flatten ++ xs := Hstep.out j _ hpj
      have h1 := Hlen.out (j + 1) (by omega)
      have h2 : cntP parts (j + 1) = cntP parts j + pn := hxl
      have H2 := Lib.hid h2
      obtain ⟨N, hN⟩ : ∃ N, N = cntP parts j := ⟨_, rfl⟩
      rw [← hN] at h2 ⊢
      have h3 : N + pn ≤ 1000000 := by omega
      have HN := Lib.hid hN
      clear hcell hpj hx hxl hxt h1 h2 hN
      go_wp2_with fail
      go_round
      case rel => exact ⟨j + 1, by omega, by go_num, by rw [H2.out, ← HN.out]; go_num⟩
      case measure => simp [intOf]; omega
    · have hjk : cntP parts j = cntP parts k := by rw [show j = k by omega]
      rw [hjk]
      clear hjk
      have hsum' := hsum
      obtain ⟨N, hN⟩ : ∃ N, N = cntP parts k := ⟨_, rfl⟩
      rw [← hN] at hsum' ⊢
      have HN := Lib.hid hN
      clear hN hsum
      go_wp2_with fail
      refine (grow_res N _ hsum').mono ?_
      rintro e w1 ⟨v1, rfl, hown, hb⟩
      have HO1 : Hid (w1.ownsRow w.heap.size 34 7 v1 (cntP parts 0) (news.take 0).flatten) := Lib.hid hown
      clear hown
      go_wp2_with fail
      go_loopw [6, 8, 27] (fun t _ i wr => ∃ q : Nat, q ≤ k ∧ i = .int .i64 q ∧ wr.ownsRow w.heap.size 34 7 t (cntP parts q) (news.take q).flatten ∧ Ext w wr) (fun _ _ i _ => k - (intOf i).toNat)
      case atStart => exact ⟨0, Nat.zero_le _, rfl, HO1.out, hb⟩
      case round =>
        obtain ⟨q, hq, rfl, hown, hb⟩ := hrel
        by_cases hlt : q < k
        · obtain ⟨b, o, ⟨pa, pn, pc⟩, cs, rfl, hbB, hpj, _, hcs, hcell⟩ := hA.at_ hlt
          obtain rfl : cs = [Value.slice pa pn pc] := hcs
          have hc1 := hcell 0 _ rfl
          simp only [Nat.mul_one, Nat.add_zero] at hc1
          have hc2 : wr.cell? ⟨b, o + q, none⟩ = some (Value.slice pa pn pc) := (hb.cell hbB).trans hc1
          obtain ⟨hnone, xs, hx, hf, hone⟩ : (pa = none → pc = 0) ∧ ∃ xs, news[q]? = some xs ∧ Flat w 7 pa pn xs ∧ (∀ u ∈ xs, u.oneCell' = true) := Hp.out q _ hpj
          obtain ⟨xs', hx', hxl, hxt⟩ : ∃ xs, news[q]? = some xs ∧ cntP parts (q + 1) = cntP parts q + pn ∧ (news.take (q + 1)).flatten = (news.take q).flatten ++ xs := Hstep.out q _ hpj
          obtain rfl : xs' = xs := by rw [hx] at hx'; injection hx' with h; exact h.symm
          have h1 := Hlen.out (q + 1) (by omega)
          rw [hxl, ← HN.out] at h1
          have HX := Lib.hid hxt
          have HL := Lib.hid hxl
          have hf' := hf.up hb
          have hbs := hb.size
          have hc104 : cntP parts q + pn ≤ 1000000 := by omega
          clear hcell hpj hx hx' hxl hxt hf hc1 h1
          go_wp2_with (at_builtin
                       obtain ⟨v', w2, hrun, hown2, hg2, _⟩ := run_append_flat elem_res 42 hown pc hf' hone (by omega) (by omega) hbs hnone
                       refine Lib.wpList_append_run _ rfl _ _ _ _ rfl _ _ rfl rfl v' w2 hrun ?_)
          go_roundw
          case rel => exact ⟨q + 1, by omega, by go_num, by rw [HX.out, HL.out]; exact hown2, hb.grown hg2 hown (Nat.le_refl _)⟩
          case measure => simp [intOf]; omega
        · have hall : (news.take q).flatten = news.flatten := by rw [List.take_of_length_le (by have := Hl.out; have := Hk.out; omega)]
          rw [hall, show q = k by omega] at hown
          go_wp2_with fail
          go_ret
          exact ⟨_, rfl, hown, hb⟩
end Go.Proofs.YtfdjbnofcniodaaGreatDoor
