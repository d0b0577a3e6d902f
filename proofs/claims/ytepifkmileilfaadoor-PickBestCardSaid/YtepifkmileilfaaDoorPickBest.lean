/- The law PickBest of layer 7. -/
import Derived.Test.YtepifkmileilfaaDoorPickAwake
import Derived.Test.YtepifkmileilfaaDoorRulePlain
import Derived.Test.YtepifkmileilfaaDoorRule3
import Derived.Test.YtepifkmileilfaaDoorRegion
namespace Go.Proofs.YtepifkmileilfaaDoor
set_option linter.unusedVariables false
open Go.RowKit

set_option maxHeartbeats 1000000 in
theorem pickBest_few (A : Option Addr) (n c : Nat) (l : List Ru) (h p : ByteArray) (w : World) (hm : n ≤ 9223372036854775807) (hA : ArrR w 3 (RuR w) A n l) (hf : fewRB l = false ∨ 100 < h.size ∨ 100 < p.size) :
    Calls Tryd.prog 3 #[.slice A n c, .string h, .string p] w fun e w' => e = .returned (.bool true) ∧ Ext w w' := by
  have HA := Lib.hid hA
  clear hA
  cases h1 : fewRB l with
  | false =>
    go_enter Tryd.func3, Tryd.ntmps3
    go_wp2_with fail
    refine (awake07 _).mono ?_
    rintro e w1 ⟨rfl, hb1⟩
    go_wp2_with fail
    refine (few07_any A n c l _ hm (rules_up HA.out hb1)).mono ?_
    rintro e w2 ⟨rfl, rfl⟩
    rw [h1]
    go_wp2_with fail
    go_ret
    exact ⟨rfl, hb1⟩
  | true =>
    rw [h1] at hf
    by_cases h2 : 100 < h.size
    · go_enter Tryd.func3, Tryd.ntmps3
      go_wp2_with fail
      refine (awake07 _).mono ?_
      rintro e w1 ⟨rfl, hb1⟩
      go_wp2_with fail
      refine (few07_any A n c l _ hm (rules_up HA.out hb1)).mono ?_
      rintro e w2 ⟨rfl, rfl⟩
      rw [h1]
      go_wp2_with fail
      go_ret
      exact ⟨rfl, hb1⟩
    · have h3 : 100 < p.size := by simp at hf; omega
      go_enter Tryd.func3, Tryd.ntmps3
      go_wp2_with fail
      refine (awake07 _).mono ?_
      rintro e w1 ⟨rfl, hb1⟩
      go_wp2_with fail
      refine (few07_any A n c l _ hm (rules_up HA.out hb1)).mono ?_
      rintro e w2 ⟨rfl, rfl⟩
      rw [h1]
      go_wp2_with fail
      go_ret
      exact ⟨rfl, hb1⟩

/-- what the law's loop knows when it has seen k rules -/
def Seen (h p : ByteArray) (l : List Ru) (fd : Bool) (r : Ru) (k : Nat) (fo : Bool) (fi : Int) : Prop :=
  (fo = true ↔ ∃ x ∈ l.take k, fitB x h p = true) ∧
  ((fi = -1 ∧ (fd = true → ∃ idx, k ≤ idx ∧ idx < l.length ∧ l[idx]? = some r ∧ fitB r h p = true ∧ ∀ (i : Nat) (x : Ru), i < idx → l[i]? = some x → fitB x h p = true → beatsB r x = true)) ∨ (0 ≤ fi ∧ fd = true))
theorem Seen.skip {h p : ByteArray} {l : List Ru} {fd : Bool} {r x : Ru} {k : Nat} {fo : Bool} {fi : Int} (hS : Seen h p l fd r k fo fi) (hx : l[k]? = some x) (hf : fitB x h p = false) : Seen h p l fd r (k + 1) fo fi := by
  obtain ⟨h1, h2⟩ := hS
  refine ⟨?_, ?_⟩
  · rw [h1, take_snoc_of hx]
    constructor
    · rintro ⟨y, hy, hy2⟩; exact ⟨y, List.mem_append_left _ hy, hy2⟩
    · rintro ⟨y, hy, hy2⟩
      rcases List.mem_append.1 hy with hy | hy
      · exact ⟨y, hy, hy2⟩
      · simp at hy; subst hy; rw [hf] at hy2; cases hy2
  · rcases h2 with ⟨ha, hb⟩ | h2
    · refine .inl ⟨ha, fun e => ?_⟩
      obtain ⟨idx, i0, i1, i2, i3, i4⟩ := hb e
      refine ⟨idx, ?_, i1, i2, i3, i4⟩
      rcases Nat.lt_or_ge k idx with hlt | hge
      · exact hlt
      · obtain rfl : k = idx := by omega
        rw [hx] at i2; injection i2 with i2; subst i2; rw [hf] at i3; cases i3
    · exact .inr h2
theorem Seen.found {h p : ByteArray} {l : List Ru} {fd : Bool} {r x : Ru} {k : Nat} {fo : Bool} {fi : Int} (hS : Seen h p l fd r k fo fi) (hx : l[k]? = some x) (hf : fitB x h p = true) : true = true ↔ ∃ y ∈ l.take (k + 1), fitB y h p = true :=
  ⟨fun _ => ⟨x, by rw [take_snoc_of hx]; simp, hf⟩, fun _ => rfl⟩
theorem Seen.late {h p : ByteArray} {l : List Ru} {fd : Bool} {r x : Ru} {k : Nat} {fo : Bool} {fi : Int} (hS : Seen h p l fd r k fo fi) (hx : l[k]? = some x) (hf : fitB x h p = true) (hfd : fd = true) (h0 : 0 ≤ fi) : Seen h p l fd r (k + 1) true fi :=
  ⟨hS.found hx hf, .inr ⟨h0, hfd⟩⟩
theorem Seen.same {h p : ByteArray} {l : List Ru} {fd : Bool} {r x : Ru} {k : Nat} {fo : Bool} {fi : Int} (hS : Seen h p l fd r k fo fi) (hx : l[k]? = some x) (hf : fitB x h p = true) (hfd : fd = true) : Seen h p l fd r (k + 1) true (k : Int) :=
  ⟨hS.found hx hf, .inr ⟨by omega, hfd⟩⟩
theorem Seen.other {h p : ByteArray} {l : List Ru} {fd : Bool} {r x : Ru} {k : Nat} {fo : Bool} {fi : Int} (hS : Seen h p l fd r k fo fi) (hx : l[k]? = some x) (hf : fitB x h p = true) (hfd : fd = true) (h0 : fi < 0) (hn : x ≠ r) : fi = -1 ∧ beatsB r x = true ∧ Seen h p l fd r (k + 1) true fi := by
  rcases hS.2 with ⟨ha, hb⟩ | ⟨ha, hb⟩
  · obtain ⟨idx, i0, i1, i2, i3, i4⟩ := hb hfd
    have hne : k ≠ idx := by
      rintro rfl
      rw [hx] at i2; injection i2 with i2; exact hn i2
    refine ⟨ha, i4 k x (by omega) hx hf, hS.found hx hf, .inl ⟨ha, fun e => ⟨idx, by omega, i1, i2, i3, i4⟩⟩⟩
  · omega

set_option maxRecDepth 100000 in
set_option maxHeartbeats 20000000 in
theorem pickBest_main (A : Option Addr) (n c : Nat) (l : List Ru) (h p : ByteArray) (w : World) (hm : n ≤ 9223372036854775807) (hA : ArrR w 3 (RuR w) A n l) (hf : fewRB l = true) (hh : h.size ≤ 100) (hp : p.size ≤ 100) :
    Calls Tryd.prog 3 #[.slice A n c, .string h, .string p] w fun e w' => e = .returned (.bool true) ∧ Ext w w' := by
  have HA := Lib.hid hA
  have hl40 : n ≤ 40 := by have := (fewR_true hf).1; rw [hA.len] at this; exact this
  clear hA
  have hmx : (100 : Nat) ≤ maxLen := by decide
  go_enter Tryd.func3, Tryd.ntmps3
  go_wp2_with fail
  refine (awake07 _).mono ?_
  rintro e w1 ⟨rfl, hb1⟩
  go_wp2_with fail
  refine (few07_any A n c l _ hm (rules_up HA.out hb1)).mono ?_
  rintro e w2 ⟨rfl, rfl⟩
  rw [hf]
  go_wp2_with fail
  refine (rule_any h p A n c l w w1 (by omega) (by omega) hm (HA.out.up hb1)).mono ?_
  rintro e w3 ⟨Ar, nr, cr, rfl, hv, hb3⟩
  have HV := Lib.hid hv
  have E3 := Lib.hid (hb1.trans hb3)
  clear hb1 hb3 hv
  obtain ⟨fd, hfd⟩ : ∃ f, f = (bestS h p l).1 := ⟨_, rfl⟩
  obtain ⟨r, hr⟩ : ∃ r, r = (bestS h p l).2 := ⟨_, rfl⟩
  have HI : Hid (Inv h p l (fd, r)) := Lib.hid (by rw [hfd, hr]; exact best_inv h p l)
  rw [← hr] at HV
  rw [← hfd, ← hr]
  clear hfd hr
  go_wp2_with fail
  have kA := heap_alloc_new w3 (.cells #[.string r.host, .string r.pre, .slice Ar nr cr] 27)
  obtain ⟨W, hW⟩ : ∃ W, W = w3.alloc (.cells #[.string r.host, .string r.pre, .slice Ar nr cr] 27) := ⟨_, rfl⟩
  have EW : Hid (Ext w W) := Lib.hid (by rw [hW]; exact E3.out.alloc _)
  have hsW : w3.heap.size < W.heap.size := by rw [hW]; simp
  rw [← hW] at kA ⊢
  have KA := Lib.hid kA
  clear hW kA
  go_loopw [10, 11, 12] (fun fo fi i wr => ∃ (k : Nat) (fo' : Bool) (fi' : Int), k ≤ n ∧ i = .int .i64 k ∧ fo = .bool fo' ∧ fi = .int .i64 fi' ∧ Hid (Seen h p l fd r k fo' fi') ∧ Hid (Ext W wr)) (fun _ _ i _ => n - (intOf i).toNat)
  case atStart => exact ⟨0, false, -1, Nat.zero_le _, rfl, rfl, rfl, Lib.hid ⟨by simp, .inl ⟨rfl, fun e => by
    obtain ⟨idx, i1, i2, i3, i4⟩ := (HI.out.2 e).1
    exact ⟨idx, Nat.zero_le _, i1, i2, i3, i4⟩⟩⟩, Lib.hid (Ext.refl _)⟩
  case round =>
    obtain ⟨k, fo, fi, hk, rfl, rfl, rfl, HS, HW⟩ := hrel
    have HRB := Lib.hid ((HW.out.block hsW).trans KA.out)
    have hsr : w3.heap.size < wr.heap.size := Nat.lt_of_lt_of_le hsW HW.out.size
    by_cases hlt : k < n
    · obtain ⟨b, o, x, As, ns, cs, rfl, hbB, hlk, d1, d2, d3, s1, s2, s3, s5⟩ := RuR.at_ HA.out hlt
      have EX := Lib.hid (EW.out.trans HW.out)
      have e1 : wr.cell? ⟨b, o + k * 3, none⟩ = some (.string x.host) := (EX.out.cell hbB).trans d1
      have e2 : wr.cell? ⟨b, o + k * 3 + 1, none⟩ = some (.string x.pre) := (EX.out.cell hbB).trans d2
      have e3 : wr.cell? ⟨b, o + k * 3 + 2, none⟩ = some (.slice As ns cs) := (EX.out.cell hbB).trans d3
      have i1 : (0 : Int) ≤ (k : Int) := by omega
      have i2 : (k : Int) < (n : Int) := by omega
      go_wp2_with fail
      refine (matches_any _ _ _ s1 (by omega)).mono ?_
      rintro e w4 ⟨rfl, hb4⟩
      cases g1 : matchB (tx x.host) (tx h) with
      | false =>
        have HS2 : Hid (Seen h p l fd r (k + 1) fo fi) := Lib.hid (HS.out.skip hlk (by unfold fitB; rw [g1]; rfl))
        have EX4 := Lib.hid (HW.out.trans hb4)
        cases fd <;> cases fo
        all_goals
          go_wp2_with fail
          go_region
          go_wp2_with fail
          go_region
          go_wp2_with fail
          go_region
          go_wp2_with fail
        all_goals exact ⟨⟨k + 1, _, fi, by omega, by go_num, rfl, rfl, HS2, Lib.hid EX4.out.drew.drew.drew⟩, by simp [intOf]; omega⟩
      | true =>
        have EX4 := Lib.hid (HW.out.trans hb4)
        have EY4 := Lib.hid (EX.out.trans hb4)
        have f1 : w4.cell? ⟨b, o + k * 3, none⟩ = some (.string x.host) := (EY4.out.cell hbB).trans d1
        have f2 : w4.cell? ⟨b, o + k * 3 + 1, none⟩ = some (.string x.pre) := (EY4.out.cell hbB).trans d2
        have f3 : w4.cell? ⟨b, o + k * 3 + 2, none⟩ = some (.slice As ns cs) := (EY4.out.cell hbB).trans d3
        go_wp2_with fail
        refine (under_any _ _ _ s2 (by omega)).mono ?_
        rintro e w5 ⟨rfl, hb5⟩
        cases g2 : underB (tx x.pre) (tx p) with
        | false =>
          have HS2 : Hid (Seen h p l fd r (k + 1) fo fi) := Lib.hid (HS.out.skip hlk (by unfold fitB; rw [g1, g2]; rfl))
          have EX5 := Lib.hid (EX4.out.trans hb5)
          cases fd <;> cases fo
          all_goals
            go_wp2_with fail
            go_region
            go_wp2_with fail
            go_region
            go_wp2_with fail
            go_region
            go_wp2_with fail
          all_goals exact ⟨⟨k + 1, _, fi, by omega, by go_num, rfl, rfl, HS2, Lib.hid EX5.out.drew.drew.drew⟩, by simp [intOf]; omega⟩
        | true =>
          have hfit : fitB x h p = true := by unfold fitB; rw [g1, g2]; rfl
          cases fd with
          | false => exact absurd (HI.out.1 rfl x (List.mem_of_getElem? hlk)) (by rw [hfit]; simp)
          | true =>
          have hbt : beatsB x r = false := (HI.out.2 rfl).2 x (List.mem_of_getElem? hlk) hfit
          have EX5 := Lib.hid (EX4.out.trans hb5)
          have EY5 := Lib.hid (EY4.out.trans hb5)
          have HR5 := Lib.hid (((hb4.trans hb5).block hsr).trans HRB.out)
          have hs5 : w3.heap.size < w5.heap.size := Nat.lt_of_lt_of_le hsr (hb4.trans hb5).size
          have t1 : ∀ w', Ext w5.drew w' → w'.cell? ⟨b, o + k * 3, none⟩ = some (.string x.host) := fun w' hx => ((EY5.out.drew.trans hx).cell hbB).trans d1
          have t2 : ∀ w', Ext w5.drew w' → w'.cell? ⟨b, o + k * 3 + 1, none⟩ = some (.string x.pre) := fun w' hx => ((EY5.out.drew.trans hx).cell hbB).trans d2
          have t3 : ∀ w', Ext w5.drew w' → w'.cell? ⟨b, o + k * 3 + 2, none⟩ = some (.slice As ns cs) := fun w' hx => ((EY5.out.drew.trans hx).cell hbB).trans d3
          have t4 : ∀ w', Ext w5.drew w' → w'.cell? ⟨w3.heap.size, 0, none⟩ = some (.string r.host) := fun w' hx => ((((Ext.refl w5).drew.trans hx).block hs5).trans HR5.out |> fun z => (blk_rules z).1 0)
          have t5 : ∀ w', Ext w5.drew w' → w'.cell? ⟨w3.heap.size, 1, none⟩ = some (.string r.pre) := fun w' hx => ((((Ext.refl w5).drew.trans hx).block hs5).trans HR5.out |> fun z => (blk_rules z).1 1)
          have t6 : ∀ w', Ext w5.drew w' → w'.cell? ⟨w3.heap.size, 2, none⟩ = some (.slice Ar nr cr) := fun w' hx => ((((Ext.refl w5).drew.trans hx).block hs5).trans HR5.out |> fun z => (blk_rules z).1 2)
          cases fo
          all_goals go_wp2_with fail
          all_goals
            have hSw : Ext w5.drew w5.drew := Ext.refl _
            refine wpS_begin (Ext w5.drew) (by kernel_rfl) ?_
            refine wpS_take 0 (v := ?_) hSw rfl (by kernel_rfl) (by kernel_rfl) (by kernel_rfl) (by rfl) (fun w' hin => ?_) ?_
            rotate_left
            · (try simp only [] at hin); go_simp <;> with_reducible rfl
            try simp only [Act.put, List.setIfInBounds_toArray, List.set_cons_zero, List.set_cons_succ]
            refine wpS_take 1 (v := ?_) hSw rfl (by kernel_rfl) (by kernel_rfl) (by kernel_rfl) (by rfl) (fun w' hin => ?_) ?_
            rotate_left
            · (try simp only [] at hin); go_simp <;> with_reducible rfl
            try simp only [Act.put, List.setIfInBounds_toArray, List.set_cons_zero, List.set_cons_succ]
            refine wpS_take 2 (v := ?_) hSw rfl (by kernel_rfl) (by kernel_rfl) (by kernel_rfl) (by rfl) (fun w' hin => ?_) ?_
            rotate_left
            · (try simp only [] at hin); go_simp <;> with_reducible rfl
            try simp only [Act.put, List.setIfInBounds_toArray, List.set_cons_zero, List.set_cons_succ]
            refine wpS_take 3 (v := ?_) hSw rfl (by kernel_rfl) (by kernel_rfl) (by kernel_rfl) (by rfl) (fun w' hin => ?_) ?_
            rotate_left
            · (try simp only [] at hin); go_simp <;> with_reducible rfl
            try simp only [Act.put, List.setIfInBounds_toArray, List.set_cons_zero, List.set_cons_succ]
            refine wpS_take 4 (v := ?_) hSw rfl (by kernel_rfl) (by kernel_rfl) (by kernel_rfl) (by rfl) (fun w' hin => ?_) ?_
            rotate_left
            · (try simp only [] at hin); go_simp <;> with_reducible rfl
            try simp only [Act.put, List.setIfInBounds_toArray, List.set_cons_zero, List.set_cons_succ]
            refine wpS_take 5 (v := ?_) hSw rfl (by kernel_rfl) (by kernel_rfl) (by kernel_rfl) (by rfl) (fun w' hin => ?_) ?_
            rotate_left
            · (try simp only [] at hin); go_simp <;> with_reducible rfl
            try simp only [Act.put, List.setIfInBounds_toArray, List.set_cons_zero, List.set_cons_succ]
            refine wpS_take 6 (v := ?_) hSw rfl (by kernel_rfl) (by kernel_rfl) (by kernel_rfl) (by rfl) (fun w' hin => ?_) ?_
            rotate_left
            · (try simp only [] at hin); go_simp <;> with_reducible rfl
            try simp only [Act.put, List.setIfInBounds_toArray, List.set_cons_zero, List.set_cons_succ]
            refine wpS_take 7 (v := ?_) hSw rfl (by kernel_rfl) (by kernel_rfl) (by kernel_rfl) (by rfl) (fun w' hin => ?_) ?_
            rotate_left
            · (try simp only [] at hin); go_simp <;> with_reducible rfl
            try simp only [Act.put, List.setIfInBounds_toArray, List.set_cons_zero, List.set_cons_succ]
            refine wpS_take 8 (v := ?_) hSw rfl (by kernel_rfl) (by kernel_rfl) (by kernel_rfl) (by rfl) (fun w' hin => ?_) ?_
            rotate_left
            · (try simp only [] at hin); go_simp <;> with_reducible rfl
            try simp only [Act.put, List.setIfInBounds_toArray, List.set_cons_zero, List.set_cons_succ]
            refine wpS_take 9 (v := ?_) hSw rfl (by kernel_rfl) (by kernel_rfl) (by kernel_rfl) (by rfl) (fun w' hin => ?_) ?_
            rotate_left
            · (try simp only [] at hin); go_simp <;> with_reducible rfl
            try simp only [Act.put, List.setIfInBounds_toArray, List.set_cons_zero, List.set_cons_succ]
            refine wpS_one 10 rfl (by kernel_rfl) (by rfl) (fun K hK => ?_)
            go_simp
            refine (beats_any x r As Ar ns cs nr cr _ s1 HV.out.1).mono ?_
            rintro e w6 ⟨rfl, hb6⟩
            rw [hbt]
            simp only []
            refine hK.out _ _ (Ext w5.drew) (fun _ h => h) (hb6) (fun hSw => ?_)
            clear hK K
            try simp only [Act.put, List.setIfInBounds_toArray, List.set_cons_zero, List.set_cons_succ]
            refine wpS_take 11 (v := ?_) hSw rfl (by kernel_rfl) (by kernel_rfl) (by kernel_rfl) (by rfl) (fun w' hin => ?_) ?_
            rotate_left
            · (try simp only [] at hin); go_simp <;> with_reducible rfl
            try simp only [Act.put, List.setIfInBounds_toArray, List.set_cons_zero, List.set_cons_succ]
            refine wpS_done (by kernel_rfl) ?_
            go_wp2_with fail
          all_goals
            clear t1 t2 t3 t4 t5 t6 hSw
            by_cases hfi : fi < 0
            rotate_left
            · have hfi0 : 0 ≤ fi := by omega
              have hfiD : decide (fi < 0) = false := decide_eq_false hfi
              have HS2 := Lib.hid (HS.out.late hlk hfit rfl hfi0)
              go_wp2_with fail
              go_region
              go_wp2_with fail
              go_region
              go_wp2_with fail
              exact ⟨⟨k + 1, _, fi, by omega, by go_num, rfl, rfl, HS2, Lib.hid ((EX5.out.drew.trans hb6).drew.drew)⟩, by simp [intOf]; omega⟩
            · have hs6x : decide (fi < 0) = true := decide_eq_true hfi
              have EX6 := Lib.hid (EX5.out.trans ((Ext.refl w5).drew.trans hb6))
              have EY6 := Lib.hid (EY5.out.trans ((Ext.refl w5).drew.trans hb6))
              have HR6 := Lib.hid ((((Ext.refl w5).drew.trans hb6).block hs5).trans HR5.out)
              have hs6 : w3.heap.size < w6.heap.size := Nat.lt_of_lt_of_le hs5 (((Ext.refl w5).drew.trans hb6)).size
              have t1 : ∀ w', Ext w6.drew w' → w'.cell? ⟨b, o + k * 3, none⟩ = some (.string x.host) := fun w' hx => ((EY6.out.drew.trans hx).cell hbB).trans d1
              have t2 : ∀ w', Ext w6.drew w' → w'.cell? ⟨b, o + k * 3 + 1, none⟩ = some (.string x.pre) := fun w' hx => ((EY6.out.drew.trans hx).cell hbB).trans d2
              have t3 : ∀ w', Ext w6.drew w' → w'.cell? ⟨b, o + k * 3 + 2, none⟩ = some (.slice As ns cs) := fun w' hx => ((EY6.out.drew.trans hx).cell hbB).trans d3
              have t4 : ∀ w', Ext w6.drew w' → w'.cell? ⟨w3.heap.size, 0, none⟩ = some (.string r.host) := fun w' hx => ((((Ext.refl w6).drew.trans hx).block hs6).trans HR6.out |> fun z => (blk_rules z).1 0)
              have t5 : ∀ w', Ext w6.drew w' → w'.cell? ⟨w3.heap.size, 1, none⟩ = some (.string r.pre) := fun w' hx => ((((Ext.refl w6).drew.trans hx).block hs6).trans HR6.out |> fun z => (blk_rules z).1 1)
              have t6 : ∀ w', Ext w6.drew w' → w'.cell? ⟨w3.heap.size, 2, none⟩ = some (.slice Ar nr cr) := fun w' hx => ((((Ext.refl w6).drew.trans hx).block hs6).trans HR6.out |> fun z => (blk_rules z).1 2)
              go_wp2_with fail
              have hSw : Ext w6.drew w6.drew := Ext.refl _
              refine wpS_begin (Ext w6.drew) (by kernel_rfl) ?_
              refine wpS_take 0 (v := ?_) hSw rfl (by kernel_rfl) (by kernel_rfl) (by kernel_rfl) (by rfl) (fun w' hin => ?_) ?_
              rotate_left
              · (try simp only [] at hin); go_simp <;> with_reducible rfl
              try simp only [Act.put, List.setIfInBounds_toArray, List.set_cons_zero, List.set_cons_succ]
              refine wpS_take 1 (v := ?_) hSw rfl (by kernel_rfl) (by kernel_rfl) (by kernel_rfl) (by rfl) (fun w' hin => ?_) ?_
              rotate_left
              · (try simp only [] at hin); go_simp <;> with_reducible rfl
              try simp only [Act.put, List.setIfInBounds_toArray, List.set_cons_zero, List.set_cons_succ]
              refine wpS_take 2 (v := ?_) hSw rfl (by kernel_rfl) (by kernel_rfl) (by kernel_rfl) (by rfl) (fun w' hin => ?_) ?_
              rotate_left
              · (try simp only [] at hin); go_simp <;> with_reducible rfl
              try simp only [Act.put, List.setIfInBounds_toArray, List.set_cons_zero, List.set_cons_succ]
              refine wpS_take 3 (v := ?_) hSw rfl (by kernel_rfl) (by kernel_rfl) (by kernel_rfl) (by rfl) (fun w' hin => ?_) ?_
              rotate_left
              · (try simp only [] at hin); go_simp <;> with_reducible rfl
              try simp only [Act.put, List.setIfInBounds_toArray, List.set_cons_zero, List.set_cons_succ]
              refine wpS_take 4 (v := ?_) hSw rfl (by kernel_rfl) (by kernel_rfl) (by kernel_rfl) (by rfl) (fun w' hin => ?_) ?_
              rotate_left
              · (try simp only [] at hin); go_simp <;> with_reducible rfl
              try simp only [Act.put, List.setIfInBounds_toArray, List.set_cons_zero, List.set_cons_succ]
              refine wpS_take 5 (v := ?_) hSw rfl (by kernel_rfl) (by kernel_rfl) (by kernel_rfl) (by rfl) (fun w' hin => ?_) ?_
              rotate_left
              · (try simp only [] at hin); go_simp <;> with_reducible rfl
              try simp only [Act.put, List.setIfInBounds_toArray, List.set_cons_zero, List.set_cons_succ]
              refine wpS_take 6 (v := ?_) hSw rfl (by kernel_rfl) (by kernel_rfl) (by kernel_rfl) (by rfl) (fun w' hin => ?_) ?_
              rotate_left
              · (try simp only [] at hin); go_simp <;> with_reducible rfl
              try simp only [Act.put, List.setIfInBounds_toArray, List.set_cons_zero, List.set_cons_succ]
              refine wpS_take 7 (v := ?_) hSw rfl (by kernel_rfl) (by kernel_rfl) (by kernel_rfl) (by rfl) (fun w' hin => ?_) ?_
              rotate_left
              · (try simp only [] at hin); go_simp <;> with_reducible rfl
              try simp only [Act.put, List.setIfInBounds_toArray, List.set_cons_zero, List.set_cons_succ]
              refine wpS_take 8 (v := ?_) hSw rfl (by kernel_rfl) (by kernel_rfl) (by kernel_rfl) (by rfl) (fun w' hin => ?_) ?_
              rotate_left
              · (try simp only [] at hin); go_simp <;> with_reducible rfl
              try simp only [Act.put, List.setIfInBounds_toArray, List.set_cons_zero, List.set_cons_succ]
              refine wpS_take 9 (v := ?_) hSw rfl (by kernel_rfl) (by kernel_rfl) (by kernel_rfl) (by rfl) (fun w' hin => ?_) ?_
              rotate_left
              · (try simp only [] at hin); go_simp <;> with_reducible rfl
              try simp only [Act.put, List.setIfInBounds_toArray, List.set_cons_zero, List.set_cons_succ]
              refine wpS_take 10 (v := ?_) hSw rfl (by kernel_rfl) (by kernel_rfl) (by kernel_rfl) (by rfl) (fun w' hin => ?_) ?_
              rotate_left
              · (try simp only [] at hin); go_simp <;> with_reducible rfl
              try simp only [Act.put, List.setIfInBounds_toArray, List.set_cons_zero, List.set_cons_succ]
              refine wpS_one 11 rfl (by kernel_rfl) (by rfl) (fun K hK => ?_)
              go_simp
              refine (same07_some x r As Ar ns cs nr cr w _ (EY6.out.drew.trans (Ext.refl _)) (by have h9 := s3; unfold maxLen at h9; omega) (by have h9 := HV.out.2.2.1; unfold maxLen at h9; omega) s5 HV.out.2.2.2).mono ?_
              rintro e w7 ⟨v, rfl, hv1, hv2, hb7⟩
              simp only []
              refine hK.out _ _ (Ext w6.drew) (fun _ h => h) (hb7) (fun hSw => ?_)
              clear hK K
              try simp only [Act.put, List.setIfInBounds_toArray, List.set_cons_zero, List.set_cons_succ]
              refine wpS_take 12 (v := ?_) hSw rfl (by kernel_rfl) (by kernel_rfl) (by kernel_rfl) (by rfl) (fun w' hin => ?_) ?_
              rotate_left
              · (try simp only [] at hin); go_simp <;> with_reducible rfl
              try simp only [Act.put, List.setIfInBounds_toArray, List.set_cons_zero, List.set_cons_succ]
              refine wpS_done (by kernel_rfl) ?_
              clear t1 t2 t3 t4 t5 t6 hSw
              cases v with
              | true =>
                have HS2 := Lib.hid (HS.out.same hlk hfit rfl)
                have hk0D : decide ((k : Int) < 0) = false := decide_eq_false (by omega)
                clear hv1 hv2
                go_wp2_with fail
                go_region
                go_wp2_with fail
                exact ⟨⟨k + 1, _, (k : Int), by omega, by go_num, rfl, rfl, HS2, Lib.hid ((EX6.out.drew.trans hb7).drew)⟩, by simp [intOf]; omega⟩
              | false =>
                have hne : x ≠ r := fun e => by have := hv1 e; cases this
                obtain ⟨hfm, hbr, HS3⟩ := HS.out.other hlk hfit rfl hfi hne
                have HS2 := Lib.hid HS3
                clear hv1 hv2 hne HS3 hfm
                have EX7 := Lib.hid (EX6.out.trans ((Ext.refl w6).drew.trans hb7))
                have EY7 := Lib.hid (EY6.out.trans ((Ext.refl w6).drew.trans hb7))
                have HR7 := Lib.hid ((((Ext.refl w6).drew.trans hb7).block hs6).trans HR6.out)
                have hs7 : w3.heap.size < w7.heap.size := Nat.lt_of_lt_of_le hs6 (((Ext.refl w6).drew.trans hb7)).size
                have t1 : ∀ w', Ext w7.drew w' → w'.cell? ⟨b, o + k * 3, none⟩ = some (.string x.host) := fun w' hx => ((EY7.out.drew.trans hx).cell hbB).trans d1
                have t2 : ∀ w', Ext w7.drew w' → w'.cell? ⟨b, o + k * 3 + 1, none⟩ = some (.string x.pre) := fun w' hx => ((EY7.out.drew.trans hx).cell hbB).trans d2
                have t3 : ∀ w', Ext w7.drew w' → w'.cell? ⟨b, o + k * 3 + 2, none⟩ = some (.slice As ns cs) := fun w' hx => ((EY7.out.drew.trans hx).cell hbB).trans d3
                have t4 : ∀ w', Ext w7.drew w' → w'.cell? ⟨w3.heap.size, 0, none⟩ = some (.string r.host) := fun w' hx => ((((Ext.refl w7).drew.trans hx).block hs7).trans HR7.out |> fun z => (blk_rules z).1 0)
                have t5 : ∀ w', Ext w7.drew w' → w'.cell? ⟨w3.heap.size, 1, none⟩ = some (.string r.pre) := fun w' hx => ((((Ext.refl w7).drew.trans hx).block hs7).trans HR7.out |> fun z => (blk_rules z).1 1)
                have t6 : ∀ w', Ext w7.drew w' → w'.cell? ⟨w3.heap.size, 2, none⟩ = some (.slice Ar nr cr) := fun w' hx => ((((Ext.refl w7).drew.trans hx).block hs7).trans HR7.out |> fun z => (blk_rules z).1 2)
                go_wp2_with fail
                have hSw : Ext w7.drew w7.drew := Ext.refl _
                refine wpS_begin (Ext w7.drew) (by kernel_rfl) ?_
                refine wpS_take 0 (v := ?_) hSw rfl (by kernel_rfl) (by kernel_rfl) (by kernel_rfl) (by rfl) (fun w' hin => ?_) ?_
                rotate_left
                · (try simp only [] at hin); go_simp <;> with_reducible rfl
                try simp only [Act.put, List.setIfInBounds_toArray, List.set_cons_zero, List.set_cons_succ]
                refine wpS_take 1 (v := ?_) hSw rfl (by kernel_rfl) (by kernel_rfl) (by kernel_rfl) (by rfl) (fun w' hin => ?_) ?_
                rotate_left
                · (try simp only [] at hin); go_simp <;> with_reducible rfl
                try simp only [Act.put, List.setIfInBounds_toArray, List.set_cons_zero, List.set_cons_succ]
                refine wpS_take 2 (v := ?_) hSw rfl (by kernel_rfl) (by kernel_rfl) (by kernel_rfl) (by rfl) (fun w' hin => ?_) ?_
                rotate_left
                · (try simp only [] at hin); go_simp <;> with_reducible rfl
                try simp only [Act.put, List.setIfInBounds_toArray, List.set_cons_zero, List.set_cons_succ]
                refine wpS_take 3 (v := ?_) hSw rfl (by kernel_rfl) (by kernel_rfl) (by kernel_rfl) (by rfl) (fun w' hin => ?_) ?_
                rotate_left
                · (try simp only [] at hin); go_simp <;> with_reducible rfl
                try simp only [Act.put, List.setIfInBounds_toArray, List.set_cons_zero, List.set_cons_succ]
                refine wpS_take 4 (v := ?_) hSw rfl (by kernel_rfl) (by kernel_rfl) (by kernel_rfl) (by rfl) (fun w' hin => ?_) ?_
                rotate_left
                · (try simp only [] at hin); go_simp <;> with_reducible rfl
                try simp only [Act.put, List.setIfInBounds_toArray, List.set_cons_zero, List.set_cons_succ]
                refine wpS_take 5 (v := ?_) hSw rfl (by kernel_rfl) (by kernel_rfl) (by kernel_rfl) (by rfl) (fun w' hin => ?_) ?_
                rotate_left
                · (try simp only [] at hin); go_simp <;> with_reducible rfl
                try simp only [Act.put, List.setIfInBounds_toArray, List.set_cons_zero, List.set_cons_succ]
                refine wpS_take 6 (v := ?_) hSw rfl (by kernel_rfl) (by kernel_rfl) (by kernel_rfl) (by rfl) (fun w' hin => ?_) ?_
                rotate_left
                · (try simp only [] at hin); go_simp <;> with_reducible rfl
                try simp only [Act.put, List.setIfInBounds_toArray, List.set_cons_zero, List.set_cons_succ]
                refine wpS_take 7 (v := ?_) hSw rfl (by kernel_rfl) (by kernel_rfl) (by kernel_rfl) (by rfl) (fun w' hin => ?_) ?_
                rotate_left
                · (try simp only [] at hin); go_simp <;> with_reducible rfl
                try simp only [Act.put, List.setIfInBounds_toArray, List.set_cons_zero, List.set_cons_succ]
                refine wpS_take 8 (v := ?_) hSw rfl (by kernel_rfl) (by kernel_rfl) (by kernel_rfl) (by rfl) (fun w' hin => ?_) ?_
                rotate_left
                · (try simp only [] at hin); go_simp <;> with_reducible rfl
                try simp only [Act.put, List.setIfInBounds_toArray, List.set_cons_zero, List.set_cons_succ]
                refine wpS_take 9 (v := ?_) hSw rfl (by kernel_rfl) (by kernel_rfl) (by kernel_rfl) (by rfl) (fun w' hin => ?_) ?_
                rotate_left
                · (try simp only [] at hin); go_simp <;> with_reducible rfl
                try simp only [Act.put, List.setIfInBounds_toArray, List.set_cons_zero, List.set_cons_succ]
                refine wpS_take 10 (v := ?_) hSw rfl (by kernel_rfl) (by kernel_rfl) (by kernel_rfl) (by rfl) (fun w' hin => ?_) ?_
                rotate_left
                · (try simp only [] at hin); go_simp <;> with_reducible rfl
                try simp only [Act.put, List.setIfInBounds_toArray, List.set_cons_zero, List.set_cons_succ]
                refine wpS_take 11 (v := ?_) hSw rfl (by kernel_rfl) (by kernel_rfl) (by kernel_rfl) (by rfl) (fun w' hin => ?_) ?_
                rotate_left
                · (try simp only [] at hin); go_simp <;> with_reducible rfl
                try simp only [Act.put, List.setIfInBounds_toArray, List.set_cons_zero, List.set_cons_succ]
                refine wpS_take 12 (v := ?_) hSw rfl (by kernel_rfl) (by kernel_rfl) (by kernel_rfl) (by rfl) (fun w' hin => ?_) ?_
                rotate_left
                · (try simp only [] at hin); go_simp <;> with_reducible rfl
                try simp only [Act.put, List.setIfInBounds_toArray, List.set_cons_zero, List.set_cons_succ]
                refine wpS_take 13 (v := ?_) hSw rfl (by kernel_rfl) (by kernel_rfl) (by kernel_rfl) (by rfl) (fun w' hin => ?_) ?_
                rotate_left
                · (try simp only [] at hin); go_simp <;> with_reducible rfl
                try simp only [Act.put, List.setIfInBounds_toArray, List.set_cons_zero, List.set_cons_succ]
                refine wpS_one 14 rfl (by kernel_rfl) (by rfl) (fun K hK => ?_)
                go_simp
                refine (beats_any r x Ar As nr cr ns cs _ HV.out.1 s1).mono ?_
                rintro e w8 ⟨rfl, hb8⟩
                rw [hbr]
                simp only []
                refine hK.out _ _ (Ext w7.drew) (fun _ h => h) (hb8) (fun hSw => ?_)
                clear hK K
                try simp only [Act.put, List.setIfInBounds_toArray, List.set_cons_zero, List.set_cons_succ]
                refine wpS_take 15 (v := ?_) hSw rfl (by kernel_rfl) (by kernel_rfl) (by kernel_rfl) (by rfl) (fun w' hin => ?_) ?_
                rotate_left
                · (try simp only [] at hin); go_simp <;> with_reducible rfl
                try simp only [Act.put, List.setIfInBounds_toArray, List.set_cons_zero, List.set_cons_succ]
                refine wpS_take 16 (v := ?_) hSw rfl (by kernel_rfl) (by kernel_rfl) (by kernel_rfl) (by rfl) (fun w' hin => ?_) ?_
                rotate_left
                · (try simp only [] at hin); go_simp <;> with_reducible rfl
                try simp only [Act.put, List.setIfInBounds_toArray, List.set_cons_zero, List.set_cons_succ]
                refine wpS_done (by kernel_rfl) ?_
                clear t1 t2 t3 t4 t5 t6 hSw
                go_wp2_with fail
                exact ⟨⟨k + 1, _, fi, by omega, by go_num, rfl, rfl, HS2, Lib.hid (EX7.out.drew.trans hb8)⟩, by simp [intOf]; omega⟩
    · have HE : Hid (fo = fd ∧ decide (0 ≤ fi) = fd) := Lib.hid (by
        have hlen := HA.out.len
        have hkn : l.take k = l := List.take_of_length_le (by omega)
        obtain ⟨hA1, hA2⟩ := HS.out
        rw [hkn] at hA1
        have hfo : fo = fd := by
          cases hfd : fd with
          | false =>
            cases hfo : fo with
            | false => rfl
            | true =>
              obtain ⟨x, hx, hx2⟩ := hA1.1 hfo
              have := HI.out.1 hfd x hx
              rw [hx2] at this; cases this
          | true =>
            obtain ⟨idx, i1, i2, i3, -⟩ := (HI.out.2 hfd).1
            exact hA1.2 ⟨r, List.mem_of_getElem? i2, i3⟩
        refine ⟨hfo, ?_⟩
        rcases hA2 with ⟨hfi, hidx⟩ | ⟨h0, h1⟩
        · cases hfd : fd with
          | false => subst hfi; rfl
          | true =>
            obtain ⟨idx, i1, i2, -⟩ := hidx hfd
            omega
        · rw [h1]; exact decide_eq_true h0)
      obtain ⟨HE1, HE2⟩ := HE.out
      subst HE1
      cases fo with
      | false =>
        have hfi : ¬ (0 : Int) ≤ fi := of_decide_eq_false HE2
        go_wp2_with fail
        go_ret
        exact ⟨rfl, EW.out.trans HW.out⟩
      | true =>
        have hfi : (0 : Int) ≤ fi := of_decide_eq_true HE2
        go_wp2_with fail
        go_ret
        exact ⟨rfl, EW.out.trans HW.out⟩
end Go.Proofs.YtepifkmileilfaaDoor
