/- What package table's Patch computes. -/
import Derived.Test.YtfdjbnofcniodaaGreatDoorTabWith
namespace Go.Proofs.YtfdjbnofcniodaaGreatDoor
set_option linter.unusedVariables false
open Go.RowKit

theorem two_filters {α : Type} (p q : α → Bool) (h : ∀ x, p x = true → q x = false) : ∀ l : List α, (l.filter p).length + (l.filter q).length ≤ l.length
  | [] => by simp
  | x :: l => by
    have ih := two_filters p q h l
    cases hp : p x with
    | true => rw [List.filter_cons_of_pos hp, List.filter_cons_of_neg (by rw [h x hp]; decide)]; simp only [List.length_cons]; omega
    | false =>
      rw [List.filter_cons_of_neg (by rw [hp]; decide)]
      cases hq : q x with
      | true => rw [List.filter_cons_of_pos hq]; simp only [List.length_cons]; omega
      | false => rw [List.filter_cons_of_neg (by rw [hq]; decide)]; simp only [List.length_cons]; omega
theorem withT_le (l : List Rs) (r : Rs) : (withT l r).length ≤ l.length + 1 := by
  unfold withT belowT aboveT
  rw [List.length_append, List.length_append]
  have := two_filters (fun x : Rs => decide (cmpK x.key r.key = -1)) (fun x => decide (cmpK x.key r.key = 1)) (fun x h => by
    have := of_decide_eq_true h
    exact decide_eq_false (by omega)) l
  simp only [List.length_cons, List.length_nil]
  omega
theorem without_le : ∀ (g : List Ky) (l : List Rs), (g.foldl withoutT l).length ≤ l.length
  | [], l => Nat.le_refl _
  | k :: g, l => Nat.le_trans (without_le g _) (List.length_filter_le _ _)
theorem with_le : ∀ (g : List Rs) (l : List Rs), (g.foldl withT l).length ≤ l.length + g.length
  | [], l => Nat.le_refl _
  | r :: g, l => by
    have h1 := with_le g (withT l r)
    have h2 := withT_le l r
    simp only [List.foldl_cons, List.length_cons]
    omega
theorem fold_snoc {α β : Type} (f : β → α → β) {g : List α} {k : Nat} {x : α} (h : g[k]? = some x) (b : β) : (g.take (k + 1)).foldl f b = f ((g.take k).foldl f b) x := by
  rw [take_snoc_of h, List.foldl_append]; rfl
/-- a slice of some resources -/
def IsL (w : World) (l : List Rs) (v : Value) (wr : World) : Prop := ∃ A n c, v = .slice A n c ∧ SlW A n c ∧ ResL All wr A n l ∧ Ext w wr

set_option maxRecDepth 100000 in
set_option maxHeartbeats 4000000 in
theorem patch_any (A : Option Addr) (n c : Nat) (l : List Rs) (B : Option Addr) (m d : Nat) (adds : List Rs) (C : Option Addr) (p e : Nat) (gone : List Ky) (w : World) (hn : n ≤ 1000) (hm : m ≤ 1000) (hp : p ≤ 1000)
    (hsl : SlW A n c) (hA : ResL All w A n l) (hB : ResL All w B m adds) (hC : KeyL All w C p gone) :
    Calls Tryz.prog 47 #[.slice A n c, .slice B m d, .slice C p e] w (GivesL w (patchT l adds gone)) := by
  have HL0 : Hid (IsL w l (.slice A n c) w) := Lib.hid ⟨A, n, c, rfl, hsl, hA, Ext.refl _⟩
  have hln : l.length = n := hA.len
  have HB := Lib.hid hB
  have HC := Lib.hid hC
  clear hsl hA hB hC
  go_enter Tryz.func47, Tryz.ntmps47
  go_wp2_with fail
  go_loopw [0, 13] (fun v i wr => ∃ k : Nat, k ≤ p ∧ i = .int .i64 k ∧ Hid (IsL w ((gone.take k).foldl withoutT l) v wr)) (fun _ i _ => p - (intOf i).toNat)
  case atStart => exact ⟨0, Nat.zero_le _, by go_num, HL0⟩
  case round =>
    obtain ⟨k, hk, rfl, HL⟩ := hrel
    obtain ⟨A1, n1, c1, rfl, hs1, h1, he1⟩ := HL.out
    by_cases hlt : k < p
    · obtain ⟨b, off, y, rfl, hbl0, -, hx, hsz, d0, d1⟩ := KeyL.at_ HC.out hlt
      have HX := Lib.hid hx
      have hn1 : n1 ≤ 1000 := by have h2 := without_le (gone.take k) l; have h3 := h1.len; omega
      have i1 : (0 : Int) ≤ (k : Int) := by omega
      have i2 : (k : Int) < (p : Int) := by omega
      have t0 : wr.cell? ⟨b, off + k * 2, none⟩ = some (.int .i64 y.kind) := (he1.cell hbl0).trans d0
      have t1 : wr.cell? ⟨b, off + k * 2 + 1, none⟩ = some (.string y.name) := (he1.cell hbl0).trans d1
      have HS1 := Lib.hid hs1
      have H1 := Lib.hid h1
      have HE1 := Lib.hid he1
      clear hx d0 d1 hs1 h1 he1 HL
      go_wp2_with fail
      refine (without_any y A1 n1 c1 _ _ HS1.out (by omega) (ResL.keep H1.out (Ext.new _ _).keep)).mono ?_
      rintro e2 w2 ⟨A2, n2, c2, rfl, hs2, h2, hb2⟩
      have HL2 : Hid (IsL w ((gone.take (k + 1)).foldl withoutT l) (.slice A2 n2 c2) w2) := Lib.hid ⟨A2, n2, c2, rfl, hs2, by rw [fold_snoc withoutT HX.out]; exact h2, (HE1.out.alloc _).trans hb2⟩
      clear hs2 h2 hb2 t0 t1
      go_wp2_with fail
      go_roundw
      case rel => exact ⟨k + 1, by omega, by go_num, HL2⟩
      case measure => simp [intOf]; omega
    · have HT : gone.take k = gone := List.take_of_length_le (by have := HC.out.len; omega)
      have HL1 : Hid (IsL w (gone.foldl withoutT l) (.slice A1 n1 c1) wr) := Lib.hid (by have h9 := HL.out; rwa [HT] at h9)
      clear HT hs1 h1 he1 HL
      go_wp2_with fail
      go_loopw [0, 23] (fun v i wr => ∃ j : Nat, j ≤ m ∧ i = .int .i64 j ∧ Hid (IsL w ((adds.take j).foldl withT (gone.foldl withoutT l)) v wr)) (fun _ i _ => m - (intOf i).toNat)
      case atStart => exact ⟨0, Nat.zero_le _, by go_num, HL1⟩
      case round =>
        obtain ⟨j, hj, rfl, HL⟩ := hrel
        obtain ⟨A2, n2, c2, rfl, hs2, h2, he2⟩ := HL.out
        by_cases hlj : j < m
        · obtain ⟨b, off, r, D, q, f, D', q', f', rfl, hbl0, -, hx, hv, d0, d1, d2, d3, d4, d5, d6⟩ := ResL.at_ HB.out hlj
          have HX := Lib.hid hx
          have HV := Lib.hid hv
          have hn2 : n2 ≤ 2000 := by
            have h4 := with_le (adds.take j) (gone.foldl withoutT l)
            have h5 := without_le gone l
            have h6 := h2.len
            have h7 : (adds.take j).length ≤ j := by rw [List.length_take]; omega
            omega
          have i1 : (0 : Int) ≤ (j : Int) := by omega
          have i2 : (j : Int) < (m : Int) := by omega
          have t0 : wr.cell? ⟨b, off + j * 7, none⟩ = some (.int .i64 r.kind) := (he2.cell hbl0).trans d0
          have t1 : wr.cell? ⟨b, off + j * 7 + 1, none⟩ = some (.string r.name) := (he2.cell hbl0).trans d1
          have t2 : wr.cell? ⟨b, off + j * 7 + 2, none⟩ = some (.int .i64 r.ver) := (he2.cell hbl0).trans d2
          have t3 : wr.cell? ⟨b, off + j * 7 + 3, none⟩ = some (.int .i64 r.port) := (he2.cell hbl0).trans d3
          have t4 : wr.cell? ⟨b, off + j * 7 + 4, none⟩ = some (.string r.to) := (he2.cell hbl0).trans d4
          have t5 : wr.cell? ⟨b, off + j * 7 + 5, none⟩ = some (.slice D q f) := (he2.cell hbl0).trans d5
          have t6 : wr.cell? ⟨b, off + j * 7 + 6, none⟩ = some (.slice D' q' f') := (he2.cell hbl0).trans d6
          have H2 := Lib.hid h2
          have HE2 := Lib.hid he2
          clear hx hv d0 d1 d2 d3 d4 d5 d6 hs2 h2 he2 HL
          go_wp2_with fail
          refine (with_any A2 n2 c2 _ r D q f D' q' f' _ (by omega) (ResL.keep H2.out (Ext.new _ _).keep) (HV.out.up (HE2.out.alloc _))).mono ?_
          rintro e3 w3 ⟨A3, n3, c3, rfl, hs3, h3, hb3⟩
          have HL3 : Hid (IsL w ((adds.take (j + 1)).foldl withT (gone.foldl withoutT l)) (.slice A3 n3 c3) w3) := Lib.hid ⟨A3, n3, c3, rfl, hs3, by rw [fold_snoc withT HX.out]; exact h3, (HE2.out.alloc _).trans hb3⟩
          clear hs3 h3 hb3 t0 t1 t2 t3 t4 t5 t6
          go_wp2_with fail
          go_roundw
          case rel => exact ⟨j + 1, by omega, by go_num, HL3⟩
          case measure => simp [intOf]; omega
        · have HT : adds.take j = adds := List.take_of_length_le (by have := HB.out.len; omega)
          rw [HT] at h2
          have HG : Hid (GivesL w (patchT l adds gone) (.returned (.slice A2 n2 c2)) wr) := Lib.hid ⟨A2, n2, c2, rfl, hs2, h2, he2⟩
          clear HT hs2 h2 he2 HL
          go_wp2_with fail
          go_ret
          exact HG.out
end Go.Proofs.YtfdjbnofcniodaaGreatDoor
