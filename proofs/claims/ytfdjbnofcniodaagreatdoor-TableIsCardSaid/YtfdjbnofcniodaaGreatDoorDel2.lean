/- slices.DeleteFunc at []api.Res, with a predicate that reads a block that was made behind the row. -/
import Derived.Test.YtfdjbnofcniodaaGreatDoorDelAll
namespace Go.Proofs.YtfdjbnofcniodaaGreatDoor
set_option linter.unusedVariables false
open Go.RowKit

theorem heap_setCells_far {q g : Nat} (hne : q ≠ g) : ∀ (vs : List Value) (o : Nat) (w : World), (w.setCells g o vs).heap[q]? = w.heap[q]?
  | [], o, w => rfl
  | x :: vs, o, w => (heap_setCells_far hne vs (o + 1) (w.setCell ⟨g, o, none⟩ x)).trans (blk_far hne x)
set_option maxRecDepth 100000 in
set_option maxHeartbeats 4000000 in
theorem deleteQ_any (S : Nat → Prop) (F : Nat) (caps : Array Value) (p : Rs → Bool) (v : Value) (n : Nat) (us : List Value) (l : List Rs) (wb w : World) (he : Ext wb w) (hn : n ≤ 1000000) (hown : w.ownsRow wb.heap.size 34 7 v n us) (hU : RowsOf (RsQ S wb) 7 us l) (q : Nat) (ob : Obj) (hq : w.heap[q]? = some ob) (hqv : ∀ b, v.ownBlock = some b → b ≠ q)
    (hF : Enters F ∧ ∀ (r : Rs) (B : Option Addr) (m d : Nat) (B' : Option Addr) (m' d' : Nat) (w1 : World), Ext wb w1 → w1.heap[q]? = some ob → RsV S w1 r B m d B' m' d' → Calls Tryz.prog F (#[(rsVal r B m d B' m' d')] ++ caps) w1 fun e w' => e = .returned (.bool (p r)) ∧ Ext w1 w') :
    Calls Tryz.prog 121 #[v, .func (.func F) #[] caps] w (KeepsR S wb (keepP p l)) := by
  have HF := Lib.hid hF
  have HFw : Hid (PredR S w F caps p) := Lib.hid ⟨hF.1, fun r B m d B' m' d' wx h hv => hF.2 r B m d B' m' d' wx (he.trans h) ((h.block (Array.getElem?_eq_some_iff.1 hq).1).trans hq) hv⟩
  have HQ := Lib.hid hq
  have HQV := Lib.hid hqv
  have HU := Lib.hid hU
  have HO := Lib.hid hown
  obtain ⟨A, c, rfl, hnc, hcm, hA0, hfl⟩ := own_flat hown
  have HFl := Lib.hid hfl
  have hcm' : c ≤ 9223372036854775807 := by unfold maxLen at hcm; exact hcm
  have HA0 := Lib.hid hA0
  have HE := Lib.hid he
  have hlen : l.length = n := by
    have h1 := hfl.1
    rw [hU.len] at h1
    exact Nat.eq_of_mul_eq_mul_right (by omega) h1
  clear hown hU hF he hfl hA0 hq hqv
  go_enter Tryz.func121, Tryz.ntmps121
  go_wp2_with fail
  refine (indexR_any (T := fun _ => True) S F caps p A n c l _ (by unfold maxLen; omega) (HFl.out.arrQ (HU.out.mono (fun _ _ h => h.keep HE.out.keep)) (by omega) (fun _ _ _ _ => trivial)) HFw.out).mono ?_
  rintro e w1 ⟨rfl, hb1⟩
  cases ha : l.any p with
  | false =>
    have hI : idxB p l = -1 := idx_none ha
    rw [hI]
    have HK : Hid (keepP p l = l) := Lib.hid (keepP_all ha)
    clear hI ha
    go_wp2_with fail
    go_ret
    rw [HK.out]
    exact ⟨A, n, c, rfl, ⟨hnc, hcm, HA0.out⟩, ((HFl.out.up hb1).arrQ (S := fun _ => True) HU.out (by omega) (fun _ _ _ _ => trivial)).arr, HE.out.trans hb1⟩
  | true =>
    obtain ⟨i0, x0, hx0, hp0, hf0, hI⟩ : ∃ (i : Nat) (x : Rs), l[i]? = some x ∧ p x = true ∧ (l.take i).any p = false ∧ idxB p l = i := by
      have hlt : l.findIdx p < l.length := List.findIdx_lt_length_of_exists (by simpa using List.any_eq_true.1 ha)
      refine ⟨l.findIdx p, l[l.findIdx p], List.getElem?_eq_getElem hlt, List.findIdx_getElem, ?_, by unfold idxB; rw [if_pos ha]⟩
      rw [List.any_eq_false]
      intro y hy
      obtain ⟨j, hj, rfl⟩ := List.mem_take_iff_getElem.1 hy
      have := List.not_of_lt_findIdx (p := p) (xs := l) (i := j) (by omega)
      simpa using this
    rw [hI]
    have hi0 : i0 < n := by rw [← hlen]; exact (List.getElem?_eq_some_iff.1 hx0).1
    obtain ⟨g, rfl⟩ : ∃ g, A = some ⟨g, 0, none⟩ := by
      rcases HO.out.2 with ⟨h, _⟩ | ⟨g, cap, cur, h, _⟩
      · injection h with h1 h2; omega
      · injection h with h; exact ⟨g, h⟩
    have HQ1 := Lib.hid ((hb1.block (Array.getElem?_eq_some_iff.1 HQ.out).1).trans HQ.out)
    have hqg : q ≠ g := fun e => HQV.out g rfl e.symm
    have HD0 := Lib.hid (DelSt.init (p := p) (HE.out.trans hb1) (own_up HO.out hb1) rfl HU.out (by omega) hx0 hp0 hf0)
    have hm1 : ((i0 : Int) == -1) = false := by simp <;> omega
    clear ha hI hx0 hp0 hf0 hb1
    go_wp2_with fail
    go_loopw [5, 6] (fun i j wr => ∃ (a b : Nat), a < b ∧ b ≤ n ∧ i = .int .i64 a ∧ j = .int .i64 b ∧ Hid (DelSt (RsQ S wb) 7 p l g c wb wr a b) ∧ Hid (wr.heap[q]? = some ob)) (fun _ j _ => n - (intOf j).toNat)
    case atStart => exact ⟨i0, i0 + 1, by omega, by omega, rfl, by go_num, HD0, HQ1⟩
    case round =>
      obtain ⟨a, b, hab, hbn, rfl, rfl, HD, HQr⟩ := hrel
      by_cases hlt : b < n
      · obtain ⟨x, hx⟩ : ∃ x, l[b]? = some x := ⟨l[b]'(by omega), List.getElem?_eq_getElem _⟩
        obtain ⟨cs, hcl, hR, hcs⟩ := HD.out.left b x (Nat.le_refl _) hx
        obtain ⟨r, rfl⟩ : ∃ r, r = x := ⟨_, rfl⟩
        obtain ⟨B, m, d, B', m', d', rfl, hv⟩ := hR
        have HVx := Lib.hid hv
        have hgl := HD.out.lt

        have d0 : wr.cell? ⟨g, b * 7, none⟩ = some (.int .i64 r.kind) := hcs 0 _ rfl
        have d1 : wr.cell? ⟨g, b * 7 + 1, none⟩ = some (.string r.name) := hcs 1 _ rfl
        have d2 : wr.cell? ⟨g, b * 7 + 2, none⟩ = some (.int .i64 r.ver) := hcs 2 _ rfl
        have d3 : wr.cell? ⟨g, b * 7 + 3, none⟩ = some (.int .i64 r.port) := hcs 3 _ rfl
        have d4 : wr.cell? ⟨g, b * 7 + 4, none⟩ = some (.string r.to) := hcs 4 _ rfl
        have d5 : wr.cell? ⟨g, b * 7 + 5, none⟩ = some (.slice B m d) := hcs 5 _ rfl
        have d6 : wr.cell? ⟨g, b * 7 + 6, none⟩ = some (.slice B' m' d') := hcs 6 _ rfl
        obtain ⟨y0, e0⟩ := Option.isSome_iff_exists.1 (HD.out.there (a * 7) (by have := mul_lt_row (sz := 7) (t := 0) (show a < c by omega) (by omega); omega)).1
        have f0 := (HD.out.there (a * 7) (by have := mul_lt_row (sz := 7) (t := 0) (show a < c by omega) (by omega); omega)).2
        obtain ⟨y1, e1⟩ := Option.isSome_iff_exists.1 (HD.out.there (a * 7 + 1) (by have := mul_lt_row (sz := 7) (t := 1) (show a < c by omega) (by omega); omega)).1
        have f1 := (HD.out.there (a * 7 + 1) (by have := mul_lt_row (sz := 7) (t := 1) (show a < c by omega) (by omega); omega)).2
        obtain ⟨y2, e2⟩ := Option.isSome_iff_exists.1 (HD.out.there (a * 7 + 2) (by have := mul_lt_row (sz := 7) (t := 2) (show a < c by omega) (by omega); omega)).1
        have f2 := (HD.out.there (a * 7 + 2) (by have := mul_lt_row (sz := 7) (t := 2) (show a < c by omega) (by omega); omega)).2
        obtain ⟨y3, e3⟩ := Option.isSome_iff_exists.1 (HD.out.there (a * 7 + 3) (by have := mul_lt_row (sz := 7) (t := 3) (show a < c by omega) (by omega); omega)).1
        have f3 := (HD.out.there (a * 7 + 3) (by have := mul_lt_row (sz := 7) (t := 3) (show a < c by omega) (by omega); omega)).2
        obtain ⟨y4, e4⟩ := Option.isSome_iff_exists.1 (HD.out.there (a * 7 + 4) (by have := mul_lt_row (sz := 7) (t := 4) (show a < c by omega) (by omega); omega)).1
        have f4 := (HD.out.there (a * 7 + 4) (by have := mul_lt_row (sz := 7) (t := 4) (show a < c by omega) (by omega); omega)).2
        obtain ⟨y5, e5⟩ := Option.isSome_iff_exists.1 (HD.out.there (a * 7 + 5) (by have := mul_lt_row (sz := 7) (t := 5) (show a < c by omega) (by omega); omega)).1
        have f5 := (HD.out.there (a * 7 + 5) (by have := mul_lt_row (sz := 7) (t := 5) (show a < c by omega) (by omega); omega)).2
        obtain ⟨y6, e6⟩ := Option.isSome_iff_exists.1 (HD.out.there (a * 7 + 6) (by have := mul_lt_row (sz := 7) (t := 6) (show a < c by omega) (by omega); omega)).1
        have f6 := (HD.out.there (a * 7 + 6) (by have := mul_lt_row (sz := 7) (t := 6) (show a < c by omega) (by omega); omega)).2
        have HX := Lib.hid hx
        have i1 : (0 : Int) ≤ (b : Int) := by omega
        have i2 : (b : Int) < (n : Int) := by omega
        have i3 : (0 : Int) ≤ (a : Int) := by omega
        have i4 : (a : Int) < (n : Int) := by omega
        clear hx hcs hcl hv
        go_wp2_with fail
        rw [HF.out.1, Oper.upon_enter]
        refine (HF.out.2 r B m d B' m' d' _ (HD.out.ext.alloc _) (((Ext.new wr _).block (Array.getElem?_eq_some_iff.1 HQr.out).1).trans HQr.out) (HVx.out.up (HD.out.ext.alloc _))).mono ?_
        rintro e w2 ⟨rfl, hb2⟩
        have HD2 := Lib.hid (HD.out.up ((Ext.new wr _).trans hb2))
        have HQ2 := Lib.hid ((((Ext.new wr _).trans hb2).block (Array.getElem?_eq_some_iff.1 HQr.out).1).trans HQr.out)
        have HB2 := Lib.hid (box1b hb2).1
        cases hp : p r with
        | true =>
          have HD3 := Lib.hid (HD2.out.skip HX.out hp)
          go_wp2_with fail
          go_roundw
          case rel => exact ⟨a, b + 1, by omega, by omega, rfl, by go_num, HD3, HQ2⟩
          case measure => simp [intOf]; omega
        | false =>
          have HD3 := Lib.hid (HD2.out.store hab (by omega) HX.out hp (cs := [.int .i64 r.kind, .string r.name, .int .i64 r.ver, .int .i64 r.port, .string r.to, .slice B m d, .slice B' m' d']) rfl ⟨_, _, _, _, _, _, rfl, HVx.out⟩)
          have HQ3 := Lib.hid ((heap_setCells_far hqg [.int .i64 r.kind, .string r.name, .int .i64 r.ver, .int .i64 r.port, .string r.to, .slice B m d, .slice B' m' d'] (a * 7) w2).trans HQ2.out)
          obtain ⟨z0, z1⟩ := blk_rules HB2.out
          have g0 : w2.cell? ⟨g, a * 7, none⟩ = some y0 := (((Ext.new wr _).trans hb2).cell hgl).trans e0
          have k0 : w2.frozen? ⟨g, a * 7, none⟩ = false := (((Ext.new wr _).trans hb2).frozen hgl).trans f0
          have g1 : w2.cell? ⟨g, a * 7 + 1, none⟩ = some y1 := (((Ext.new wr _).trans hb2).cell hgl).trans e1
          have k1 : w2.frozen? ⟨g, a * 7 + 1, none⟩ = false := (((Ext.new wr _).trans hb2).frozen hgl).trans f1
          have g2 : w2.cell? ⟨g, a * 7 + 2, none⟩ = some y2 := (((Ext.new wr _).trans hb2).cell hgl).trans e2
          have k2 : w2.frozen? ⟨g, a * 7 + 2, none⟩ = false := (((Ext.new wr _).trans hb2).frozen hgl).trans f2
          have g3 : w2.cell? ⟨g, a * 7 + 3, none⟩ = some y3 := (((Ext.new wr _).trans hb2).cell hgl).trans e3
          have k3 : w2.frozen? ⟨g, a * 7 + 3, none⟩ = false := (((Ext.new wr _).trans hb2).frozen hgl).trans f3
          have g4 : w2.cell? ⟨g, a * 7 + 4, none⟩ = some y4 := (((Ext.new wr _).trans hb2).cell hgl).trans e4
          have k4 : w2.frozen? ⟨g, a * 7 + 4, none⟩ = false := (((Ext.new wr _).trans hb2).frozen hgl).trans f4
          have g5 : w2.cell? ⟨g, a * 7 + 5, none⟩ = some y5 := (((Ext.new wr _).trans hb2).cell hgl).trans e5
          have k5 : w2.frozen? ⟨g, a * 7 + 5, none⟩ = false := (((Ext.new wr _).trans hb2).frozen hgl).trans f5
          have g6 : w2.cell? ⟨g, a * 7 + 6, none⟩ = some y6 := (((Ext.new wr _).trans hb2).cell hgl).trans e6
          have k6 : w2.frozen? ⟨g, a * 7 + 6, none⟩ = false := (((Ext.new wr _).trans hb2).frozen hgl).trans f6
          clear d0 e0 f0 d1 e1 f1 d2 e2 f2 d3 e3 f3 d4 e4 f4 d5 e5 f5 d6 e6 f6 hb2
          go_wp2_with fail
          exact ⟨⟨a + 1, b + 1, by omega, by omega, by go_num, by go_num, HD3, HQ3⟩, by simp [intOf]; omega⟩
      · obtain rfl : b = n := by omega
        have hac : ¬ c = a := by omega
        have i3 : (0 : Int) ≤ (a : Int) := by omega
        have i4 : (a : Int) ≤ (b : Int) := by omega
        obtain ⟨zs, hrun⟩ := run_clear_k (P := Tryz.prog) wr 42 34 0 (.agg #[.int .i64 0, .string ⟨#[]⟩, .int .i64 0, .int .i64 0, .string ⟨#[]⟩, .slice none 0 0, .slice none 0 0]) Tryz.underlying42 (fun w => rfl) zeroR_one g (a * 7) (b - a) (c - a) (by omega)
          (fun j hj => (HD.out.there (a * 7 + j) (by have hj' : j < (b - a) * 7 := hj; omega)).1) (fun j hj => (HD.out.there (a * 7 + j) (by have hj' : j < (b - a) * 7 := hj; omega)).2)
        have HT : Hid (l.take b = l) := Lib.hid (List.take_of_length_le (by omega))
        have HCl := Lib.hid (HD.out.clear zs)
        go_wp2_with fail
        go_ret
        have h2 := HCl.out.2
        rw [HT.out] at h2
        exact ⟨some ⟨g, 0, none⟩, a, c, rfl, ⟨by omega, hcm, fun h => by cases h⟩, h2, HCl.out.1⟩
end Go.Proofs.YtfdjbnofcniodaaGreatDoor
