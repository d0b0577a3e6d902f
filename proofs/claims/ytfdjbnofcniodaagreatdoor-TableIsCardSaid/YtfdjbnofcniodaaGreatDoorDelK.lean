/- slices.IndexFunc and slices.DeleteFunc at []api.Key, with a predicate that is asked of the elements alone. -/
import Derived.Test.YtfdjbnofcniodaaGreatDoorDelAll
namespace Go.Proofs.YtfdjbnofcniodaaGreatDoor
set_option linter.unusedVariables false
open Go.RowKit

def PredKL (w0 : World) (F : Nat) (caps : Array Value) (p : Ky → Bool) (l : List Ky) : Prop :=
  Enters F ∧ ∀ y ∈ l, ∀ w : World, Ext w0 w → y.name.size ≤ maxLen → Calls Tryz.prog F (#[.agg #[.int .i64 y.kind, .string y.name]] ++ caps) w fun e w' => e = .returned (.bool (p y)) ∧ Ext w w'
set_option maxRecDepth 100000 in
set_option maxHeartbeats 1000000 in
theorem indexKL_any {T : Nat → Prop} (S : Nat → Prop) (F : Nat) (caps : Array Value) (p : Ky → Bool) (A : Option Addr) (n c : Nat) (l : List (Ky)) (w : World) (hm : n ≤ maxLen) (hA : ArrQ T w 2 KyQ A n l) (hF : PredKL w F caps p l) :
    Calls Tryz.prog 180 #[.slice A n c, .func (.func F) #[] caps] w fun e w' => e = .returned (.int .i64 (idxB p l)) ∧ Ext w w' := by
  unfold maxLen at hm
  have HA := Lib.hid hA
  have HF := Lib.hid hF
  clear hA hF
  go_enter Tryz.func180, Tryz.ntmps180
  go_wp2_with fail
  go_loopw [8] (fun i wr => ∃ k : Nat, k ≤ n ∧ i = .int .i64 k ∧ Hid ((l.take k).any p = false) ∧ Hid (Ext w wr)) (fun i _ => n - (intOf i).toNat)
  case atStart => exact ⟨0, Nat.zero_le _, rfl, Lib.hid (by simp), Lib.hid (Ext.refl _)⟩
  case round =>
    obtain ⟨k, hk, rfl, HS, HX⟩ := hrel
    by_cases hlt : k < n
    · obtain ⟨b, o, y, rfl, hbB, hSb, hlk, hsz, hc0, hc1⟩ := KeyL.at_ HA.out hlt
      have d0 : wr.cell? ⟨b, o + k * 2, none⟩ = some (.int .i64 y.kind) := (HX.out.cell hbB).trans hc0
      have d1 : wr.cell? ⟨b, o + k * 2 + 1, none⟩ = some (.string y.name) := (HX.out.cell hbB).trans hc1
      have i1 : (0 : Int) ≤ (k : Int) := by omega
      have i2 : (k : Int) < (n : Int) := by omega
      have HL := Lib.hid hlk
      clear hc0 hc1 hlk
      go_wp2_with fail
      rw [HF.out.1, Oper.upon_enter]
      refine (HF.out.2 y (List.mem_of_getElem? HL.out) _ HX.out hsz).mono ?_
      rintro e w1 ⟨rfl, hb1⟩
      cases hp : p y with
      | true =>
        have HR := Lib.hid (idx_found HL.out hp HS.out)
        have HX1 := Lib.hid (HX.out.trans hb1)
        go_wp2_with fail
        go_ret
        exact ⟨ret_int HR.out.symm, HX1.out⟩
      | false =>
        have HS2 := Lib.hid (take_any_snoc HL.out HS.out hp)
        have HX1 := Lib.hid (HX.out.trans hb1)
        go_wp2_with fail
        go_roundw
        case rel => exact ⟨k + 1, by omega, by go_num, HS2, HX1⟩
        case measure => simp [intOf]; omega
    · have HR : Hid (idxB p l = -1) := Lib.hid (idx_none (by have := HS.out; rwa [List.take_of_length_le (by have := HA.out.len; omega)] at this))
      go_wp2_with fail
      go_ret
      exact ⟨ret_int HR.out.symm, HX.out⟩
set_option maxRecDepth 100000 in
set_option maxHeartbeats 4000000 in
theorem deleteKL_any (S : Nat → Prop) (F : Nat) (caps : Array Value) (p : Ky → Bool) (v : Value) (n : Nat) (us : List Value) (l : List Ky) (wb w : World) (he : Ext wb w) (hn : n ≤ 1000000) (hown : w.ownsRow wb.heap.size 38 2 v n us) (hU : RowsOf KyQ 2 us l) (hF : PredKL wb F caps p l) :
    Calls Tryz.prog 113 #[v, .func (.func F) #[] caps] w (KeepsK S wb (keepP p l)) := by
  have HF := Lib.hid hF
  have HFw : Hid (PredKL w F caps p l) := Lib.hid ⟨hF.1, fun y hy wx h => hF.2 y hy wx (he.trans h)⟩
  have HU := Lib.hid hU
  have HO := Lib.hid hown
  obtain ⟨A, c, rfl, hnc, hcm, hA0, hfl⟩ := own_flat hown
  have HFl := Lib.hid hfl
  have hcm' : c ≤ 9223372036854775807 := by unfold maxLen at hcm; exact hcm
  have HA0 := Lib.hid hA0
  have HE := Lib.hid he
  have hlen : l.length = n := by
    have h1 := hfl.1
    rw [hU.len] at h1
    exact Nat.eq_of_mul_eq_mul_right (by omega) h1
  clear hown hU hF he hfl hA0
  go_enter Tryz.func113, Tryz.ntmps113
  go_wp2_with fail
  refine (indexKL_any (T := fun _ => True) S F caps p A n c l _ (by unfold maxLen; omega) (HFl.out.arrQ HU.out (by omega) (fun _ _ _ _ => trivial)) HFw.out).mono ?_
  rintro e w1 ⟨rfl, hb1⟩
  cases ha : l.any p with
  | false =>
    have hI : idxB p l = -1 := idx_none ha
    rw [hI]
    have HK : Hid (keepP p l = l) := Lib.hid (keepP_all ha)
    clear hI ha
    go_wp2_with fail
    go_ret
    rw [HK.out]
    exact ⟨A, n, c, rfl, ⟨hnc, hcm, HA0.out⟩, ((HFl.out.up hb1).arrQ (S := fun _ => True) HU.out (by omega) (fun _ _ _ _ => trivial)).arr, HE.out.trans hb1⟩
  | true =>
    obtain ⟨i0, x0, hx0, hp0, hf0, hI⟩ : ∃ (i : Nat) (x : Ky), l[i]? = some x ∧ p x = true ∧ (l.take i).any p = false ∧ idxB p l = i := by
      have hlt : l.findIdx p < l.length := List.findIdx_lt_length_of_exists (by simpa using List.any_eq_true.1 ha)
      refine ⟨l.findIdx p, l[l.findIdx p], List.getElem?_eq_getElem hlt, List.findIdx_getElem, ?_, by unfold idxB; rw [if_pos ha]⟩
      rw [List.any_eq_false]
      intro y hy
      obtain ⟨j, hj, rfl⟩ := List.mem_take_iff_getElem.1 hy
      have := List.not_of_lt_findIdx (p := p) (xs := l) (i := j) (by omega)
      simpa using this
    rw [hI]
    have hi0 : i0 < n := by rw [← hlen]; exact (List.getElem?_eq_some_iff.1 hx0).1
    obtain ⟨g, rfl⟩ : ∃ g, A = some ⟨g, 0, none⟩ := by
      rcases HO.out.2 with ⟨h, _⟩ | ⟨g, cap, cur, h, _⟩
      · injection h with h1 h2; omega
      · injection h with h; exact ⟨g, h⟩
    have HD0 := Lib.hid (DelSt.init (p := p) (HE.out.trans hb1) (own_up HO.out hb1) rfl HU.out (by omega) hx0 hp0 hf0)
    have hm1 : ((i0 : Int) == -1) = false := by simp <;> omega
    clear ha hI hx0 hp0 hf0 hb1
    go_wp2_with fail
    go_loopw [5, 6] (fun i j wr => ∃ (a b : Nat), a < b ∧ b ≤ n ∧ i = .int .i64 a ∧ j = .int .i64 b ∧ Hid (DelSt KyQ 2 p l g c wb wr a b)) (fun _ j _ => n - (intOf j).toNat)
    case atStart => exact ⟨i0, i0 + 1, by omega, by omega, rfl, by go_num, HD0⟩
    case round =>
      obtain ⟨a, b, hab, hbn, rfl, rfl, HD⟩ := hrel
      by_cases hlt : b < n
      · obtain ⟨x, hx⟩ : ∃ x, l[b]? = some x := ⟨l[b]'(by omega), List.getElem?_eq_getElem _⟩
        obtain ⟨cs, hcl, hR, hcs⟩ := HD.out.left b x (Nat.le_refl _) hx
        obtain ⟨y, rfl⟩ : ∃ y, y = x := ⟨_, rfl⟩
        obtain ⟨rfl, hsz⟩ := hR
        have HVx := Lib.hid hsz
        have hgl := HD.out.lt

        have d0 : wr.cell? ⟨g, b * 2, none⟩ = some (.int .i64 y.kind) := hcs 0 _ rfl
        have d1 : wr.cell? ⟨g, b * 2 + 1, none⟩ = some (.string y.name) := hcs 1 _ rfl
        obtain ⟨y0, e0⟩ := Option.isSome_iff_exists.1 (HD.out.there (a * 2) (by have := mul_lt_row (sz := 2) (t := 0) (show a < c by omega) (by omega); omega)).1
        have f0 := (HD.out.there (a * 2) (by have := mul_lt_row (sz := 2) (t := 0) (show a < c by omega) (by omega); omega)).2
        obtain ⟨y1, e1⟩ := Option.isSome_iff_exists.1 (HD.out.there (a * 2 + 1) (by have := mul_lt_row (sz := 2) (t := 1) (show a < c by omega) (by omega); omega)).1
        have f1 := (HD.out.there (a * 2 + 1) (by have := mul_lt_row (sz := 2) (t := 1) (show a < c by omega) (by omega); omega)).2
        have HX := Lib.hid hx
        have i1 : (0 : Int) ≤ (b : Int) := by omega
        have i2 : (b : Int) < (n : Int) := by omega
        have i3 : (0 : Int) ≤ (a : Int) := by omega
        have i4 : (a : Int) < (n : Int) := by omega
        clear hx hcs hcl hsz
        go_wp2_with fail
        rw [HF.out.1, Oper.upon_enter]
        refine (HF.out.2 y (List.mem_of_getElem? HX.out) _ (HD.out.ext.alloc _) HVx.out).mono ?_
        rintro e w2 ⟨rfl, hb2⟩
        have HD2 := Lib.hid (HD.out.up ((Ext.new wr _).trans hb2))
        have HB2 := Lib.hid (box1b hb2).1
        cases hp : p y with
        | true =>
          have HD3 := Lib.hid (HD2.out.skip HX.out hp)
          go_wp2_with fail
          go_roundw
          case rel => exact ⟨a, b + 1, by omega, by omega, rfl, by go_num, HD3⟩
          case measure => simp [intOf]; omega
        | false =>
          have HD3 := Lib.hid (HD2.out.store hab (by omega) HX.out hp (cs := [.int .i64 y.kind, .string y.name]) rfl ⟨rfl, HVx.out⟩)
          obtain ⟨z0, z1⟩ := blk_rules HB2.out
          have g0 : w2.cell? ⟨g, a * 2, none⟩ = some y0 := (((Ext.new wr _).trans hb2).cell hgl).trans e0
          have k0 : w2.frozen? ⟨g, a * 2, none⟩ = false := (((Ext.new wr _).trans hb2).frozen hgl).trans f0
          have g1 : w2.cell? ⟨g, a * 2 + 1, none⟩ = some y1 := (((Ext.new wr _).trans hb2).cell hgl).trans e1
          have k1 : w2.frozen? ⟨g, a * 2 + 1, none⟩ = false := (((Ext.new wr _).trans hb2).frozen hgl).trans f1
          clear d0 e0 f0 d1 e1 f1 hb2
          go_wp2_with fail
          exact ⟨⟨a + 1, b + 1, by omega, by omega, by go_num, by go_num, HD3⟩, by simp [intOf]; omega⟩
      · obtain rfl : b = n := by omega
        have hac : ¬ c = a := by omega
        have i3 : (0 : Int) ≤ (a : Int) := by omega
        have i4 : (a : Int) ≤ (b : Int) := by omega
        obtain ⟨zs, hrun⟩ := run_clear_k (P := Tryz.prog) wr 46 38 0 (.agg #[.int .i64 0, .string ⟨#[]⟩]) Tryz.underlying46 (fun w => rfl) zeroK_one g (a * 2) (b - a) (c - a) (by omega)
          (fun j hj => (HD.out.there (a * 2 + j) (by have hj' : j < (b - a) * 2 := hj; omega)).1) (fun j hj => (HD.out.there (a * 2 + j) (by have hj' : j < (b - a) * 2 := hj; omega)).2)
        have HT : Hid (l.take b = l) := Lib.hid (List.take_of_length_le (by omega))
        have HCl := Lib.hid (HD.out.clear zs)
        go_wp2_with fail
        go_ret
        have h2 := HCl.out.2
        rw [HT.out] at h2
        exact ⟨some ⟨g, 0, none⟩, a, c, rfl, ⟨by omega, hcm, fun h => by cases h⟩, h2, HCl.out.1⟩
end Go.Proofs.YtfdjbnofcniodaaGreatDoor
