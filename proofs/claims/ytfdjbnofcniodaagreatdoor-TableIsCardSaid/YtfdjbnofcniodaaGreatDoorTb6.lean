/- What the document's Sane of layer 5 computes. -/
import Derived.Test.YtfdjbnofcniodaaGreatDoorTb1
import Derived.Test.YtfdjbnofcniodaaGreatDoorRef03e
import Derived.Test.YtfdjbnofcniodaaGreatDoorTabSane
namespace Go.Proofs.YtfdjbnofcniodaaGreatDoor
set_option linter.unusedVariables false
open Go.RowKit

/-- two that may not be in one: listeners of one port -/
def clash (x y : Rs) : Prop := x.kind = 0 ∧ y.kind = 0 ∧ x.port = y.port
def NoClash (l : List Rs) (k q : Nat) : Prop := (∀ i j x y, i < k → j < i → l[i]? = some x → l[j]? = some y → ¬ clash x y) ∧ ∀ j x y, j < q → l[k]? = some x → l[j]? = some y → ¬ clash x y
theorem ports_pairs (l : List Rs) : portsOk l = true ↔ ∀ (i j : Nat) (x y : Rs), j < i → l[i]? = some x → l[j]? = some y → ¬ clash x y := by
  rw [portsOk_iff]
  unfold List.Nodup
  rw [List.pairwise_map, List.pairwise_filter, List.pairwise_iff_getElem]
  constructor
  · intro h i j x y hji hx hy ⟨c1, c2, c3⟩
    obtain ⟨hi, ex⟩ := List.getElem?_eq_some_iff.1 hx
    obtain ⟨hj, ey⟩ := List.getElem?_eq_some_iff.1 hy
    have h9 := h j i hj hi hji
    rw [ex, ey] at h9
    exact h9 (by simpa using c2) (by simpa using c1) c3.symm
  · intro h i j hi hj hij hp hq he
    exact h j i l[j] l[i] hij (List.getElem?_eq_getElem hj) (List.getElem?_eq_getElem hi) ⟨by simpa using hq, by simpa using hp, he.symm⟩
theorem noclash_start (l : List Rs) : NoClash l 0 0 := ⟨fun i j x y h => absurd h (by omega), fun j x y h => absurd h (by omega)⟩
theorem noclash_in {l : List Rs} {k q : Nat} {x y : Rs} (h : NoClash l k q) (hx : l[k]? = some x) (hy : l[q]? = some y) (hc : ¬ clash x y) : NoClash l k (q + 1) := ⟨h.1, fun j x' y' hj h1 h2 => by
  by_cases e : j = q
  · subst e
    rw [hx] at h1; rw [hy] at h2
    injection h1 with h1; injection h2 with h2
    subst h1 h2; exact hc
  · exact h.2 j x' y' (by omega) h1 h2⟩
theorem noclash_next {l : List Rs} {k q : Nat} (h : NoClash l k q) (hq : k ≤ q) : NoClash l (k + 1) 0 := ⟨fun i j x y hi hj h1 h2 => by
  by_cases e : i = k
  · subst e; exact h.2 j x y (by omega) h1 h2
  · exact h.1 i j x y (by omega) hj h1 h2, fun j x y hj => absurd hj (by omega)⟩
theorem noclash_end {l : List Rs} {k q : Nat} (h : NoClash l k q) (hk : l.length ≤ k) : portsOk l = true := (ports_pairs l).2 fun i j x y hj h1 h2 => h.1 i j x y (by
  have := (List.getElem?_eq_some_iff.1 h1).1
  omega) hj h1 h2
theorem clash_bad {l : List Rs} {k q : Nat} {x y : Rs} (hq : q < k) (hx : l[k]? = some x) (hy : l[q]? = some y) (hc : clash x y) : portsOk l = false := by
  cases h : portsOk l with
  | false => rfl
  | true => exact absurd hc ((ports_pairs l).1 h k q x y hq hx hy)

set_option maxRecDepth 100000 in
set_option maxHeartbeats 16000000 in
theorem refSane5_any (A : Option Addr) (n c : Nat) (l : List Rs) (w : World) (hm : n ≤ maxLen) (hA : ResL All w A n l) :
    Calls Tryz.prog 38 #[.slice A n c] w fun e w' => e = .returned (.int .i64 (saneT l)) ∧ Ext w w' := by
  have HA := Lib.hid hA
  have hln : l.length = n := hA.len
  have hm' : n ≤ 9223372036854775807 := by unfold maxLen at hm; exact hm
  clear hA hm
  by_cases hn : 64 < n
  · have HR : Hid (saneT l = 3) := Lib.hid (by unfold saneT; rw [if_pos (by omega)])
    go_enter Tryz.func38, Tryz.ntmps38
    go_wp2_with fail
    go_ret
    exact ⟨ret_int HR.out.symm, Ext.refl _⟩
  have HS0 : Hid (saneT l = if firstE saneR l ≠ 0 then firstE saneR l else if ordB l = false then 2 else if portsOk l = false then 13 else 0) := Lib.hid (by unfold saneT; rw [if_neg (by omega)])
  go_enter Tryz.func38, Tryz.ntmps38
  go_wp2_with fail
  go_loopw [3] (fun i wr => ∃ k : Nat, k ≤ n ∧ i = .int .i64 k ∧ Hid (firstE saneR l = firstE saneR (l.drop k)) ∧ Hid (Ext w wr)) (fun i _ => n - (intOf i).toNat)
  case atStart => exact ⟨0, Nat.zero_le _, by go_num, Lib.hid rfl, Lib.hid (Ext.refl _)⟩
  case round =>
    obtain ⟨k, hk, rfl, HS, HX⟩ := hrel
    by_cases hlt : k < n
    · obtain ⟨b, o, r, B, m, d, B', m', d', rfl, hbB, -, hlk, hv, hc0, hc1, hc2, hc3, hc4, hc5, hc6⟩ := ResL.at_ HA.out hlt
      have d0 : wr.cell? ⟨b, o + k * 7, none⟩ = some (.int .i64 r.kind) := (HX.out.cell hbB).trans hc0
      have d1 : wr.cell? ⟨b, o + k * 7 + 1, none⟩ = some (.string r.name) := (HX.out.cell hbB).trans hc1
      have d2 : wr.cell? ⟨b, o + k * 7 + 2, none⟩ = some (.int .i64 r.ver) := (HX.out.cell hbB).trans hc2
      have d3 : wr.cell? ⟨b, o + k * 7 + 3, none⟩ = some (.int .i64 r.port) := (HX.out.cell hbB).trans hc3
      have d4 : wr.cell? ⟨b, o + k * 7 + 4, none⟩ = some (.string r.to) := (HX.out.cell hbB).trans hc4
      have d5 : wr.cell? ⟨b, o + k * 7 + 5, none⟩ = some (.slice B m d) := (HX.out.cell hbB).trans hc5
      have d6 : wr.cell? ⟨b, o + k * 7 + 6, none⟩ = some (.slice B' m' d') := (HX.out.cell hbB).trans hc6
      have HL := Lib.hid hlk
      have HVr := Lib.hid hv
      have i1 : (0 : Int) ≤ (k : Int) := by omega
      have i2 : (k : Int) < (n : Int) := by omega
      clear hlk hv hc0 hc1 hc2 hc3 hc4 hc5 hc6
      go_wp2_with fail
      refine (refSane_any All r B B' m d m' d' _ (HVr.out.up HX.out)).mono ?_
      rintro e w1 ⟨rfl, hb1⟩
      have HX1 := Lib.hid (HX.out.trans hb1)
      clear hb1 d0 d1 d2 d3 d4 d5 d6
      obtain ⟨x, hx⟩ : ∃ x, x = saneR r := ⟨_, rfl⟩
      rw [← hx]
      have HSt : Hid (firstE saneR (l.drop k) = if x ≠ 0 then x else firstE saneR (l.drop (k + 1))) := Lib.hid (by rw [hx, drop_of HL.out]; rfl)
      clear hx
      by_cases h0 : x = 0
      · subst h0
        have HS2 : Hid (firstE saneR l = firstE saneR (l.drop (k + 1))) := Lib.hid (by rw [HS.out, HSt.out, if_neg (by simp)])
        go_wp2_with fail
        go_roundw
        case rel => exact ⟨k + 1, by omega, by go_num, HS2, HX1⟩
        case measure => simp [intOf]; omega
      · have hq : (x != 0) = true := by simpa using h0
        have HR : Hid (saneT l = x) := Lib.hid (by rw [HS0.out, HS.out, HSt.out, if_pos h0, if_pos h0])
        go_wp2_with fail
        go_ret
        exact ⟨ret_int HR.out.symm, HX1.out⟩
    · have hz : firstE saneR l = 0 := by rw [HS.out, List.drop_eq_nil_of_le (by omega)]; rfl
      have HS1 : Hid (saneT l = if ordB l = false then 2 else if portsOk l = false then 13 else 0) := Lib.hid (by rw [HS0.out, hz, if_neg (by simp)])
      have i2 : ¬ (k : Int) < (n : Int) := by omega
      clear hz HS HS0
      go_wp2_with fail
      clear i2
      go_loopw [5] (fun i wx => ∃ k : Nat, 1 ≤ k ∧ (k ≤ n ∨ k = 1) ∧ i = .int .i64 k ∧ Hid (ordB l = ordB (l.drop (k - 1))) ∧ Hid (Ext w wx)) (fun i _ => n - (intOf i).toNat)
      case atStart => exact ⟨1, Nat.le_refl _, .inr rfl, by go_num, Lib.hid rfl, HX⟩
      case round =>
        clear HX hlt hk
        obtain ⟨k, hk1, hk, rfl, HS, HX⟩ := hrel
        by_cases hlt : k < n
        · obtain ⟨kp, hkp⟩ : ∃ kp, kp + 1 = k := ⟨k - 1, by omega⟩
          obtain ⟨b, off, x, B, m, d, B', m', d', hA1, hbl0, -, hx, hv, dx0, dx1, dx2, dx3, dx4, dx5, dx6⟩ := ResL.at_ HA.out (show kp < n by omega)
          obtain ⟨b2, off2, y, C, p, f, C', p', f', hA2, hbl2, -, hy, hvy, dy0, dy1, dy2, dy3, dy4, dy5, dy6⟩ := ResL.at_ HA.out hlt
          rw [hA1] at hA2
          injection hA2 with hA2
          injection hA2 with e1 e2
          subst e1 e2 hA1
          have HNx := Lib.hid (show x.key.name.size ≤ maxLen from hv.nm)
          have HNy := Lib.hid (show y.key.name.size ≤ maxLen from hvy.nm)
          have HOS : Hid (ordB (l.drop (k - 1)) = (decide (cmpK x.key y.key < 0) && ordB (l.drop k))) := Lib.hid (by
            have h9 := ord_step hx (by rw [hkp]; exact hy)
            rw [hkp] at h9
            rw [show k - 1 = kp by omega]; exact h9)
          have i1 : (0 : Int) ≤ (k : Int) := by omega
          have i2 : (k : Int) < (n : Int) := by omega
          have i3 : (0 : Int) ≤ (kp : Int) := by omega
          have i4 : (kp : Int) < (n : Int) := by omega
          have i5 : IntKind.i64.wrap ((k : Int) - 1) = (kp : Int) := by rw [IntKind.wrap_i64]; omega
          have s0 : ∀ w', Ext wr.drew w' → w'.cell? ⟨b, off + kp * 7, none⟩ = some (.int .i64 x.kind) := fun w' h => ((HX.out.drew.trans h).cell hbl0).trans dx0
          have s1 : ∀ w', Ext wr.drew w' → w'.cell? ⟨b, off + kp * 7 + 1, none⟩ = some (.string x.name) := fun w' h => ((HX.out.drew.trans h).cell hbl0).trans dx1
          have s2 : ∀ w', Ext wr.drew w' → w'.cell? ⟨b, off + kp * 7 + 2, none⟩ = some (.int .i64 x.ver) := fun w' h => ((HX.out.drew.trans h).cell hbl0).trans dx2
          have s3 : ∀ w', Ext wr.drew w' → w'.cell? ⟨b, off + kp * 7 + 3, none⟩ = some (.int .i64 x.port) := fun w' h => ((HX.out.drew.trans h).cell hbl0).trans dx3
          have s4 : ∀ w', Ext wr.drew w' → w'.cell? ⟨b, off + kp * 7 + 4, none⟩ = some (.string x.to) := fun w' h => ((HX.out.drew.trans h).cell hbl0).trans dx4
          have s5 : ∀ w', Ext wr.drew w' → w'.cell? ⟨b, off + kp * 7 + 5, none⟩ = some (.slice B m d) := fun w' h => ((HX.out.drew.trans h).cell hbl0).trans dx5
          have s6 : ∀ w', Ext wr.drew w' → w'.cell? ⟨b, off + kp * 7 + 6, none⟩ = some (.slice B' m' d') := fun w' h => ((HX.out.drew.trans h).cell hbl0).trans dx6
          have t0 : ∀ w', Ext wr.drew w' → w'.cell? ⟨b, off + k * 7, none⟩ = some (.int .i64 y.kind) := fun w' h => ((HX.out.drew.trans h).cell hbl0).trans dy0
          have t1 : ∀ w', Ext wr.drew w' → w'.cell? ⟨b, off + k * 7 + 1, none⟩ = some (.string y.name) := fun w' h => ((HX.out.drew.trans h).cell hbl0).trans dy1
          have t2 : ∀ w', Ext wr.drew w' → w'.cell? ⟨b, off + k * 7 + 2, none⟩ = some (.int .i64 y.ver) := fun w' h => ((HX.out.drew.trans h).cell hbl0).trans dy2
          have t3 : ∀ w', Ext wr.drew w' → w'.cell? ⟨b, off + k * 7 + 3, none⟩ = some (.int .i64 y.port) := fun w' h => ((HX.out.drew.trans h).cell hbl0).trans dy3
          have t4 : ∀ w', Ext wr.drew w' → w'.cell? ⟨b, off + k * 7 + 4, none⟩ = some (.string y.to) := fun w' h => ((HX.out.drew.trans h).cell hbl0).trans dy4
          have t5 : ∀ w', Ext wr.drew w' → w'.cell? ⟨b, off + k * 7 + 5, none⟩ = some (.slice C p f) := fun w' h => ((HX.out.drew.trans h).cell hbl0).trans dy5
          have t6 : ∀ w', Ext wr.drew w' → w'.cell? ⟨b, off + k * 7 + 6, none⟩ = some (.slice C' p' f') := fun w' h => ((HX.out.drew.trans h).cell hbl0).trans dy6
          have x0 : Ext wr.drew wr.drew := Ext.refl _
          clear hx hv hy hvy dx0 dx1 dx2 dx3 dx4 dx5 dx6 dy0 dy1 dy2 dy3 dy4 dy5 dy6 hkp
          go_wp2_with fail
          have hSw : Ext wr.drew wr.drew := x0
          refine wpS_begin (Ext wr.drew) (by kernel_rfl) ?_
          refine wpS_take 0 (v := ?_) hSw rfl (by kernel_rfl) (by kernel_rfl) (by kernel_rfl) (by rfl) (fun w' hin => ?_) ?_
          rotate_left
          · (try simp only [] at hin); go_simp <;> with_reducible rfl
          try simp only [Act.put, List.setIfInBounds_toArray, List.set_cons_zero, List.set_cons_succ]
          refine wpS_take 1 (v := ?_) hSw rfl (by kernel_rfl) (by kernel_rfl) (by kernel_rfl) (by rfl) (fun w' hin => ?_) ?_
          rotate_left
          · (try simp only [] at hin); go_simp <;> with_reducible rfl
          try simp only [Act.put, List.setIfInBounds_toArray, List.set_cons_zero, List.set_cons_succ]
          refine wpS_take 2 (v := ?_) hSw rfl (by kernel_rfl) (by kernel_rfl) (by kernel_rfl) (by rfl) (fun w' hin => ?_) ?_
          rotate_left
          · (try simp only [] at hin); go_simp <;> with_reducible rfl
          try simp only [Act.put, List.setIfInBounds_toArray, List.set_cons_zero, List.set_cons_succ]
          refine wpS_take 3 (v := ?_) hSw rfl (by kernel_rfl) (by kernel_rfl) (by kernel_rfl) (by rfl) (fun w' hin => ?_) ?_
          rotate_left
          · (try simp only [] at hin); go_simp <;> with_reducible rfl
          try simp only [Act.put, List.setIfInBounds_toArray, List.set_cons_zero, List.set_cons_succ]
          refine wpS_take 4 (v := ?_) hSw rfl (by kernel_rfl) (by kernel_rfl) (by kernel_rfl) (by rfl) (fun w' hin => ?_) ?_
          rotate_left
          · (try simp only [] at hin); go_simp <;> with_reducible rfl
          try simp only [Act.put, List.setIfInBounds_toArray, List.set_cons_zero, List.set_cons_succ]
          refine wpS_take 6 (v := ?_) hSw rfl (by kernel_rfl) (by kernel_rfl) (by kernel_rfl) (by rfl) (fun w' hin => ?_) ?_
          rotate_left
          · (try simp only [] at hin); go_simp <;> with_reducible rfl
          try simp only [Act.put, List.setIfInBounds_toArray, List.set_cons_zero, List.set_cons_succ]
          refine wpS_take 7 (v := ?_) hSw rfl (by kernel_rfl) (by kernel_rfl) (by kernel_rfl) (by rfl) (fun w' hin => ?_) ?_
          rotate_left
          · (try simp only [] at hin); go_simp <;> with_reducible rfl
          try simp only [Act.put, List.setIfInBounds_toArray, List.set_cons_zero, List.set_cons_succ]
          refine wpS_take 8 (v := ?_) hSw rfl (by kernel_rfl) (by kernel_rfl) (by kernel_rfl) (by rfl) (fun w' hin => ?_) ?_
          rotate_left
          · (try simp only [] at hin); go_simp <;> with_reducible rfl
          try simp only [Act.put, List.setIfInBounds_toArray, List.set_cons_zero, List.set_cons_succ]
          refine wpS_take 9 (v := ?_) hSw rfl (by kernel_rfl) (by kernel_rfl) (by kernel_rfl) (by rfl) (fun w' hin => ?_) ?_
          rotate_left
          · (try simp only [] at hin); go_simp <;> with_reducible rfl
          try simp only [Act.put, List.setIfInBounds_toArray, List.set_cons_zero, List.set_cons_succ]
          refine wpS_one 5 rfl (by kernel_rfl) (by rfl) (fun K hK => ?_)
          go_simp
          refine (refKey_any x B B' m d m' d' _).mono ?_
          rintro e w5 ⟨rfl, hbw5⟩
          have Ew5 : Ext wr.drew w5 := Ext.trans x0 hbw5
          simp only []
          refine hK.out _ _ (Ext wr.drew) (fun _ h => h) (Ew5) (fun hSw => ?_)
          clear hK K
          try simp only [Act.put, List.setIfInBounds_toArray, List.set_cons_zero, List.set_cons_succ]
          refine wpS_one 10 rfl (by kernel_rfl) (by rfl) (fun K hK => ?_)
          go_simp
          refine (refKey_any y C C' p f p' f' _).mono ?_
          rintro e w6 ⟨rfl, hbw6⟩
          have Ew6 : Ext wr.drew w6 := Ext.trans Ew5 hbw6
          simp only []
          refine hK.out _ _ (Ext wr.drew) (fun _ h => h) (Ew6) (fun hSw => ?_)
          clear hK K
          try simp only [Act.put, List.setIfInBounds_toArray, List.set_cons_zero, List.set_cons_succ]
          refine wpS_one 11 rfl (by kernel_rfl) (by rfl) (fun K hK => ?_)
          go_simp
          refine (refCmp03_any x.key y.key _ HNx.out HNy.out).mono ?_
          rintro e w7 ⟨rfl, hbw7⟩
          have Ew7 : Ext wr.drew w7 := Ext.trans Ew6 hbw7
          simp only []
          refine hK.out _ _ (Ext wr.drew) (fun _ h => h) (Ew7) (fun hSw => ?_)
          clear hK K
          try simp only [Act.put, List.setIfInBounds_toArray, List.set_cons_zero, List.set_cons_succ]
          refine wpS_take 12 (v := ?_) hSw rfl (by kernel_rfl) (by kernel_rfl) (by kernel_rfl) (by rfl) (fun w' hin => ?_) ?_
          rotate_left
          · (try simp only [] at hin); go_simp <;> with_reducible rfl
          try simp only [Act.put, List.setIfInBounds_toArray, List.set_cons_zero, List.set_cons_succ]
          refine wpS_done (by kernel_rfl) ?_
          have HX2 := Lib.hid (HX.out.drew.trans hSw)
          clear hSw x0 s0 s1 s2 s3 s4 s5 s6 t0 t1 t2 t3 t4 t5 t6 i5
          cases hc : decide (cmpK x.key y.key < 0) with
          | true =>
            have hv0 : cmpK x.key y.key < 0 := of_decide_eq_true hc
            have HS2 : Hid (ordB l = ordB (l.drop (k + 1 - 1))) := Lib.hid (by rw [HS.out, HOS.out, hc]; rfl)
            have hq : ¬ (0 : Int) ≤ cmpK x.key y.key := by omega
            clear hc
            go_wp2_with fail
            go_roundw
            case rel => exact ⟨k + 1, by omega, by omega, by go_num, HS2, HX2⟩
            case measure => simp [intOf]; omega
          | false =>
            have hv0 : ¬ cmpK x.key y.key < 0 := of_decide_eq_false hc
            have HR : Hid (saneT l = 2) := Lib.hid (by rw [HS1.out, HS.out, HOS.out, hc]; rfl)
            have hq : (0 : Int) ≤ cmpK x.key y.key := by omega
            clear hc
            go_wp2_with fail
            go_ret
            exact ⟨ret_int HR.out.symm, HX2.out⟩
        · have HO : Hid (ordB l = true) := Lib.hid (by rw [HS.out]; exact ord_end (by omega))
          have HS2 : Hid (saneT l = if portsOk l = false then 13 else 0) := Lib.hid (by rw [HS1.out, HO.out, if_neg (by decide)])
          have i2 : ¬ (k : Int) < (n : Int) := by omega
          clear HS HS1 HO
          go_wp2_with fail
          clear i2 hlt hk hk1
          go_loopw [6] (fun i wx => ∃ k : Nat, k ≤ n ∧ i = .int .i64 k ∧ Hid (NoClash l k 0) ∧ Hid (Ext w wx)) (fun i _ => n - (intOf i).toNat)
          case atStart => exact ⟨0, Nat.zero_le _, by go_num, Lib.hid (noclash_start l), HX⟩
          case round =>
            clear HX
            obtain ⟨k, hk, rfl, HN, HX⟩ := hrel
            by_cases hlt : k < n
            · obtain ⟨b, off, x, B, m, d, B', m', d', rfl, hbl0, -, hx, hv, dx0, dx1, dx2, dx3, dx4, dx5, dx6⟩ := ResL.at_ HA.out hlt
              have HLX := Lib.hid hx
              have i1 : (0 : Int) ≤ (k : Int) := by omega
              have i2 : (k : Int) < (n : Int) := by omega
              have HDX : Hid (∀ w', Ext w w' → w'.cell? ⟨b, off + k * 7, none⟩ = some (.int .i64 x.kind) ∧ w'.cell? ⟨b, off + k * 7 + 3, none⟩ = some (.int .i64 x.port)) := Lib.hid (fun w' h => ⟨(h.cell hbl0).trans dx0, (h.cell hbl0).trans dx3⟩)
              clear hx hv dx0 dx1 dx2 dx3 dx4 dx5 dx6
              go_wp2_with fail
              go_loopw [7] (fun i wx => ∃ q : Nat, q ≤ k ∧ i = .int .i64 q ∧ Hid (NoClash l k q) ∧ Hid (Ext w wx)) (fun i _ => k - (intOf i).toNat)
              case atStart => exact ⟨0, Nat.zero_le _, by go_num, HN, HX⟩
              case round =>
                clear HX HN
                obtain ⟨q, hq, rfl, HN, HX⟩ := hrel
                by_cases hlq : q < k
                · obtain ⟨b2, off2, y, C, p, f, C', p', f', hA2, hbl2, -, hy, hvy, dy0, dy1, dy2, dy3, dy4, dy5, dy6⟩ := ResL.at_ HA.out (show q < n by omega)
                  injection hA2 with hA2
                  injection hA2 with e1 e2
                  subst e1 e2
                  have HLY := Lib.hid hy
                  have j1 : (0 : Int) ≤ (q : Int) := by omega
                  have j2 : (q : Int) < (n : Int) := by omega
                  have j3 : (q : Int) < (k : Int) := by omega
                  have s0 : ∀ w', Ext wr.drew w' → w'.cell? ⟨b, off + k * 7, none⟩ = some (.int .i64 x.kind) := fun w' h => (HDX.out w' (HX.out.drew.trans h)).1
                  have s3 : ∀ w', Ext wr.drew w' → w'.cell? ⟨b, off + k * 7 + 3, none⟩ = some (.int .i64 x.port) := fun w' h => (HDX.out w' (HX.out.drew.trans h)).2
                  have t0 : ∀ w', Ext wr.drew w' → w'.cell? ⟨b, off + q * 7, none⟩ = some (.int .i64 y.kind) := fun w' h => ((HX.out.drew.trans h).cell hbl2).trans dy0
                  have t3 : ∀ w', Ext wr.drew w' → w'.cell? ⟨b, off + q * 7 + 3, none⟩ = some (.int .i64 y.port) := fun w' h => ((HX.out.drew.trans h).cell hbl2).trans dy3
                  have x0 : Ext wr.drew wr.drew := Ext.refl _
                  clear hy hvy dy0 dy1 dy2 dy3 dy4 dy5 dy6
                  by_cases hkx : x.kind = 0
                  rotate_left
                  · have g1 : (x.kind == 0) = false := by simpa using hkx
                    have HN2 := Lib.hid (noclash_in HN.out HLX.out HLY.out (fun h => hkx h.1))
                    clear hkx
                    go_wp2_with fail
                    have hSw : Ext wr.drew wr.drew := x0
                    refine wpS_begin (Ext wr.drew) (by kernel_rfl) ?_
                    refine wpS_take 0 (v := ?_) hSw rfl (by kernel_rfl) (by kernel_rfl) (by kernel_rfl) (by rfl) (fun w' hin => ?_) ?_
                    rotate_left
                    · (try simp only [] at hin); go_simp <;> with_reducible rfl
                    try simp only [Act.put, List.setIfInBounds_toArray, List.set_cons_zero, List.set_cons_succ]
                    refine wpS_take 1 (v := ?_) hSw rfl (by kernel_rfl) (by kernel_rfl) (by kernel_rfl) (by rfl) (fun w' hin => ?_) ?_
                    rotate_left
                    · (try simp only [] at hin); go_simp <;> with_reducible rfl
                    try simp only [Act.put, List.setIfInBounds_toArray, List.set_cons_zero, List.set_cons_succ]
                    refine wpS_take 2 (v := ?_) hSw rfl (by kernel_rfl) (by kernel_rfl) (by kernel_rfl) (by rfl) (fun w' hin => ?_) ?_
                    rotate_left
                    · (try simp only [] at hin); go_simp <;> with_reducible rfl
                    try simp only [Act.put, List.setIfInBounds_toArray, List.set_cons_zero, List.set_cons_succ]
                    refine wpS_take 3 (v := ?_) hSw rfl (by kernel_rfl) (by kernel_rfl) (by kernel_rfl) (by rfl) (fun w' hin => ?_) ?_
                    rotate_left
                    · (try simp only [] at hin); go_simp <;> with_reducible rfl
                    try simp only [Act.put, List.setIfInBounds_toArray, List.set_cons_zero, List.set_cons_succ]
                    refine wpS_take 4 (v := ?_) hSw rfl (by kernel_rfl) (by kernel_rfl) (by kernel_rfl) (by rfl) (fun w' hin => ?_) ?_
                    rotate_left
                    · (try simp only [] at hin); go_simp <;> with_reducible rfl
                    try simp only [Act.put, List.setIfInBounds_toArray, List.set_cons_zero, List.set_cons_succ]
                    refine wpS_take 5 (v := ?_) hSw rfl (by kernel_rfl) (by kernel_rfl) (by kernel_rfl) (by rfl) (fun w' hin => ?_) ?_
                    rotate_left
                    · (try simp only [] at hin); go_simp <;> with_reducible rfl
                    try simp only [Act.put, List.setIfInBounds_toArray, List.set_cons_zero, List.set_cons_succ]
                    refine wpS_take 6 (v := ?_) hSw rfl (by kernel_rfl) (by kernel_rfl) (by kernel_rfl) (by rfl) (fun w' hin => ?_) ?_
                    rotate_left
                    · (try simp only [] at hin); go_simp <;> with_reducible rfl
                    try simp only [Act.put, List.setIfInBounds_toArray, List.set_cons_zero, List.set_cons_succ]
                    refine wpS_skip 7 hSw rfl (by kernel_rfl) (by kernel_rfl) (by kernel_rfl) (by rfl) ?_
                    try simp only [Act.put, List.setIfInBounds_toArray, List.set_cons_zero, List.set_cons_succ]
                    refine wpS_skip 8 hSw rfl (by kernel_rfl) (by kernel_rfl) (by kernel_rfl) (by rfl) ?_
                    try simp only [Act.put, List.setIfInBounds_toArray, List.set_cons_zero, List.set_cons_succ]
                    refine wpS_skip 9 hSw rfl (by kernel_rfl) (by kernel_rfl) (by kernel_rfl) (by rfl) ?_
                    try simp only [Act.put, List.setIfInBounds_toArray, List.set_cons_zero, List.set_cons_succ]
                    refine wpS_skip 10 hSw rfl (by kernel_rfl) (by kernel_rfl) (by kernel_rfl) (by rfl) ?_
                    try simp only [Act.put, List.setIfInBounds_toArray, List.set_cons_zero, List.set_cons_succ]
                    refine wpS_skip 11 hSw rfl (by kernel_rfl) (by kernel_rfl) (by kernel_rfl) (by rfl) ?_
                    try simp only [Act.put, List.setIfInBounds_toArray, List.set_cons_zero, List.set_cons_succ]
                    refine wpS_skip 12 hSw rfl (by kernel_rfl) (by kernel_rfl) (by kernel_rfl) (by rfl) ?_
                    try simp only [Act.put, List.setIfInBounds_toArray, List.set_cons_zero, List.set_cons_succ]
                    refine wpS_take 13 (v := ?_) hSw rfl (by kernel_rfl) (by kernel_rfl) (by kernel_rfl) (by rfl) (fun w' hin => ?_) ?_
                    rotate_left
                    · (try simp only [] at hin); go_simp <;> with_reducible rfl
                    try simp only [Act.put, List.setIfInBounds_toArray, List.set_cons_zero, List.set_cons_succ]
                    refine wpS_take 14 (v := ?_) hSw rfl (by kernel_rfl) (by kernel_rfl) (by kernel_rfl) (by rfl) (fun w' hin => ?_) ?_
                    rotate_left
                    · (try simp only [] at hin); go_simp <;> with_reducible rfl
                    try simp only [Act.put, List.setIfInBounds_toArray, List.set_cons_zero, List.set_cons_succ]
                    refine wpS_skip 15 hSw rfl (by kernel_rfl) (by kernel_rfl) (by kernel_rfl) (by rfl) ?_
                    try simp only [Act.put, List.setIfInBounds_toArray, List.set_cons_zero, List.set_cons_succ]
                    refine wpS_skip 16 hSw rfl (by kernel_rfl) (by kernel_rfl) (by kernel_rfl) (by rfl) ?_
                    try simp only [Act.put, List.setIfInBounds_toArray, List.set_cons_zero, List.set_cons_succ]
                    refine wpS_skip 17 hSw rfl (by kernel_rfl) (by kernel_rfl) (by kernel_rfl) (by rfl) ?_
                    try simp only [Act.put, List.setIfInBounds_toArray, List.set_cons_zero, List.set_cons_succ]
                    refine wpS_skip 18 hSw rfl (by kernel_rfl) (by kernel_rfl) (by kernel_rfl) (by rfl) ?_
                    try simp only [Act.put, List.setIfInBounds_toArray, List.set_cons_zero, List.set_cons_succ]
                    refine wpS_skip 19 hSw rfl (by kernel_rfl) (by kernel_rfl) (by kernel_rfl) (by rfl) ?_
                    try simp only [Act.put, List.setIfInBounds_toArray, List.set_cons_zero, List.set_cons_succ]
                    refine wpS_skip 20 hSw rfl (by kernel_rfl) (by kernel_rfl) (by kernel_rfl) (by rfl) ?_
                    try simp only [Act.put, List.setIfInBounds_toArray, List.set_cons_zero, List.set_cons_succ]
                    refine wpS_skip 21 hSw rfl (by kernel_rfl) (by kernel_rfl) (by kernel_rfl) (by rfl) ?_
                    try simp only [Act.put, List.setIfInBounds_toArray, List.set_cons_zero, List.set_cons_succ]
                    refine wpS_skip 22 hSw rfl (by kernel_rfl) (by kernel_rfl) (by kernel_rfl) (by rfl) ?_
                    try simp only [Act.put, List.setIfInBounds_toArray, List.set_cons_zero, List.set_cons_succ]
                    refine wpS_skip 23 hSw rfl (by kernel_rfl) (by kernel_rfl) (by kernel_rfl) (by rfl) ?_
                    try simp only [Act.put, List.setIfInBounds_toArray, List.set_cons_zero, List.set_cons_succ]
                    refine wpS_skip 24 hSw rfl (by kernel_rfl) (by kernel_rfl) (by kernel_rfl) (by rfl) ?_
                    try simp only [Act.put, List.setIfInBounds_toArray, List.set_cons_zero, List.set_cons_succ]
                    refine wpS_skip 25 hSw rfl (by kernel_rfl) (by kernel_rfl) (by kernel_rfl) (by rfl) ?_
                    try simp only [Act.put, List.setIfInBounds_toArray, List.set_cons_zero, List.set_cons_succ]
                    refine wpS_take 26 (v := ?_) hSw rfl (by kernel_rfl) (by kernel_rfl) (by kernel_rfl) (by rfl) (fun w' hin => ?_) ?_
                    rotate_left
                    · (try simp only [] at hin); go_simp <;> with_reducible rfl
                    try simp only [Act.put, List.setIfInBounds_toArray, List.set_cons_zero, List.set_cons_succ]
                    refine wpS_done (by kernel_rfl) ?_
                    have HX2 := Lib.hid (HX.out.drew.trans hSw)
                    clear hSw x0 s0 s3 t0 t3
                    go_wp2_with fail
                    go_roundw
                    case rel => exact ⟨q + 1, by omega, by go_num, HN2, HX2⟩
                    case measure => simp [intOf]; omega
                  have g1 : (x.kind == 0) = true := by simpa using hkx
                  by_cases hky : y.kind = 0
                  rotate_left
                  · have g2 : (y.kind == 0) = false := by simpa using hky
                    have HN2 := Lib.hid (noclash_in HN.out HLX.out HLY.out (fun h => hky h.2.1))
                    clear hkx hky
                    go_wp2_with fail
                    have hSw : Ext wr.drew wr.drew := x0
                    refine wpS_begin (Ext wr.drew) (by kernel_rfl) ?_
                    refine wpS_take 0 (v := ?_) hSw rfl (by kernel_rfl) (by kernel_rfl) (by kernel_rfl) (by rfl) (fun w' hin => ?_) ?_
                    rotate_left
                    · (try simp only [] at hin); go_simp <;> with_reducible rfl
                    try simp only [Act.put, List.setIfInBounds_toArray, List.set_cons_zero, List.set_cons_succ]
                    refine wpS_take 1 (v := ?_) hSw rfl (by kernel_rfl) (by kernel_rfl) (by kernel_rfl) (by rfl) (fun w' hin => ?_) ?_
                    rotate_left
                    · (try simp only [] at hin); go_simp <;> with_reducible rfl
                    try simp only [Act.put, List.setIfInBounds_toArray, List.set_cons_zero, List.set_cons_succ]
                    refine wpS_take 2 (v := ?_) hSw rfl (by kernel_rfl) (by kernel_rfl) (by kernel_rfl) (by rfl) (fun w' hin => ?_) ?_
                    rotate_left
                    · (try simp only [] at hin); go_simp <;> with_reducible rfl
                    try simp only [Act.put, List.setIfInBounds_toArray, List.set_cons_zero, List.set_cons_succ]
                    refine wpS_take 3 (v := ?_) hSw rfl (by kernel_rfl) (by kernel_rfl) (by kernel_rfl) (by rfl) (fun w' hin => ?_) ?_
                    rotate_left
                    · (try simp only [] at hin); go_simp <;> with_reducible rfl
                    try simp only [Act.put, List.setIfInBounds_toArray, List.set_cons_zero, List.set_cons_succ]
                    refine wpS_take 4 (v := ?_) hSw rfl (by kernel_rfl) (by kernel_rfl) (by kernel_rfl) (by rfl) (fun w' hin => ?_) ?_
                    rotate_left
                    · (try simp only [] at hin); go_simp <;> with_reducible rfl
                    try simp only [Act.put, List.setIfInBounds_toArray, List.set_cons_zero, List.set_cons_succ]
                    refine wpS_take 5 (v := ?_) hSw rfl (by kernel_rfl) (by kernel_rfl) (by kernel_rfl) (by rfl) (fun w' hin => ?_) ?_
                    rotate_left
                    · (try simp only [] at hin); go_simp <;> with_reducible rfl
                    try simp only [Act.put, List.setIfInBounds_toArray, List.set_cons_zero, List.set_cons_succ]
                    refine wpS_take 6 (v := ?_) hSw rfl (by kernel_rfl) (by kernel_rfl) (by kernel_rfl) (by rfl) (fun w' hin => ?_) ?_
                    rotate_left
                    · (try simp only [] at hin); go_simp <;> with_reducible rfl
                    try simp only [Act.put, List.setIfInBounds_toArray, List.set_cons_zero, List.set_cons_succ]
                    refine wpS_take 7 (v := ?_) hSw rfl (by kernel_rfl) (by kernel_rfl) (by kernel_rfl) (by rfl) (fun w' hin => ?_) ?_
                    rotate_left
                    · (try simp only [] at hin); go_simp <;> with_reducible rfl
                    try simp only [Act.put, List.setIfInBounds_toArray, List.set_cons_zero, List.set_cons_succ]
                    refine wpS_take 8 (v := ?_) hSw rfl (by kernel_rfl) (by kernel_rfl) (by kernel_rfl) (by rfl) (fun w' hin => ?_) ?_
                    rotate_left
                    · (try simp only [] at hin); go_simp <;> with_reducible rfl
                    try simp only [Act.put, List.setIfInBounds_toArray, List.set_cons_zero, List.set_cons_succ]
                    refine wpS_take 9 (v := ?_) hSw rfl (by kernel_rfl) (by kernel_rfl) (by kernel_rfl) (by rfl) (fun w' hin => ?_) ?_
                    rotate_left
                    · (try simp only [] at hin); go_simp <;> with_reducible rfl
                    try simp only [Act.put, List.setIfInBounds_toArray, List.set_cons_zero, List.set_cons_succ]
                    refine wpS_take 10 (v := ?_) hSw rfl (by kernel_rfl) (by kernel_rfl) (by kernel_rfl) (by rfl) (fun w' hin => ?_) ?_
                    rotate_left
                    · (try simp only [] at hin); go_simp <;> with_reducible rfl
                    try simp only [Act.put, List.setIfInBounds_toArray, List.set_cons_zero, List.set_cons_succ]
                    refine wpS_take 11 (v := ?_) hSw rfl (by kernel_rfl) (by kernel_rfl) (by kernel_rfl) (by rfl) (fun w' hin => ?_) ?_
                    rotate_left
                    · (try simp only [] at hin); go_simp <;> with_reducible rfl
                    try simp only [Act.put, List.setIfInBounds_toArray, List.set_cons_zero, List.set_cons_succ]
                    refine wpS_take 12 (v := ?_) hSw rfl (by kernel_rfl) (by kernel_rfl) (by kernel_rfl) (by rfl) (fun w' hin => ?_) ?_
                    rotate_left
                    · (try simp only [] at hin); go_simp <;> with_reducible rfl
                    try simp only [Act.put, List.setIfInBounds_toArray, List.set_cons_zero, List.set_cons_succ]
                    refine wpS_take 13 (v := ?_) hSw rfl (by kernel_rfl) (by kernel_rfl) (by kernel_rfl) (by rfl) (fun w' hin => ?_) ?_
                    rotate_left
                    · (try simp only [] at hin); go_simp <;> with_reducible rfl
                    try simp only [Act.put, List.setIfInBounds_toArray, List.set_cons_zero, List.set_cons_succ]
                    refine wpS_take 14 (v := ?_) hSw rfl (by kernel_rfl) (by kernel_rfl) (by kernel_rfl) (by rfl) (fun w' hin => ?_) ?_
                    rotate_left
                    · (try simp only [] at hin); go_simp <;> with_reducible rfl
                    try simp only [Act.put, List.setIfInBounds_toArray, List.set_cons_zero, List.set_cons_succ]
                    refine wpS_skip 15 hSw rfl (by kernel_rfl) (by kernel_rfl) (by kernel_rfl) (by rfl) ?_
                    try simp only [Act.put, List.setIfInBounds_toArray, List.set_cons_zero, List.set_cons_succ]
                    refine wpS_skip 16 hSw rfl (by kernel_rfl) (by kernel_rfl) (by kernel_rfl) (by rfl) ?_
                    try simp only [Act.put, List.setIfInBounds_toArray, List.set_cons_zero, List.set_cons_succ]
                    refine wpS_skip 17 hSw rfl (by kernel_rfl) (by kernel_rfl) (by kernel_rfl) (by rfl) ?_
                    try simp only [Act.put, List.setIfInBounds_toArray, List.set_cons_zero, List.set_cons_succ]
                    refine wpS_skip 18 hSw rfl (by kernel_rfl) (by kernel_rfl) (by kernel_rfl) (by rfl) ?_
                    try simp only [Act.put, List.setIfInBounds_toArray, List.set_cons_zero, List.set_cons_succ]
                    refine wpS_skip 19 hSw rfl (by kernel_rfl) (by kernel_rfl) (by kernel_rfl) (by rfl) ?_
                    try simp only [Act.put, List.setIfInBounds_toArray, List.set_cons_zero, List.set_cons_succ]
                    refine wpS_skip 20 hSw rfl (by kernel_rfl) (by kernel_rfl) (by kernel_rfl) (by rfl) ?_
                    try simp only [Act.put, List.setIfInBounds_toArray, List.set_cons_zero, List.set_cons_succ]
                    refine wpS_skip 21 hSw rfl (by kernel_rfl) (by kernel_rfl) (by kernel_rfl) (by rfl) ?_
                    try simp only [Act.put, List.setIfInBounds_toArray, List.set_cons_zero, List.set_cons_succ]
                    refine wpS_skip 22 hSw rfl (by kernel_rfl) (by kernel_rfl) (by kernel_rfl) (by rfl) ?_
                    try simp only [Act.put, List.setIfInBounds_toArray, List.set_cons_zero, List.set_cons_succ]
                    refine wpS_skip 23 hSw rfl (by kernel_rfl) (by kernel_rfl) (by kernel_rfl) (by rfl) ?_
                    try simp only [Act.put, List.setIfInBounds_toArray, List.set_cons_zero, List.set_cons_succ]
                    refine wpS_skip 24 hSw rfl (by kernel_rfl) (by kernel_rfl) (by kernel_rfl) (by rfl) ?_
                    try simp only [Act.put, List.setIfInBounds_toArray, List.set_cons_zero, List.set_cons_succ]
                    refine wpS_skip 25 hSw rfl (by kernel_rfl) (by kernel_rfl) (by kernel_rfl) (by rfl) ?_
                    try simp only [Act.put, List.setIfInBounds_toArray, List.set_cons_zero, List.set_cons_succ]
                    refine wpS_take 26 (v := ?_) hSw rfl (by kernel_rfl) (by kernel_rfl) (by kernel_rfl) (by rfl) (fun w' hin => ?_) ?_
                    rotate_left
                    · (try simp only [] at hin); go_simp <;> with_reducible rfl
                    try simp only [Act.put, List.setIfInBounds_toArray, List.set_cons_zero, List.set_cons_succ]
                    refine wpS_done (by kernel_rfl) ?_
                    have HX2 := Lib.hid (HX.out.drew.trans hSw)
                    clear hSw x0 s0 s3 t0 t3
                    go_wp2_with fail
                    go_roundw
                    case rel => exact ⟨q + 1, by omega, by go_num, HN2, HX2⟩
                    case measure => simp [intOf]; omega
                  have g2 : (y.kind == 0) = true := by simpa using hky
                  by_cases hp : x.port = y.port
                  rotate_left
                  · have g3 : (x.port == y.port) = false := by simpa using hp
                    have HN2 := Lib.hid (noclash_in HN.out HLX.out HLY.out (fun h => hp h.2.2))
                    clear hkx hky hp
                    go_wp2_with fail
                    have hSw : Ext wr.drew wr.drew := x0
                    refine wpS_begin (Ext wr.drew) (by kernel_rfl) ?_
                    refine wpS_take 0 (v := ?_) hSw rfl (by kernel_rfl) (by kernel_rfl) (by kernel_rfl) (by rfl) (fun w' hin => ?_) ?_
                    rotate_left
                    · (try simp only [] at hin); go_simp <;> with_reducible rfl
                    try simp only [Act.put, List.setIfInBounds_toArray, List.set_cons_zero, List.set_cons_succ]
                    refine wpS_take 1 (v := ?_) hSw rfl (by kernel_rfl) (by kernel_rfl) (by kernel_rfl) (by rfl) (fun w' hin => ?_) ?_
                    rotate_left
                    · (try simp only [] at hin); go_simp <;> with_reducible rfl
                    try simp only [Act.put, List.setIfInBounds_toArray, List.set_cons_zero, List.set_cons_succ]
                    refine wpS_take 2 (v := ?_) hSw rfl (by kernel_rfl) (by kernel_rfl) (by kernel_rfl) (by rfl) (fun w' hin => ?_) ?_
                    rotate_left
                    · (try simp only [] at hin); go_simp <;> with_reducible rfl
                    try simp only [Act.put, List.setIfInBounds_toArray, List.set_cons_zero, List.set_cons_succ]
                    refine wpS_take 3 (v := ?_) hSw rfl (by kernel_rfl) (by kernel_rfl) (by kernel_rfl) (by rfl) (fun w' hin => ?_) ?_
                    rotate_left
                    · (try simp only [] at hin); go_simp <;> with_reducible rfl
                    try simp only [Act.put, List.setIfInBounds_toArray, List.set_cons_zero, List.set_cons_succ]
                    refine wpS_take 4 (v := ?_) hSw rfl (by kernel_rfl) (by kernel_rfl) (by kernel_rfl) (by rfl) (fun w' hin => ?_) ?_
                    rotate_left
                    · (try simp only [] at hin); go_simp <;> with_reducible rfl
                    try simp only [Act.put, List.setIfInBounds_toArray, List.set_cons_zero, List.set_cons_succ]
                    refine wpS_take 5 (v := ?_) hSw rfl (by kernel_rfl) (by kernel_rfl) (by kernel_rfl) (by rfl) (fun w' hin => ?_) ?_
                    rotate_left
                    · (try simp only [] at hin); go_simp <;> with_reducible rfl
                    try simp only [Act.put, List.setIfInBounds_toArray, List.set_cons_zero, List.set_cons_succ]
                    refine wpS_take 6 (v := ?_) hSw rfl (by kernel_rfl) (by kernel_rfl) (by kernel_rfl) (by rfl) (fun w' hin => ?_) ?_
                    rotate_left
                    · (try simp only [] at hin); go_simp <;> with_reducible rfl
                    try simp only [Act.put, List.setIfInBounds_toArray, List.set_cons_zero, List.set_cons_succ]
                    refine wpS_take 7 (v := ?_) hSw rfl (by kernel_rfl) (by kernel_rfl) (by kernel_rfl) (by rfl) (fun w' hin => ?_) ?_
                    rotate_left
                    · (try simp only [] at hin); go_simp <;> with_reducible rfl
                    try simp only [Act.put, List.setIfInBounds_toArray, List.set_cons_zero, List.set_cons_succ]
                    refine wpS_take 8 (v := ?_) hSw rfl (by kernel_rfl) (by kernel_rfl) (by kernel_rfl) (by rfl) (fun w' hin => ?_) ?_
                    rotate_left
                    · (try simp only [] at hin); go_simp <;> with_reducible rfl
                    try simp only [Act.put, List.setIfInBounds_toArray, List.set_cons_zero, List.set_cons_succ]
                    refine wpS_take 9 (v := ?_) hSw rfl (by kernel_rfl) (by kernel_rfl) (by kernel_rfl) (by rfl) (fun w' hin => ?_) ?_
                    rotate_left
                    · (try simp only [] at hin); go_simp <;> with_reducible rfl
                    try simp only [Act.put, List.setIfInBounds_toArray, List.set_cons_zero, List.set_cons_succ]
                    refine wpS_take 10 (v := ?_) hSw rfl (by kernel_rfl) (by kernel_rfl) (by kernel_rfl) (by rfl) (fun w' hin => ?_) ?_
                    rotate_left
                    · (try simp only [] at hin); go_simp <;> with_reducible rfl
                    try simp only [Act.put, List.setIfInBounds_toArray, List.set_cons_zero, List.set_cons_succ]
                    refine wpS_take 11 (v := ?_) hSw rfl (by kernel_rfl) (by kernel_rfl) (by kernel_rfl) (by rfl) (fun w' hin => ?_) ?_
                    rotate_left
                    · (try simp only [] at hin); go_simp <;> with_reducible rfl
                    try simp only [Act.put, List.setIfInBounds_toArray, List.set_cons_zero, List.set_cons_succ]
                    refine wpS_take 12 (v := ?_) hSw rfl (by kernel_rfl) (by kernel_rfl) (by kernel_rfl) (by rfl) (fun w' hin => ?_) ?_
                    rotate_left
                    · (try simp only [] at hin); go_simp <;> with_reducible rfl
                    try simp only [Act.put, List.setIfInBounds_toArray, List.set_cons_zero, List.set_cons_succ]
                    refine wpS_take 13 (v := ?_) hSw rfl (by kernel_rfl) (by kernel_rfl) (by kernel_rfl) (by rfl) (fun w' hin => ?_) ?_
                    rotate_left
                    · (try simp only [] at hin); go_simp <;> with_reducible rfl
                    try simp only [Act.put, List.setIfInBounds_toArray, List.set_cons_zero, List.set_cons_succ]
                    refine wpS_take 14 (v := ?_) hSw rfl (by kernel_rfl) (by kernel_rfl) (by kernel_rfl) (by rfl) (fun w' hin => ?_) ?_
                    rotate_left
                    · (try simp only [] at hin); go_simp <;> with_reducible rfl
                    try simp only [Act.put, List.setIfInBounds_toArray, List.set_cons_zero, List.set_cons_succ]
                    refine wpS_take 15 (v := ?_) hSw rfl (by kernel_rfl) (by kernel_rfl) (by kernel_rfl) (by rfl) (fun w' hin => ?_) ?_
                    rotate_left
                    · (try simp only [] at hin); go_simp <;> with_reducible rfl
                    try simp only [Act.put, List.setIfInBounds_toArray, List.set_cons_zero, List.set_cons_succ]
                    refine wpS_take 16 (v := ?_) hSw rfl (by kernel_rfl) (by kernel_rfl) (by kernel_rfl) (by rfl) (fun w' hin => ?_) ?_
                    rotate_left
                    · (try simp only [] at hin); go_simp <;> with_reducible rfl
                    try simp only [Act.put, List.setIfInBounds_toArray, List.set_cons_zero, List.set_cons_succ]
                    refine wpS_take 17 (v := ?_) hSw rfl (by kernel_rfl) (by kernel_rfl) (by kernel_rfl) (by rfl) (fun w' hin => ?_) ?_
                    rotate_left
                    · (try simp only [] at hin); go_simp <;> with_reducible rfl
                    try simp only [Act.put, List.setIfInBounds_toArray, List.set_cons_zero, List.set_cons_succ]
                    refine wpS_take 18 (v := ?_) hSw rfl (by kernel_rfl) (by kernel_rfl) (by kernel_rfl) (by rfl) (fun w' hin => ?_) ?_
                    rotate_left
                    · (try simp only [] at hin); go_simp <;> with_reducible rfl
                    try simp only [Act.put, List.setIfInBounds_toArray, List.set_cons_zero, List.set_cons_succ]
                    refine wpS_take 19 (v := ?_) hSw rfl (by kernel_rfl) (by kernel_rfl) (by kernel_rfl) (by rfl) (fun w' hin => ?_) ?_
                    rotate_left
                    · (try simp only [] at hin); go_simp <;> with_reducible rfl
                    try simp only [Act.put, List.setIfInBounds_toArray, List.set_cons_zero, List.set_cons_succ]
                    refine wpS_take 20 (v := ?_) hSw rfl (by kernel_rfl) (by kernel_rfl) (by kernel_rfl) (by rfl) (fun w' hin => ?_) ?_
                    rotate_left
                    · (try simp only [] at hin); go_simp <;> with_reducible rfl
                    try simp only [Act.put, List.setIfInBounds_toArray, List.set_cons_zero, List.set_cons_succ]
                    refine wpS_take 21 (v := ?_) hSw rfl (by kernel_rfl) (by kernel_rfl) (by kernel_rfl) (by rfl) (fun w' hin => ?_) ?_
                    rotate_left
                    · (try simp only [] at hin); go_simp <;> with_reducible rfl
                    try simp only [Act.put, List.setIfInBounds_toArray, List.set_cons_zero, List.set_cons_succ]
                    refine wpS_take 22 (v := ?_) hSw rfl (by kernel_rfl) (by kernel_rfl) (by kernel_rfl) (by rfl) (fun w' hin => ?_) ?_
                    rotate_left
                    · (try simp only [] at hin); go_simp <;> with_reducible rfl
                    try simp only [Act.put, List.setIfInBounds_toArray, List.set_cons_zero, List.set_cons_succ]
                    refine wpS_take 23 (v := ?_) hSw rfl (by kernel_rfl) (by kernel_rfl) (by kernel_rfl) (by rfl) (fun w' hin => ?_) ?_
                    rotate_left
                    · (try simp only [] at hin); go_simp <;> with_reducible rfl
                    try simp only [Act.put, List.setIfInBounds_toArray, List.set_cons_zero, List.set_cons_succ]
                    refine wpS_take 24 (v := ?_) hSw rfl (by kernel_rfl) (by kernel_rfl) (by kernel_rfl) (by rfl) (fun w' hin => ?_) ?_
                    rotate_left
                    · (try simp only [] at hin); go_simp <;> with_reducible rfl
                    try simp only [Act.put, List.setIfInBounds_toArray, List.set_cons_zero, List.set_cons_succ]
                    refine wpS_take 25 (v := ?_) hSw rfl (by kernel_rfl) (by kernel_rfl) (by kernel_rfl) (by rfl) (fun w' hin => ?_) ?_
                    rotate_left
                    · (try simp only [] at hin); go_simp <;> with_reducible rfl
                    try simp only [Act.put, List.setIfInBounds_toArray, List.set_cons_zero, List.set_cons_succ]
                    refine wpS_take 26 (v := ?_) hSw rfl (by kernel_rfl) (by kernel_rfl) (by kernel_rfl) (by rfl) (fun w' hin => ?_) ?_
                    rotate_left
                    · (try simp only [] at hin); go_simp <;> with_reducible rfl
                    try simp only [Act.put, List.setIfInBounds_toArray, List.set_cons_zero, List.set_cons_succ]
                    refine wpS_done (by kernel_rfl) ?_
                    have HX2 := Lib.hid (HX.out.drew.trans hSw)
                    clear hSw x0 s0 s3 t0 t3
                    go_wp2_with fail
                    go_roundw
                    case rel => exact ⟨q + 1, by omega, by go_num, HN2, HX2⟩
                    case measure => simp [intOf]; omega
                  · have g3 : (x.port == y.port) = true := by simpa using hp
                    have HR : Hid (saneT l = 13) := Lib.hid (by rw [HS2.out, clash_bad hlq HLX.out HLY.out ⟨hkx, hky, hp⟩]; rfl)
                    clear hkx hky hp
                    go_wp2_with fail
                    have hSw : Ext wr.drew wr.drew := x0
                    refine wpS_begin (Ext wr.drew) (by kernel_rfl) ?_
                    refine wpS_take 0 (v := ?_) hSw rfl (by kernel_rfl) (by kernel_rfl) (by kernel_rfl) (by rfl) (fun w' hin => ?_) ?_
                    rotate_left
                    · (try simp only [] at hin); go_simp <;> with_reducible rfl
                    try simp only [Act.put, List.setIfInBounds_toArray, List.set_cons_zero, List.set_cons_succ]
                    refine wpS_take 1 (v := ?_) hSw rfl (by kernel_rfl) (by kernel_rfl) (by kernel_rfl) (by rfl) (fun w' hin => ?_) ?_
                    rotate_left
                    · (try simp only [] at hin); go_simp <;> with_reducible rfl
                    try simp only [Act.put, List.setIfInBounds_toArray, List.set_cons_zero, List.set_cons_succ]
                    refine wpS_take 2 (v := ?_) hSw rfl (by kernel_rfl) (by kernel_rfl) (by kernel_rfl) (by rfl) (fun w' hin => ?_) ?_
                    rotate_left
                    · (try simp only [] at hin); go_simp <;> with_reducible rfl
                    try simp only [Act.put, List.setIfInBounds_toArray, List.set_cons_zero, List.set_cons_succ]
                    refine wpS_take 3 (v := ?_) hSw rfl (by kernel_rfl) (by kernel_rfl) (by kernel_rfl) (by rfl) (fun w' hin => ?_) ?_
                    rotate_left
                    · (try simp only [] at hin); go_simp <;> with_reducible rfl
                    try simp only [Act.put, List.setIfInBounds_toArray, List.set_cons_zero, List.set_cons_succ]
                    refine wpS_take 4 (v := ?_) hSw rfl (by kernel_rfl) (by kernel_rfl) (by kernel_rfl) (by rfl) (fun w' hin => ?_) ?_
                    rotate_left
                    · (try simp only [] at hin); go_simp <;> with_reducible rfl
                    try simp only [Act.put, List.setIfInBounds_toArray, List.set_cons_zero, List.set_cons_succ]
                    refine wpS_take 5 (v := ?_) hSw rfl (by kernel_rfl) (by kernel_rfl) (by kernel_rfl) (by rfl) (fun w' hin => ?_) ?_
                    rotate_left
                    · (try simp only [] at hin); go_simp <;> with_reducible rfl
                    try simp only [Act.put, List.setIfInBounds_toArray, List.set_cons_zero, List.set_cons_succ]
                    refine wpS_take 6 (v := ?_) hSw rfl (by kernel_rfl) (by kernel_rfl) (by kernel_rfl) (by rfl) (fun w' hin => ?_) ?_
                    rotate_left
                    · (try simp only [] at hin); go_simp <;> with_reducible rfl
                    try simp only [Act.put, List.setIfInBounds_toArray, List.set_cons_zero, List.set_cons_succ]
                    refine wpS_take 7 (v := ?_) hSw rfl (by kernel_rfl) (by kernel_rfl) (by kernel_rfl) (by rfl) (fun w' hin => ?_) ?_
                    rotate_left
                    · (try simp only [] at hin); go_simp <;> with_reducible rfl
                    try simp only [Act.put, List.setIfInBounds_toArray, List.set_cons_zero, List.set_cons_succ]
                    refine wpS_take 8 (v := ?_) hSw rfl (by kernel_rfl) (by kernel_rfl) (by kernel_rfl) (by rfl) (fun w' hin => ?_) ?_
                    rotate_left
                    · (try simp only [] at hin); go_simp <;> with_reducible rfl
                    try simp only [Act.put, List.setIfInBounds_toArray, List.set_cons_zero, List.set_cons_succ]
                    refine wpS_take 9 (v := ?_) hSw rfl (by kernel_rfl) (by kernel_rfl) (by kernel_rfl) (by rfl) (fun w' hin => ?_) ?_
                    rotate_left
                    · (try simp only [] at hin); go_simp <;> with_reducible rfl
                    try simp only [Act.put, List.setIfInBounds_toArray, List.set_cons_zero, List.set_cons_succ]
                    refine wpS_take 10 (v := ?_) hSw rfl (by kernel_rfl) (by kernel_rfl) (by kernel_rfl) (by rfl) (fun w' hin => ?_) ?_
                    rotate_left
                    · (try simp only [] at hin); go_simp <;> with_reducible rfl
                    try simp only [Act.put, List.setIfInBounds_toArray, List.set_cons_zero, List.set_cons_succ]
                    refine wpS_take 11 (v := ?_) hSw rfl (by kernel_rfl) (by kernel_rfl) (by kernel_rfl) (by rfl) (fun w' hin => ?_) ?_
                    rotate_left
                    · (try simp only [] at hin); go_simp <;> with_reducible rfl
                    try simp only [Act.put, List.setIfInBounds_toArray, List.set_cons_zero, List.set_cons_succ]
                    refine wpS_take 12 (v := ?_) hSw rfl (by kernel_rfl) (by kernel_rfl) (by kernel_rfl) (by rfl) (fun w' hin => ?_) ?_
                    rotate_left
                    · (try simp only [] at hin); go_simp <;> with_reducible rfl
                    try simp only [Act.put, List.setIfInBounds_toArray, List.set_cons_zero, List.set_cons_succ]
                    refine wpS_take 13 (v := ?_) hSw rfl (by kernel_rfl) (by kernel_rfl) (by kernel_rfl) (by rfl) (fun w' hin => ?_) ?_
                    rotate_left
                    · (try simp only [] at hin); go_simp <;> with_reducible rfl
                    try simp only [Act.put, List.setIfInBounds_toArray, List.set_cons_zero, List.set_cons_succ]
                    refine wpS_take 14 (v := ?_) hSw rfl (by kernel_rfl) (by kernel_rfl) (by kernel_rfl) (by rfl) (fun w' hin => ?_) ?_
                    rotate_left
                    · (try simp only [] at hin); go_simp <;> with_reducible rfl
                    try simp only [Act.put, List.setIfInBounds_toArray, List.set_cons_zero, List.set_cons_succ]
                    refine wpS_take 15 (v := ?_) hSw rfl (by kernel_rfl) (by kernel_rfl) (by kernel_rfl) (by rfl) (fun w' hin => ?_) ?_
                    rotate_left
                    · (try simp only [] at hin); go_simp <;> with_reducible rfl
                    try simp only [Act.put, List.setIfInBounds_toArray, List.set_cons_zero, List.set_cons_succ]
                    refine wpS_take 16 (v := ?_) hSw rfl (by kernel_rfl) (by kernel_rfl) (by kernel_rfl) (by rfl) (fun w' hin => ?_) ?_
                    rotate_left
                    · (try simp only [] at hin); go_simp <;> with_reducible rfl
                    try simp only [Act.put, List.setIfInBounds_toArray, List.set_cons_zero, List.set_cons_succ]
                    refine wpS_take 17 (v := ?_) hSw rfl (by kernel_rfl) (by kernel_rfl) (by kernel_rfl) (by rfl) (fun w' hin => ?_) ?_
                    rotate_left
                    · (try simp only [] at hin); go_simp <;> with_reducible rfl
                    try simp only [Act.put, List.setIfInBounds_toArray, List.set_cons_zero, List.set_cons_succ]
                    refine wpS_take 18 (v := ?_) hSw rfl (by kernel_rfl) (by kernel_rfl) (by kernel_rfl) (by rfl) (fun w' hin => ?_) ?_
                    rotate_left
                    · (try simp only [] at hin); go_simp <;> with_reducible rfl
                    try simp only [Act.put, List.setIfInBounds_toArray, List.set_cons_zero, List.set_cons_succ]
                    refine wpS_take 19 (v := ?_) hSw rfl (by kernel_rfl) (by kernel_rfl) (by kernel_rfl) (by rfl) (fun w' hin => ?_) ?_
                    rotate_left
                    · (try simp only [] at hin); go_simp <;> with_reducible rfl
                    try simp only [Act.put, List.setIfInBounds_toArray, List.set_cons_zero, List.set_cons_succ]
                    refine wpS_take 20 (v := ?_) hSw rfl (by kernel_rfl) (by kernel_rfl) (by kernel_rfl) (by rfl) (fun w' hin => ?_) ?_
                    rotate_left
                    · (try simp only [] at hin); go_simp <;> with_reducible rfl
                    try simp only [Act.put, List.setIfInBounds_toArray, List.set_cons_zero, List.set_cons_succ]
                    refine wpS_take 21 (v := ?_) hSw rfl (by kernel_rfl) (by kernel_rfl) (by kernel_rfl) (by rfl) (fun w' hin => ?_) ?_
                    rotate_left
                    · (try simp only [] at hin); go_simp <;> with_reducible rfl
                    try simp only [Act.put, List.setIfInBounds_toArray, List.set_cons_zero, List.set_cons_succ]
                    refine wpS_take 22 (v := ?_) hSw rfl (by kernel_rfl) (by kernel_rfl) (by kernel_rfl) (by rfl) (fun w' hin => ?_) ?_
                    rotate_left
                    · (try simp only [] at hin); go_simp <;> with_reducible rfl
                    try simp only [Act.put, List.setIfInBounds_toArray, List.set_cons_zero, List.set_cons_succ]
                    refine wpS_take 23 (v := ?_) hSw rfl (by kernel_rfl) (by kernel_rfl) (by kernel_rfl) (by rfl) (fun w' hin => ?_) ?_
                    rotate_left
                    · (try simp only [] at hin); go_simp <;> with_reducible rfl
                    try simp only [Act.put, List.setIfInBounds_toArray, List.set_cons_zero, List.set_cons_succ]
                    refine wpS_take 24 (v := ?_) hSw rfl (by kernel_rfl) (by kernel_rfl) (by kernel_rfl) (by rfl) (fun w' hin => ?_) ?_
                    rotate_left
                    · (try simp only [] at hin); go_simp <;> with_reducible rfl
                    try simp only [Act.put, List.setIfInBounds_toArray, List.set_cons_zero, List.set_cons_succ]
                    refine wpS_take 25 (v := ?_) hSw rfl (by kernel_rfl) (by kernel_rfl) (by kernel_rfl) (by rfl) (fun w' hin => ?_) ?_
                    rotate_left
                    · (try simp only [] at hin); go_simp <;> with_reducible rfl
                    try simp only [Act.put, List.setIfInBounds_toArray, List.set_cons_zero, List.set_cons_succ]
                    refine wpS_take 26 (v := ?_) hSw rfl (by kernel_rfl) (by kernel_rfl) (by kernel_rfl) (by rfl) (fun w' hin => ?_) ?_
                    rotate_left
                    · (try simp only [] at hin); go_simp <;> with_reducible rfl
                    try simp only [Act.put, List.setIfInBounds_toArray, List.set_cons_zero, List.set_cons_succ]
                    refine wpS_done (by kernel_rfl) ?_
                    have HX2 := Lib.hid (HX.out.drew.trans hSw)
                    clear hSw x0 s0 s3 t0 t3
                    go_wp2_with fail
                    go_ret
                    exact ⟨ret_int HR.out.symm, HX2.out⟩
                · have HN2 := Lib.hid (noclash_next HN.out (show k ≤ q by omega))
                  have j3 : ¬ (q : Int) < (k : Int) := by omega
                  go_wp2_with fail
                  go_roundw
                  case rel => exact ⟨k + 1, by omega, by go_num, HN2, HX⟩
                  case measure => simp [intOf]; omega
            · have HR : Hid (saneT l = 0) := Lib.hid (by rw [HS2.out, noclash_end HN.out (by omega)]; rfl)
              have i2 : ¬ (k : Int) < (n : Int) := by omega
              go_wp2_with fail
              go_ret
              exact ⟨ret_int HR.out.symm, HX.out⟩
end Go.Proofs.YtfdjbnofcniodaaGreatDoor
