/- The law TableKinds of layer 5. -/
import Derived.Test.YtepifkmileilfaaDoorTabLaw
import Derived.Test.YtepifkmileilfaaDoorTabKq
namespace Go.Proofs.YtepifkmileilfaaDoor
set_option linter.unusedVariables false
open Go.RowKit
theorem sameR_self (r : Rs) : sameR r r = true := (same_iff r r).2 rfl
def allK (l : List Rs) : Nat → List Rs
  | 0 => []
  | k + 1 => allK l k ++ kindT l (k : Int)
theorem allK_le (l : List Rs) : ∀ k, (allK l k).length ≤ k * l.length
  | 0 => by simp [allK]
  | k + 1 => by
    have h1 := allK_le l k
    have h2 : (kindT l (k : Int)).length ≤ l.length := List.length_filter_le _ _
    unfold allK
    rw [List.length_append, Nat.succ_mul]; omega
theorem srt_adj {l : List Rs} (h : Srt l) {k : Nat} {x y : Rs} (hx : l[k]? = some x) (hy : l[k + 1]? = some y) : cmpK x.key y.key < 0 := by
  have := List.pairwise_iff_getElem.1 h k (k + 1) (List.getElem?_eq_some_iff.1 hx).1 (List.getElem?_eq_some_iff.1 hy).1 (by omega)
  rw [(List.getElem?_eq_some_iff.1 hx).2, (List.getElem?_eq_some_iff.1 hy).2] at this
  unfold ltK at this
  omega
theorem allK_four {l : List Rs} (h : Srt l) (hs : ∀ x ∈ l, saneR x = 0) : allK l 4 = l := by
  have := kinds_all h (fun x hx => ((sane_iff x).1 (hs x hx)).kind)
  simpa [allK] using this
set_option maxRecDepth 100000 in
set_option maxHeartbeats 8000000 in
theorem tableKinds_any (A : Option Addr) (n c : Nat) (a : List Rs) (w : World) (hsa : SlW A n c) (hA : ResL All w A n a) :
    Calls Tryd.prog 6 #[.slice A n c] w fun e w' => e = .returned (.bool true) ∧ Ext w w' := by
  have Ha := Lib.hid hA
  have HMa : Hid (n ≤ maxLen) := Lib.hid (Nat.le_trans hsa.1 hsa.2.1)
  have hla : a.length = n := hA.len
  have HSLa := Lib.hid hsa
  clear hA hsa
  go_enter Tryd.func6, Tryd.ntmps6
  go_wp2_with fail
  refine (awake05 _).mono ?_
  rintro e w1 ⟨rfl, hb1⟩
  have E1 := Lib.hid hb1
  clear hb1
  go_wp2_with fail
  refine (few04_any All a A n c _ HMa.out (ResL.keep Ha.out E1.out.keep)).mono ?_
  rintro e w2 ⟨v, rfl, hv, hb2⟩
  have E2 := Lib.hid (E1.out.trans hb2)
  clear hb2
  cases v with
  | false =>
    go_wp2_with fail
    go_ret
    exact ⟨rfl, E2.out⟩
  | true =>
  have hfa : n ≤ 80 := hv rfl
  clear hv
  go_wp2_with fail

  go_loopw [4, 5] (fun v i wr => ∃ (k : Nat) (us : List Value), k ≤ 4 ∧ i = .int .i64 k ∧ Hid (wr.ownsRow w2.heap.size 36 7 v (allK a k).length us) ∧ Hid (RowsOf (RsQ All w) 7 us (allK a k)) ∧ Hid (Ext w2 wr)) (fun _ i _ => 4 - (intOf i).toNat)
  case atStart => exact ⟨0, [], Nat.zero_le _, by go_num, Lib.hid own_nil, Lib.hid (show RowsOf (RsQ All w) 7 [] [] from rfl), Lib.hid (Ext.refl _)⟩
  case round =>
    obtain ⟨k, us, hk, rfl, HW, HU, HE⟩ := hrel
    by_cases hlt : k < 4
    · have hle := allK_le a k
      have hle4 : (allK a k).length ≤ 320 := by have : k * a.length ≤ 4 * 80 := Nat.mul_le_mul (by omega) (by omega); omega
      go_wp2_with fail
      refine (kindQ_any (k : Int) A n c a w _ (E2.out.trans HE.out) (by omega) (ArrQ.keep Ha.out (fun _ _ _ h => h) (E2.out.trans HE.out).keep)).mono ?_
      rintro e w3 ⟨C, p, f, rfl, hs3, h3, hb3⟩
      have hlp : (kindT a (k : Int)).length = p := h3.len
      have hlp2 : p ≤ 80 := by have h9 : (kindT a (k : Int)).length ≤ a.length := List.length_filter_le _ _; omega
      obtain ⟨us3, hf3, hU3⟩ := h3.arr.rows (by omega)
      have E3 := Lib.hid (HE.out.trans hb3)
      have hW3 := own_up HW.out hb3
      obtain ⟨v', w5, hrun, hown5, hg5, _⟩ := run_append_flat elem_res 48 hW3 f hf3 (rowsR_one hU3) (by omega) (by omega) E3.out.size hs3.2.2
      have E5 : Hid (Ext w2 w5) := Lib.hid (E3.out.grown hg5 hW3 (Nat.le_refl _))
      have HRUN := Lib.hid hrun
      have HW5 : Hid (w5.ownsRow w2.heap.size 36 7 v' (allK a (k + 1)).length (us ++ us3)) := Lib.hid (by unfold allK; rw [List.length_append, hlp]; exact hown5)
      have HU5 : Hid (RowsOf (RsQ All w) 7 (us ++ us3) (allK a (k + 1))) := Lib.hid (by unfold allK; exact HU.out.app hU3)
      clear hrun hown5 hg5 hW3 hf3 hU3 h3 hs3 hb3
      go_wp2_with (refine Lib.wpList_append_run _ rfl _ _ _ _ rfl _ _ rfl rfl v' w5 HRUN.out ?_)
      go_roundw
      case rel => exact ⟨k + 1, _, by omega, by go_num, HW5, HU5, E5⟩
      case measure => simp [intOf]; omega
    · obtain rfl : k = 4 := by omega
      have hle := allK_le a 4
      obtain ⟨Aw, cw, rfl, hw1, hw2, hw3, hwF⟩ := own_flat HW.out
      have E3 := Lib.hid (E2.out.trans HE.out)
      have HAL0 := Lib.hid (hwF.arrQ (S := All) HU.out (by omega) (fun _ _ _ _ => trivial))
      have HMw : Hid ((allK a 4).length ≤ maxLen) := Lib.hid (Nat.le_trans hw1 hw2)
      have HAL : Hid (ResL All wr Aw (allK a 4).length (allK a 4)) := Lib.hid (ArrQ.weak HAL0.out (fun _ _ h => RsQ.keep h E3.out.keep) (fun _ _ _ => trivial))
      obtain ⟨N, hN⟩ : ∃ N, N = (allK a 4).length := ⟨_, rfl⟩
      rw [← hN] at HAL HMw ⊢
      clear hwF hw1 hw2 hw3 HAL0 HW HU hk hlt hle hN
      go_wp2_with fail
      refine (keys_any A n c a _ (by omega) (ResL.keep Ha.out E3.out.keep)).mono ?_
      rintro e w5 ⟨vk, uk, rfl, hOk, hUk, hb5⟩
      obtain ⟨Ak, ck, rfl, hk1, hk2, hk3, hkF⟩ := own_flat hOk
      have HKL : Hid (KeyL All w5 Ak n (a.map Rs.key)) := Lib.hid (hkF.arrQ (S := All) hUk (by omega) (fun _ _ _ _ => trivial))
      have E5 := Lib.hid (E3.out.trans hb5)
      have HAL5 := Lib.hid (ResL.keep HAL.out hb5.keep)
      clear hOk hUk hb5 hkF hk1 hk2 hk3 HAL
      go_wp2_with fail
      refine (tabSane_any A n c a _ HMa.out (ResL.keep Ha.out E5.out.keep)).mono ?_
      rintro e w6 ⟨rfl, hb6⟩
      have E6 := Lib.hid (E5.out.trans hb6)
      have HKL6 := Lib.hid (KeyL.keep HKL.out hb6.keep)
      have HAL6 := Lib.hid (ResL.keep HAL5.out hb6.keep)
      clear hb6 HKL HAL5
      obtain ⟨Z, hZ⟩ : ∃ Z, Z = saneT a := ⟨_, rfl⟩
      rw [← hZ]
      have HZ := Lib.hid hZ
      clear hZ
      by_cases hz : Z = 0
      rotate_left
      · have hz1 : (Z != 0) = true := by simpa using hz
        go_wp2_with fail
        go_ret
        exact ⟨rfl, E6.out⟩
      have HS := Lib.hid (saneT_all (HZ.out.symm.trans hz))
      subst hz
      go_wp2_with fail
      go_loopw [8] (fun i wx => ∃ k : Nat, k ≤ n ∧ i = .int .i64 k ∧ Hid (Ext w6 wx)) (fun i _ => n - (intOf i).toNat)
      case atStart => exact ⟨0, Nat.zero_le _, by go_num, Lib.hid (Ext.refl _)⟩
      case round =>
        clear HE
        obtain ⟨k, hk, rfl, HE⟩ := hrel
        by_cases hlt : k < n
        · obtain ⟨bb, off, r, B1, m1, d1, B1', m1', d1', rfl, hbl0, -, hx, hv, e0, e1, e2, e3, e4, e5, e6⟩ := ResL.at_ Ha.out hlt
          obtain ⟨bk, ofk, y, hAk, hbk0, -, hy, -, f0, f1⟩ := KeyL.at_ HKL6.out hlt
          subst hAk
          obtain rfl : r.key = y := by rw [List.getElem?_map, hx] at hy; exact Option.some.inj hy
          have hgt := getT_of HS.out.2.2.1 (List.mem_of_getElem? hx)
          have HGT := Lib.hid hgt
          have HV := Lib.hid hv
          have HXr := Lib.hid hx
          have hbr : bb < wr.heap.size := Nat.lt_of_lt_of_le hbl0 (E6.out.trans HE.out).size
          have hkr : bk < wr.heap.size := Nat.lt_of_lt_of_le hbk0 HE.out.size
          have i1 : (0 : Int) ≤ (k : Int) := by omega
          have i2 : (k : Int) < (n : Int) := by omega
          have t0 : wr.cell? ⟨bb, off + k * 7, none⟩ = some (.int .i64 r.kind) := ((E6.out.trans HE.out).cell hbl0).trans e0
          have t1 : wr.cell? ⟨bb, off + k * 7 + 1, none⟩ = some (.string r.name) := ((E6.out.trans HE.out).cell hbl0).trans e1
          have t2 : wr.cell? ⟨bb, off + k * 7 + 2, none⟩ = some (.int .i64 r.ver) := ((E6.out.trans HE.out).cell hbl0).trans e2
          have t3 : wr.cell? ⟨bb, off + k * 7 + 3, none⟩ = some (.int .i64 r.port) := ((E6.out.trans HE.out).cell hbl0).trans e3
          have t4 : wr.cell? ⟨bb, off + k * 7 + 4, none⟩ = some (.string r.to) := ((E6.out.trans HE.out).cell hbl0).trans e4
          have t5 : wr.cell? ⟨bb, off + k * 7 + 5, none⟩ = some (.slice B1 m1 d1) := ((E6.out.trans HE.out).cell hbl0).trans e5
          have t6 : wr.cell? ⟨bb, off + k * 7 + 6, none⟩ = some (.slice B1' m1' d1') := ((E6.out.trans HE.out).cell hbl0).trans e6
          have k0 : wr.cell? ⟨bk, ofk + k * 2, none⟩ = some (.int .i64 r.kind) := (HE.out.cell hbk0).trans f0
          have k1 : wr.cell? ⟨bk, ofk + k * 2 + 1, none⟩ = some (.string r.name) := (HE.out.cell hbk0).trans f1
          clear hx hv hgt hy e0 e1 e2 e3 e4 e5 e6 f0 f1
          go_wp2_with fail
          refine (get_any r.key (some ⟨bb, off, none⟩) n c a _ (by omega) (ResL.keep Ha.out (E6.out.trans HE.out).keep)).mono ?_
          rintro e w9 ⟨r', C, p, f, C', p', f', rfl, hr', hv', hb9⟩
          rw [HGT.out] at hr' ⊢
          obtain rfl : r = r' := hr'
          have G9 := Lib.hid hb9
          have HVx := Lib.hid hv'
          clear hb9 hv'
          unfold rsVal
          go_wp2_with fail
          have KB := Lib.hid (heap_alloc_new w9 (.cells #[.int .i64 r.kind, .string r.name, .int .i64 r.ver, .int .i64 r.port, .string r.to, .slice C p f, .slice C' p' f'] 36))
          have EW := Lib.hid (Ext.new w9 (.cells #[.int .i64 r.kind, .string r.name, .int .i64 r.ver, .int .i64 r.port, .string r.to, .slice C p f, .slice C' p' f'] 36))
          have EX := Lib.hid (G9.out.trans (Ext.new w9 (.cells #[.int .i64 r.kind, .string r.name, .int .i64 r.ver, .int .i64 r.port, .string r.to, .slice C p f, .slice C' p' f'] 36)))
          have hzW : w9.heap.size < (w9.alloc (.cells #[.int .i64 r.kind, .string r.name, .int .i64 r.ver, .int .i64 r.port, .string r.to, .slice C p f, .slice C' p' f'] 36)).heap.size := by simp
          generalize w9.alloc (.cells #[.int .i64 r.kind, .string r.name, .int .i64 r.ver, .int .i64 r.port, .string r.to, .slice C p f, .slice C' p' f'] 36) = W at KB EW EX hzW ⊢
          obtain ⟨qb, -⟩ := blk_rules KB.out
          have x0 : ∀ w', Ext W.drew w' → w'.cell? ⟨w9.heap.size, 0, none⟩ = some (.int .i64 r.kind) := fun w' h => (((Ext.refl W).drew.trans h).cell hzW).trans (qb 0)
          have x1 : ∀ w', Ext W.drew w' → w'.cell? ⟨w9.heap.size, 1, none⟩ = some (.string r.name) := fun w' h => (((Ext.refl W).drew.trans h).cell hzW).trans (qb 1)
          have x2 : ∀ w', Ext W.drew w' → w'.cell? ⟨w9.heap.size, 2, none⟩ = some (.int .i64 r.ver) := fun w' h => (((Ext.refl W).drew.trans h).cell hzW).trans (qb 2)
          have x3 : ∀ w', Ext W.drew w' → w'.cell? ⟨w9.heap.size, 3, none⟩ = some (.int .i64 r.port) := fun w' h => (((Ext.refl W).drew.trans h).cell hzW).trans (qb 3)
          have x4 : ∀ w', Ext W.drew w' → w'.cell? ⟨w9.heap.size, 4, none⟩ = some (.string r.to) := fun w' h => (((Ext.refl W).drew.trans h).cell hzW).trans (qb 4)
          have x5 : ∀ w', Ext W.drew w' → w'.cell? ⟨w9.heap.size, 5, none⟩ = some (.slice C p f) := fun w' h => (((Ext.refl W).drew.trans h).cell hzW).trans (qb 5)
          have x6 : ∀ w', Ext W.drew w' → w'.cell? ⟨w9.heap.size, 6, none⟩ = some (.slice C' p' f') := fun w' h => (((Ext.refl W).drew.trans h).cell hzW).trans (qb 6)
          have y0 : ∀ w', Ext W.drew w' → w'.cell? ⟨bb, off + k * 7, none⟩ = some (.int .i64 r.kind) := fun w' h => ((EX.out.trans ((Ext.refl W).drew.trans h)).cell hbr).trans t0
          have y1 : ∀ w', Ext W.drew w' → w'.cell? ⟨bb, off + k * 7 + 1, none⟩ = some (.string r.name) := fun w' h => ((EX.out.trans ((Ext.refl W).drew.trans h)).cell hbr).trans t1
          have y2 : ∀ w', Ext W.drew w' → w'.cell? ⟨bb, off + k * 7 + 2, none⟩ = some (.int .i64 r.ver) := fun w' h => ((EX.out.trans ((Ext.refl W).drew.trans h)).cell hbr).trans t2
          have y3 : ∀ w', Ext W.drew w' → w'.cell? ⟨bb, off + k * 7 + 3, none⟩ = some (.int .i64 r.port) := fun w' h => ((EX.out.trans ((Ext.refl W).drew.trans h)).cell hbr).trans t3
          have y4 : ∀ w', Ext W.drew w' → w'.cell? ⟨bb, off + k * 7 + 4, none⟩ = some (.string r.to) := fun w' h => ((EX.out.trans ((Ext.refl W).drew.trans h)).cell hbr).trans t4
          have y5 : ∀ w', Ext W.drew w' → w'.cell? ⟨bb, off + k * 7 + 5, none⟩ = some (.slice B1 m1 d1) := fun w' h => ((EX.out.trans ((Ext.refl W).drew.trans h)).cell hbr).trans t5
          have y6 : ∀ w', Ext W.drew w' → w'.cell? ⟨bb, off + k * 7 + 6, none⟩ = some (.slice B1' m1' d1') := fun w' h => ((EX.out.trans ((Ext.refl W).drew.trans h)).cell hbr).trans t6
          have ky0 : ∀ w', Ext W.drew w' → w'.cell? ⟨bk, ofk + k * 2, none⟩ = some (.int .i64 r.kind) := fun w' h => ((EX.out.trans ((Ext.refl W).drew.trans h)).cell hkr).trans k0
          have ky1 : ∀ w', Ext W.drew w' → w'.cell? ⟨bk, ofk + k * 2 + 1, none⟩ = some (.string r.name) := fun w' h => ((EX.out.trans ((Ext.refl W).drew.trans h)).cell hkr).trans k1
          clear qb t0 t1 t2 t3 t4 t5 t6 k0 k1
          rcases Nat.eq_zero_or_pos k with rfl | hpos
          · simp only [Nat.zero_mul, Nat.add_zero] at y0 y1 y2 y3 y4 y5 y6 ky0 ky1
            go_wp2_with fail
            have hSw : Ext W.drew W.drew := Ext.refl _
            refine wpS_begin (Ext W.drew) (by kernel_rfl) ?_
            refine wpS_take 0 (v := ?_) hSw rfl (by kernel_rfl) (by kernel_rfl) (by kernel_rfl) (by rfl) (fun w' hin => ?_) ?_
            rotate_left
            · (try simp only [] at hin); go_simp <;> with_reducible rfl
            try simp only [Act.put, List.setIfInBounds_toArray, List.set_cons_zero, List.set_cons_succ]
            refine wpS_take 1 (v := ?_) hSw rfl (by kernel_rfl) (by kernel_rfl) (by kernel_rfl) (by rfl) (fun w' hin => ?_) ?_
            rotate_left
            · (try simp only [] at hin); go_simp <;> with_reducible rfl
            try simp only [Act.put, List.setIfInBounds_toArray, List.set_cons_zero, List.set_cons_succ]
            refine wpS_take 2 (v := ?_) hSw rfl (by kernel_rfl) (by kernel_rfl) (by kernel_rfl) (by rfl) (fun w' hin => ?_) ?_
            rotate_left
            · (try simp only [] at hin); go_simp <;> with_reducible rfl
            try simp only [Act.put, List.setIfInBounds_toArray, List.set_cons_zero, List.set_cons_succ]
            refine wpS_take 3 (v := ?_) hSw rfl (by kernel_rfl) (by kernel_rfl) (by kernel_rfl) (by rfl) (fun w' hin => ?_) ?_
            rotate_left
            · (try simp only [] at hin); go_simp <;> with_reducible rfl
            try simp only [Act.put, List.setIfInBounds_toArray, List.set_cons_zero, List.set_cons_succ]
            refine wpS_take 4 (v := ?_) hSw rfl (by kernel_rfl) (by kernel_rfl) (by kernel_rfl) (by rfl) (fun w' hin => ?_) ?_
            rotate_left
            · (try simp only [] at hin); go_simp <;> with_reducible rfl
            try simp only [Act.put, List.setIfInBounds_toArray, List.set_cons_zero, List.set_cons_succ]
            refine wpS_take 5 (v := ?_) hSw rfl (by kernel_rfl) (by kernel_rfl) (by kernel_rfl) (by rfl) (fun w' hin => ?_) ?_
            rotate_left
            · (try simp only [] at hin); go_simp <;> with_reducible rfl
            try simp only [Act.put, List.setIfInBounds_toArray, List.set_cons_zero, List.set_cons_succ]
            refine wpS_take 6 (v := ?_) hSw rfl (by kernel_rfl) (by kernel_rfl) (by kernel_rfl) (by rfl) (fun w' hin => ?_) ?_
            rotate_left
            · (try simp only [] at hin); go_simp <;> with_reducible rfl
            try simp only [Act.put, List.setIfInBounds_toArray, List.set_cons_zero, List.set_cons_succ]
            refine wpS_take 7 (v := ?_) hSw rfl (by kernel_rfl) (by kernel_rfl) (by kernel_rfl) (by rfl) (fun w' hin => ?_) ?_
            rotate_left
            · (try simp only [] at hin); go_simp <;> with_reducible rfl
            try simp only [Act.put, List.setIfInBounds_toArray, List.set_cons_zero, List.set_cons_succ]
            refine wpS_one 8 rfl (by kernel_rfl) (by rfl) (fun K hK => ?_)
            go_simp
            refine (same_any All All r r C p f C' p' f' B1 m1 d1 B1' m1' d1' _ (HVx.out.up (EW.out.trans ((Ext.refl W).drew.trans hSw))) (HV.out.up ((E6.out.trans HE.out).trans (EX.out.trans ((Ext.refl W).drew.trans hSw))))).mono ?_
            rintro e w10 ⟨rfl, hb10⟩
            have E10 : Ext W.drew w10 := Ext.trans hSw hb10
            rw [sameR_self]
            simp only []
            refine hK.out _ _ (Ext W.drew) (fun _ h => h) (E10) (fun hSw => ?_)
            clear hK K
            try simp only [Act.put, List.setIfInBounds_toArray, List.set_cons_zero, List.set_cons_succ]
            refine wpS_take 9 (v := ?_) hSw rfl (by kernel_rfl) (by kernel_rfl) (by kernel_rfl) (by rfl) (fun w' hin => ?_) ?_
            rotate_left
            · (try simp only [] at hin); go_simp <;> with_reducible rfl
            try simp only [Act.put, List.setIfInBounds_toArray, List.set_cons_zero, List.set_cons_succ]
            refine wpS_take 10 (v := ?_) hSw rfl (by kernel_rfl) (by kernel_rfl) (by kernel_rfl) (by rfl) (fun w' hin => ?_) ?_
            rotate_left
            · (try simp only [] at hin); go_simp <;> with_reducible rfl
            try simp only [Act.put, List.setIfInBounds_toArray, List.set_cons_zero, List.set_cons_succ]
            refine wpS_take 11 (v := ?_) hSw rfl (by kernel_rfl) (by kernel_rfl) (by kernel_rfl) (by rfl) (fun w' hin => ?_) ?_
            rotate_left
            · (try simp only [] at hin); go_simp <;> with_reducible rfl
            try simp only [Act.put, List.setIfInBounds_toArray, List.set_cons_zero, List.set_cons_succ]
            refine wpS_take 12 (v := ?_) hSw rfl (by kernel_rfl) (by kernel_rfl) (by kernel_rfl) (by rfl) (fun w' hin => ?_) ?_
            rotate_left
            · (try simp only [] at hin); go_simp <;> with_reducible rfl
            try simp only [Act.put, List.setIfInBounds_toArray, List.set_cons_zero, List.set_cons_succ]
            refine wpS_take 13 (v := ?_) hSw rfl (by kernel_rfl) (by kernel_rfl) (by kernel_rfl) (by rfl) (fun w' hin => ?_) ?_
            rotate_left
            · (try simp only [] at hin); go_simp <;> with_reducible rfl
            try simp only [Act.put, List.setIfInBounds_toArray, List.set_cons_zero, List.set_cons_succ]
            refine wpS_take 14 (v := ?_) hSw rfl (by kernel_rfl) (by kernel_rfl) (by kernel_rfl) (by rfl) (fun w' hin => ?_) ?_
            rotate_left
            · (try simp only [] at hin); go_simp <;> with_reducible rfl
            try simp only [Act.put, List.setIfInBounds_toArray, List.set_cons_zero, List.set_cons_succ]
            refine wpS_skip 15 hSw rfl (by kernel_rfl) (by kernel_rfl) (by kernel_rfl) (by rfl) ?_
            try simp only [Act.put, List.setIfInBounds_toArray, List.set_cons_zero, List.set_cons_succ]
            refine wpS_skip 16 hSw rfl (by kernel_rfl) (by kernel_rfl) (by kernel_rfl) (by rfl) ?_
            try simp only [Act.put, List.setIfInBounds_toArray, List.set_cons_zero, List.set_cons_succ]
            refine wpS_skip 17 hSw rfl (by kernel_rfl) (by kernel_rfl) (by kernel_rfl) (by rfl) ?_
            try simp only [Act.put, List.setIfInBounds_toArray, List.set_cons_zero, List.set_cons_succ]
            refine wpS_skip 18 hSw rfl (by kernel_rfl) (by kernel_rfl) (by kernel_rfl) (by rfl) ?_
            try simp only [Act.put, List.setIfInBounds_toArray, List.set_cons_zero, List.set_cons_succ]
            refine wpS_skip 19 hSw rfl (by kernel_rfl) (by kernel_rfl) (by kernel_rfl) (by rfl) ?_
            try simp only [Act.put, List.setIfInBounds_toArray, List.set_cons_zero, List.set_cons_succ]
            refine wpS_skip 20 hSw rfl (by kernel_rfl) (by kernel_rfl) (by kernel_rfl) (by rfl) ?_
            try simp only [Act.put, List.setIfInBounds_toArray, List.set_cons_zero, List.set_cons_succ]
            refine wpS_skip 21 hSw rfl (by kernel_rfl) (by kernel_rfl) (by kernel_rfl) (by rfl) ?_
            try simp only [Act.put, List.setIfInBounds_toArray, List.set_cons_zero, List.set_cons_succ]
            refine wpS_skip 22 hSw rfl (by kernel_rfl) (by kernel_rfl) (by kernel_rfl) (by rfl) ?_
            try simp only [Act.put, List.setIfInBounds_toArray, List.set_cons_zero, List.set_cons_succ]
            refine wpS_skip 23 hSw rfl (by kernel_rfl) (by kernel_rfl) (by kernel_rfl) (by rfl) ?_
            try simp only [Act.put, List.setIfInBounds_toArray, List.set_cons_zero, List.set_cons_succ]
            refine wpS_skip 24 hSw rfl (by kernel_rfl) (by kernel_rfl) (by kernel_rfl) (by rfl) ?_
            try simp only [Act.put, List.setIfInBounds_toArray, List.set_cons_zero, List.set_cons_succ]
            refine wpS_skip 25 hSw rfl (by kernel_rfl) (by kernel_rfl) (by kernel_rfl) (by rfl) ?_
            try simp only [Act.put, List.setIfInBounds_toArray, List.set_cons_zero, List.set_cons_succ]
            refine wpS_take 26 (v := ?_) hSw rfl (by kernel_rfl) (by kernel_rfl) (by kernel_rfl) (by rfl) (fun w' hin => ?_) ?_
            rotate_left
            · (try simp only [] at hin); go_simp <;> with_reducible rfl
            try simp only [Act.put, List.setIfInBounds_toArray, List.set_cons_zero, List.set_cons_succ]
            refine wpS_take 27 (v := ?_) hSw rfl (by kernel_rfl) (by kernel_rfl) (by kernel_rfl) (by rfl) (fun w' hin => ?_) ?_
            rotate_left
            · (try simp only [] at hin); go_simp <;> with_reducible rfl
            try simp only [Act.put, List.setIfInBounds_toArray, List.set_cons_zero, List.set_cons_succ]
            refine wpS_done (by kernel_rfl) ?_
            have HE9 := Lib.hid (HE.out.trans (EX.out.trans ((Ext.refl W).drew.trans hSw)))
            clear x0 x1 x2 x3 x4 x5 x6 y0 y1 y2 y3 y4 y5 y6 ky0 ky1 hSw hb10 E10
            go_wp2_with fail
            go_roundw
            case rel => exact ⟨0 + 1, by omega, by go_num, HE9⟩
            case measure => simp [intOf]; omega
          · obtain ⟨kp, hkp⟩ : ∃ kp, kp + 1 = k := ⟨k - 1, by omega⟩
            obtain ⟨bk2, ofk2, z, hAk2, -, -, hz2, -, g0, g1⟩ := KeyL.at_ HKL6.out (show kp < n by omega)
            injection hAk2 with hAk2
            injection hAk2 with e1 e2
            subst e1 e2
            obtain ⟨q, hq⟩ : ∃ q, a[kp]? = some q := ⟨a[kp]'(by omega), List.getElem?_eq_getElem _⟩
            obtain rfl : q.key = z := by rw [List.getElem?_map, hq] at hz2; exact Option.some.inj hz2
            have hcm := srt_adj HS.out.2.2.1 hq (by rw [hkp]; exact HXr.out)
            have kz0 : ∀ w', Ext W.drew w' → w'.cell? ⟨bk, ofk + kp * 2, none⟩ = some (.int .i64 q.kind) := fun w' h => ((HE.out.trans (EX.out.trans ((Ext.refl W).drew.trans h))).cell hbk0).trans g0
            have kz1 : ∀ w', Ext W.drew w' → w'.cell? ⟨bk, ofk + kp * 2 + 1, none⟩ = some (.string q.name) := fun w' h => ((HE.out.trans (EX.out.trans ((Ext.refl W).drew.trans h))).cell hbk0).trans g1
            have hcq : ¬ (0 : Int) ≤ cmpK q.key r.key := by omega
            have i3 : (0 : Int) ≤ (kp : Int) := by omega
            have i4 : (kp : Int) < (n : Int) := by omega
            have i5 : IntKind.i64.wrap ((k : Int) - 1) = (kp : Int) := by rw [IntKind.wrap_i64]; omega
            have i6 : (0 : Int) < (k : Int) := by omega
            clear hq hz2 g0 g1 hkp hcm
            go_wp2_with fail
            have hSw : Ext W.drew W.drew := Ext.refl _
            refine wpS_begin (Ext W.drew) (by kernel_rfl) ?_
            refine wpS_take 0 (v := ?_) hSw rfl (by kernel_rfl) (by kernel_rfl) (by kernel_rfl) (by rfl) (fun w' hin => ?_) ?_
            rotate_left
            · (try simp only [] at hin); go_simp <;> with_reducible rfl
            try simp only [Act.put, List.setIfInBounds_toArray, List.set_cons_zero, List.set_cons_succ]
            refine wpS_take 1 (v := ?_) hSw rfl (by kernel_rfl) (by kernel_rfl) (by kernel_rfl) (by rfl) (fun w' hin => ?_) ?_
            rotate_left
            · (try simp only [] at hin); go_simp <;> with_reducible rfl
            try simp only [Act.put, List.setIfInBounds_toArray, List.set_cons_zero, List.set_cons_succ]
            refine wpS_take 2 (v := ?_) hSw rfl (by kernel_rfl) (by kernel_rfl) (by kernel_rfl) (by rfl) (fun w' hin => ?_) ?_
            rotate_left
            · (try simp only [] at hin); go_simp <;> with_reducible rfl
            try simp only [Act.put, List.setIfInBounds_toArray, List.set_cons_zero, List.set_cons_succ]
            refine wpS_take 3 (v := ?_) hSw rfl (by kernel_rfl) (by kernel_rfl) (by kernel_rfl) (by rfl) (fun w' hin => ?_) ?_
            rotate_left
            · (try simp only [] at hin); go_simp <;> with_reducible rfl
            try simp only [Act.put, List.setIfInBounds_toArray, List.set_cons_zero, List.set_cons_succ]
            refine wpS_take 4 (v := ?_) hSw rfl (by kernel_rfl) (by kernel_rfl) (by kernel_rfl) (by rfl) (fun w' hin => ?_) ?_
            rotate_left
            · (try simp only [] at hin); go_simp <;> with_reducible rfl
            try simp only [Act.put, List.setIfInBounds_toArray, List.set_cons_zero, List.set_cons_succ]
            refine wpS_take 5 (v := ?_) hSw rfl (by kernel_rfl) (by kernel_rfl) (by kernel_rfl) (by rfl) (fun w' hin => ?_) ?_
            rotate_left
            · (try simp only [] at hin); go_simp <;> with_reducible rfl
            try simp only [Act.put, List.setIfInBounds_toArray, List.set_cons_zero, List.set_cons_succ]
            refine wpS_take 6 (v := ?_) hSw rfl (by kernel_rfl) (by kernel_rfl) (by kernel_rfl) (by rfl) (fun w' hin => ?_) ?_
            rotate_left
            · (try simp only [] at hin); go_simp <;> with_reducible rfl
            try simp only [Act.put, List.setIfInBounds_toArray, List.set_cons_zero, List.set_cons_succ]
            refine wpS_take 7 (v := ?_) hSw rfl (by kernel_rfl) (by kernel_rfl) (by kernel_rfl) (by rfl) (fun w' hin => ?_) ?_
            rotate_left
            · (try simp only [] at hin); go_simp <;> with_reducible rfl
            try simp only [Act.put, List.setIfInBounds_toArray, List.set_cons_zero, List.set_cons_succ]
            refine wpS_one 8 rfl (by kernel_rfl) (by rfl) (fun K hK => ?_)
            go_simp
            refine (same_any All All r r C p f C' p' f' B1 m1 d1 B1' m1' d1' _ (HVx.out.up (EW.out.trans ((Ext.refl W).drew.trans hSw))) (HV.out.up ((E6.out.trans HE.out).trans (EX.out.trans ((Ext.refl W).drew.trans hSw))))).mono ?_
            rintro e w10 ⟨rfl, hb10⟩
            have E10 : Ext W.drew w10 := Ext.trans hSw hb10
            rw [sameR_self]
            simp only []
            refine hK.out _ _ (Ext W.drew) (fun _ h => h) (E10) (fun hSw => ?_)
            clear hK K
            try simp only [Act.put, List.setIfInBounds_toArray, List.set_cons_zero, List.set_cons_succ]
            refine wpS_take 9 (v := ?_) hSw rfl (by kernel_rfl) (by kernel_rfl) (by kernel_rfl) (by rfl) (fun w' hin => ?_) ?_
            rotate_left
            · (try simp only [] at hin); go_simp <;> with_reducible rfl
            try simp only [Act.put, List.setIfInBounds_toArray, List.set_cons_zero, List.set_cons_succ]
            refine wpS_take 10 (v := ?_) hSw rfl (by kernel_rfl) (by kernel_rfl) (by kernel_rfl) (by rfl) (fun w' hin => ?_) ?_
            rotate_left
            · (try simp only [] at hin); go_simp <;> with_reducible rfl
            try simp only [Act.put, List.setIfInBounds_toArray, List.set_cons_zero, List.set_cons_succ]
            refine wpS_take 11 (v := ?_) hSw rfl (by kernel_rfl) (by kernel_rfl) (by kernel_rfl) (by rfl) (fun w' hin => ?_) ?_
            rotate_left
            · (try simp only [] at hin); go_simp <;> with_reducible rfl
            try simp only [Act.put, List.setIfInBounds_toArray, List.set_cons_zero, List.set_cons_succ]
            refine wpS_take 12 (v := ?_) hSw rfl (by kernel_rfl) (by kernel_rfl) (by kernel_rfl) (by rfl) (fun w' hin => ?_) ?_
            rotate_left
            · (try simp only [] at hin); go_simp <;> with_reducible rfl
            try simp only [Act.put, List.setIfInBounds_toArray, List.set_cons_zero, List.set_cons_succ]
            refine wpS_take 13 (v := ?_) hSw rfl (by kernel_rfl) (by kernel_rfl) (by kernel_rfl) (by rfl) (fun w' hin => ?_) ?_
            rotate_left
            · (try simp only [] at hin); go_simp <;> with_reducible rfl
            try simp only [Act.put, List.setIfInBounds_toArray, List.set_cons_zero, List.set_cons_succ]
            refine wpS_take 14 (v := ?_) hSw rfl (by kernel_rfl) (by kernel_rfl) (by kernel_rfl) (by rfl) (fun w' hin => ?_) ?_
            rotate_left
            · (try simp only [] at hin); go_simp <;> with_reducible rfl
            try simp only [Act.put, List.setIfInBounds_toArray, List.set_cons_zero, List.set_cons_succ]
            refine wpS_take 15 (v := ?_) hSw rfl (by kernel_rfl) (by kernel_rfl) (by kernel_rfl) (by rfl) (fun w' hin => ?_) ?_
            rotate_left
            · (try simp only [] at hin); go_simp <;> with_reducible rfl
            try simp only [Act.put, List.setIfInBounds_toArray, List.set_cons_zero, List.set_cons_succ]
            refine wpS_take 16 (v := ?_) hSw rfl (by kernel_rfl) (by kernel_rfl) (by kernel_rfl) (by rfl) (fun w' hin => ?_) ?_
            rotate_left
            · (try simp only [] at hin); go_simp <;> with_reducible rfl
            try simp only [Act.put, List.setIfInBounds_toArray, List.set_cons_zero, List.set_cons_succ]
            refine wpS_take 17 (v := ?_) hSw rfl (by kernel_rfl) (by kernel_rfl) (by kernel_rfl) (by rfl) (fun w' hin => ?_) ?_
            rotate_left
            · (try simp only [] at hin); go_simp <;> with_reducible rfl
            try simp only [Act.put, List.setIfInBounds_toArray, List.set_cons_zero, List.set_cons_succ]
            refine wpS_take 18 (v := ?_) hSw rfl (by kernel_rfl) (by kernel_rfl) (by kernel_rfl) (by rfl) (fun w' hin => ?_) ?_
            rotate_left
            · (try simp only [] at hin); go_simp <;> with_reducible rfl
            try simp only [Act.put, List.setIfInBounds_toArray, List.set_cons_zero, List.set_cons_succ]
            refine wpS_take 19 (v := ?_) hSw rfl (by kernel_rfl) (by kernel_rfl) (by kernel_rfl) (by rfl) (fun w' hin => ?_) ?_
            rotate_left
            · (try simp only [] at hin); go_simp <;> with_reducible rfl
            try simp only [Act.put, List.setIfInBounds_toArray, List.set_cons_zero, List.set_cons_succ]
            refine wpS_take 20 (v := ?_) hSw rfl (by kernel_rfl) (by kernel_rfl) (by kernel_rfl) (by rfl) (fun w' hin => ?_) ?_
            rotate_left
            · (try simp only [] at hin); go_simp <;> with_reducible rfl
            try simp only [Act.put, List.setIfInBounds_toArray, List.set_cons_zero, List.set_cons_succ]
            refine wpS_take 21 (v := ?_) hSw rfl (by kernel_rfl) (by kernel_rfl) (by kernel_rfl) (by rfl) (fun w' hin => ?_) ?_
            rotate_left
            · (try simp only [] at hin); go_simp <;> with_reducible rfl
            try simp only [Act.put, List.setIfInBounds_toArray, List.set_cons_zero, List.set_cons_succ]
            refine wpS_take 22 (v := ?_) hSw rfl (by kernel_rfl) (by kernel_rfl) (by kernel_rfl) (by rfl) (fun w' hin => ?_) ?_
            rotate_left
            · (try simp only [] at hin); go_simp <;> with_reducible rfl
            try simp only [Act.put, List.setIfInBounds_toArray, List.set_cons_zero, List.set_cons_succ]
            refine wpS_take 23 (v := ?_) hSw rfl (by kernel_rfl) (by kernel_rfl) (by kernel_rfl) (by rfl) (fun w' hin => ?_) ?_
            rotate_left
            · (try simp only [] at hin); go_simp <;> with_reducible rfl
            try simp only [Act.put, List.setIfInBounds_toArray, List.set_cons_zero, List.set_cons_succ]
            refine wpS_one 24 rfl (by kernel_rfl) (by rfl) (fun K hK => ?_)
            go_simp
            refine (cmp_any q.key r.key _).mono ?_
            rintro e w11 ⟨rfl, hb11⟩
            have E11 : Ext W.drew w11 := Ext.trans E10 hb11
            simp only []
            refine hK.out _ _ (Ext W.drew) (fun _ h => h) (E11) (fun hSw => ?_)
            clear hK K
            try simp only [Act.put, List.setIfInBounds_toArray, List.set_cons_zero, List.set_cons_succ]
            refine wpS_take 25 (v := ?_) hSw rfl (by kernel_rfl) (by kernel_rfl) (by kernel_rfl) (by rfl) (fun w' hin => ?_) ?_
            rotate_left
            · (try simp only [] at hin); go_simp <;> with_reducible rfl
            try simp only [Act.put, List.setIfInBounds_toArray, List.set_cons_zero, List.set_cons_succ]
            refine wpS_take 26 (v := ?_) hSw rfl (by kernel_rfl) (by kernel_rfl) (by kernel_rfl) (by rfl) (fun w' hin => ?_) ?_
            rotate_left
            · (try simp only [] at hin); go_simp <;> with_reducible rfl
            try simp only [Act.put, List.setIfInBounds_toArray, List.set_cons_zero, List.set_cons_succ]
            refine wpS_take 27 (v := ?_) hSw rfl (by kernel_rfl) (by kernel_rfl) (by kernel_rfl) (by rfl) (fun w' hin => ?_) ?_
            rotate_left
            · (try simp only [] at hin); go_simp <;> with_reducible rfl
            try simp only [Act.put, List.setIfInBounds_toArray, List.set_cons_zero, List.set_cons_succ]
            refine wpS_done (by kernel_rfl) ?_
            have HE9 := Lib.hid (HE.out.trans (EX.out.trans ((Ext.refl W).drew.trans hSw)))
            clear x0 x1 x2 x3 x4 x5 x6 y0 y1 y2 y3 y4 y5 y6 ky0 ky1 kz0 kz1 hSw hb10 E10 hb11 E11 i5
            go_wp2_with fail
            go_roundw
            case rel => exact ⟨k + 1, by omega, by go_num, HE9⟩
            case measure => simp [intOf]; omega
        · have HA4 : Hid (allK a 4 = a) := Lib.hid (allK_four HS.out.2.2.1 HS.out.2.1)
          have HAL9 : Hid (ResL All wr Aw N a) := Lib.hid (by have h9 := ResL.keep HAL6.out HE.out.keep; rwa [HA4.out] at h9)
          go_wp2_with fail
          refine (tabSame_any Aw A N cw n c a a _ HMw.out HMa.out HAL9.out (ResL.keep Ha.out (E6.out.trans HE.out).keep)).mono ?_
          rintro e w9 ⟨rfl, hb9⟩
          rw [decide_eq_true rfl]
          have HE9 := Lib.hid ((E6.out.trans HE.out).trans hb9)
          clear hb9
          go_wp2_with fail
          go_ret
          exact ⟨rfl, HE9.out⟩
end Go.Proofs.YtepifkmileilfaaDoor
