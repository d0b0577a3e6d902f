/- The law TablePatched of layer 5. -/
import Derived.Test.YtepifkmileilfaaDoorTabLaw
namespace Go.Proofs.YtepifkmileilfaaDoor
set_option linter.unusedVariables false
open Go.RowKit
theorem sameR_self (r : Rs) : sameR r r = true := (same_iff r r).2 rfl
set_option maxRecDepth 100000 in
set_option maxHeartbeats 8000000 in
theorem tablePatched_any (A : Option Addr) (n c : Nat) (a : List Rs) (B : Option Addr) (m d : Nat) (b : List Rs) (w : World) (hsa : SlW A n c) (hA : ResL All w A n a) (hsb : SlW B m d) (hB : ResL All w B m b) :
    Calls Tryd.prog 14 #[.slice A n c, .slice B m d] w fun e w' => e = .returned (.bool true) ∧ Ext w w' := by
  have Ha := Lib.hid hA
  have Hb := Lib.hid hB
  have HMa : Hid (n ≤ maxLen) := Lib.hid (Nat.le_trans hsa.1 hsa.2.1)
  have HMb : Hid (m ≤ maxLen) := Lib.hid (Nat.le_trans hsb.1 hsb.2.1)
  have hla : a.length = n := hA.len
  have hlb : b.length = m := hB.len
  have HSLa := Lib.hid hsa
  have HSLb := Lib.hid hsb
  clear hA hB hsa hsb
  go_enter Tryd.func14, Tryd.ntmps14
  go_wp2_with fail
  refine (awake05 _).mono ?_
  rintro e w1 ⟨rfl, hb1⟩
  have E1 := Lib.hid hb1
  clear hb1
  go_wp2_with fail
  refine (few04_any All a A n c _ HMa.out (ResL.keep Ha.out E1.out.keep)).mono ?_
  rintro e w2 ⟨v, rfl, hv, hb2⟩
  have E2 := Lib.hid (E1.out.trans hb2)
  clear hb2
  cases v with
  | false =>
    go_wp2_with fail
    go_ret
    exact ⟨rfl, E2.out⟩
  | true =>
  have hfa : n ≤ 80 := hv rfl
  clear hv
  go_wp2_with fail
  refine (few04_any All b B m d _ HMb.out (ResL.keep Hb.out E2.out.keep)).mono ?_
  rintro e w3 ⟨v, rfl, hv, hb3⟩
  have E3 := Lib.hid (E2.out.trans hb3)
  clear hb3
  cases v with
  | false =>
    go_wp2_with fail
    go_ret
    exact ⟨rfl, E3.out⟩
  | true =>
  have hfb : m ≤ 80 := hv rfl
  clear hv
  go_wp2_with fail
  refine (tabSane_any A n c a _ HMa.out (ResL.keep Ha.out E3.out.keep)).mono ?_
  rintro e w4 ⟨rfl, hb4⟩
  have E4 := Lib.hid (E3.out.trans hb4)
  clear hb4
  obtain ⟨Za, hZ⟩ : ∃ Z, Z = saneT a := ⟨_, rfl⟩
  rw [← hZ]
  have HZa := Lib.hid hZ
  clear hZ
  by_cases hsa : Za = 0
  rotate_left
  · have hz1 : (Za != 0) = true := by simpa using hsa
    go_wp2_with fail
    go_ret
    exact ⟨rfl, E4.out⟩
  have HSa := Lib.hid (saneT_all (HZa.out.symm.trans hsa))
  subst hsa
  go_wp2_with fail
  refine (tabSane_any B m d b _ HMb.out (ResL.keep Hb.out E4.out.keep)).mono ?_
  rintro e w5 ⟨rfl, hb5⟩
  have E5 := Lib.hid (E4.out.trans hb5)
  clear hb5
  obtain ⟨Zb, hZ⟩ : ∃ Z, Z = saneT b := ⟨_, rfl⟩
  rw [← hZ]
  have HZb := Lib.hid hZ
  clear hZ
  by_cases hsb : Zb = 0
  rotate_left
  · have hz1 : (Zb != 0) = true := by simpa using hsb
    go_wp2_with fail
    go_ret
    exact ⟨rfl, E5.out⟩
  have HSb := Lib.hid (saneT_all (HZb.out.symm.trans hsb))
  subst hsb
  go_wp2_with fail
  refine (diff_any A n c a B m d b _ (by omega) (by omega) (ResL.keep Ha.out E5.out.keep) (ResL.keep Hb.out E5.out.keep) (fun z hz => sane_wf (HSa.out.2.1 z hz)) (fun z hz => sane_wf (HSb.out.2.1 z hz))).mono ?_
  rintro e w6 ⟨AP, nP, cP, AQ, nQ, cQ, rfl, hsP, hsQ, hP, hQ, hb6⟩
  have E6 := Lib.hid (E5.out.trans hb6)
  have HP := Lib.hid hP
  have HQ := Lib.hid hQ
  have HWP := Lib.hid hsP
  have HWQ := Lib.hid hsQ
  have hlP : (addsT a b).length = nP := hP.len
  have hlQ : (goneT a b).length = nQ := hQ.len
  have hleP : nP ≤ 64 := by have h8 : (addsT a b).length ≤ b.length := List.length_filter_le _ _; have h9 := HSb.out.1; omega
  have hleQ : nQ ≤ 64 := by have h8 : (goneT a b).length ≤ (a.map Rs.key).length := List.length_filter_le _ _; rw [List.length_map] at h8; have h9 := HSa.out.1; omega
  have F6 := Lib.hid hb6
  clear hb6 hsP hsQ hP hQ
  go_wp2_with fail
  refine (diff_any A n c a A n c a _ (by omega) (by omega) (ResL.keep Ha.out E6.out.keep) (ResL.keep Ha.out E6.out.keep) (fun z hz => sane_wf (HSa.out.2.1 z hz)) (fun z hz => sane_wf (HSa.out.2.1 z hz))).mono ?_
  rintro e w7 ⟨AR, nR, cR, AS, nS, cS, rfl, hsR, hsS, hR, hS, hb7⟩
  have E7 := Lib.hid (E6.out.trans hb7)
  have HR := Lib.hid hR
  have HS := Lib.hid hS
  have HWR := Lib.hid hsR
  have HWS := Lib.hid hsS
  have hlR : (addsT a a).length = nR := hR.len
  have hlS : (goneT a a).length = nS := hS.len
  have hleR : nR ≤ 64 := by have h8 : (addsT a a).length ≤ a.length := List.length_filter_le _ _; have h9 := HSa.out.1; omega
  have hleS : nS ≤ 64 := by have h8 : (goneT a a).length ≤ (a.map Rs.key).length := List.length_filter_le _ _; rw [List.length_map] at h8; have h9 := HSa.out.1; omega
  have F7 := Lib.hid hb7
  clear hb7 hsR hsS hR hS
  go_wp2_with fail

  go_loopw [10] (fun i wr => ∃ k : Nat, k ≤ nP ∧ i = .int .i64 k ∧ Hid (Ext w7 wr)) (fun i _ => nP - (intOf i).toNat)
  case atStart => exact ⟨0, Nat.zero_le _, by go_num, Lib.hid (Ext.refl _)⟩
  case round =>
    obtain ⟨k, hk, rfl, HE⟩ := hrel
    by_cases hlt : k < nP
    · obtain ⟨bb, off, r, B1, m1, d1, B1', m1', d1', rfl, hbl0, -, hx, hv, e0, e1, e2, e3, e4, e5, e6⟩ := ResL.at_ HP.out hlt
      have hrb : r ∈ b := ((mem_addsT HSa.out.2.2.1).1 (List.mem_of_getElem? hx)).1
      have hgt := getT_of HSb.out.2.2.1 hrb
      have HGT := Lib.hid hgt
      have HV := Lib.hid hv
      have hblr : bb < wr.heap.size := Nat.lt_of_lt_of_le hbl0 (F7.out.trans HE.out).size
      have i1 : (0 : Int) ≤ (k : Int) := by omega
      have i2 : (k : Int) < (nP : Int) := by omega
      have t0 : wr.cell? ⟨bb, off + k * 7, none⟩ = some (.int .i64 r.kind) := ((F7.out.trans HE.out).cell hbl0).trans e0
      have t1 : wr.cell? ⟨bb, off + k * 7 + 1, none⟩ = some (.string r.name) := ((F7.out.trans HE.out).cell hbl0).trans e1
      have t2 : wr.cell? ⟨bb, off + k * 7 + 2, none⟩ = some (.int .i64 r.ver) := ((F7.out.trans HE.out).cell hbl0).trans e2
      have t3 : wr.cell? ⟨bb, off + k * 7 + 3, none⟩ = some (.int .i64 r.port) := ((F7.out.trans HE.out).cell hbl0).trans e3
      have t4 : wr.cell? ⟨bb, off + k * 7 + 4, none⟩ = some (.string r.to) := ((F7.out.trans HE.out).cell hbl0).trans e4
      have t5 : wr.cell? ⟨bb, off + k * 7 + 5, none⟩ = some (.slice B1 m1 d1) := ((F7.out.trans HE.out).cell hbl0).trans e5
      have t6 : wr.cell? ⟨bb, off + k * 7 + 6, none⟩ = some (.slice B1' m1' d1') := ((F7.out.trans HE.out).cell hbl0).trans e6
      clear hx hv hrb hgt e0 e1 e2 e3 e4 e5 e6
      go_wp2_with fail
      refine (key_any r B1 m1 d1 B1' m1' d1' _).mono ?_
      rintro e w8 ⟨rfl, hb8⟩
      have HE8 := Lib.hid (HE.out.trans hb8)
      have G8 := Lib.hid hb8
      clear hb8
      go_wp2_with fail
      refine (get_any r.key B m d b _ (by omega) (ResL.keep Hb.out (E7.out.trans HE8.out).keep)).mono ?_
      rintro e w9 ⟨r', C, p, f, C', p', f', rfl, hr', hv', hb9⟩
      rw [HGT.out] at hr' ⊢
      obtain rfl : r = r' := hr'
      have G9 := Lib.hid (G8.out.trans hb9)
      have HVx := Lib.hid hv'
      clear hb9 hv'
      unfold rsVal
      go_wp2_with fail
      have KB := Lib.hid (heap_alloc_new w9 (.cells #[.int .i64 r.kind, .string r.name, .int .i64 r.ver, .int .i64 r.port, .string r.to, .slice C p f, .slice C' p' f'] 36))
      have EW := Lib.hid (Ext.new w9 (.cells #[.int .i64 r.kind, .string r.name, .int .i64 r.ver, .int .i64 r.port, .string r.to, .slice C p f, .slice C' p' f'] 36))
      have EX := Lib.hid (G9.out.trans (Ext.new w9 (.cells #[.int .i64 r.kind, .string r.name, .int .i64 r.ver, .int .i64 r.port, .string r.to, .slice C p f, .slice C' p' f'] 36)))
      have hzW : w9.heap.size < (w9.alloc (.cells #[.int .i64 r.kind, .string r.name, .int .i64 r.ver, .int .i64 r.port, .string r.to, .slice C p f, .slice C' p' f'] 36)).heap.size := by simp
      generalize w9.alloc (.cells #[.int .i64 r.kind, .string r.name, .int .i64 r.ver, .int .i64 r.port, .string r.to, .slice C p f, .slice C' p' f'] 36) = W at KB EW EX hzW ⊢
      obtain ⟨qb, -⟩ := blk_rules KB.out
      have x0 : ∀ w', Ext W.drew w' → w'.cell? ⟨w9.heap.size, 0, none⟩ = some (.int .i64 r.kind) := fun w' h => (((Ext.refl W).drew.trans h).cell hzW).trans (qb 0)
      have x1 : ∀ w', Ext W.drew w' → w'.cell? ⟨w9.heap.size, 1, none⟩ = some (.string r.name) := fun w' h => (((Ext.refl W).drew.trans h).cell hzW).trans (qb 1)
      have x2 : ∀ w', Ext W.drew w' → w'.cell? ⟨w9.heap.size, 2, none⟩ = some (.int .i64 r.ver) := fun w' h => (((Ext.refl W).drew.trans h).cell hzW).trans (qb 2)
      have x3 : ∀ w', Ext W.drew w' → w'.cell? ⟨w9.heap.size, 3, none⟩ = some (.int .i64 r.port) := fun w' h => (((Ext.refl W).drew.trans h).cell hzW).trans (qb 3)
      have x4 : ∀ w', Ext W.drew w' → w'.cell? ⟨w9.heap.size, 4, none⟩ = some (.string r.to) := fun w' h => (((Ext.refl W).drew.trans h).cell hzW).trans (qb 4)
      have x5 : ∀ w', Ext W.drew w' → w'.cell? ⟨w9.heap.size, 5, none⟩ = some (.slice C p f) := fun w' h => (((Ext.refl W).drew.trans h).cell hzW).trans (qb 5)
      have x6 : ∀ w', Ext W.drew w' → w'.cell? ⟨w9.heap.size, 6, none⟩ = some (.slice C' p' f') := fun w' h => (((Ext.refl W).drew.trans h).cell hzW).trans (qb 6)
      have y0 : ∀ w', Ext W.drew w' → w'.cell? ⟨bb, off + k * 7, none⟩ = some (.int .i64 r.kind) := fun w' h => ((EX.out.trans ((Ext.refl W).drew.trans h)).cell hblr).trans t0
      have y1 : ∀ w', Ext W.drew w' → w'.cell? ⟨bb, off + k * 7 + 1, none⟩ = some (.string r.name) := fun w' h => ((EX.out.trans ((Ext.refl W).drew.trans h)).cell hblr).trans t1
      have y2 : ∀ w', Ext W.drew w' → w'.cell? ⟨bb, off + k * 7 + 2, none⟩ = some (.int .i64 r.ver) := fun w' h => ((EX.out.trans ((Ext.refl W).drew.trans h)).cell hblr).trans t2
      have y3 : ∀ w', Ext W.drew w' → w'.cell? ⟨bb, off + k * 7 + 3, none⟩ = some (.int .i64 r.port) := fun w' h => ((EX.out.trans ((Ext.refl W).drew.trans h)).cell hblr).trans t3
      have y4 : ∀ w', Ext W.drew w' → w'.cell? ⟨bb, off + k * 7 + 4, none⟩ = some (.string r.to) := fun w' h => ((EX.out.trans ((Ext.refl W).drew.trans h)).cell hblr).trans t4
      have y5 : ∀ w', Ext W.drew w' → w'.cell? ⟨bb, off + k * 7 + 5, none⟩ = some (.slice B1 m1 d1) := fun w' h => ((EX.out.trans ((Ext.refl W).drew.trans h)).cell hblr).trans t5
      have y6 : ∀ w', Ext W.drew w' → w'.cell? ⟨bb, off + k * 7 + 6, none⟩ = some (.slice B1' m1' d1') := fun w' h => ((EX.out.trans ((Ext.refl W).drew.trans h)).cell hblr).trans t6
      clear qb t0 t1 t2 t3 t4 t5 t6
      go_wp2_with fail
      have hSw : Ext W.drew W.drew := Ext.refl _
      refine wpS_begin (Ext W.drew) (by kernel_rfl) ?_
      refine wpS_take 0 (v := ?_) hSw rfl (by kernel_rfl) (by kernel_rfl) (by kernel_rfl) (by rfl) (fun w' hin => ?_) ?_
      rotate_left
      · (try simp only [] at hin); go_simp <;> with_reducible rfl
      try simp only [Act.put, List.setIfInBounds_toArray, List.set_cons_zero, List.set_cons_succ]
      refine wpS_take 1 (v := ?_) hSw rfl (by kernel_rfl) (by kernel_rfl) (by kernel_rfl) (by rfl) (fun w' hin => ?_) ?_
      rotate_left
      · (try simp only [] at hin); go_simp <;> with_reducible rfl
      try simp only [Act.put, List.setIfInBounds_toArray, List.set_cons_zero, List.set_cons_succ]
      refine wpS_take 2 (v := ?_) hSw rfl (by kernel_rfl) (by kernel_rfl) (by kernel_rfl) (by rfl) (fun w' hin => ?_) ?_
      rotate_left
      · (try simp only [] at hin); go_simp <;> with_reducible rfl
      try simp only [Act.put, List.setIfInBounds_toArray, List.set_cons_zero, List.set_cons_succ]
      refine wpS_take 3 (v := ?_) hSw rfl (by kernel_rfl) (by kernel_rfl) (by kernel_rfl) (by rfl) (fun w' hin => ?_) ?_
      rotate_left
      · (try simp only [] at hin); go_simp <;> with_reducible rfl
      try simp only [Act.put, List.setIfInBounds_toArray, List.set_cons_zero, List.set_cons_succ]
      refine wpS_take 4 (v := ?_) hSw rfl (by kernel_rfl) (by kernel_rfl) (by kernel_rfl) (by rfl) (fun w' hin => ?_) ?_
      rotate_left
      · (try simp only [] at hin); go_simp <;> with_reducible rfl
      try simp only [Act.put, List.setIfInBounds_toArray, List.set_cons_zero, List.set_cons_succ]
      refine wpS_take 5 (v := ?_) hSw rfl (by kernel_rfl) (by kernel_rfl) (by kernel_rfl) (by rfl) (fun w' hin => ?_) ?_
      rotate_left
      · (try simp only [] at hin); go_simp <;> with_reducible rfl
      try simp only [Act.put, List.setIfInBounds_toArray, List.set_cons_zero, List.set_cons_succ]
      refine wpS_take 6 (v := ?_) hSw rfl (by kernel_rfl) (by kernel_rfl) (by kernel_rfl) (by rfl) (fun w' hin => ?_) ?_
      rotate_left
      · (try simp only [] at hin); go_simp <;> with_reducible rfl
      try simp only [Act.put, List.setIfInBounds_toArray, List.set_cons_zero, List.set_cons_succ]
      refine wpS_take 7 (v := ?_) hSw rfl (by kernel_rfl) (by kernel_rfl) (by kernel_rfl) (by rfl) (fun w' hin => ?_) ?_
      rotate_left
      · (try simp only [] at hin); go_simp <;> with_reducible rfl
      try simp only [Act.put, List.setIfInBounds_toArray, List.set_cons_zero, List.set_cons_succ]
      refine wpS_one 8 rfl (by kernel_rfl) (by rfl) (fun K hK => ?_)
      go_simp
      refine (same_any All All r r C p f C' p' f' B1 m1 d1 B1' m1' d1' _ (HVx.out.up (EW.out.trans ((Ext.refl W).drew.trans hSw))) (HV.out.up ((F7.out.trans HE.out).trans ((EX.out.trans ((Ext.refl W).drew.trans hSw)))))).mono ?_
      rintro e w10 ⟨rfl, hb10⟩
      have E10 : Ext W.drew w10 := Ext.trans hSw hb10
      rw [sameR_self]
      simp only []
      refine hK.out _ _ (Ext W.drew) (fun _ h => h) (E10) (fun hSw => ?_)
      clear hK K
      try simp only [Act.put, List.setIfInBounds_toArray, List.set_cons_zero, List.set_cons_succ]
      refine wpS_take 9 (v := ?_) hSw rfl (by kernel_rfl) (by kernel_rfl) (by kernel_rfl) (by rfl) (fun w' hin => ?_) ?_
      rotate_left
      · (try simp only [] at hin); go_simp <;> with_reducible rfl
      try simp only [Act.put, List.setIfInBounds_toArray, List.set_cons_zero, List.set_cons_succ]
      refine wpS_take 10 (v := ?_) hSw rfl (by kernel_rfl) (by kernel_rfl) (by kernel_rfl) (by rfl) (fun w' hin => ?_) ?_
      rotate_left
      · (try simp only [] at hin); go_simp <;> with_reducible rfl
      try simp only [Act.put, List.setIfInBounds_toArray, List.set_cons_zero, List.set_cons_succ]
      refine wpS_done (by kernel_rfl) ?_
      have HE9 := Lib.hid (HE.out.trans (EX.out.trans ((Ext.refl W).drew.trans hSw)))
      clear x0 x1 x2 x3 x4 x5 x6 y0 y1 y2 y3 y4 y5 y6 hSw hb10 E10
      go_wp2_with fail
      go_roundw
      case rel => exact ⟨k + 1, by omega, by go_num, HE9⟩
      case measure => simp [intOf]; omega
    · go_wp2_with fail
      go_loopw [13] (fun i wx => ∃ j : Nat, j ≤ nQ ∧ i = .int .i64 j ∧ Hid (Ext w7 wx)) (fun i _ => nQ - (intOf i).toNat)
      case atStart => exact ⟨0, Nat.zero_le _, by go_num, HE⟩
      case round =>
        clear HE
        obtain ⟨j, hj, rfl, HE⟩ := hrel
        by_cases hlj : j < nQ
        · obtain ⟨bb, off, y, rfl, hbl0, -, hx, hsz, d0, d1⟩ := KeyL.at_ HQ.out hlj
          have hgn : getT b y = none := getT_none.2 (fun z hz he => (mem_goneT.1 (List.mem_of_getElem? hx)).2 (List.mem_map.2 ⟨z, hz, he⟩))
          have HGN := Lib.hid hgn
          have i1 : (0 : Int) ≤ (j : Int) := by omega
          have i2 : (j : Int) < (nQ : Int) := by omega
          have t0 : wr.cell? ⟨bb, off + j * 2, none⟩ = some (.int .i64 y.kind) := ((F7.out.trans HE.out).cell hbl0).trans d0
          have t1 : wr.cell? ⟨bb, off + j * 2 + 1, none⟩ = some (.string y.name) := ((F7.out.trans HE.out).cell hbl0).trans d1
          clear hx d0 d1 hgn
          go_wp2_with fail
          refine (get_any y B m d b _ (by omega) (ResL.keep Hb.out (E7.out.trans HE.out).keep)).mono ?_
          rintro e w8 ⟨r, C, p, f, C', p', f', rfl, -, -, hb8⟩
          rw [HGN.out]
          have HE8 := Lib.hid (HE.out.trans hb8)
          clear hb8 t0 t1
          unfold rsVal
          go_wp2_with fail
          go_roundw
          case rel => exact ⟨j + 1, by omega, by go_num, Lib.hid (HE8.out.alloc _)⟩
          case measure => simp [intOf]; omega
        · have hpd := patch_diff HSa.out.2.2.1 HSb.out.2.2.1
          have HPD := Lib.hid hpd
          obtain rfl : nR = 0 := by rw [adds_self HSa.out.2.2.1] at hlR; exact hlR.symm
          obtain rfl : nS = 0 := by rw [gone_self] at hlS; exact hlS.symm
          clear hpd
          go_wp2_with fail
          refine (patch_any A n c a AP nP cP (addsT a b) AQ nQ cQ (goneT a b) _ (by omega) (by omega) (by omega) HSLa.out (ResL.keep Ha.out (E7.out.trans HE.out).keep) (ResL.keep HP.out (F7.out.trans HE.out).keep) (KeyL.keep HQ.out (F7.out.trans HE.out).keep)).mono ?_
          rw [HPD.out]
          rintro e w8 ⟨C, p, f, rfl, hs8, h8, hb8⟩
          have HE8 := Lib.hid ((E7.out.trans HE.out).trans hb8)
          have H8 := Lib.hid h8
          have HS8 := Lib.hid hs8
          clear hb8 h8 hs8
          go_wp2_with fail
          refine (tabSame_any C B p f m d b b _ (Nat.le_trans HS8.out.1 HS8.out.2.1) HMb.out H8.out (ResL.keep Hb.out HE8.out.keep)).mono ?_
          rintro e w9 ⟨rfl, hb9⟩
          rw [decide_eq_true rfl]
          have HE9 := Lib.hid (HE8.out.trans hb9)
          clear hb9
          go_wp2_with fail
          go_ret
          exact ⟨rfl, HE9.out⟩
end Go.Proofs.YtepifkmileilfaaDoor
