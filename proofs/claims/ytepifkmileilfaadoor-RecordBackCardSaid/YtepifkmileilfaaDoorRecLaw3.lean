/- The law RecordKey of layer 4. -/
import Derived.Test.YtepifkmileilfaaDoorRecLaw2
namespace Go.Proofs.YtepifkmileilfaaDoor
set_option linter.unusedVariables false
open Go.RowKit

theorem clE_V (S : Nat → Prop) (w : World) (nm : ByteArray) (h : nm.size ≤ maxLen) : RsV S w (clE nm) none 0 0 none 0 0 := ⟨h, show (⟨#[101]⟩ : ByteArray).size ≤ maxLen by decide, SlW.nil_, SlW.nil_, ArrQ.nil_, ArrQ.nil_⟩
set_option maxRecDepth 100000 in
set_option maxHeartbeats 400000 in
theorem done_none (g : Nat) (e : Int) (w : World) (h : RdAt w g ⟨[], e⟩) :
    Calls Tryd.prog 44 #[.pointer (some ⟨g, 0, none⟩)] w fun en w' => en = .returned (.int .i64 e) ∧ w = w' := by
  obtain ⟨A, n, c, hg, hA, hnc, hcm, hB, ho⟩ := h
  obtain ⟨g0, g1⟩ := blk_rules hg
  have hn : n = 0 := by have := hB.len; simpa using this.symm
  subst hn
  clear hg hB ho
  go_enter Tryd.func44, Tryd.ntmps44
  go_wp2_with fail
  go_ret
  exact ⟨rfl, rfl⟩
theorem if2 {a b : Prop} {ia : Decidable a} {ib : Decidable b} {w : World} (ha : a) (hb : b) :
    (if a then if b then Result.ok (Next.value (Value.bool true)) w else Result.ok (Next.value (Value.bool false)) w else Result.ok (Next.value (Value.bool false)) w) = Result.ok (Next.value (Value.bool true)) w := by rw [if_pos ha, if_pos hb]

set_option maxRecDepth 100000 in
set_option maxHeartbeats 4000000 in
theorem recordKey_any (k : Ky) (A : Option Addr) (n c : Nat) (bs : List UInt8) (w : World) (hk : k.name.size ≤ maxLen) (hB : Byts w A n bs) (hc : A = none → c = 0) (hnc : n ≤ c) (hcm : c ≤ 9223372036854775807) :
    Calls Tryd.prog 8 #[.agg #[.int .i64 k.kind, .string k.name], .slice A n c] w fun e w' => e = .returned (.bool true) ∧ Ext w w' := by
  have HB := Lib.hid hB
  have HC := Lib.hid hc
  have hkm : k.name.size ≤ 9223372036854775807 := by unfold maxLen at hk; exact hk
  clear hB hc
  by_cases hb : 100 < k.name.size ∨ 200 < n
  · by_cases hb1 : 100 < k.name.size
    · go_enter Tryd.func8, Tryd.ntmps8
      go_wp2_with fail
      refine (awake04 _).mono ?_
      rintro e w1 ⟨rfl, hb1⟩
      obtain ⟨q0, -⟩ := blk_rules (box1b hb1).1
      have E1 := Lib.hid ((Ext.new w _).trans hb1)
      clear hb1
      go_wp2_with fail
      go_ret
      exact ⟨rfl, E1.out⟩
    · have hb2 : 200 < n := by omega
      go_enter Tryd.func8, Tryd.ntmps8
      go_wp2_with fail
      refine (awake04 _).mono ?_
      rintro e w1 ⟨rfl, hb1⟩
      obtain ⟨q0, -⟩ := blk_rules (box1b hb1).1
      have E1 := Lib.hid ((Ext.new w _).trans hb1)
      clear hb1
      go_wp2_with fail
      go_ret
      exact ⟨rfl, E1.out⟩
  have hb1 : ¬ 100 < k.name.size := by omega
  have hb2 : ¬ 200 < n := by omega
  clear hb
  go_enter Tryd.func8, Tryd.ntmps8
  go_wp2_with fail
  refine (awake04 _).mono ?_
  rintro e w1 ⟨rfl, hb1x⟩
  have K1 := Lib.hid (box1b hb1x).1
  have z1 := (box1b hb1x).2
  have E1 := Lib.hid ((Ext.new w _).trans hb1x)
  obtain ⟨q0, -⟩ := blk_rules K1.out
  clear hb1x
  have hs0 : saneR (clE k.name) = 0 ↔ saneN (tx k.name) = true := clE_sane k.name
  have HS0 := Lib.hid hs0
  clear hs0
  by_cases h1 : 0 ≤ k.kind
  rotate_left
  · have HGf := Lib.hid (gk1 h1)
    have HP : Hid (putK k = []) := Lib.hid (putK_not (HGf.out))
    go_wp2_with fail
    refine (((putKey_lay (fun _ => True) _).2 A n c bs k _ (Ext.refl _) (ArrR.up HB.out (E1.out.alloc _)) HC.out (by omega) trivial hk).mono fun _ _ h => LayN.of h).mono ?_
    rintro e w9 ⟨P, N, d, rfl, HN, HCp, HBp, HOp, hb9⟩
    rw [HP.out] at HN HBp
    rw [List.append_nil] at HBp
    have v0 := convR HBp.out d
    have v1 := convR (ArrR.up HB.out (((E1.out.alloc _)).trans hb9)) c
    have E9 := Lib.hid (((E1.out.alloc _)).trans hb9)
    clear hb9
    go_wp2_with fail
    go_ret
    exact ⟨rfl, E9.out⟩
  by_cases h2 : k.kind < 4
  rotate_left
  · have HGf := Lib.hid (gk2 h2)
    have HP : Hid (putK k = []) := Lib.hid (putK_not (HGf.out))
    go_wp2_with fail
    refine (((putKey_lay (fun _ => True) _).2 A n c bs k _ (Ext.refl _) (ArrR.up HB.out (E1.out.alloc _)) HC.out (by omega) trivial hk).mono fun _ _ h => LayN.of h).mono ?_
    rintro e w9 ⟨P, N, d, rfl, HN, HCp, HBp, HOp, hb9⟩
    rw [HP.out] at HN HBp
    rw [List.append_nil] at HBp
    have v0 := convR HBp.out d
    have v1 := convR (ArrR.up HB.out (((E1.out.alloc _)).trans hb9)) c
    have E9 := Lib.hid (((E1.out.alloc _)).trans hb9)
    clear hb9
    go_wp2_with fail
    go_ret
    exact ⟨rfl, E9.out⟩
  have HG3 := Lib.hid (gk3 h1 h2)
  go_wp2_with fail
  refine (resSane_any (fun _ => True) (clE k.name) none none 0 0 0 0 _ (clE_V _ _ _ hk)).mono ?_
  rintro e w2 ⟨rfl, hb2⟩
  have E2 := Lib.hid ((E1.out.alloc _).trans hb2)
  have K2 := Lib.hid ((((Ext.new w1 _).trans hb2).block z1).trans K1.out)
  have z2 : w.heap.size < w2.heap.size := Nat.lt_of_lt_of_le z1 ((Ext.new w1 _).trans hb2).size
  clear q0 hb2
  obtain ⟨q0, -⟩ := blk_rules K2.out
  obtain ⟨v, hv⟩ : ∃ v, v = saneR (clE k.name) := ⟨_, rfl⟩
  rw [← hv]
  have HVS := Lib.hid hv
  clear hv
  by_cases hs : v = 0
  rotate_left
  · have hs1 : (v == 0) = false := by simpa using hs
    have HGf : Hid (goodK k = false) := Lib.hid (by
      rw [HG3.out]
      cases h : saneN (tx k.name) with
      | false => rfl
      | true => exact absurd (HVS.out.trans (HS0.out.2 h)) hs)
    clear hs
    have HP : Hid (putK k = []) := Lib.hid (putK_not (HGf.out))
    go_wp2_with fail
    refine (((putKey_lay (fun _ => True) _).2 A n c bs k _ (Ext.refl _) (ArrR.up HB.out E2.out) HC.out (by omega) trivial hk).mono fun _ _ h => LayN.of h).mono ?_
    rintro e w9 ⟨P, N, d, rfl, HN, HCp, HBp, HOp, hb9⟩
    rw [HP.out] at HN HBp
    rw [List.append_nil] at HBp
    have v0 := convR HBp.out d
    have v1 := convR (ArrR.up HB.out ((E2.out).trans hb9)) c
    have E9 := Lib.hid ((E2.out).trans hb9)
    clear hb9
    go_wp2_with fail
    go_ret
    exact ⟨rfl, E9.out⟩
  have hs1 : (v == 0) = true := by simpa using hs
  have HGt : Hid (goodK k = true) := Lib.hid (by rw [HG3.out]; exact HS0.out.1 (HVS.out.symm.trans hs))
  clear hs
  have HP : Hid (putK k = enc (bnd k.kind) ++ encT (tx k.name)) := Lib.hid (putK_is HGt.out)
  go_wp2_with fail
  refine (((putKey_lay (fun _ => True) _).2 A n c bs k _ (Ext.refl _) (ArrR.up HB.out E2.out) HC.out (by omega) trivial hk).mono fun _ _ h => LayN.of h).mono ?_
  rintro e w3 ⟨P, N, d, rfl, HN, HCp, HBp, HOp, hb3⟩
  have E3 := Lib.hid (E2.out.trans hb3)
  have K3 := Lib.hid ((hb3.block z2).trans K2.out)
  have z3 := Nat.lt_of_lt_of_le z2 hb3.size
  have HNc : Hid (N ≤ d ∧ d ≤ maxLen) := Lib.hid (by
    obtain ⟨A1, c1, e1, h1, h2, -, -, -⟩ := own_byts HOp.out
    injection e1 with _ _ e1; subst e1; exact ⟨h1, h2⟩)
  have hnN : n < N := by have h1 := HN.out; have h2 := putK_pos HGt.out; omega
  have hNm : N ≤ 222 := by have h1 := HN.out; have h2 := putK_len k; omega
  have hdm : d ≤ 9223372036854775807 := by have := HNc.out.2; unfold maxLen at this; omega
  have hNd := HNc.out.1
  have hdn : ¬ d = n := by omega
  obtain ⟨bp, op, u0, rfl, hbp, -, -⟩ := Byts.at_ HBp.out (k := 0) (by omega)
  have HBd : Hid (Byts w3 (some ⟨bp, op + n, none⟩) (N - n) (putK k)) := Lib.hid (by
    have h := byts_drop HBp.out n
    rwa [← HB.out.len, List.drop_left, HB.out.len] at h)
  have HT : Hid (takeK ⟨putK k, 0⟩ = (⟨[], 0⟩, k)) := Lib.hid (by have := codec_k.back k [] HGt.out; rwa [List.append_nil] at this)
  clear q0 hb3
  go_wp2_with fail
  have hR := RdAt.box (w := w3) 0 HBd.out (fun h => by cases h) (by omega) (c := d - n) (by omega)
  refine ((takeKey_takes w3.heap.size).2 ⟨putK k, 0⟩ _ hR).mono ?_
  rw [HT.out]
  rintro e w4 ⟨rfl, -, hr4, ho4⟩
  have E4 : Hid (Ext w w4) := Lib.hid (Only.ext (E3.out.alloc _) ho4 E3.out.size)
  have z4 : w3.heap.size < w4.heap.size := by have := ho4.size; simp at this; omega
  have HR4 := Lib.hid hr4
  have K4 := Lib.hid ((ho4.blk (b := w.heap.size) (by simp; omega) (by omega)).trans (((Ext.new w3 _).block z3).trans K3.out))
  have HB4 : Hid (Byts w4 (some ⟨bp, op, none⟩) N (bs ++ putK k)) := Lib.hid (Byts.only (ArrR.up HBp.out (Ext.new w3 _)) (fun _ b o e => by injection e with e; injection e with e; omega) ho4)
  clear hr4 ho4 hR
  go_wp2_with fail
  have kA := heap_alloc_new w4 (.cells #[.int .i64 k.kind, .string k.name] 57)
  have EW := Lib.hid (Ext.new w4 (.cells #[.int .i64 k.kind, .string k.name] 57))
  have hsW : w4.heap.size < (w4.alloc (.cells #[.int .i64 k.kind, .string k.name] 57)).heap.size := by simp
  generalize w4.alloc (.cells #[.int .i64 k.kind, .string k.name] 57) = W at kA EW hsW ⊢
  have KA := Lib.hid kA
  have KB := Lib.hid ((EW.out.block (b := w.heap.size) (by omega)).trans K4.out)
  have zB : w.heap.size < W.heap.size := by omega
  clear kA
  have t0 : ∀ w', Ext W.drew w' → w'.cell? ⟨w4.heap.size, 0, none⟩ = some (.int .i64 k.kind) := fun w' hx => (blk_rules ((((Ext.refl W).drew.trans hx).block hsW).trans KA.out)).1 0
  have t1 : ∀ w', Ext W.drew w' → w'.cell? ⟨w4.heap.size, 1, none⟩ = some (.string k.name) := fun w' hx => (blk_rules ((((Ext.refl W).drew.trans hx).block hsW).trans KA.out)).1 1
  have t2 : ∀ w', Ext W.drew w' → w'.cell? ⟨w.heap.size, 0, none⟩ = some (.int .i64 k.kind) := fun w' hx => (blk_rules ((((Ext.refl W).drew.trans hx).block zB).trans KB.out)).1 0
  have t3 : ∀ w', Ext W.drew w' → w'.cell? ⟨w.heap.size, 1, none⟩ = some (.string k.name) := fun w' hx => (blk_rules ((((Ext.refl W).drew.trans hx).block zB).trans KB.out)).1 1
  have v0 : ∀ w', Ext W.drew w' → (convert 40 9 (.slice (some ⟨bp, op, none⟩) N d)).run Tryd.prog w' = .ok (.string (bstr (bs ++ putK k))) w' := fun w' hx => convR (ArrR.up HB4.out (EW.out.trans ((Ext.refl W).drew.trans hx))) d
  have hSw : Ext W.drew W.drew := Ext.refl _
  refine wpS_begin (Ext W.drew) (by kernel_rfl) ?_
  refine wpS_take 0 (v := ?_) hSw rfl (by kernel_rfl) (by kernel_rfl) (by kernel_rfl) (by rfl) (fun w' hin => ?_) ?_
  rotate_left
  · (try simp only [] at hin); go_simp <;> with_reducible rfl
  try simp only [Act.put, List.setIfInBounds_toArray, List.set_cons_zero, List.set_cons_succ]
  refine wpS_take 1 (v := ?_) hSw rfl (by kernel_rfl) (by kernel_rfl) (by kernel_rfl) (by rfl) (fun w' hin => ?_) ?_
  rotate_left
  · (try simp only [] at hin); go_simp <;> with_reducible rfl
  try simp only [Act.put, List.setIfInBounds_toArray, List.set_cons_zero, List.set_cons_succ]
  refine wpS_take 2 (v := ?_) hSw rfl (by kernel_rfl) (by kernel_rfl) (by kernel_rfl) (by rfl) (fun w' hin => ?_) ?_
  rotate_left
  · (try simp only [] at hin); go_simp <;> with_reducible rfl
  try simp only [Act.put, List.setIfInBounds_toArray, List.set_cons_zero, List.set_cons_succ]
  refine wpS_take 3 (v := ?_) hSw rfl (by kernel_rfl) (by kernel_rfl) (by kernel_rfl) (by rfl) (fun w' hin => ?_) ?_
  rotate_left
  · (try simp only [] at hin); go_simp <;> with_reducible rfl
  try simp only [Act.put, List.setIfInBounds_toArray, List.set_cons_zero, List.set_cons_succ]
  refine wpS_take 4 (v := ?_) hSw rfl (by kernel_rfl) (by kernel_rfl) (by kernel_rfl) (by rfl) (fun w' hin => ?_) ?_
  rotate_left
  · (try simp only [] at hin); go_simp <;> with_reducible rfl
  try simp only [Act.put, List.setIfInBounds_toArray, List.set_cons_zero, List.set_cons_succ]
  refine wpS_take 5 (v := ?_) hSw rfl (by kernel_rfl) (by kernel_rfl) (by kernel_rfl) (by rfl) (fun w' hin => ?_) ?_
  rotate_left
  · (try simp only [] at hin); go_simp <;> with_reducible rfl
  try simp only [Act.put, List.setIfInBounds_toArray, List.set_cons_zero, List.set_cons_succ]
  refine wpS_take 6 (v := ?_) hSw rfl (by kernel_rfl) (by kernel_rfl) (by kernel_rfl) (by rfl) (fun w' hin => ?_) ?_
  rotate_left
  · (try simp only [] at hin); go_simp <;> with_reducible rfl
  try simp only [Act.put, List.setIfInBounds_toArray, List.set_cons_zero, List.set_cons_succ]
  refine wpS_take 8 (v := ?_) hSw rfl (by kernel_rfl) (by kernel_rfl) (by kernel_rfl) (by rfl) (fun w' hin => ?_) ?_
  rotate_left
  · (try simp only [] at hin); go_simp <;> with_reducible rfl
  try simp only [Act.put, List.setIfInBounds_toArray, List.set_cons_zero, List.set_cons_succ]
  refine wpS_take 9 (v := ?_) hSw rfl (by kernel_rfl) (by kernel_rfl) (by kernel_rfl) (by rfl) (fun w' hin => ?_) ?_
  rotate_left
  · (try simp only [] at hin); go_simp <;> with_reducible rfl
  try simp only [Act.put, List.setIfInBounds_toArray, List.set_cons_zero, List.set_cons_succ]
  refine wpS_one 7 rfl (by kernel_rfl) (by rfl) (fun K hK => ?_)
  go_simp
  refine (number_lay A n c bs k.kind _ (ArrR.up HB.out (E4.out.trans (EW.out.trans ((Ext.refl W).drew.trans hSw)))) HC.out (by omega)).mono ?_
  rintro e w5 ⟨Q, M, f, rfl, HM, HCq, HBq, HOq, hb5⟩
  simp only []
  refine hK.out _ _ (Ext W.drew) (fun _ h => h) (hb5) (fun hSw => ?_)
  clear hK K
  try simp only [Act.put, List.setIfInBounds_toArray, List.set_cons_zero, List.set_cons_succ]
  refine wpS_one 10 rfl (by kernel_rfl) (by rfl) (fun K hK => ?_)
  go_simp
  refine (text_lay Q M f (bs ++ enc (bnd k.kind)) k.name _ HBq.out HCq.out (by have h1 := HM.out; have h2 := enc_len (bnd k.kind); omega) (by omega)).mono ?_
  rintro e w6 ⟨R, L, h, rfl, HL, HCr, HBr, HOr, hb6⟩
  simp only []
  rw [List.append_assoc, ← HP.out] at HBr
  have u0 : ∀ w', Ext w6 w' → w'.cell? ⟨w4.heap.size, 0, none⟩ = some (.int .i64 k.kind) := fun w' hx => t0 w' ((hb5.trans hb6).trans hx)
  have u1 : ∀ w', Ext w6 w' → w'.cell? ⟨w4.heap.size, 1, none⟩ = some (.string k.name) := fun w' hx => t1 w' ((hb5.trans hb6).trans hx)
  have u2 : ∀ w', Ext w6 w' → w'.cell? ⟨w.heap.size, 0, none⟩ = some (.int .i64 k.kind) := fun w' hx => t2 w' ((hb5.trans hb6).trans hx)
  have u3 : ∀ w', Ext w6 w' → w'.cell? ⟨w.heap.size, 1, none⟩ = some (.string k.name) := fun w' hx => t3 w' ((hb5.trans hb6).trans hx)
  have v2 : ∀ w', Ext w6 w' → (convert 40 9 (.slice R L h)).run Tryd.prog w' = .ok (.string (bstr (bs ++ putK k))) w' := fun w' hx => convR (ArrR.up HBr.out hx) h
  clear t0 t1 t2 t3 v0
  refine hK.out _ _ (Ext w6) (fun x hx => (hb5.trans hb6).trans hx) (Ext.refl _) (fun hSw => ?_)
  clear hK K
  try simp only [Act.put, List.setIfInBounds_toArray, List.set_cons_zero, List.set_cons_succ]
  refine wpS_take 11 (v := ?_) hSw rfl (by kernel_rfl) (by kernel_rfl) (by kernel_rfl) (by rfl) (fun w' hin => ?_) ?_
  rotate_left
  · (try simp only [] at hin); go_simp <;> with_reducible rfl
  try simp only [Act.put, List.setIfInBounds_toArray, List.set_cons_zero, List.set_cons_succ]
  refine wpS_take 12 (v := ?_) hSw rfl (by kernel_rfl) (by kernel_rfl) (by kernel_rfl) (by rfl) (fun w' hin => ?_) ?_
  rotate_left
  · (try simp only [] at hin); go_simp <;> with_reducible rfl
  try simp only [Act.put, List.setIfInBounds_toArray, List.set_cons_zero, List.set_cons_succ]
  refine wpS_take 13 (v := ?_) hSw rfl (by kernel_rfl) (by kernel_rfl) (by kernel_rfl) (by rfl) (fun w' hin => ?_) ?_
  rotate_left
  · (try simp only [] at hin); go_simp <;> with_reducible rfl
  try simp only [Act.put, List.setIfInBounds_toArray, List.set_cons_zero, List.set_cons_succ]
  refine wpS_take 14 (v := ?_) hSw rfl (by kernel_rfl) (by kernel_rfl) (by kernel_rfl) (by rfl) (fun w' hin => ?_) ?_
  rotate_left
  · (try simp only [] at hin); go_simp <;> with_reducible rfl
  try simp only [Act.put, List.setIfInBounds_toArray, List.set_cons_zero, List.set_cons_succ]
  refine wpS_take 15 (v := ?_) hSw rfl (by kernel_rfl) (by kernel_rfl) (by kernel_rfl) (by rfl) (fun w' hin => ?_) ?_
  rotate_left
  · (try simp only [] at hin); go_simp <;> with_reducible rfl
  try simp only [Act.put, List.setIfInBounds_toArray, List.set_cons_zero, List.set_cons_succ]
  refine wpS_take 16 (v := ?_) hSw rfl (by kernel_rfl) (by kernel_rfl) (by kernel_rfl) (by rfl) (fun w' hin => ?_) ?_
  rotate_left
  · (try simp only [] at hin); go_simp <;> with_reducible rfl
  try simp only [Act.put, List.setIfInBounds_toArray, List.set_cons_zero, List.set_cons_succ]
  refine wpS_take 17 (v := ?_) hSw rfl (by kernel_rfl) (by kernel_rfl) (by kernel_rfl) (by rfl) (fun w' hin => ?_) ?_
  rotate_left
  · (try simp only [] at hin); go_simp <;> with_reducible rfl
  try simp only [Act.put, List.setIfInBounds_toArray, List.set_cons_zero, List.set_cons_succ]
  refine wpS_take 18 (v := ?_) hSw rfl (by kernel_rfl) (by kernel_rfl) (by kernel_rfl) (by rfl) (fun w' hin => ?_) ?_
  rotate_left
  · (try simp only [] at hin); go_simp <;> with_reducible rfl
  try simp only [Act.put, List.setIfInBounds_toArray, List.set_cons_zero, List.set_cons_succ]
  refine wpS_take 19 (v := ?_) hSw rfl (by kernel_rfl) (by kernel_rfl) (by kernel_rfl) (by rfl) (fun w' hin => ?_) ?_
  rotate_left
  · (try simp only [] at hin); go_simp <;> with_reducible rfl
  try simp only [Act.put, List.setIfInBounds_toArray, List.set_cons_zero, List.set_cons_succ]
  refine wpS_take 20 (v := ?_) hSw rfl (by kernel_rfl) (by kernel_rfl) (by kernel_rfl) (by rfl) (fun w' hin => ?_) ?_
  rotate_left
  · (try simp only [] at hin); go_simp <;> with_reducible rfl
  try simp only [Act.put, List.setIfInBounds_toArray, List.set_cons_zero, List.set_cons_succ]
  refine wpS_one 21 rfl (by kernel_rfl) (by rfl) (fun K hK => ?_)
  go_simp
  refine (done_none w3.heap.size 0 _ (HR4.out.up (EW.out.trans ((Ext.refl W).drew.trans (hb5.trans hb6))))).mono ?_
  rintro e w7 ⟨rfl, rfl⟩
  simp only []
  refine hK.out _ _ (Ext w6) (fun _ h => h) (Ext.refl _) (fun hSw => ?_)
  clear hK K
  try simp only [Act.put, List.setIfInBounds_toArray, List.set_cons_zero, List.set_cons_succ]
  refine wpS_take 22 (v := ?_) hSw rfl (by kernel_rfl) (by kernel_rfl) (by kernel_rfl) (by rfl) (fun w' hin => ?_) ?_
  rotate_left
  · (try simp only [] at hin); go_simp <;> with_reducible rfl
  try simp only [Act.put, List.setIfInBounds_toArray, List.set_cons_zero, List.set_cons_succ]
  refine wpS_take 23 (v := ?_) hSw rfl (by kernel_rfl) (by kernel_rfl) (by kernel_rfl) (by rfl) (fun w' hin => ?_) ?_
  rotate_left
  · (try simp only [] at hin); go_simp <;> with_reducible rfl
  try simp only [Act.put, List.setIfInBounds_toArray, List.set_cons_zero, List.set_cons_succ]
  refine wpS_take 24 (v := ?_) hSw rfl (by kernel_rfl) (by kernel_rfl) (by kernel_rfl) (by rfl) (fun w' hin => ?_) ?_
  rotate_left
  · (try simp only [] at hin); go_simp <;> with_reducible rfl
  try simp only [Act.put, List.setIfInBounds_toArray, List.set_cons_zero, List.set_cons_succ]
  refine wpS_done (by kernel_rfl) ?_
  clear u0 u1 u2 u3 v2
  have EF := Lib.hid (E4.out.trans (EW.out.trans ((Ext.refl W).drew.trans (hb5.trans hb6))))
  go_wp2_with fail
  go_ret
  exact ⟨rfl, EF.out⟩
end Go.Proofs.YtepifkmileilfaaDoor
