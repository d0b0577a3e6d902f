/- The law RecordPuts of layer 4. -/
import Derived.Test.YtfdjbnofcniodaaGreatDoorRef04p
import Derived.Test.YtfdjbnofcniodaaGreatDoorRecAwake
namespace Go.Proofs.YtfdjbnofcniodaaGreatDoor
set_option linter.unusedVariables false
open Go.RowKit

theorem convP {w : World} {A : Option Addr} {n : Nat} {bs : List UInt8} (h : Byts w A n bs) (c : Nat) : (convert 22 9 (.slice A n c)).run Tryz.prog w = .ok (.string (bstr bs)) w :=
  run_conv Tryz.underlying22 Tryz.underlying5 Tryz.underlying9 h c
/-- what is laid, as a string -/
def LayC (w : World) (out : List UInt8) (e : Ending) (w' : World) : Prop := ∃ A N c, e = .returned (.slice A N c) ∧ Hid (Byts w' A N out) ∧ Ext w w'
theorem LayC.of {w w' : World} {n : Nat} {bs out : List UInt8} {e : Ending} (h : LayPost w n bs out e w') : LayC w (bs ++ out) e w' := by
  obtain ⟨A, N, c, rfl, h1, h2, h3, h4, h5⟩ := LayN.of h
  exact ⟨A, N, c, rfl, Lib.hid h3.out, h5⟩

set_option maxRecDepth 100000 in
set_option maxHeartbeats 8000000 in
theorem recordPuts_any (A : Option Addr) (n c : Nat) (bs : List UInt8) (r : Rs) (B : Option Addr) (m d : Nat) (B' : Option Addr) (m' d' : Nat) (k : Ky) (L : Option Addr) (p f : Nat) (l : List Rs) (Y : Option Addr) (q h : Nat) (ks : List Ky) (w : World) (hB : Byts w A n bs) (hc : A = none → c = 0) (hnc : n ≤ c) (hcm : c ≤ 9223372036854775807) (hR : RsV All w r B m d B' m' d') (hk : k.name.size ≤ maxLen) (hsl : SlW L p f) (hL : ResL All w L p l) (hsk : SlW Y q h) (hK : KeyL All w Y q ks) :
    Calls Tryz.prog 4 #[.slice A n c, rsVal r B m d B' m' d', .agg #[.int .i64 k.kind, .string k.name], .slice L p f, .slice Y q h] w fun e w' => e = .returned (.bool true) ∧ Ext w w' := by
  have HB := Lib.hid hB
  have HC := Lib.hid hc
  have HR := Lib.hid hR
  have HKN := Lib.hid hk
  have HSL := Lib.hid hsl
  have HL := Lib.hid hL
  have HSK := Lib.hid hsk
  have HK := Lib.hid hK
  have hpm : p ≤ maxLen := Nat.le_trans hsl.1 hsl.2.1
  have hpm' : p ≤ 9223372036854775807 := by unfold maxLen at hpm; exact hpm
  have hqm' : q ≤ 9223372036854775807 := by have := Nat.le_trans hsk.1 hsk.2.1; unfold maxLen at this; exact this
  clear hB hc hR hk hsl hL hsk hK
  unfold rsVal
  go_enter Tryz.func4, Tryz.ntmps4
  go_wp2_with fail
  refine (awake04 _).mono ?_
  rintro e w1 ⟨rfl, hb1⟩
  have E1 := Lib.hid (((Ext.new w (.cells #[.int .i64 r.kind, .string r.name, .int .i64 r.ver, .int .i64 r.port, .string r.to, .slice B m d, .slice B' m' d'] 34)).alloc (.cells #[.int .i64 k.kind, .string k.name] 38)).trans hb1)
  obtain ⟨kr, kk, hz1⟩ := box2b hb1
  have KR := Lib.hid kr
  have KK := Lib.hid kk
  clear hb1 kr kk
  obtain ⟨q0, -⟩ := blk_rules KR.out
  obtain ⟨p0, -⟩ := blk_rules KK.out
  by_cases h1 : 200 < n
  · go_wp2_with fail
    go_ret
    exact ⟨rfl, E1.out⟩
  go_wp2_with fail
  refine (few03_any All r B B' m d m' d' _ (HR.out.up E1.out)).mono ?_
  rintro e w2 ⟨v, rfl, -, hb2⟩
  have E2 := Lib.hid (E1.out.trans hb2)
  have KR := Lib.hid ((hb2.block (b := w.heap.size) (by omega)).trans KR.out)
  have KK := Lib.hid ((hb2.block hz1).trans KK.out)
  have hz2 := Nat.lt_of_lt_of_le hz1 hb2.size
  clear hb2 q0 p0
  cases v with
  | false =>
    go_wp2_with fail
    go_ret
    exact ⟨rfl, E2.out⟩
  | true =>
  go_wp2_with fail
  refine (few04_any All l L p f _ hpm (ResL.keep HL.out E2.out.keep)).mono ?_
  rintro e w3 ⟨v, rfl, hv, hb3⟩
  have E3 := Lib.hid (E2.out.trans hb3)
  have KR := Lib.hid ((hb3.block (b := w.heap.size) (by omega)).trans KR.out)
  have KK := Lib.hid ((hb3.block hz2).trans KK.out)
  have hz3 := Nat.lt_of_lt_of_le hz2 hb3.size
  clear hb3
  cases v with
  | false =>
    go_wp2_with fail
    go_ret
    exact ⟨rfl, E3.out⟩
  | true =>
  have hp80 : p ≤ 80 := hv rfl
  clear hv
  obtain ⟨p0, -⟩ := blk_rules KK.out
  by_cases h2 : 80 < q
  · go_wp2_with fail
    go_ret
    exact ⟨rfl, E3.out⟩
  by_cases h3 : 100 < k.name.size
  · go_wp2_with fail
    go_ret
    exact ⟨rfl, E3.out⟩
  go_wp2_with fail
  have hz0 : w.heap.size < w3.heap.size := by omega
  have t0 : ∀ w', Ext w3.drew w' → w'.cell? ⟨w.heap.size, 0, none⟩ = some (.int .i64 r.kind) := fun w' hx => (blk_rules ((((Ext.refl w3).drew.trans hx).block hz0).trans KR.out)).1 0
  have t1 : ∀ w', Ext w3.drew w' → w'.cell? ⟨w.heap.size, 1, none⟩ = some (.string r.name) := fun w' hx => (blk_rules ((((Ext.refl w3).drew.trans hx).block hz0).trans KR.out)).1 1
  have t2 : ∀ w', Ext w3.drew w' → w'.cell? ⟨w.heap.size, 2, none⟩ = some (.int .i64 r.ver) := fun w' hx => (blk_rules ((((Ext.refl w3).drew.trans hx).block hz0).trans KR.out)).1 2
  have t3 : ∀ w', Ext w3.drew w' → w'.cell? ⟨w.heap.size, 3, none⟩ = some (.int .i64 r.port) := fun w' hx => (blk_rules ((((Ext.refl w3).drew.trans hx).block hz0).trans KR.out)).1 3
  have t4 : ∀ w', Ext w3.drew w' → w'.cell? ⟨w.heap.size, 4, none⟩ = some (.string r.to) := fun w' hx => (blk_rules ((((Ext.refl w3).drew.trans hx).block hz0).trans KR.out)).1 4
  have t5 : ∀ w', Ext w3.drew w' → w'.cell? ⟨w.heap.size, 5, none⟩ = some (.slice B m d) := fun w' hx => (blk_rules ((((Ext.refl w3).drew.trans hx).block hz0).trans KR.out)).1 5
  have t6 : ∀ w', Ext w3.drew w' → w'.cell? ⟨w.heap.size, 6, none⟩ = some (.slice B' m' d') := fun w' hx => (blk_rules ((((Ext.refl w3).drew.trans hx).block hz0).trans KR.out)).1 6
  clear p0
  have hSw : Ext w3.drew w3.drew := Ext.refl _
  refine wpS_begin (Ext w3.drew) (by kernel_rfl) ?_
  refine wpS_take 0 (v := ?_) hSw rfl (by kernel_rfl) (by kernel_rfl) (by kernel_rfl) (by rfl) (fun w' hin => ?_) ?_
  rotate_left
  · (try simp only [] at hin); go_simp <;> with_reducible rfl
  try simp only [Act.put, List.setIfInBounds_toArray, List.set_cons_zero, List.set_cons_succ]
  refine wpS_take 1 (v := ?_) hSw rfl (by kernel_rfl) (by kernel_rfl) (by kernel_rfl) (by rfl) (fun w' hin => ?_) ?_
  rotate_left
  · (try simp only [] at hin); go_simp <;> with_reducible rfl
  try simp only [Act.put, List.setIfInBounds_toArray, List.set_cons_zero, List.set_cons_succ]
  refine wpS_take 2 (v := ?_) hSw rfl (by kernel_rfl) (by kernel_rfl) (by kernel_rfl) (by rfl) (fun w' hin => ?_) ?_
  rotate_left
  · (try simp only [] at hin); go_simp <;> with_reducible rfl
  try simp only [Act.put, List.setIfInBounds_toArray, List.set_cons_zero, List.set_cons_succ]
  refine wpS_take 3 (v := ?_) hSw rfl (by kernel_rfl) (by kernel_rfl) (by kernel_rfl) (by rfl) (fun w' hin => ?_) ?_
  rotate_left
  · (try simp only [] at hin); go_simp <;> with_reducible rfl
  try simp only [Act.put, List.setIfInBounds_toArray, List.set_cons_zero, List.set_cons_succ]
  refine wpS_take 6 (v := ?_) hSw rfl (by kernel_rfl) (by kernel_rfl) (by kernel_rfl) (by rfl) (fun w' hin => ?_) ?_
  rotate_left
  · (try simp only [] at hin); go_simp <;> with_reducible rfl
  try simp only [Act.put, List.setIfInBounds_toArray, List.set_cons_zero, List.set_cons_succ]
  refine wpS_take 7 (v := ?_) hSw rfl (by kernel_rfl) (by kernel_rfl) (by kernel_rfl) (by rfl) (fun w' hin => ?_) ?_
  rotate_left
  · (try simp only [] at hin); go_simp <;> with_reducible rfl
  try simp only [Act.put, List.setIfInBounds_toArray, List.set_cons_zero, List.set_cons_succ]
  refine wpS_one 4 rfl (by kernel_rfl) (by rfl) (fun K hK => ?_)
  go_simp
  refine ((((put_lay All w).2 A n c bs r B m d B' m' d' _ (E3.out.trans ((Ext.refl w3).drew.trans hSw)) (ArrR.up HB.out (E3.out.trans ((Ext.refl w3).drew.trans hSw))) HC.out (by omega) trivial (HR.out.up (E3.out.trans ((Ext.refl w3).drew.trans hSw)))).mono fun _ _ h => LayC.of h)).mono ?_
  rintro e v4 ⟨A4, N4, c4, rfl, HB4, hb⟩
  have F4 := Lib.hid (((Ext.refl w3).drew.trans hSw).trans hb)
  have kc4 : ∀ w', Ext v4 w' → (convert 22 9 (.slice A4 N4 c4)).run Tryz.prog w' = .ok (.string (bstr (bs ++ putR r))) w' := fun w' hx => convP (ArrR.up HB4.out hx) c4
  simp only []
  refine hK.out _ _ (Ext v4) (fun _ hx => hSw.trans (hb.trans hx)) (Ext.refl _) (fun hSw => ?_)
  clear hK K
  try simp only [Act.put, List.setIfInBounds_toArray, List.set_cons_zero, List.set_cons_succ]
  refine wpS_take 5 (v := ?_) hSw rfl (by kernel_rfl) (by kernel_rfl) (by kernel_rfl) (by rfl) (fun w' hin => ?_) ?_
  rotate_left
  · (try simp only [] at hin); go_simp <;> with_reducible rfl
  try simp only [Act.put, List.setIfInBounds_toArray, List.set_cons_zero, List.set_cons_succ]
  refine wpS_one 8 rfl (by kernel_rfl) (by rfl) (fun K hK => ?_)
  go_simp
  clear t0 t1 t2 t3 t4 t5 t6
  refine (((refPut_lay All A n c bs r B m d B' m' d' _ (ArrR.up HB.out (E3.out.trans (F4.out.trans hSw))) HC.out (by omega) (HR.out.up (E3.out.trans (F4.out.trans hSw)))).mono fun _ _ h => LayC.of h)).mono ?_
  rintro e v8 ⟨A8, N8, c8, rfl, HB8, hb⟩
  have F8 := Lib.hid ((F4.out.trans hSw).trans hb)
  have kc8 : ∀ w', Ext v8 w' → (convert 22 9 (.slice A8 N8 c8)).run Tryz.prog w' = .ok (.string (bstr (bs ++ putR r))) w' := fun w' hx => convP (ArrR.up HB8.out hx) c8
  have s0 : ∀ w', Ext v8 w' → w'.cell? ⟨w.heap.size + 1, 0, none⟩ = some (.int .i64 k.kind) := fun w' hx => (blk_rules (((F8.out.trans hx).block hz3).trans KK.out)).1 0
  have s1 : ∀ w', Ext v8 w' → w'.cell? ⟨w.heap.size + 1, 1, none⟩ = some (.string k.name) := fun w' hx => (blk_rules (((F8.out.trans hx).block hz3).trans KK.out)).1 1
  simp only []
  refine hK.out _ _ (Ext v8) (fun _ hx => hSw.trans (hb.trans hx)) (Ext.refl _) (fun hSw => ?_)
  clear hK K
  try simp only [Act.put, List.setIfInBounds_toArray, List.set_cons_zero, List.set_cons_succ]
  refine wpS_take 9 (v := ?_) hSw rfl (by kernel_rfl) (by kernel_rfl) (by kernel_rfl) (by rfl) (fun w' hin => ?_) ?_
  rotate_left
  · (try simp only [] at hin); go_simp <;> with_reducible rfl
  try simp only [Act.put, List.setIfInBounds_toArray, List.set_cons_zero, List.set_cons_succ]
  refine wpS_take 10 (v := ?_) hSw rfl (by kernel_rfl) (by kernel_rfl) (by kernel_rfl) (by rfl) (fun w' hin => ?_) ?_
  rotate_left
  · (try simp only [] at hin); go_simp <;> with_reducible rfl
  try simp only [Act.put, List.setIfInBounds_toArray, List.set_cons_zero, List.set_cons_succ]
  refine wpS_take 11 (v := ?_) hSw rfl (by kernel_rfl) (by kernel_rfl) (by kernel_rfl) (by rfl) (fun w' hin => ?_) ?_
  rotate_left
  · (try simp only [] at hin); go_simp <;> with_reducible rfl
  try simp only [Act.put, List.setIfInBounds_toArray, List.set_cons_zero, List.set_cons_succ]
  refine wpS_take 12 (v := ?_) hSw rfl (by kernel_rfl) (by kernel_rfl) (by kernel_rfl) (by rfl) (fun w' hin => ?_) ?_
  rotate_left
  · (try simp only [] at hin); go_simp <;> with_reducible rfl
  try simp only [Act.put, List.setIfInBounds_toArray, List.set_cons_zero, List.set_cons_succ]
  refine wpS_take 13 (v := ?_) hSw rfl (by kernel_rfl) (by kernel_rfl) (by kernel_rfl) (by rfl) (fun w' hin => ?_) ?_
  rotate_left
  · (try simp only [] at hin); go_simp <;> with_reducible rfl
  try simp only [Act.put, List.setIfInBounds_toArray, List.set_cons_zero, List.set_cons_succ]
  refine wpS_take 14 (v := ?_) hSw rfl (by kernel_rfl) (by kernel_rfl) (by kernel_rfl) (by rfl) (fun w' hin => ?_) ?_
  rotate_left
  · (try simp only [] at hin); go_simp <;> with_reducible rfl
  try simp only [Act.put, List.setIfInBounds_toArray, List.set_cons_zero, List.set_cons_succ]
  refine wpS_take 17 (v := ?_) hSw rfl (by kernel_rfl) (by kernel_rfl) (by kernel_rfl) (by rfl) (fun w' hin => ?_) ?_
  rotate_left
  · (try simp only [] at hin); go_simp <;> with_reducible rfl
  try simp only [Act.put, List.setIfInBounds_toArray, List.set_cons_zero, List.set_cons_succ]
  refine wpS_take 18 (v := ?_) hSw rfl (by kernel_rfl) (by kernel_rfl) (by kernel_rfl) (by rfl) (fun w' hin => ?_) ?_
  rotate_left
  · (try simp only [] at hin); go_simp <;> with_reducible rfl
  try simp only [Act.put, List.setIfInBounds_toArray, List.set_cons_zero, List.set_cons_succ]
  refine wpS_one 15 rfl (by kernel_rfl) (by rfl) (fun K hK => ?_)
  go_simp
  clear s0 s1
  refine ((((putKey_lay All w).2 A n c bs k _ (E3.out.trans (F8.out.trans hSw)) (ArrR.up HB.out (E3.out.trans (F8.out.trans hSw))) HC.out (by omega) trivial HKN.out).mono fun _ _ h => LayC.of h)).mono ?_
  rintro e v15 ⟨A15, N15, c15, rfl, HB15, hb⟩
  have F15 := Lib.hid ((F8.out.trans hSw).trans hb)
  have kc15 : ∀ w', Ext v15 w' → (convert 22 9 (.slice A15 N15 c15)).run Tryz.prog w' = .ok (.string (bstr (bs ++ putK k))) w' := fun w' hx => convP (ArrR.up HB15.out hx) c15
  have s0 : ∀ w', Ext v15 w' → w'.cell? ⟨w.heap.size + 1, 0, none⟩ = some (.int .i64 k.kind) := fun w' hx => (blk_rules (((F15.out.trans hx).block hz3).trans KK.out)).1 0
  have s1 : ∀ w', Ext v15 w' → w'.cell? ⟨w.heap.size + 1, 1, none⟩ = some (.string k.name) := fun w' hx => (blk_rules (((F15.out.trans hx).block hz3).trans KK.out)).1 1
  simp only []
  refine hK.out _ _ (Ext v15) (fun _ hx => hSw.trans (hb.trans hx)) (Ext.refl _) (fun hSw => ?_)
  clear hK K
  try simp only [Act.put, List.setIfInBounds_toArray, List.set_cons_zero, List.set_cons_succ]
  refine wpS_take 16 (v := ?_) hSw rfl (by kernel_rfl) (by kernel_rfl) (by kernel_rfl) (by rfl) (fun w' hin => ?_) ?_
  rotate_left
  · (try simp only [] at hin); go_simp <;> with_reducible rfl
  try simp only [Act.put, List.setIfInBounds_toArray, List.set_cons_zero, List.set_cons_succ]
  refine wpS_one 19 rfl (by kernel_rfl) (by rfl) (fun K hK => ?_)
  go_simp
  refine (((refPutKey_lay A n c bs k _ (ArrR.up HB.out (E3.out.trans (F15.out.trans hSw))) HC.out (by omega) HKN.out).mono fun _ _ h => LayC.of h)).mono ?_
  rintro e v19 ⟨A19, N19, c19, rfl, HB19, hb⟩
  have F19 := Lib.hid ((F15.out.trans hSw).trans hb)
  have kc19 : ∀ w', Ext v19 w' → (convert 22 9 (.slice A19 N19 c19)).run Tryz.prog w' = .ok (.string (bstr (bs ++ putK k))) w' := fun w' hx => convP (ArrR.up HB19.out hx) c19
  simp only []
  refine hK.out _ _ (Ext v19) (fun _ hx => hSw.trans (hb.trans hx)) (Ext.refl _) (fun hSw => ?_)
  clear hK K
  try simp only [Act.put, List.setIfInBounds_toArray, List.set_cons_zero, List.set_cons_succ]
  refine wpS_take 20 (v := ?_) hSw rfl (by kernel_rfl) (by kernel_rfl) (by kernel_rfl) (by rfl) (fun w' hin => ?_) ?_
  rotate_left
  · (try simp only [] at hin); go_simp <;> with_reducible rfl
  try simp only [Act.put, List.setIfInBounds_toArray, List.set_cons_zero, List.set_cons_succ]
  refine wpS_take 21 (v := ?_) hSw rfl (by kernel_rfl) (by kernel_rfl) (by kernel_rfl) (by rfl) (fun w' hin => ?_) ?_
  rotate_left
  · (try simp only [] at hin); go_simp <;> with_reducible rfl
  try simp only [Act.put, List.setIfInBounds_toArray, List.set_cons_zero, List.set_cons_succ]
  refine wpS_take 22 (v := ?_) hSw rfl (by kernel_rfl) (by kernel_rfl) (by kernel_rfl) (by rfl) (fun w' hin => ?_) ?_
  rotate_left
  · (try simp only [] at hin); go_simp <;> with_reducible rfl
  try simp only [Act.put, List.setIfInBounds_toArray, List.set_cons_zero, List.set_cons_succ]
  refine wpS_take 23 (v := ?_) hSw rfl (by kernel_rfl) (by kernel_rfl) (by kernel_rfl) (by rfl) (fun w' hin => ?_) ?_
  rotate_left
  · (try simp only [] at hin); go_simp <;> with_reducible rfl
  try simp only [Act.put, List.setIfInBounds_toArray, List.set_cons_zero, List.set_cons_succ]
  refine wpS_take 24 (v := ?_) hSw rfl (by kernel_rfl) (by kernel_rfl) (by kernel_rfl) (by rfl) (fun w' hin => ?_) ?_
  rotate_left
  · (try simp only [] at hin); go_simp <;> with_reducible rfl
  try simp only [Act.put, List.setIfInBounds_toArray, List.set_cons_zero, List.set_cons_succ]
  refine wpS_take 25 (v := ?_) hSw rfl (by kernel_rfl) (by kernel_rfl) (by kernel_rfl) (by rfl) (fun w' hin => ?_) ?_
  rotate_left
  · (try simp only [] at hin); go_simp <;> with_reducible rfl
  try simp only [Act.put, List.setIfInBounds_toArray, List.set_cons_zero, List.set_cons_succ]
  refine wpS_take 28 (v := ?_) hSw rfl (by kernel_rfl) (by kernel_rfl) (by kernel_rfl) (by rfl) (fun w' hin => ?_) ?_
  rotate_left
  · (try simp only [] at hin); go_simp <;> with_reducible rfl
  try simp only [Act.put, List.setIfInBounds_toArray, List.set_cons_zero, List.set_cons_succ]
  refine wpS_take 29 (v := ?_) hSw rfl (by kernel_rfl) (by kernel_rfl) (by kernel_rfl) (by rfl) (fun w' hin => ?_) ?_
  rotate_left
  · (try simp only [] at hin); go_simp <;> with_reducible rfl
  try simp only [Act.put, List.setIfInBounds_toArray, List.set_cons_zero, List.set_cons_succ]
  refine wpS_one 26 rfl (by kernel_rfl) (by rfl) (fun K hK => ?_)
  go_simp
  clear s0 s1
  refine (((putAll_any All A n c bs L p f l _ (ArrR.up HB.out (E3.out.trans (F19.out.trans hSw))) HC.out (by omega) HSL.out (by omega) (ResL.keep HL.out (E3.out.trans (F19.out.trans hSw)).keep)).mono fun _ _ h => LayC.of h)).mono ?_
  rintro e v26 ⟨A26, N26, c26, rfl, HB26, hb⟩
  have F26 := Lib.hid ((F19.out.trans hSw).trans hb)
  have kc26 : ∀ w', Ext v26 w' → (convert 22 9 (.slice A26 N26 c26)).run Tryz.prog w' = .ok (.string (bstr (bs ++ putAll l))) w' := fun w' hx => convP (ArrR.up HB26.out hx) c26
  simp only []
  refine hK.out _ _ (Ext v26) (fun _ hx => hSw.trans (hb.trans hx)) (Ext.refl _) (fun hSw => ?_)
  clear hK K
  try simp only [Act.put, List.setIfInBounds_toArray, List.set_cons_zero, List.set_cons_succ]
  refine wpS_take 27 (v := ?_) hSw rfl (by kernel_rfl) (by kernel_rfl) (by kernel_rfl) (by rfl) (fun w' hin => ?_) ?_
  rotate_left
  · (try simp only [] at hin); go_simp <;> with_reducible rfl
  try simp only [Act.put, List.setIfInBounds_toArray, List.set_cons_zero, List.set_cons_succ]
  refine wpS_one 30 rfl (by kernel_rfl) (by rfl) (fun K hK => ?_)
  go_simp
  refine (((refPutAll_any A n c bs L p f l _ (ArrR.up HB.out (E3.out.trans (F26.out.trans hSw))) HC.out (by omega) (by omega) (ResL.keep HL.out (E3.out.trans (F26.out.trans hSw)).keep)).mono fun _ _ h => LayC.of h)).mono ?_
  rintro e v30 ⟨A30, N30, c30, rfl, HB30, hb⟩
  have F30 := Lib.hid ((F26.out.trans hSw).trans hb)
  have kc30 : ∀ w', Ext v30 w' → (convert 22 9 (.slice A30 N30 c30)).run Tryz.prog w' = .ok (.string (bstr (bs ++ putAll l))) w' := fun w' hx => convP (ArrR.up HB30.out hx) c30
  simp only []
  refine hK.out _ _ (Ext v30) (fun _ hx => hSw.trans (hb.trans hx)) (Ext.refl _) (fun hSw => ?_)
  clear hK K
  try simp only [Act.put, List.setIfInBounds_toArray, List.set_cons_zero, List.set_cons_succ]
  refine wpS_take 31 (v := ?_) hSw rfl (by kernel_rfl) (by kernel_rfl) (by kernel_rfl) (by rfl) (fun w' hin => ?_) ?_
  rotate_left
  · (try simp only [] at hin); go_simp <;> with_reducible rfl
  try simp only [Act.put, List.setIfInBounds_toArray, List.set_cons_zero, List.set_cons_succ]
  refine wpS_take 32 (v := ?_) hSw rfl (by kernel_rfl) (by kernel_rfl) (by kernel_rfl) (by rfl) (fun w' hin => ?_) ?_
  rotate_left
  · (try simp only [] at hin); go_simp <;> with_reducible rfl
  try simp only [Act.put, List.setIfInBounds_toArray, List.set_cons_zero, List.set_cons_succ]
  refine wpS_take 33 (v := ?_) hSw rfl (by kernel_rfl) (by kernel_rfl) (by kernel_rfl) (by rfl) (fun w' hin => ?_) ?_
  rotate_left
  · (try simp only [] at hin); go_simp <;> with_reducible rfl
  try simp only [Act.put, List.setIfInBounds_toArray, List.set_cons_zero, List.set_cons_succ]
  refine wpS_take 34 (v := ?_) hSw rfl (by kernel_rfl) (by kernel_rfl) (by kernel_rfl) (by rfl) (fun w' hin => ?_) ?_
  rotate_left
  · (try simp only [] at hin); go_simp <;> with_reducible rfl
  try simp only [Act.put, List.setIfInBounds_toArray, List.set_cons_zero, List.set_cons_succ]
  refine wpS_take 35 (v := ?_) hSw rfl (by kernel_rfl) (by kernel_rfl) (by kernel_rfl) (by rfl) (fun w' hin => ?_) ?_
  rotate_left
  · (try simp only [] at hin); go_simp <;> with_reducible rfl
  try simp only [Act.put, List.setIfInBounds_toArray, List.set_cons_zero, List.set_cons_succ]
  refine wpS_take 36 (v := ?_) hSw rfl (by kernel_rfl) (by kernel_rfl) (by kernel_rfl) (by rfl) (fun w' hin => ?_) ?_
  rotate_left
  · (try simp only [] at hin); go_simp <;> with_reducible rfl
  try simp only [Act.put, List.setIfInBounds_toArray, List.set_cons_zero, List.set_cons_succ]
  refine wpS_take 39 (v := ?_) hSw rfl (by kernel_rfl) (by kernel_rfl) (by kernel_rfl) (by rfl) (fun w' hin => ?_) ?_
  rotate_left
  · (try simp only [] at hin); go_simp <;> with_reducible rfl
  try simp only [Act.put, List.setIfInBounds_toArray, List.set_cons_zero, List.set_cons_succ]
  refine wpS_take 40 (v := ?_) hSw rfl (by kernel_rfl) (by kernel_rfl) (by kernel_rfl) (by rfl) (fun w' hin => ?_) ?_
  rotate_left
  · (try simp only [] at hin); go_simp <;> with_reducible rfl
  try simp only [Act.put, List.setIfInBounds_toArray, List.set_cons_zero, List.set_cons_succ]
  refine wpS_one 37 rfl (by kernel_rfl) (by rfl) (fun K hK => ?_)
  go_simp
  refine (((putKeys_any All A n c bs Y q h ks _ (ArrR.up HB.out (E3.out.trans (F30.out.trans hSw))) HC.out (by omega) HSK.out (by omega) (KeyL.keep HK.out (E3.out.trans (F30.out.trans hSw)).keep)).mono fun _ _ h => LayC.of h)).mono ?_
  rintro e v37 ⟨A37, N37, c37, rfl, HB37, hb⟩
  have F37 := Lib.hid ((F30.out.trans hSw).trans hb)
  have kc37 : ∀ w', Ext v37 w' → (convert 22 9 (.slice A37 N37 c37)).run Tryz.prog w' = .ok (.string (bstr (bs ++ putKeys ks))) w' := fun w' hx => convP (ArrR.up HB37.out hx) c37
  simp only []
  refine hK.out _ _ (Ext v37) (fun _ hx => hSw.trans (hb.trans hx)) (Ext.refl _) (fun hSw => ?_)
  clear hK K
  try simp only [Act.put, List.setIfInBounds_toArray, List.set_cons_zero, List.set_cons_succ]
  refine wpS_take 38 (v := ?_) hSw rfl (by kernel_rfl) (by kernel_rfl) (by kernel_rfl) (by rfl) (fun w' hin => ?_) ?_
  rotate_left
  · (try simp only [] at hin); go_simp <;> with_reducible rfl
  try simp only [Act.put, List.setIfInBounds_toArray, List.set_cons_zero, List.set_cons_succ]
  refine wpS_one 41 rfl (by kernel_rfl) (by rfl) (fun K hK => ?_)
  go_simp
  refine (((refPutKeys_any A n c bs Y q h ks _ (ArrR.up HB.out (E3.out.trans (F37.out.trans hSw))) HC.out (by omega) (by omega) (KeyL.keep HK.out (E3.out.trans (F37.out.trans hSw)).keep)).mono fun _ _ h => LayC.of h)).mono ?_
  rintro e v41 ⟨A41, N41, c41, rfl, HB41, hb⟩
  have F41 := Lib.hid ((F37.out.trans hSw).trans hb)
  have kc41 : ∀ w', Ext v41 w' → (convert 22 9 (.slice A41 N41 c41)).run Tryz.prog w' = .ok (.string (bstr (bs ++ putKeys ks))) w' := fun w' hx => convP (ArrR.up HB41.out hx) c41
  simp only []
  refine hK.out _ _ (Ext v41) (fun _ hx => hSw.trans (hb.trans hx)) (Ext.refl _) (fun hSw => ?_)
  clear hK K
  try simp only [Act.put, List.setIfInBounds_toArray, List.set_cons_zero, List.set_cons_succ]
  refine wpS_take 42 (v := ?_) hSw rfl (by kernel_rfl) (by kernel_rfl) (by kernel_rfl) (by rfl) (fun w' hin => ?_) ?_
  rotate_left
  · (try simp only [] at hin); go_simp <;> with_reducible rfl
  try simp only [Act.put, List.setIfInBounds_toArray, List.set_cons_zero, List.set_cons_succ]
  refine wpS_take 43 (v := ?_) hSw rfl (by kernel_rfl) (by kernel_rfl) (by kernel_rfl) (by rfl) (fun w' hin => ?_) ?_
  rotate_left
  · (try simp only [] at hin); go_simp <;> with_reducible rfl
  try simp only [Act.put, List.setIfInBounds_toArray, List.set_cons_zero, List.set_cons_succ]
  refine wpS_take 44 (v := ?_) hSw rfl (by kernel_rfl) (by kernel_rfl) (by kernel_rfl) (by rfl) (fun w' hin => ?_) ?_
  rotate_left
  · (try simp only [] at hin); go_simp <;> with_reducible rfl
  try simp only [Act.put, List.setIfInBounds_toArray, List.set_cons_zero, List.set_cons_succ]
  refine wpS_take 45 (v := ?_) hSw rfl (by kernel_rfl) (by kernel_rfl) (by kernel_rfl) (by rfl) (fun w' hin => ?_) ?_
  rotate_left
  · (try simp only [] at hin); go_simp <;> with_reducible rfl
  try simp only [Act.put, List.setIfInBounds_toArray, List.set_cons_zero, List.set_cons_succ]
  refine wpS_done (by kernel_rfl) ?_
  go_wp2_with fail
  go_ret
  exact ⟨by first | rfl | simp, E3.out.trans (F41.out.trans hSw)⟩
end Go.Proofs.YtfdjbnofcniodaaGreatDoor
