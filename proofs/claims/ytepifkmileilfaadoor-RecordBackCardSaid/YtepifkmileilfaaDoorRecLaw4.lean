/- The law RecordOnce of layer 4. -/
import Derived.Test.YtepifkmileilfaaDoorRecLaw2
import Derived.Test.YtepifkmileilfaaDoorFirstAll
namespace Go.Proofs.YtepifkmileilfaaDoor
set_option linter.unusedVariables false
open Go.RowKit

theorem arr_take {w : World} {A : Option Addr} {n k : Nat} {xs ys : List UInt8} (h : Byts w A n (xs ++ ys)) (hk : k = xs.length) : Byts w A k xs := by
  have := byts_take h (k := k) (by rw [← h.len]; simp; omega)
  rw [hk, List.take_left] at this; rw [hk]; exact this
theorem blk7 {w : World} {b : Nat} {T : TypeId} {o : Nat × Nat} {x0 x1 x2 x3 x4 x5 x6 : Value} (h : w.heap[b]? = some (.cells #[x0, x1, x2, x3, x4, x5, x6] T o)) (w' : World) (he : Ext w w') (hb : b < w.heap.size) :
    w'.heap[b]? = some (.cells #[x0, x1, x2, x3, x4, x5, x6] T o) := (he.block hb).trans h
set_option maxRecDepth 100000 in
set_option maxHeartbeats 4000000 in
theorem recordOnce_any (A : Option Addr) (n c : Nat) (bs : List UInt8) (w : World) (hB : Byts w A n bs) (hc : A = none → c = 0) (hnc : n ≤ c) (hcm : c ≤ 9223372036854775807) :
    Calls Tryd.prog 10 #[.slice A n c] w fun e w' => e = .returned (.bool true) ∧ Ext w w' := by
  have HB := Lib.hid hB
  have HC := Lib.hid hc
  clear hB hc
  by_cases hn : 4000 < n
  · go_enter Tryd.func10, Tryd.ntmps10
    go_wp2_with fail
    refine (awake04 _).mono ?_
    rintro e w1 ⟨rfl, hb1⟩
    go_wp2_with fail
    go_ret
    exact ⟨rfl, hb1⟩
  go_enter Tryd.func10, Tryd.ntmps10
  go_wp2_with fail
  refine (awake04 _).mono ?_
  rintro e w1 ⟨rfl, hb1⟩
  have E1 := Lib.hid hb1
  clear hb1
  go_wp2_with fail
  have hR := RdAt.box (w := w1) 0 (ArrR.up HB.out E1.out) HC.out hnc hcm
  refine ((take_takes w1.heap.size).2 ⟨bs, 0⟩ _ hR).mono ?_
  obtain ⟨rx, r, hrx⟩ : ∃ rx r, takeR ⟨bs, 0⟩ = (rx, r) := ⟨_, _, rfl⟩
  rw [hrx]
  rintro e w2 ⟨C, m, f, C', m', f', rfl, hv2, hr2, ho2⟩
  have HX := Lib.hid hrx
  have E2 : Hid (Ext w w2) := Lib.hid (Only.ext (E1.out.alloc _) ho2 E1.out.size)
  have HV2 := Lib.hid hv2
  have z2 : w1.heap.size < w2.heap.size := by have := ho2.size; simp at this; omega
  obtain ⟨D, p, d, hgx, -, -, -, hBD, -⟩ := hr2
  have hpn : p ≤ n := by
    have h1 := shrinks_r ⟨bs, 0⟩
    have h2 : rx.b.length = p := hBD.len
    have h3 := HB.out.len
    rw [hrx] at h1; simp only at h1; omega
  have HP : Hid (rx.b.length = p) := Lib.hid hBD.len
  have HGX := Lib.hid hgx
  obtain ⟨q0, q1⟩ := blk_rules hgx
  clear hv2 ho2 hR hrx hgx
  obtain ⟨k, hk⟩ : ∃ k : Nat, p + k = n := ⟨n - p, by omega⟩
  have i1 : IntKind.i64.wrap ((n : Int) - (p : Int)) = (k : Int) := by rw [IntKind.wrap_i64]; omega
  have i2 : IntKind.i64.wrap (k : Int) = (k : Int) := by rw [IntKind.wrap_i64]; omega
  have j1 : ((n : Int) - (p : Int)) = (k : Int) := by omega
  go_wp2_with fail

  have hsz : (w2.alloc (.cells #[.int .i64 r.kind, .string r.name, .int .i64 r.ver, .int .i64 r.port, .string r.to, .slice C m f, .slice C' m' f'] 36)).heap.size = w2.heap.size + 1 := by simp
  have hRy := RdAt.box (w := w2.alloc (.cells #[.int .i64 r.kind, .string r.name, .int .i64 r.ver, .int .i64 r.port, .string r.to, .slice C m f, .slice C' m' f'] 36)) 0 (ArrR.up HB.out (E2.out.alloc _)) HC.out hnc hcm
  rw [hsz] at hRy
  refine (takeAll_any (w2.heap.size + 1) ⟨bs, 0⟩ _ hRy).mono ?_
  obtain ⟨ry, l, hry⟩ : ∃ ry l, someB takeR 64 ⟨bs, 0⟩ = (ry, l) := ⟨_, _, rfl⟩
  rw [hry]
  rintro e w4 ⟨B, N, g, rfl, hsl4, harr4, hr4, ho4⟩
  have HY := Lib.hid hry
  have E4 : Hid (Ext w w4) := Lib.hid (Only.ext ((E2.out.alloc _).alloc _) ho4 (by have := E2.out.size; omega))
  have EA : Hid (Ext (w2.alloc (.cells #[.int .i64 r.kind, .string r.name, .int .i64 r.ver, .int .i64 r.port, .string r.to, .slice C m f, .slice C' m' f'] 36)) w4) := Lib.hid (Only.ext (Ext.new _ _) ho4 (by rw [hsz]; exact Nat.le_refl _))
  have EV : Hid (Ext w2 w4) := Lib.hid ((Ext.new _ _).trans EA.out)
  have KR := Lib.hid ((EA.out.block (b := w2.heap.size) (by rw [hsz]; omega)).trans (heap_alloc_new w2 (.cells #[.int .i64 r.kind, .string r.name, .int .i64 r.ver, .int .i64 r.port, .string r.to, .slice C m f, .slice C' m' f'] 36)))
  have KX := Lib.hid ((EV.out.block z2).trans HGX.out)
  have zr : w2.heap.size < w4.heap.size := by have h1 := EA.out.size; rw [hsz] at h1; omega
  have zy : w2.heap.size + 1 < w4.heap.size := by have h1 := ho4.size; simp at h1; omega
  have zx : w1.heap.size < w4.heap.size := by omega
  have HV4 := Lib.hid (HV2.out.up EV.out)
  have HS4 := Lib.hid hsl4
  have HL4 := Lib.hid harr4
  obtain ⟨D2, p2, d2, hgy, -, -, -, hBD2, -⟩ := hr4
  have hpn2 : p2 ≤ n := by
    have h1 := shrinks_all ⟨bs, 0⟩
    have h2 : ry.b.length = p2 := hBD2.len
    have h3 := HB.out.len
    rw [hry] at h1; simp only at h1; omega
  have HP2 : Hid (ry.b.length = p2) := Lib.hid hBD2.len
  have KY := Lib.hid hgy
  clear hRy hry hsl4 harr4 ho4 hgy hBD2 q0 q1 i1 i2 j1
  obtain ⟨k2, hk2⟩ : ∃ k2 : Nat, p2 + k2 = n := ⟨n - p2, by omega⟩
  have i1 : IntKind.i64.wrap ((n : Int) - (p2 : Int)) = (k2 : Int) := by rw [IntKind.wrap_i64]; omega
  have j1 : ((n : Int) - (p2 : Int)) = (k2 : Int) := by omega
  have hk2c : k2 ≤ c := by omega
  have hkc : k ≤ c := by omega
  by_cases he : ry.e = 0
  · have HOn := once_all (b := bs) (by rw [HY.out]; exact he)
    rw [HY.out] at HOn
    have HO2 : Hid (bs = putAll l ++ ry.b) := Lib.hid HOn.1
    have hN64 : N ≤ 64 := by have h1 := HL4.out.len; have h2 := HOn.2.1; simp only at h2; omega
    have HBk : Hid (Byts w4 A k2 (putAll l)) := Lib.hid (arr_take (ys := ry.b) (by rw [← HO2.out]; exact ArrR.up HB.out E4.out) (by
      have h1 := HB.out.len
      have h2 := congrArg List.length HO2.out
      rw [List.length_append] at h2
      have h3 := HP2.out
      omega))
    have KY0 : Hid (w4.heap[w2.heap.size + 1]? = some (.cells #[.slice D2 p2 d2, .int .i64 0] 44 (0, 0))) := Lib.hid (by have := KY.out; rwa [he] at this)
    clear HOn he
    obtain ⟨q0, -⟩ := blk_rules KY0.out
    go_wp2_with fail
    have s0 : ∀ w', Ext w4.drew w' → w'.cell? ⟨w2.heap.size + 1, 1, none⟩ = some (.int .i64 0) := fun w' hx => (blk_rules ((((Ext.refl w4).drew.trans hx).block zy).trans KY0.out)).1 1
    have v0 : ∀ w', Ext w4.drew w' → (convert 40 9 (.slice A k2 c)).run Tryd.prog w' = .ok (.string (bstr (putAll l))) w' := fun w' hx => convR (ArrR.up HBk.out ((Ext.refl w4).drew.trans hx)) c
    have hSw : Ext w4.drew w4.drew := Ext.refl _
    refine wpS_begin (Ext w4.drew) (by kernel_rfl) ?_
    refine wpS_take 0 (v := ?_) hSw rfl (by kernel_rfl) (by kernel_rfl) (by kernel_rfl) (by rfl) (fun w' hin => ?_) ?_
    rotate_left
    · (try simp only [] at hin); go_simp <;> with_reducible rfl
    try simp only [Act.put, List.setIfInBounds_toArray, List.set_cons_zero, List.set_cons_succ]
    refine wpS_take 1 (v := ?_) hSw rfl (by kernel_rfl) (by kernel_rfl) (by kernel_rfl) (by rfl) (fun w' hin => ?_) ?_
    rotate_left
    · (try simp only [] at hin); go_simp <;> with_reducible rfl
    try simp only [Act.put, List.setIfInBounds_toArray, List.set_cons_zero, List.set_cons_succ]
    refine wpS_take 2 (v := ?_) hSw rfl (by kernel_rfl) (by kernel_rfl) (by kernel_rfl) (by rfl) (fun w' hin => ?_) ?_
    rotate_left
    · (try simp only [] at hin); go_simp <;> with_reducible rfl
    try simp only [Act.put, List.setIfInBounds_toArray, List.set_cons_zero, List.set_cons_succ]
    refine wpS_take 3 (v := ?_) hSw rfl (by kernel_rfl) (by kernel_rfl) (by kernel_rfl) (by rfl) (fun w' hin => ?_) ?_
    rotate_left
    · (try simp only [] at hin); go_simp <;> with_reducible rfl
    try simp only [Act.put, List.setIfInBounds_toArray, List.set_cons_zero, List.set_cons_succ]
    refine wpS_take 4 (v := ?_) hSw rfl (by kernel_rfl) (by kernel_rfl) (by kernel_rfl) (by rfl) (fun w' hin => ?_) ?_
    rotate_left
    · (try simp only [] at hin); go_simp <;> with_reducible rfl
    try simp only [Act.put, List.setIfInBounds_toArray, List.set_cons_zero, List.set_cons_succ]
    refine wpS_take 5 (v := ?_) hSw rfl (by kernel_rfl) (by kernel_rfl) (by kernel_rfl) (by rfl) (fun w' hin => ?_) ?_
    rotate_left
    · (try simp only [] at hin); go_simp <;> with_reducible rfl
    try simp only [Act.put, List.setIfInBounds_toArray, List.set_cons_zero, List.set_cons_succ]
    refine wpS_take 6 (v := ?_) hSw rfl (by kernel_rfl) (by kernel_rfl) (by kernel_rfl) (by rfl) (fun w' hin => ?_) ?_
    rotate_left
    · (try simp only [] at hin); go_simp <;> with_reducible rfl
    try simp only [Act.put, List.setIfInBounds_toArray, List.set_cons_zero, List.set_cons_succ]
    refine wpS_take 7 (v := ?_) hSw rfl (by kernel_rfl) (by kernel_rfl) (by kernel_rfl) (by rfl) (fun w' hin => ?_) ?_
    rotate_left
    · (try simp only [] at hin); go_simp <;> with_reducible rfl
    try simp only [Act.put, List.setIfInBounds_toArray, List.set_cons_zero, List.set_cons_succ]
    refine wpS_take 8 (v := ?_) hSw rfl (by kernel_rfl) (by kernel_rfl) (by kernel_rfl) (by rfl) (fun w' hin => ?_) ?_
    rotate_left
    · (try simp only [] at hin); go_simp <;> with_reducible rfl
    try simp only [Act.put, List.setIfInBounds_toArray, List.set_cons_zero, List.set_cons_succ]
    refine wpS_take 9 (v := ?_) hSw rfl (by kernel_rfl) (by kernel_rfl) (by kernel_rfl) (by rfl) (fun w' hin => ?_) ?_
    rotate_left
    · (try simp only [] at hin); go_simp <;> with_reducible rfl
    try simp only [Act.put, List.setIfInBounds_toArray, List.set_cons_zero, List.set_cons_succ]
    refine wpS_take 12 (v := ?_) hSw rfl (by kernel_rfl) (by kernel_rfl) (by kernel_rfl) (by rfl) (fun w' hin => ?_) ?_
    rotate_left
    · (try simp only [] at hin); go_simp <;> with_reducible rfl
    try simp only [Act.put, List.setIfInBounds_toArray, List.set_cons_zero, List.set_cons_succ]
    refine wpS_take 13 (v := ?_) hSw rfl (by kernel_rfl) (by kernel_rfl) (by kernel_rfl) (by rfl) (fun w' hin => ?_) ?_
    rotate_left
    · (try simp only [] at hin); go_simp <;> with_reducible rfl
    try simp only [Act.put, List.setIfInBounds_toArray, List.set_cons_zero, List.set_cons_succ]
    refine wpS_take 14 (v := ?_) hSw rfl (by kernel_rfl) (by kernel_rfl) (by kernel_rfl) (by rfl) (fun w' hin => ?_) ?_
    rotate_left
    · (try simp only [] at hin); go_simp <;> with_reducible rfl
    try simp only [Act.put, List.setIfInBounds_toArray, List.set_cons_zero, List.set_cons_succ]
    refine wpS_take 15 (v := ?_) hSw rfl (by kernel_rfl) (by kernel_rfl) (by kernel_rfl) (by rfl) (fun w' hin => ?_) ?_
    rotate_left
    · (try simp only [] at hin); go_simp <;> with_reducible rfl
    try simp only [Act.put, List.setIfInBounds_toArray, List.set_cons_zero, List.set_cons_succ]
    refine wpS_one 10 rfl (by kernel_rfl) (by rfl) (fun K hK => ?_)
    go_simp
    refine ((putAll_any (fun b => ((w2.alloc (.cells #[.int .i64 r.kind, .string r.name, .int .i64 r.ver, .int .i64 r.port, .string r.to, .slice C m f, .slice C' m' f'] 36)).alloc (.cells #[.slice A n c, .int .i64 0] 44)).heap.size ≤ b) none 0 0 [] B N g l _ ArrR.nil_ (fun _ => rfl) (by omega) HS4.out (by omega) (ResL.keep HL4.out ((Ext.refl w4).drew.trans hSw).keep)).mono fun _ _ h => LayN.of h).mono ?_
    rintro e w5 ⟨Q, M, h, rfl, HM, HCq, HBq, HOq, hb5⟩
    simp only []
    rw [List.nil_append] at HBq
    have u0 : ∀ w', Ext w5 w' → w'.cell? ⟨w2.heap.size + 1, 1, none⟩ = some (.int .i64 0) := fun w' hx => s0 w' (hb5.trans hx)
    have u1 : ∀ w', Ext w5 w' → (convert 40 9 (.slice Q M h)).run Tryd.prog w' = .ok (.string (bstr (putAll l))) w' := fun w' hx => convR (ArrR.up HBq.out hx) h
    clear s0 v0
    refine hK.out _ _ (Ext w5) (fun x hx => hb5.trans hx) (Ext.refl _) (fun hSw => ?_)
    clear hK K
    try simp only [Act.put, List.setIfInBounds_toArray, List.set_cons_zero, List.set_cons_succ]
    refine wpS_take 11 (v := ?_) hSw rfl (by kernel_rfl) (by kernel_rfl) (by kernel_rfl) (by rfl) (fun w' hin => ?_) ?_
    rotate_left
    · (try simp only [] at hin); go_simp <;> with_reducible rfl
    try simp only [Act.put, List.setIfInBounds_toArray, List.set_cons_zero, List.set_cons_succ]
    refine wpS_take 16 (v := ?_) hSw rfl (by kernel_rfl) (by kernel_rfl) (by kernel_rfl) (by rfl) (fun w' hin => ?_) ?_
    rotate_left
    · (try simp only [] at hin); go_simp <;> with_reducible rfl
    try simp only [Act.put, List.setIfInBounds_toArray, List.set_cons_zero, List.set_cons_succ]
    refine wpS_take 17 (v := ?_) hSw rfl (by kernel_rfl) (by kernel_rfl) (by kernel_rfl) (by rfl) (fun w' hin => ?_) ?_
    rotate_left
    · (try simp only [] at hin); go_simp <;> with_reducible rfl
    try simp only [Act.put, List.setIfInBounds_toArray, List.set_cons_zero, List.set_cons_succ]
    refine wpS_take 18 (v := ?_) hSw rfl (by kernel_rfl) (by kernel_rfl) (by kernel_rfl) (by rfl) (fun w' hin => ?_) ?_
    rotate_left
    · (try simp only [] at hin); go_simp <;> with_reducible rfl
    try simp only [Act.put, List.setIfInBounds_toArray, List.set_cons_zero, List.set_cons_succ]
    refine wpS_take 19 (v := ?_) hSw rfl (by kernel_rfl) (by kernel_rfl) (by kernel_rfl) (by rfl) (fun w' hin => ?_) ?_
    rotate_left
    · (try simp only [] at hin); go_simp <;> with_reducible rfl
    try simp only [Act.put, List.setIfInBounds_toArray, List.set_cons_zero, List.set_cons_succ]
    refine wpS_take 20 (v := ?_) hSw rfl (by kernel_rfl) (by kernel_rfl) (by kernel_rfl) (by rfl) (fun w' hin => ?_) ?_
    rotate_left
    · (try simp only [] at hin); go_simp <;> with_reducible rfl
    try simp only [Act.put, List.setIfInBounds_toArray, List.set_cons_zero, List.set_cons_succ]
    refine wpS_take 21 (v := ?_) hSw rfl (by kernel_rfl) (by kernel_rfl) (by kernel_rfl) (by rfl) (fun w' hin => ?_) ?_
    rotate_left
    · (try simp only [] at hin); go_simp <;> with_reducible rfl
    try simp only [Act.put, List.setIfInBounds_toArray, List.set_cons_zero, List.set_cons_succ]
    refine wpS_take 22 (v := ?_) hSw rfl (by kernel_rfl) (by kernel_rfl) (by kernel_rfl) (by rfl) (fun w' hin => ?_) ?_
    rotate_left
    · (try simp only [] at hin); go_simp <;> with_reducible rfl
    try simp only [Act.put, List.setIfInBounds_toArray, List.set_cons_zero, List.set_cons_succ]
    refine wpS_take 23 (v := ?_) hSw rfl (by kernel_rfl) (by kernel_rfl) (by kernel_rfl) (by rfl) (fun w' hin => ?_) ?_
    rotate_left
    · (try simp only [] at hin); go_simp <;> with_reducible rfl
    try simp only [Act.put, List.setIfInBounds_toArray, List.set_cons_zero, List.set_cons_succ]
    refine wpS_take 24 (v := ?_) hSw rfl (by kernel_rfl) (by kernel_rfl) (by kernel_rfl) (by rfl) (fun w' hin => ?_) ?_
    rotate_left
    · (try simp only [] at hin); go_simp <;> with_reducible rfl
    try simp only [Act.put, List.setIfInBounds_toArray, List.set_cons_zero, List.set_cons_succ]
    refine wpS_take 25 (v := ?_) hSw rfl (by kernel_rfl) (by kernel_rfl) (by kernel_rfl) (by rfl) (fun w' hin => ?_) ?_
    rotate_left
    · (try simp only [] at hin); go_simp <;> with_reducible rfl
    try simp only [Act.put, List.setIfInBounds_toArray, List.set_cons_zero, List.set_cons_succ]
    refine wpS_skip 26 hSw rfl (by kernel_rfl) (by kernel_rfl) (by kernel_rfl) (by rfl) ?_
    try simp only [Act.put, List.setIfInBounds_toArray, List.set_cons_zero, List.set_cons_succ]
    refine wpS_skip 27 hSw rfl (by kernel_rfl) (by kernel_rfl) (by kernel_rfl) (by rfl) ?_
    try simp only [Act.put, List.setIfInBounds_toArray, List.set_cons_zero, List.set_cons_succ]
    refine wpS_skip 28 hSw rfl (by kernel_rfl) (by kernel_rfl) (by kernel_rfl) (by rfl) ?_
    try simp only [Act.put, List.setIfInBounds_toArray, List.set_cons_zero, List.set_cons_succ]
    refine wpS_take 29 (v := ?_) hSw rfl (by kernel_rfl) (by kernel_rfl) (by kernel_rfl) (by rfl) (fun w' hin => ?_) ?_
    rotate_left
    · (try simp only [] at hin); go_simp <;> with_reducible rfl
    try simp only [Act.put, List.setIfInBounds_toArray, List.set_cons_zero, List.set_cons_succ]
    refine wpS_take 30 (v := ?_) hSw rfl (by kernel_rfl) (by kernel_rfl) (by kernel_rfl) (by rfl) (fun w' hin => ?_) ?_
    rotate_left
    · (try simp only [] at hin); go_simp <;> with_reducible rfl
    try simp only [Act.put, List.setIfInBounds_toArray, List.set_cons_zero, List.set_cons_succ]
    refine wpS_done (by kernel_rfl) ?_
    clear u0 u1
    have EF5 : Hid (Ext w4 w5) := Lib.hid ((Ext.refl w4).drew.trans hb5)
    have KX5 := Lib.hid ((EF5.out.block zx).trans KX.out)
    have KR5 := Lib.hid ((EF5.out.block zr).trans KR.out)
    have HV5 := Lib.hid (HV4.out.up EF5.out)
    have HB5 := Lib.hid (ArrR.up HB.out (E4.out.trans EF5.out))
    have zr5 : w2.heap.size < w5.heap.size := Nat.lt_of_lt_of_le zr EF5.out.size
    have EW5 := Lib.hid (E4.out.trans EF5.out)
    obtain ⟨ex, hex⟩ : ∃ ex, ex = rx.e := ⟨_, rfl⟩
    rw [← hex] at KX5
    have HEX := Lib.hid hex
    clear hex
    obtain ⟨q0, -⟩ := blk_rules KX5.out
    by_cases hx : ex = 0
    rotate_left
    · have hx1 : (ex != 0) = true := by simpa using hx
      obtain rfl : r = rs0 := by
        have h1 := takeR_zero ⟨bs, 0⟩
        rw [HX.out] at h1
        exact h1 (by rw [HEX.out] at hx; exact hx)
      obtain ⟨q2, -⟩ := blk_rules KR5.out
      go_wp2_with fail
      refine (refSame_eq (fun b => (w1.alloc (.cells #[.slice A n c, .int .i64 0] 44)).heap.size ≤ b) (fun _ => True) rs0 C none m f 0 0 C' none m' f' 0 0 _ HV5.out (rs0_V _ _)).mono ?_
      rintro e w9 ⟨rfl, hb9⟩
      go_wp2_with fail
      go_ret
      exact ⟨rfl, EW5.out.trans hb9⟩
    have hx1 : (ex != 0) = false := by simpa using hx
    have HOR := codec_r.once bs (by rw [HX.out, ← HEX.out]; exact hx)
    rw [HX.out] at HOR
    have HSN : Hid (saneR r = 0) := Lib.hid HOR.1
    have HOB : Hid (bs = putR r ++ rx.b) := Lib.hid HOR.2
    have HBr : Hid (Byts w5 A k (putR r)) := Lib.hid (arr_take (ys := rx.b) (by rw [← HOB.out]; exact HB5.out) (by
      have h1 := HB.out.len
      have h2 := congrArg List.length HOB.out
      rw [List.length_append] at h2
      have h3 := HP.out
      omega))
    clear HOR
    go_wp2_with fail
    have t0 : ∀ w', Ext (w5).drew w' → w'.cell? ⟨w2.heap.size, 0, none⟩ = some (.int .i64 r.kind) := fun w' hx => (blk_rules ((((Ext.refl (w5)).drew.trans hx).block zr5).trans KR5.out)).1 0
    have t1 : ∀ w', Ext (w5).drew w' → w'.cell? ⟨w2.heap.size, 1, none⟩ = some (.string r.name) := fun w' hx => (blk_rules ((((Ext.refl (w5)).drew.trans hx).block zr5).trans KR5.out)).1 1
    have t2 : ∀ w', Ext (w5).drew w' → w'.cell? ⟨w2.heap.size, 2, none⟩ = some (.int .i64 r.ver) := fun w' hx => (blk_rules ((((Ext.refl (w5)).drew.trans hx).block zr5).trans KR5.out)).1 2
    have t3 : ∀ w', Ext (w5).drew w' → w'.cell? ⟨w2.heap.size, 3, none⟩ = some (.int .i64 r.port) := fun w' hx => (blk_rules ((((Ext.refl (w5)).drew.trans hx).block zr5).trans KR5.out)).1 3
    have t4 : ∀ w', Ext (w5).drew w' → w'.cell? ⟨w2.heap.size, 4, none⟩ = some (.string r.to) := fun w' hx => (blk_rules ((((Ext.refl (w5)).drew.trans hx).block zr5).trans KR5.out)).1 4
    have t5 : ∀ w', Ext (w5).drew w' → w'.cell? ⟨w2.heap.size, 5, none⟩ = some (.slice C m f) := fun w' hx => (blk_rules ((((Ext.refl (w5)).drew.trans hx).block zr5).trans KR5.out)).1 5
    have t6 : ∀ w', Ext (w5).drew w' → w'.cell? ⟨w2.heap.size, 6, none⟩ = some (.slice C' m' f') := fun w' hx => (blk_rules ((((Ext.refl (w5)).drew.trans hx).block zr5).trans KR5.out)).1 6
    have v0 : ∀ w', Ext (w5).drew w' → (convert 40 9 (.slice A k c)).run Tryd.prog w' = .ok (.string (bstr (putR r))) w' := fun w' hx => convR (ArrR.up HBr.out ((Ext.refl (w5)).drew.trans hx)) c
    have hSw : Ext (w5).drew (w5).drew := Ext.refl _
    refine wpS_begin (Ext (w5).drew) (by kernel_rfl) ?_
    refine wpS_take 0 (v := ?_) hSw rfl (by kernel_rfl) (by kernel_rfl) (by kernel_rfl) (by rfl) (fun w' hin => ?_) ?_
    rotate_left
    · (try simp only [] at hin); go_simp <;> with_reducible rfl
    try simp only [Act.put, List.setIfInBounds_toArray, List.set_cons_zero, List.set_cons_succ]
    refine wpS_take 1 (v := ?_) hSw rfl (by kernel_rfl) (by kernel_rfl) (by kernel_rfl) (by rfl) (fun w' hin => ?_) ?_
    rotate_left
    · (try simp only [] at hin); go_simp <;> with_reducible rfl
    try simp only [Act.put, List.setIfInBounds_toArray, List.set_cons_zero, List.set_cons_succ]
    refine wpS_take 2 (v := ?_) hSw rfl (by kernel_rfl) (by kernel_rfl) (by kernel_rfl) (by rfl) (fun w' hin => ?_) ?_
    rotate_left
    · (try simp only [] at hin); go_simp <;> with_reducible rfl
    try simp only [Act.put, List.setIfInBounds_toArray, List.set_cons_zero, List.set_cons_succ]
    refine wpS_one 3 rfl (by kernel_rfl) (by rfl) (fun K hK => ?_)
    go_simp
    refine (resSane_any (fun b => (w1.alloc (.cells #[.slice A n c, .int .i64 0] 44)).heap.size ≤ b) r C C' m f m' f' _ (HV5.out.up ((Ext.refl (w5)).drew.trans hSw))).mono ?_
    rintro e w7 ⟨rfl, hb7⟩
    rw [HSN.out]
    simp only []
    refine hK.out _ _ (Ext (w5).drew) (fun _ h => h) (hb7) (fun hSw => ?_)
    clear hK K
    try simp only [Act.put, List.setIfInBounds_toArray, List.set_cons_zero, List.set_cons_succ]
    refine wpS_take 4 (v := ?_) hSw rfl (by kernel_rfl) (by kernel_rfl) (by kernel_rfl) (by rfl) (fun w' hin => ?_) ?_
    rotate_left
    · (try simp only [] at hin); go_simp <;> with_reducible rfl
    try simp only [Act.put, List.setIfInBounds_toArray, List.set_cons_zero, List.set_cons_succ]
    refine wpS_take 5 (v := ?_) hSw rfl (by kernel_rfl) (by kernel_rfl) (by kernel_rfl) (by rfl) (fun w' hin => ?_) ?_
    rotate_left
    · (try simp only [] at hin); go_simp <;> with_reducible rfl
    try simp only [Act.put, List.setIfInBounds_toArray, List.set_cons_zero, List.set_cons_succ]
    refine wpS_take 6 (v := ?_) hSw rfl (by kernel_rfl) (by kernel_rfl) (by kernel_rfl) (by rfl) (fun w' hin => ?_) ?_
    rotate_left
    · (try simp only [] at hin); go_simp <;> with_reducible rfl
    try simp only [Act.put, List.setIfInBounds_toArray, List.set_cons_zero, List.set_cons_succ]
    refine wpS_take 7 (v := ?_) hSw rfl (by kernel_rfl) (by kernel_rfl) (by kernel_rfl) (by rfl) (fun w' hin => ?_) ?_
    rotate_left
    · (try simp only [] at hin); go_simp <;> with_reducible rfl
    try simp only [Act.put, List.setIfInBounds_toArray, List.set_cons_zero, List.set_cons_succ]
    refine wpS_take 10 (v := ?_) hSw rfl (by kernel_rfl) (by kernel_rfl) (by kernel_rfl) (by rfl) (fun w' hin => ?_) ?_
    rotate_left
    · (try simp only [] at hin); go_simp <;> with_reducible rfl
    try simp only [Act.put, List.setIfInBounds_toArray, List.set_cons_zero, List.set_cons_succ]
    refine wpS_take 11 (v := ?_) hSw rfl (by kernel_rfl) (by kernel_rfl) (by kernel_rfl) (by rfl) (fun w' hin => ?_) ?_
    rotate_left
    · (try simp only [] at hin); go_simp <;> with_reducible rfl
    try simp only [Act.put, List.setIfInBounds_toArray, List.set_cons_zero, List.set_cons_succ]
    refine wpS_take 12 (v := ?_) hSw rfl (by kernel_rfl) (by kernel_rfl) (by kernel_rfl) (by rfl) (fun w' hin => ?_) ?_
    rotate_left
    · (try simp only [] at hin); go_simp <;> with_reducible rfl
    try simp only [Act.put, List.setIfInBounds_toArray, List.set_cons_zero, List.set_cons_succ]
    refine wpS_take 13 (v := ?_) hSw rfl (by kernel_rfl) (by kernel_rfl) (by kernel_rfl) (by rfl) (fun w' hin => ?_) ?_
    rotate_left
    · (try simp only [] at hin); go_simp <;> with_reducible rfl
    try simp only [Act.put, List.setIfInBounds_toArray, List.set_cons_zero, List.set_cons_succ]
    refine wpS_one 8 rfl (by kernel_rfl) (by rfl) (fun K hK => ?_)
    go_simp
    refine (((put_lay (fun b => (w1.alloc (.cells #[.slice A n c, .int .i64 0] 44)).heap.size ≤ b) _).2 none 0 0 [] r C m f C' m' f' _ (Ext.refl _) ArrR.nil_ (fun _ => rfl) (by omega) trivial (HV5.out.up ((Ext.refl (w5)).drew.trans hSw))).mono fun _ _ h => LayN.of h).mono ?_
    rintro e w8 ⟨Q', M', h', rfl, HM', HCq', HBq', HOq', hb8⟩
    simp only []
    rw [List.nil_append] at HBq'
    have u1 : ∀ w', Ext w8 w' → (convert 40 9 (.slice Q' M' h')).run Tryd.prog w' = .ok (.string (bstr (putR r))) w' := fun w' hx => convR (ArrR.up HBq'.out hx) h'
    clear t0 t1 t2 t3 t4 t5 t6 v0
    refine hK.out _ _ (Ext w8) (fun x hx => hb7.trans (hb8.trans hx)) (Ext.refl _) (fun hSw => ?_)
    clear hK K
    try simp only [Act.put, List.setIfInBounds_toArray, List.set_cons_zero, List.set_cons_succ]
    refine wpS_take 9 (v := ?_) hSw rfl (by kernel_rfl) (by kernel_rfl) (by kernel_rfl) (by rfl) (fun w' hin => ?_) ?_
    rotate_left
    · (try simp only [] at hin); go_simp <;> with_reducible rfl
    try simp only [Act.put, List.setIfInBounds_toArray, List.set_cons_zero, List.set_cons_succ]
    refine wpS_take 14 (v := ?_) hSw rfl (by kernel_rfl) (by kernel_rfl) (by kernel_rfl) (by rfl) (fun w' hin => ?_) ?_
    rotate_left
    · (try simp only [] at hin); go_simp <;> with_reducible rfl
    try simp only [Act.put, List.setIfInBounds_toArray, List.set_cons_zero, List.set_cons_succ]
    refine wpS_take 15 (v := ?_) hSw rfl (by kernel_rfl) (by kernel_rfl) (by kernel_rfl) (by rfl) (fun w' hin => ?_) ?_
    rotate_left
    · (try simp only [] at hin); go_simp <;> with_reducible rfl
    try simp only [Act.put, List.setIfInBounds_toArray, List.set_cons_zero, List.set_cons_succ]
    refine wpS_take 16 (v := ?_) hSw rfl (by kernel_rfl) (by kernel_rfl) (by kernel_rfl) (by rfl) (fun w' hin => ?_) ?_
    rotate_left
    · (try simp only [] at hin); go_simp <;> with_reducible rfl
    try simp only [Act.put, List.setIfInBounds_toArray, List.set_cons_zero, List.set_cons_succ]
    refine wpS_done (by kernel_rfl) ?_
    clear u1
    go_wp2_with fail
    go_ret
    exact ⟨rfl, EW5.out.trans ((Ext.refl _).drew.trans (hb7.trans hb8))⟩
  · obtain ⟨ey, hey⟩ : ∃ ey, ey = ry.e := ⟨_, rfl⟩
    rw [← hey] at he KY
    have he1 : (ey == 0) = false := by simpa using he
    have he2 : (ey != 0) = true := by simpa using he
    have HLN : Hid (l = []) := Lib.hid (by
      have h1 := someB_zero (t := takeR) (fun r hr => codec_r.err r hr) 64 ⟨bs, 0⟩
      rw [HY.out] at h1
      exact h1 (by rw [← hey]; exact he))
    obtain rfl : N = 0 := by have h1 := HL4.out.len; rw [HLN.out] at h1; simpa using h1.symm
    clear he hey
    obtain ⟨q0, -⟩ := blk_rules KY.out
    go_wp2_with fail
    have s0 : ∀ w', Ext w4.drew w' → w'.cell? ⟨w2.heap.size + 1, 1, none⟩ = some (.int .i64 ey) := fun w' hx => (blk_rules ((((Ext.refl w4).drew.trans hx).block zy).trans KY.out)).1 1
    have hSw : Ext w4.drew w4.drew := Ext.refl _
    refine wpS_begin (Ext w4.drew) (by kernel_rfl) ?_
    refine wpS_take 0 (v := ?_) hSw rfl (by kernel_rfl) (by kernel_rfl) (by kernel_rfl) (by rfl) (fun w' hin => ?_) ?_
    rotate_left
    · (try simp only [] at hin); go_simp <;> with_reducible rfl
    try simp only [Act.put, List.setIfInBounds_toArray, List.set_cons_zero, List.set_cons_succ]
    refine wpS_take 1 (v := ?_) hSw rfl (by kernel_rfl) (by kernel_rfl) (by kernel_rfl) (by rfl) (fun w' hin => ?_) ?_
    rotate_left
    · (try simp only [] at hin); go_simp <;> with_reducible rfl
    try simp only [Act.put, List.setIfInBounds_toArray, List.set_cons_zero, List.set_cons_succ]
    refine wpS_take 2 (v := ?_) hSw rfl (by kernel_rfl) (by kernel_rfl) (by kernel_rfl) (by rfl) (fun w' hin => ?_) ?_
    rotate_left
    · (try simp only [] at hin); go_simp <;> with_reducible rfl
    try simp only [Act.put, List.setIfInBounds_toArray, List.set_cons_zero, List.set_cons_succ]
    refine wpS_take 3 (v := ?_) hSw rfl (by kernel_rfl) (by kernel_rfl) (by kernel_rfl) (by rfl) (fun w' hin => ?_) ?_
    rotate_left
    · (try simp only [] at hin); go_simp <;> with_reducible rfl
    try simp only [Act.put, List.setIfInBounds_toArray, List.set_cons_zero, List.set_cons_succ]
    refine wpS_take 4 (v := ?_) hSw rfl (by kernel_rfl) (by kernel_rfl) (by kernel_rfl) (by rfl) (fun w' hin => ?_) ?_
    rotate_left
    · (try simp only [] at hin); go_simp <;> with_reducible rfl
    try simp only [Act.put, List.setIfInBounds_toArray, List.set_cons_zero, List.set_cons_succ]
    refine wpS_take 5 (v := ?_) hSw rfl (by kernel_rfl) (by kernel_rfl) (by kernel_rfl) (by rfl) (fun w' hin => ?_) ?_
    rotate_left
    · (try simp only [] at hin); go_simp <;> with_reducible rfl
    try simp only [Act.put, List.setIfInBounds_toArray, List.set_cons_zero, List.set_cons_succ]
    refine wpS_take 6 (v := ?_) hSw rfl (by kernel_rfl) (by kernel_rfl) (by kernel_rfl) (by rfl) (fun w' hin => ?_) ?_
    rotate_left
    · (try simp only [] at hin); go_simp <;> with_reducible rfl
    try simp only [Act.put, List.setIfInBounds_toArray, List.set_cons_zero, List.set_cons_succ]
    refine wpS_take 7 (v := ?_) hSw rfl (by kernel_rfl) (by kernel_rfl) (by kernel_rfl) (by rfl) (fun w' hin => ?_) ?_
    rotate_left
    · (try simp only [] at hin); go_simp <;> with_reducible rfl
    try simp only [Act.put, List.setIfInBounds_toArray, List.set_cons_zero, List.set_cons_succ]
    refine wpS_take 8 (v := ?_) hSw rfl (by kernel_rfl) (by kernel_rfl) (by kernel_rfl) (by rfl) (fun w' hin => ?_) ?_
    rotate_left
    · (try simp only [] at hin); go_simp <;> with_reducible rfl
    try simp only [Act.put, List.setIfInBounds_toArray, List.set_cons_zero, List.set_cons_succ]
    refine wpS_skip 9 hSw rfl (by kernel_rfl) (by kernel_rfl) (by kernel_rfl) (by rfl) ?_
    try simp only [Act.put, List.setIfInBounds_toArray, List.set_cons_zero, List.set_cons_succ]
    refine wpS_skip 10 hSw rfl (by kernel_rfl) (by kernel_rfl) (by kernel_rfl) (by rfl) ?_
    try simp only [Act.put, List.setIfInBounds_toArray, List.set_cons_zero, List.set_cons_succ]
    refine wpS_skip 11 hSw rfl (by kernel_rfl) (by kernel_rfl) (by kernel_rfl) (by rfl) ?_
    try simp only [Act.put, List.setIfInBounds_toArray, List.set_cons_zero, List.set_cons_succ]
    refine wpS_skip 12 hSw rfl (by kernel_rfl) (by kernel_rfl) (by kernel_rfl) (by rfl) ?_
    try simp only [Act.put, List.setIfInBounds_toArray, List.set_cons_zero, List.set_cons_succ]
    refine wpS_skip 13 hSw rfl (by kernel_rfl) (by kernel_rfl) (by kernel_rfl) (by rfl) ?_
    try simp only [Act.put, List.setIfInBounds_toArray, List.set_cons_zero, List.set_cons_succ]
    refine wpS_skip 14 hSw rfl (by kernel_rfl) (by kernel_rfl) (by kernel_rfl) (by rfl) ?_
    try simp only [Act.put, List.setIfInBounds_toArray, List.set_cons_zero, List.set_cons_succ]
    refine wpS_skip 15 hSw rfl (by kernel_rfl) (by kernel_rfl) (by kernel_rfl) (by rfl) ?_
    try simp only [Act.put, List.setIfInBounds_toArray, List.set_cons_zero, List.set_cons_succ]
    refine wpS_skip 16 hSw rfl (by kernel_rfl) (by kernel_rfl) (by kernel_rfl) (by rfl) ?_
    try simp only [Act.put, List.setIfInBounds_toArray, List.set_cons_zero, List.set_cons_succ]
    refine wpS_take 17 (v := ?_) hSw rfl (by kernel_rfl) (by kernel_rfl) (by kernel_rfl) (by rfl) (fun w' hin => ?_) ?_
    rotate_left
    · (try simp only [] at hin); go_simp <;> with_reducible rfl
    try simp only [Act.put, List.setIfInBounds_toArray, List.set_cons_zero, List.set_cons_succ]
    refine wpS_take 18 (v := ?_) hSw rfl (by kernel_rfl) (by kernel_rfl) (by kernel_rfl) (by rfl) (fun w' hin => ?_) ?_
    rotate_left
    · (try simp only [] at hin); go_simp <;> with_reducible rfl
    try simp only [Act.put, List.setIfInBounds_toArray, List.set_cons_zero, List.set_cons_succ]
    refine wpS_take 19 (v := ?_) hSw rfl (by kernel_rfl) (by kernel_rfl) (by kernel_rfl) (by rfl) (fun w' hin => ?_) ?_
    rotate_left
    · (try simp only [] at hin); go_simp <;> with_reducible rfl
    try simp only [Act.put, List.setIfInBounds_toArray, List.set_cons_zero, List.set_cons_succ]
    refine wpS_take 20 (v := ?_) hSw rfl (by kernel_rfl) (by kernel_rfl) (by kernel_rfl) (by rfl) (fun w' hin => ?_) ?_
    rotate_left
    · (try simp only [] at hin); go_simp <;> with_reducible rfl
    try simp only [Act.put, List.setIfInBounds_toArray, List.set_cons_zero, List.set_cons_succ]
    refine wpS_take 21 (v := ?_) hSw rfl (by kernel_rfl) (by kernel_rfl) (by kernel_rfl) (by rfl) (fun w' hin => ?_) ?_
    rotate_left
    · (try simp only [] at hin); go_simp <;> with_reducible rfl
    try simp only [Act.put, List.setIfInBounds_toArray, List.set_cons_zero, List.set_cons_succ]
    refine wpS_take 22 (v := ?_) hSw rfl (by kernel_rfl) (by kernel_rfl) (by kernel_rfl) (by rfl) (fun w' hin => ?_) ?_
    rotate_left
    · (try simp only [] at hin); go_simp <;> with_reducible rfl
    try simp only [Act.put, List.setIfInBounds_toArray, List.set_cons_zero, List.set_cons_succ]
    refine wpS_take 23 (v := ?_) hSw rfl (by kernel_rfl) (by kernel_rfl) (by kernel_rfl) (by rfl) (fun w' hin => ?_) ?_
    rotate_left
    · (try simp only [] at hin); go_simp <;> with_reducible rfl
    try simp only [Act.put, List.setIfInBounds_toArray, List.set_cons_zero, List.set_cons_succ]
    refine wpS_take 24 (v := ?_) hSw rfl (by kernel_rfl) (by kernel_rfl) (by kernel_rfl) (by rfl) (fun w' hin => ?_) ?_
    rotate_left
    · (try simp only [] at hin); go_simp <;> with_reducible rfl
    try simp only [Act.put, List.setIfInBounds_toArray, List.set_cons_zero, List.set_cons_succ]
    refine wpS_take 25 (v := ?_) hSw rfl (by kernel_rfl) (by kernel_rfl) (by kernel_rfl) (by rfl) (fun w' hin => ?_) ?_
    rotate_left
    · (try simp only [] at hin); go_simp <;> with_reducible rfl
    try simp only [Act.put, List.setIfInBounds_toArray, List.set_cons_zero, List.set_cons_succ]
    refine wpS_take 26 (v := ?_) hSw rfl (by kernel_rfl) (by kernel_rfl) (by kernel_rfl) (by rfl) (fun w' hin => ?_) ?_
    rotate_left
    · (try simp only [] at hin); go_simp <;> with_reducible rfl
    try simp only [Act.put, List.setIfInBounds_toArray, List.set_cons_zero, List.set_cons_succ]
    refine wpS_take 27 (v := ?_) hSw rfl (by kernel_rfl) (by kernel_rfl) (by kernel_rfl) (by rfl) (fun w' hin => ?_) ?_
    rotate_left
    · (try simp only [] at hin); go_simp <;> with_reducible rfl
    try simp only [Act.put, List.setIfInBounds_toArray, List.set_cons_zero, List.set_cons_succ]
    refine wpS_take 28 (v := ?_) hSw rfl (by kernel_rfl) (by kernel_rfl) (by kernel_rfl) (by rfl) (fun w' hin => ?_) ?_
    rotate_left
    · (try simp only [] at hin); go_simp <;> with_reducible rfl
    try simp only [Act.put, List.setIfInBounds_toArray, List.set_cons_zero, List.set_cons_succ]
    refine wpS_take 29 (v := ?_) hSw rfl (by kernel_rfl) (by kernel_rfl) (by kernel_rfl) (by rfl) (fun w' hin => ?_) ?_
    rotate_left
    · (try simp only [] at hin); go_simp <;> with_reducible rfl
    try simp only [Act.put, List.setIfInBounds_toArray, List.set_cons_zero, List.set_cons_succ]
    refine wpS_take 30 (v := ?_) hSw rfl (by kernel_rfl) (by kernel_rfl) (by kernel_rfl) (by rfl) (fun w' hin => ?_) ?_
    rotate_left
    · (try simp only [] at hin); go_simp <;> with_reducible rfl
    try simp only [Act.put, List.setIfInBounds_toArray, List.set_cons_zero, List.set_cons_succ]
    refine wpS_done (by kernel_rfl) ?_
    clear s0
    have EF5 : Hid (Ext w4 w4.drew) := Lib.hid ((Ext.refl w4).drew)
    have KX5 := Lib.hid ((EF5.out.block zx).trans KX.out)
    have KR5 := Lib.hid ((EF5.out.block zr).trans KR.out)
    have HV5 := Lib.hid (HV4.out.up EF5.out)
    have HB5 := Lib.hid (ArrR.up HB.out (E4.out.trans EF5.out))
    have zr5 : w2.heap.size < w4.drew.heap.size := Nat.lt_of_lt_of_le zr EF5.out.size
    have EW5 := Lib.hid (E4.out.trans EF5.out)
    obtain ⟨ex, hex⟩ : ∃ ex, ex = rx.e := ⟨_, rfl⟩
    rw [← hex] at KX5
    have HEX := Lib.hid hex
    clear hex
    obtain ⟨q0, -⟩ := blk_rules KX5.out
    by_cases hx : ex = 0
    rotate_left
    · have hx1 : (ex != 0) = true := by simpa using hx
      obtain rfl : r = rs0 := by
        have h1 := takeR_zero ⟨bs, 0⟩
        rw [HX.out] at h1
        exact h1 (by rw [HEX.out] at hx; exact hx)
      obtain ⟨q2, -⟩ := blk_rules KR5.out
      go_wp2_with fail
      refine (refSame_eq (fun b => (w1.alloc (.cells #[.slice A n c, .int .i64 0] 44)).heap.size ≤ b) (fun _ => True) rs0 C none m f 0 0 C' none m' f' 0 0 _ HV5.out (rs0_V _ _)).mono ?_
      rintro e w9 ⟨rfl, hb9⟩
      go_wp2_with fail
      go_ret
      exact ⟨rfl, EW5.out.trans hb9⟩
    have hx1 : (ex != 0) = false := by simpa using hx
    have HOR := codec_r.once bs (by rw [HX.out, ← HEX.out]; exact hx)
    rw [HX.out] at HOR
    have HSN : Hid (saneR r = 0) := Lib.hid HOR.1
    have HOB : Hid (bs = putR r ++ rx.b) := Lib.hid HOR.2
    have HBr : Hid (Byts w4.drew A k (putR r)) := Lib.hid (arr_take (ys := rx.b) (by rw [← HOB.out]; exact HB5.out) (by
      have h1 := HB.out.len
      have h2 := congrArg List.length HOB.out
      rw [List.length_append] at h2
      have h3 := HP.out
      omega))
    clear HOR
    go_wp2_with fail
    have t0 : ∀ w', Ext (w4.drew).drew w' → w'.cell? ⟨w2.heap.size, 0, none⟩ = some (.int .i64 r.kind) := fun w' hx => (blk_rules ((((Ext.refl (w4.drew)).drew.trans hx).block zr5).trans KR5.out)).1 0
    have t1 : ∀ w', Ext (w4.drew).drew w' → w'.cell? ⟨w2.heap.size, 1, none⟩ = some (.string r.name) := fun w' hx => (blk_rules ((((Ext.refl (w4.drew)).drew.trans hx).block zr5).trans KR5.out)).1 1
    have t2 : ∀ w', Ext (w4.drew).drew w' → w'.cell? ⟨w2.heap.size, 2, none⟩ = some (.int .i64 r.ver) := fun w' hx => (blk_rules ((((Ext.refl (w4.drew)).drew.trans hx).block zr5).trans KR5.out)).1 2
    have t3 : ∀ w', Ext (w4.drew).drew w' → w'.cell? ⟨w2.heap.size, 3, none⟩ = some (.int .i64 r.port) := fun w' hx => (blk_rules ((((Ext.refl (w4.drew)).drew.trans hx).block zr5).trans KR5.out)).1 3
    have t4 : ∀ w', Ext (w4.drew).drew w' → w'.cell? ⟨w2.heap.size, 4, none⟩ = some (.string r.to) := fun w' hx => (blk_rules ((((Ext.refl (w4.drew)).drew.trans hx).block zr5).trans KR5.out)).1 4
    have t5 : ∀ w', Ext (w4.drew).drew w' → w'.cell? ⟨w2.heap.size, 5, none⟩ = some (.slice C m f) := fun w' hx => (blk_rules ((((Ext.refl (w4.drew)).drew.trans hx).block zr5).trans KR5.out)).1 5
    have t6 : ∀ w', Ext (w4.drew).drew w' → w'.cell? ⟨w2.heap.size, 6, none⟩ = some (.slice C' m' f') := fun w' hx => (blk_rules ((((Ext.refl (w4.drew)).drew.trans hx).block zr5).trans KR5.out)).1 6
    have v0 : ∀ w', Ext (w4.drew).drew w' → (convert 40 9 (.slice A k c)).run Tryd.prog w' = .ok (.string (bstr (putR r))) w' := fun w' hx => convR (ArrR.up HBr.out ((Ext.refl (w4.drew)).drew.trans hx)) c
    have hSw : Ext (w4.drew).drew (w4.drew).drew := Ext.refl _
    refine wpS_begin (Ext (w4.drew).drew) (by kernel_rfl) ?_
    refine wpS_take 0 (v := ?_) hSw rfl (by kernel_rfl) (by kernel_rfl) (by kernel_rfl) (by rfl) (fun w' hin => ?_) ?_
    rotate_left
    · (try simp only [] at hin); go_simp <;> with_reducible rfl
    try simp only [Act.put, List.setIfInBounds_toArray, List.set_cons_zero, List.set_cons_succ]
    refine wpS_take 1 (v := ?_) hSw rfl (by kernel_rfl) (by kernel_rfl) (by kernel_rfl) (by rfl) (fun w' hin => ?_) ?_
    rotate_left
    · (try simp only [] at hin); go_simp <;> with_reducible rfl
    try simp only [Act.put, List.setIfInBounds_toArray, List.set_cons_zero, List.set_cons_succ]
    refine wpS_take 2 (v := ?_) hSw rfl (by kernel_rfl) (by kernel_rfl) (by kernel_rfl) (by rfl) (fun w' hin => ?_) ?_
    rotate_left
    · (try simp only [] at hin); go_simp <;> with_reducible rfl
    try simp only [Act.put, List.setIfInBounds_toArray, List.set_cons_zero, List.set_cons_succ]
    refine wpS_one 3 rfl (by kernel_rfl) (by rfl) (fun K hK => ?_)
    go_simp
    refine (resSane_any (fun b => (w1.alloc (.cells #[.slice A n c, .int .i64 0] 44)).heap.size ≤ b) r C C' m f m' f' _ (HV5.out.up ((Ext.refl (w4.drew)).drew.trans hSw))).mono ?_
    rintro e w7 ⟨rfl, hb7⟩
    rw [HSN.out]
    simp only []
    refine hK.out _ _ (Ext (w4.drew).drew) (fun _ h => h) (hb7) (fun hSw => ?_)
    clear hK K
    try simp only [Act.put, List.setIfInBounds_toArray, List.set_cons_zero, List.set_cons_succ]
    refine wpS_take 4 (v := ?_) hSw rfl (by kernel_rfl) (by kernel_rfl) (by kernel_rfl) (by rfl) (fun w' hin => ?_) ?_
    rotate_left
    · (try simp only [] at hin); go_simp <;> with_reducible rfl
    try simp only [Act.put, List.setIfInBounds_toArray, List.set_cons_zero, List.set_cons_succ]
    refine wpS_take 5 (v := ?_) hSw rfl (by kernel_rfl) (by kernel_rfl) (by kernel_rfl) (by rfl) (fun w' hin => ?_) ?_
    rotate_left
    · (try simp only [] at hin); go_simp <;> with_reducible rfl
    try simp only [Act.put, List.setIfInBounds_toArray, List.set_cons_zero, List.set_cons_succ]
    refine wpS_take 6 (v := ?_) hSw rfl (by kernel_rfl) (by kernel_rfl) (by kernel_rfl) (by rfl) (fun w' hin => ?_) ?_
    rotate_left
    · (try simp only [] at hin); go_simp <;> with_reducible rfl
    try simp only [Act.put, List.setIfInBounds_toArray, List.set_cons_zero, List.set_cons_succ]
    refine wpS_take 7 (v := ?_) hSw rfl (by kernel_rfl) (by kernel_rfl) (by kernel_rfl) (by rfl) (fun w' hin => ?_) ?_
    rotate_left
    · (try simp only [] at hin); go_simp <;> with_reducible rfl
    try simp only [Act.put, List.setIfInBounds_toArray, List.set_cons_zero, List.set_cons_succ]
    refine wpS_take 10 (v := ?_) hSw rfl (by kernel_rfl) (by kernel_rfl) (by kernel_rfl) (by rfl) (fun w' hin => ?_) ?_
    rotate_left
    · (try simp only [] at hin); go_simp <;> with_reducible rfl
    try simp only [Act.put, List.setIfInBounds_toArray, List.set_cons_zero, List.set_cons_succ]
    refine wpS_take 11 (v := ?_) hSw rfl (by kernel_rfl) (by kernel_rfl) (by kernel_rfl) (by rfl) (fun w' hin => ?_) ?_
    rotate_left
    · (try simp only [] at hin); go_simp <;> with_reducible rfl
    try simp only [Act.put, List.setIfInBounds_toArray, List.set_cons_zero, List.set_cons_succ]
    refine wpS_take 12 (v := ?_) hSw rfl (by kernel_rfl) (by kernel_rfl) (by kernel_rfl) (by rfl) (fun w' hin => ?_) ?_
    rotate_left
    · (try simp only [] at hin); go_simp <;> with_reducible rfl
    try simp only [Act.put, List.setIfInBounds_toArray, List.set_cons_zero, List.set_cons_succ]
    refine wpS_take 13 (v := ?_) hSw rfl (by kernel_rfl) (by kernel_rfl) (by kernel_rfl) (by rfl) (fun w' hin => ?_) ?_
    rotate_left
    · (try simp only [] at hin); go_simp <;> with_reducible rfl
    try simp only [Act.put, List.setIfInBounds_toArray, List.set_cons_zero, List.set_cons_succ]
    refine wpS_one 8 rfl (by kernel_rfl) (by rfl) (fun K hK => ?_)
    go_simp
    refine (((put_lay (fun b => (w1.alloc (.cells #[.slice A n c, .int .i64 0] 44)).heap.size ≤ b) _).2 none 0 0 [] r C m f C' m' f' _ (Ext.refl _) ArrR.nil_ (fun _ => rfl) (by omega) trivial (HV5.out.up ((Ext.refl (w4.drew)).drew.trans hSw))).mono fun _ _ h => LayN.of h).mono ?_
    rintro e w8 ⟨Q', M', h', rfl, HM', HCq', HBq', HOq', hb8⟩
    simp only []
    rw [List.nil_append] at HBq'
    have u1 : ∀ w', Ext w8 w' → (convert 40 9 (.slice Q' M' h')).run Tryd.prog w' = .ok (.string (bstr (putR r))) w' := fun w' hx => convR (ArrR.up HBq'.out hx) h'
    clear t0 t1 t2 t3 t4 t5 t6 v0
    refine hK.out _ _ (Ext w8) (fun x hx => hb7.trans (hb8.trans hx)) (Ext.refl _) (fun hSw => ?_)
    clear hK K
    try simp only [Act.put, List.setIfInBounds_toArray, List.set_cons_zero, List.set_cons_succ]
    refine wpS_take 9 (v := ?_) hSw rfl (by kernel_rfl) (by kernel_rfl) (by kernel_rfl) (by rfl) (fun w' hin => ?_) ?_
    rotate_left
    · (try simp only [] at hin); go_simp <;> with_reducible rfl
    try simp only [Act.put, List.setIfInBounds_toArray, List.set_cons_zero, List.set_cons_succ]
    refine wpS_take 14 (v := ?_) hSw rfl (by kernel_rfl) (by kernel_rfl) (by kernel_rfl) (by rfl) (fun w' hin => ?_) ?_
    rotate_left
    · (try simp only [] at hin); go_simp <;> with_reducible rfl
    try simp only [Act.put, List.setIfInBounds_toArray, List.set_cons_zero, List.set_cons_succ]
    refine wpS_take 15 (v := ?_) hSw rfl (by kernel_rfl) (by kernel_rfl) (by kernel_rfl) (by rfl) (fun w' hin => ?_) ?_
    rotate_left
    · (try simp only [] at hin); go_simp <;> with_reducible rfl
    try simp only [Act.put, List.setIfInBounds_toArray, List.set_cons_zero, List.set_cons_succ]
    refine wpS_take 16 (v := ?_) hSw rfl (by kernel_rfl) (by kernel_rfl) (by kernel_rfl) (by rfl) (fun w' hin => ?_) ?_
    rotate_left
    · (try simp only [] at hin); go_simp <;> with_reducible rfl
    try simp only [Act.put, List.setIfInBounds_toArray, List.set_cons_zero, List.set_cons_succ]
    refine wpS_done (by kernel_rfl) ?_
    clear u1
    go_wp2_with fail
    go_ret
    exact ⟨rfl, EW5.out.trans ((Ext.refl _).drew.trans (hb7.trans hb8))⟩
end Go.Proofs.YtepifkmileilfaaDoor
