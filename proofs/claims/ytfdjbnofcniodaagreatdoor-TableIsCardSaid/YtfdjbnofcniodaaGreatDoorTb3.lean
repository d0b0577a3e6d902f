/- What the document's Patch and Get of layer 5 compute. -/
import Derived.Test.YtfdjbnofcniodaaGreatDoorTb2
import Derived.Test.YtfdjbnofcniodaaGreatDoorTabPatch
namespace Go.Proofs.YtfdjbnofcniodaaGreatDoor
set_option linter.unusedVariables false
open Go.RowKit

set_option maxRecDepth 100000 in
set_option maxHeartbeats 4000000 in
theorem refPatch5_any (A : Option Addr) (n c : Nat) (l : List Rs) (B : Option Addr) (m d : Nat) (adds : List Rs) (C : Option Addr) (p e : Nat) (gone : List Ky) (w : World) (hn : n ≤ 1000) (hm : m ≤ 1000) (hp : p ≤ 1000)
    (hsl : SlW A n c) (hA : ResL All w A n l) (hB : ResL All w B m adds) (hC : KeyL All w C p gone) :
    Calls Tryz.prog 48 #[.slice A n c, .slice B m d, .slice C p e] w (GivesL w (patchT l adds gone)) := by
  have HL0 : Hid (IsL w l (.slice A n c) w) := Lib.hid ⟨A, n, c, rfl, hsl, hA, Ext.refl _⟩
  have hln : l.length = n := hA.len
  have HB := Lib.hid hB
  have HC := Lib.hid hC
  clear hsl hA hB hC
  go_enter Tryz.func48, Tryz.ntmps48
  go_wp2_with fail
  go_loopw [0, 7] (fun v i wr => ∃ k : Nat, k ≤ p ∧ i = .int .i64 k ∧ Hid (IsL w ((gone.take k).foldl withoutT l) v wr)) (fun _ i _ => p - (intOf i).toNat)
  case atStart => exact ⟨0, Nat.zero_le _, by go_num, HL0⟩
  case round =>
    obtain ⟨k, hk, rfl, HL⟩ := hrel
    obtain ⟨A1, n1, c1, rfl, hs1, h1, he1⟩ := HL.out
    by_cases hlt : k < p
    · obtain ⟨b, off, y, rfl, hbl0, -, hx, hsz, d0, d1⟩ := KeyL.at_ HC.out hlt
      have HX := Lib.hid hx
      have hn1 : n1 ≤ 1000 := by have h2 := without_le (gone.take k) l; have h3 := h1.len; omega
      have i1 : (0 : Int) ≤ (k : Int) := by omega
      have i2 : (k : Int) < (p : Int) := by omega
      have t0 : wr.cell? ⟨b, off + k * 2, none⟩ = some (.int .i64 y.kind) := (he1.cell hbl0).trans d0
      have t1 : wr.cell? ⟨b, off + k * 2 + 1, none⟩ = some (.string y.name) := (he1.cell hbl0).trans d1
      have HS1 := Lib.hid hs1
      have H1 := Lib.hid h1
      have HE1 := Lib.hid he1
      clear hx d0 d1 hs1 h1 he1 HL
      go_wp2_with fail
      refine (refWithout5_any _ A1 n1 c1 y _ H1.out (by omega)).mono ?_
      rintro e2 w2 ⟨A2, n2, c2, rfl, hs2, h2, hb2⟩
      have HL2 : Hid (IsL w ((gone.take (k + 1)).foldl withoutT l) (.slice A2 n2 c2) w2) := Lib.hid ⟨A2, n2, c2, rfl, hs2, by rw [fold_snoc withoutT HX.out]; exact h2, HE1.out.trans hb2⟩
      clear hs2 h2 hb2 t0 t1
      go_wp2_with fail
      go_roundw
      case rel => exact ⟨k + 1, by omega, by go_num, HL2⟩
      case measure => simp [intOf]; omega
    · have HT : gone.take k = gone := List.take_of_length_le (by have := HC.out.len; omega)
      have HL1 : Hid (IsL w (gone.foldl withoutT l) (.slice A1 n1 c1) wr) := Lib.hid (by have h9 := HL.out; rwa [HT] at h9)
      clear HT hs1 h1 he1 HL
      go_wp2_with fail
      go_loopw [0, 8] (fun v i wr => ∃ j : Nat, j ≤ m ∧ i = .int .i64 j ∧ Hid (IsL w ((adds.take j).foldl withT (gone.foldl withoutT l)) v wr)) (fun _ i _ => m - (intOf i).toNat)
      case atStart => exact ⟨0, Nat.zero_le _, by go_num, HL1⟩
      case round =>
        obtain ⟨j, hj, rfl, HL⟩ := hrel
        obtain ⟨A2, n2, c2, rfl, hs2, h2, he2⟩ := HL.out
        by_cases hlj : j < m
        · obtain ⟨b, off, r, D, q, f, D', q', f', rfl, hbl0, -, hx, hv, d0, d1, d2, d3, d4, d5, d6⟩ := ResL.at_ HB.out hlj
          have HX := Lib.hid hx
          have HV := Lib.hid hv
          have hn2 : n2 ≤ 2000 := by
            have h4 := with_le (adds.take j) (gone.foldl withoutT l)
            have h5 := without_le gone l
            have h6 := h2.len
            have h7 : (adds.take j).length ≤ j := by rw [List.length_take]; omega
            omega
          have i1 : (0 : Int) ≤ (j : Int) := by omega
          have i2 : (j : Int) < (m : Int) := by omega
          have t0 : wr.cell? ⟨b, off + j * 7, none⟩ = some (.int .i64 r.kind) := (he2.cell hbl0).trans d0
          have t1 : wr.cell? ⟨b, off + j * 7 + 1, none⟩ = some (.string r.name) := (he2.cell hbl0).trans d1
          have t2 : wr.cell? ⟨b, off + j * 7 + 2, none⟩ = some (.int .i64 r.ver) := (he2.cell hbl0).trans d2
          have t3 : wr.cell? ⟨b, off + j * 7 + 3, none⟩ = some (.int .i64 r.port) := (he2.cell hbl0).trans d3
          have t4 : wr.cell? ⟨b, off + j * 7 + 4, none⟩ = some (.string r.to) := (he2.cell hbl0).trans d4
          have t5 : wr.cell? ⟨b, off + j * 7 + 5, none⟩ = some (.slice D q f) := (he2.cell hbl0).trans d5
          have t6 : wr.cell? ⟨b, off + j * 7 + 6, none⟩ = some (.slice D' q' f') := (he2.cell hbl0).trans d6
          have H2 := Lib.hid h2
          have HE2 := Lib.hid he2
          clear hx hv d0 d1 d2 d3 d4 d5 d6 hs2 h2 he2 HL
          go_wp2_with fail
          refine (refWith5_any A2 n2 c2 _ r D q f D' q' f' _ (by omega) H2.out (HV.out.up HE2.out)).mono ?_
          rintro e3 w3 ⟨A3, n3, c3, rfl, hs3, h3, hb3⟩
          have HL3 : Hid (IsL w ((adds.take (j + 1)).foldl withT (gone.foldl withoutT l)) (.slice A3 n3 c3) w3) := Lib.hid ⟨A3, n3, c3, rfl, hs3, by rw [fold_snoc withT HX.out]; exact h3, HE2.out.trans hb3⟩
          clear hs3 h3 hb3 t0 t1 t2 t3 t4 t5 t6
          go_wp2_with fail
          go_roundw
          case rel => exact ⟨j + 1, by omega, by go_num, HL3⟩
          case measure => simp [intOf]; omega
        · have HT : adds.take j = adds := List.take_of_length_le (by have := HB.out.len; omega)
          rw [HT] at h2
          have HG : Hid (GivesL w (patchT l adds gone) (.returned (.slice A2 n2 c2)) wr) := Lib.hid ⟨A2, n2, c2, rfl, hs2, h2, he2⟩
          clear HT hs2 h2 he2 HL
          go_wp2_with fail
          go_ret
          exact HG.out

theorem setE7 {w V : World} {p : Nat} {T : TypeId} {x0 x1 x2 x3 x4 x5 x6 : Value} (h : w.heap[p]? = some (.cells #[x0, x1, x2, x3, x4, x5, x6] T (0, 0))) (a0 a1 a2 a3 a4 a5 a6 : Value)
    (hV : ((((((w.setCell ⟨p, 0, none⟩ a0).setCell ⟨p, 1, none⟩ a1).setCell ⟨p, 2, none⟩ a2).setCell ⟨p, 3, none⟩ a3).setCell ⟨p, 4, none⟩ a4).setCell ⟨p, 5, none⟩ a5).setCell ⟨p, 6, none⟩ a6 = V) : V.heap[p]? = some (.cells #[a0, a1, a2, a3, a4, a5, a6] T (0, 0)) ∧ (∀ a : World, Ext a w → a.heap.size ≤ p → Ext a V) := by
  subst hV
  have e0 := h
  have e1 : (w.setCell ⟨p, 0, none⟩ a0).heap[p]? = some (.cells #[a0, x1, x2, x3, x4, x5, x6] T (0, 0)) := blk_set (i := 0) e0 a0
  have e2 : ((w.setCell ⟨p, 0, none⟩ a0).setCell ⟨p, 1, none⟩ a1).heap[p]? = some (.cells #[a0, a1, x2, x3, x4, x5, x6] T (0, 0)) := blk_set (i := 1) e1 a1
  have e3 : (((w.setCell ⟨p, 0, none⟩ a0).setCell ⟨p, 1, none⟩ a1).setCell ⟨p, 2, none⟩ a2).heap[p]? = some (.cells #[a0, a1, a2, x3, x4, x5, x6] T (0, 0)) := blk_set (i := 2) e2 a2
  have e4 : ((((w.setCell ⟨p, 0, none⟩ a0).setCell ⟨p, 1, none⟩ a1).setCell ⟨p, 2, none⟩ a2).setCell ⟨p, 3, none⟩ a3).heap[p]? = some (.cells #[a0, a1, a2, a3, x4, x5, x6] T (0, 0)) := blk_set (i := 3) e3 a3
  have e5 : (((((w.setCell ⟨p, 0, none⟩ a0).setCell ⟨p, 1, none⟩ a1).setCell ⟨p, 2, none⟩ a2).setCell ⟨p, 3, none⟩ a3).setCell ⟨p, 4, none⟩ a4).heap[p]? = some (.cells #[a0, a1, a2, a3, a4, x5, x6] T (0, 0)) := blk_set (i := 4) e4 a4
  have e6 : ((((((w.setCell ⟨p, 0, none⟩ a0).setCell ⟨p, 1, none⟩ a1).setCell ⟨p, 2, none⟩ a2).setCell ⟨p, 3, none⟩ a3).setCell ⟨p, 4, none⟩ a4).setCell ⟨p, 5, none⟩ a5).heap[p]? = some (.cells #[a0, a1, a2, a3, a4, a5, x6] T (0, 0)) := blk_set (i := 5) e5 a5
  have e7 : (((((((w.setCell ⟨p, 0, none⟩ a0).setCell ⟨p, 1, none⟩ a1).setCell ⟨p, 2, none⟩ a2).setCell ⟨p, 3, none⟩ a3).setCell ⟨p, 4, none⟩ a4).setCell ⟨p, 5, none⟩ a5).setCell ⟨p, 6, none⟩ a6).heap[p]? = some (.cells #[a0, a1, a2, a3, a4, a5, a6] T (0, 0)) := blk_set (i := 6) e6 a6
  exact ⟨e7, fun a he hp => (Ext.set (Ext.set (Ext.set (Ext.set (Ext.set (Ext.set (Ext.set he (p := ⟨p, 0, none⟩) hp a0) (p := ⟨p, 1, none⟩) hp a1) (p := ⟨p, 2, none⟩) hp a2) (p := ⟨p, 3, none⟩) hp a3) (p := ⟨p, 4, none⟩) hp a4) (p := ⟨p, 5, none⟩) hp a5) (p := ⟨p, 6, none⟩) hp a6)⟩

theorem find_none_snoc {l : List Rs} {k : Nat} {r : Rs} {P : Rs → Bool} (h : l[k]? = some r) (hn : (l.take k).find? P = none) (hp : P r = false) : (l.take (k + 1)).find? P = none := by
  rw [take_snoc_of h, List.find?_append, hn]; simp [hp]
theorem find_some_at {l : List Rs} {k : Nat} {r : Rs} {P : Rs → Bool} (h : l[k]? = some r) (hn : (l.take k).find? P = none) (hp : P r = true) : l.find? P = some r := by
  have e : l = l.take k ++ (r :: l.drop (k + 1)) := by rw [← drop_of h, List.take_append_drop]
  rw [e, List.find?_append, hn]; simp [hp]

set_option maxRecDepth 100000 in
set_option maxHeartbeats 8000000 in
theorem refGet5_any (y : Ky) (A : Option Addr) (n c : Nat) (l : List Rs) (w : World) (hn : n ≤ 1000000) (hA : ResL All w A n l) :
    Calls Tryz.prog 34 #[.slice A n c, .agg #[.int .i64 y.kind, .string y.name]] w (GivesO w (getT l y)) := by
  have HA := Lib.hid hA
  clear hA
  go_enter Tryz.func34, Tryz.ntmps34
  go_wp2_with fail
  have hk2 := two_blocks w (.cells #[.int .i64 y.kind, .string y.name] 38) (.cells #[.int .i64 0, .string ⟨#[]⟩, .int .i64 0, .int .i64 0, .string ⟨#[]⟩, .slice none 0 0, .slice none 0 0] 34)
  have K0 := Lib.hid hk2.1
  have R0 := Lib.hid hk2.2
  have E0 := Lib.hid ((Ext.new w (.cells #[.int .i64 y.kind, .string y.name] 38)).alloc (.cells #[.int .i64 0, .string ⟨#[]⟩, .int .i64 0, .int .i64 0, .string ⟨#[]⟩, .slice none 0 0, .slice none 0 0] 34))
  have hz0 : w.heap.size + 1 < ((w.alloc (.cells #[.int .i64 y.kind, .string y.name] 38)).alloc (.cells #[.int .i64 0, .string ⟨#[]⟩, .int .i64 0, .int .i64 0, .string ⟨#[]⟩, .slice none 0 0, .slice none 0 0] 34)).heap.size := by simp
  generalize (w.alloc (.cells #[.int .i64 y.kind, .string y.name] 38)).alloc (.cells #[.int .i64 0, .string ⟨#[]⟩, .int .i64 0, .int .i64 0, .string ⟨#[]⟩, .slice none 0 0, .slice none 0 0] 34) = w0 at K0 R0 E0 hz0 ⊢
  clear hk2
  go_loopw [6] (fun i wr => ∃ k : Nat, k ≤ n ∧ i = .int .i64 k ∧ Hid ((l.take k).find? (fun r => decide (r.key = y)) = none) ∧ Hid (Ext w0 wr)) (fun i _ => n - (intOf i).toNat)
  case atStart => exact ⟨0, Nat.zero_le _, by go_num, Lib.hid rfl, Lib.hid (Ext.refl _)⟩
  case round =>
    obtain ⟨k, hk, rfl, HN, HX⟩ := hrel
    have HE := Lib.hid (E0.out.trans HX.out)
    have RR := Lib.hid ((HX.out.block hz0).trans R0.out)
    by_cases hlt : k < n
    · obtain ⟨b, o, r, C, p, f, C', p', f', rfl, hbB, -, hlk, hv, hc0, hc1, hc2, hc3, hc4, hc5, hc6⟩ := ResL.at_ HA.out hlt
      have HLK := Lib.hid hlk
      have HV := Lib.hid hv
      have i1 : (0 : Int) ≤ (k : Int) := by omega
      have i2 : (k : Int) < (n : Int) := by omega
      have d0 : ∀ w', Ext w0 w' → w'.cell? ⟨b, o + k * 7, none⟩ = some (.int .i64 r.kind) := fun w' hx => ((E0.out.trans hx).cell hbB).trans hc0
      have d1 : ∀ w', Ext w0 w' → w'.cell? ⟨b, o + k * 7 + 1, none⟩ = some (.string r.name) := fun w' hx => ((E0.out.trans hx).cell hbB).trans hc1
      have d2 : ∀ w', Ext w0 w' → w'.cell? ⟨b, o + k * 7 + 2, none⟩ = some (.int .i64 r.ver) := fun w' hx => ((E0.out.trans hx).cell hbB).trans hc2
      have d3 : ∀ w', Ext w0 w' → w'.cell? ⟨b, o + k * 7 + 3, none⟩ = some (.int .i64 r.port) := fun w' hx => ((E0.out.trans hx).cell hbB).trans hc3
      have d4 : ∀ w', Ext w0 w' → w'.cell? ⟨b, o + k * 7 + 4, none⟩ = some (.string r.to) := fun w' hx => ((E0.out.trans hx).cell hbB).trans hc4
      have d5 : ∀ w', Ext w0 w' → w'.cell? ⟨b, o + k * 7 + 5, none⟩ = some (.slice C p f) := fun w' hx => ((E0.out.trans hx).cell hbB).trans hc5
      have d6 : ∀ w', Ext w0 w' → w'.cell? ⟨b, o + k * 7 + 6, none⟩ = some (.slice C' p' f') := fun w' hx => ((E0.out.trans hx).cell hbB).trans hc6
      have u0 : ∀ w', Ext w0 w' → w'.cell? ⟨w.heap.size, 0, none⟩ = some (.int .i64 y.kind) := fun w' hx => (blk_rules ((hx.block (by omega)).trans K0.out)).1 0
      have u1 : ∀ w', Ext w0 w' → w'.cell? ⟨w.heap.size, 1, none⟩ = some (.string y.name) := fun w' hx => (blk_rules ((hx.block (by omega)).trans K0.out)).1 1
      clear hlk hv hc0 hc1 hc2 hc3 hc4 hc5 hc6
      by_cases hq : r.key = y
      · have HQ := Lib.hid hq
        have g1 : r.key.kind = y.kind := by rw [hq]
        have g2 : r.key.name.toList = y.name.toList := by rw [hq]
        clear hq
        go_wp2_with fail
        have hSw : Ext w0 wr.drew := HX.out.drew
        refine wpS_begin (Ext w0) (by kernel_rfl) ?_
        refine wpS_take 0 (v := ?_) hSw rfl (by kernel_rfl) (by kernel_rfl) (by kernel_rfl) (by rfl) (fun w' hin => ?_) ?_
        rotate_left
        · (try simp only [] at hin); go_simp <;> with_reducible rfl
        try simp only [Act.put, List.setIfInBounds_toArray, List.set_cons_zero, List.set_cons_succ]
        refine wpS_take 1 (v := ?_) hSw rfl (by kernel_rfl) (by kernel_rfl) (by kernel_rfl) (by rfl) (fun w' hin => ?_) ?_
        rotate_left
        · (try simp only [] at hin); go_simp <;> with_reducible rfl
        try simp only [Act.put, List.setIfInBounds_toArray, List.set_cons_zero, List.set_cons_succ]
        refine wpS_take 2 (v := ?_) hSw rfl (by kernel_rfl) (by kernel_rfl) (by kernel_rfl) (by rfl) (fun w' hin => ?_) ?_
        rotate_left
        · (try simp only [] at hin); go_simp <;> with_reducible rfl
        try simp only [Act.put, List.setIfInBounds_toArray, List.set_cons_zero, List.set_cons_succ]
        refine wpS_take 3 (v := ?_) hSw rfl (by kernel_rfl) (by kernel_rfl) (by kernel_rfl) (by rfl) (fun w' hin => ?_) ?_
        rotate_left
        · (try simp only [] at hin); go_simp <;> with_reducible rfl
        try simp only [Act.put, List.setIfInBounds_toArray, List.set_cons_zero, List.set_cons_succ]
        refine wpS_take 5 (v := ?_) hSw rfl (by kernel_rfl) (by kernel_rfl) (by kernel_rfl) (by rfl) (fun w' hin => ?_) ?_
        rotate_left
        · (try simp only [] at hin); go_simp <;> with_reducible rfl
        try simp only [Act.put, List.setIfInBounds_toArray, List.set_cons_zero, List.set_cons_succ]
        refine wpS_one 4 rfl (by kernel_rfl) (by rfl) (fun K hK => ?_)
        go_simp
        refine (refKey_any r C C' p f p' f' _).mono ?_
        rintro e x1 ⟨rfl, hb1⟩
        simp only []
        refine hK.out _ _ (Ext w0) (fun _ h => h) (hSw.trans hb1) (fun hSw => ?_)
        clear hK K
        try simp only [Act.put, List.setIfInBounds_toArray, List.set_cons_zero, List.set_cons_succ]
        refine wpS_take 6 (v := ?_) hSw rfl (by kernel_rfl) (by kernel_rfl) (by kernel_rfl) (by rfl) (fun w' hin => ?_) ?_
        rotate_left
        · (try simp only [] at hin); go_simp <;> with_reducible rfl
        try simp only [Act.put, List.setIfInBounds_toArray, List.set_cons_zero, List.set_cons_succ]
        refine wpS_done (by kernel_rfl) ?_
        have GX := Lib.hid ((Ext.refl wr).drew.trans hb1)
        have HXX := Lib.hid (HX.out.trans GX.out)
        have e0 : x1.cell? ⟨b, o + k * 7, none⟩ = some (.int .i64 r.kind) := d0 x1 HXX.out
        have e1 : x1.cell? ⟨b, o + k * 7 + 1, none⟩ = some (.string r.name) := d1 x1 HXX.out
        have e2 : x1.cell? ⟨b, o + k * 7 + 2, none⟩ = some (.int .i64 r.ver) := d2 x1 HXX.out
        have e3 : x1.cell? ⟨b, o + k * 7 + 3, none⟩ = some (.int .i64 r.port) := d3 x1 HXX.out
        have e4 : x1.cell? ⟨b, o + k * 7 + 4, none⟩ = some (.string r.to) := d4 x1 HXX.out
        have e5 : x1.cell? ⟨b, o + k * 7 + 5, none⟩ = some (.slice C p f) := d5 x1 HXX.out
        have e6 : x1.cell? ⟨b, o + k * 7 + 6, none⟩ = some (.slice C' p' f') := d6 x1 HXX.out
        have RX := Lib.hid ((HXX.out.block hz0).trans R0.out)
        obtain ⟨rr0, rr1⟩ := blk_rules RX.out
        clear d0 d1 d2 d3 d4 d5 d6 u0 u1 hSw hb1
        go_wp2_with fail
        clear e0 e1 e2 e3 e4 e5 e6 rr0 rr1
        generalize hV : ((((((x1.setCell { block := w.heap.size + 1, off := 0 } (Value.int IntKind.i64 r.kind)).setCell { block := w.heap.size + 1, off := 1 } (Value.string r.name)).setCell { block := w.heap.size + 1, off := 2 } (Value.int IntKind.i64 r.ver)).setCell { block := w.heap.size + 1, off := 3 } (Value.int IntKind.i64 r.port)).setCell { block := w.heap.size + 1, off := 4 } (Value.string r.to)).setCell { block := w.heap.size + 1, off := 5 } (Value.slice C p f)).setCell { block := w.heap.size + 1, off := 6 } (Value.slice C' p' f') = V
        obtain ⟨bV, xV⟩ := setE7 RX.out _ _ _ _ _ _ _ hV
        clear hV
        obtain ⟨z0, -⟩ := blk_rules bV
        exact bodyPost_ret (v := .tuple #[.agg #[.int .i64 r.kind, .string r.name, .int .i64 r.ver, .int .i64 r.port, .string r.to, .slice C p f, .slice C' p' f'], .bool true]) (by simp [results, Tryz.results34, go_sem, z0]) rfl
          (show GivesO w (getT l y) _ V from by rw [show getT l y = some r from find_some_at HLK.out HN.out (decide_eq_true HQ.out)]; exact ⟨r, C, p, f, C', p', f', rfl, rfl, HV.out.up (xV w (E0.out.trans HXX.out) (by omega)), xV w (E0.out.trans HXX.out) (by omega)⟩)
      by_cases g1 : r.key.kind = y.kind
      · have HQ := Lib.hid hq
        have g2 : ¬ r.key.name.toList = y.name.toList := fun h => hq (ky_eq g1 (by unfold tx; rw [← Lib.toList_data, ← Lib.toList_data]; exact h))
        clear hq
        go_wp2_with fail
        have hSw : Ext w0 wr.drew := HX.out.drew
        refine wpS_begin (Ext w0) (by kernel_rfl) ?_
        refine wpS_take 0 (v := ?_) hSw rfl (by kernel_rfl) (by kernel_rfl) (by kernel_rfl) (by rfl) (fun w' hin => ?_) ?_
        rotate_left
        · (try simp only [] at hin); go_simp <;> with_reducible rfl
        try simp only [Act.put, List.setIfInBounds_toArray, List.set_cons_zero, List.set_cons_succ]
        refine wpS_take 1 (v := ?_) hSw rfl (by kernel_rfl) (by kernel_rfl) (by kernel_rfl) (by rfl) (fun w' hin => ?_) ?_
        rotate_left
        · (try simp only [] at hin); go_simp <;> with_reducible rfl
        try simp only [Act.put, List.setIfInBounds_toArray, List.set_cons_zero, List.set_cons_succ]
        refine wpS_take 2 (v := ?_) hSw rfl (by kernel_rfl) (by kernel_rfl) (by kernel_rfl) (by rfl) (fun w' hin => ?_) ?_
        rotate_left
        · (try simp only [] at hin); go_simp <;> with_reducible rfl
        try simp only [Act.put, List.setIfInBounds_toArray, List.set_cons_zero, List.set_cons_succ]
        refine wpS_take 3 (v := ?_) hSw rfl (by kernel_rfl) (by kernel_rfl) (by kernel_rfl) (by rfl) (fun w' hin => ?_) ?_
        rotate_left
        · (try simp only [] at hin); go_simp <;> with_reducible rfl
        try simp only [Act.put, List.setIfInBounds_toArray, List.set_cons_zero, List.set_cons_succ]
        refine wpS_take 5 (v := ?_) hSw rfl (by kernel_rfl) (by kernel_rfl) (by kernel_rfl) (by rfl) (fun w' hin => ?_) ?_
        rotate_left
        · (try simp only [] at hin); go_simp <;> with_reducible rfl
        try simp only [Act.put, List.setIfInBounds_toArray, List.set_cons_zero, List.set_cons_succ]
        refine wpS_one 4 rfl (by kernel_rfl) (by rfl) (fun K hK => ?_)
        go_simp
        refine (refKey_any r C C' p f p' f' _).mono ?_
        rintro e x1 ⟨rfl, hb1⟩
        simp only []
        refine hK.out _ _ (Ext w0) (fun _ h => h) (hSw.trans hb1) (fun hSw => ?_)
        clear hK K
        try simp only [Act.put, List.setIfInBounds_toArray, List.set_cons_zero, List.set_cons_succ]
        refine wpS_take 6 (v := ?_) hSw rfl (by kernel_rfl) (by kernel_rfl) (by kernel_rfl) (by rfl) (fun w' hin => ?_) ?_
        rotate_left
        · (try simp only [] at hin); go_simp <;> with_reducible rfl
        try simp only [Act.put, List.setIfInBounds_toArray, List.set_cons_zero, List.set_cons_succ]
        refine wpS_done (by kernel_rfl) ?_
        have GX := Lib.hid ((Ext.refl wr).drew.trans hb1)
        have HXX := Lib.hid (HX.out.trans GX.out)
        have HN2 := Lib.hid (find_none_snoc HLK.out HN.out (decide_eq_false HQ.out))
        clear d0 d1 d2 d3 d4 d5 d6 u0 u1 hSw hb1
        go_wp2_with fail
        go_roundw
        case rel => exact ⟨k + 1, by omega, by go_num, HN2, HXX⟩
        case measure => simp [intOf]; omega
      · have HQ := Lib.hid hq
        clear hq
        go_wp2_with fail
        have hSw : Ext w0 wr.drew := HX.out.drew
        refine wpS_begin (Ext w0) (by kernel_rfl) ?_
        refine wpS_take 0 (v := ?_) hSw rfl (by kernel_rfl) (by kernel_rfl) (by kernel_rfl) (by rfl) (fun w' hin => ?_) ?_
        rotate_left
        · (try simp only [] at hin); go_simp <;> with_reducible rfl
        try simp only [Act.put, List.setIfInBounds_toArray, List.set_cons_zero, List.set_cons_succ]
        refine wpS_take 1 (v := ?_) hSw rfl (by kernel_rfl) (by kernel_rfl) (by kernel_rfl) (by rfl) (fun w' hin => ?_) ?_
        rotate_left
        · (try simp only [] at hin); go_simp <;> with_reducible rfl
        try simp only [Act.put, List.setIfInBounds_toArray, List.set_cons_zero, List.set_cons_succ]
        refine wpS_take 2 (v := ?_) hSw rfl (by kernel_rfl) (by kernel_rfl) (by kernel_rfl) (by rfl) (fun w' hin => ?_) ?_
        rotate_left
        · (try simp only [] at hin); go_simp <;> with_reducible rfl
        try simp only [Act.put, List.setIfInBounds_toArray, List.set_cons_zero, List.set_cons_succ]
        refine wpS_take 3 (v := ?_) hSw rfl (by kernel_rfl) (by kernel_rfl) (by kernel_rfl) (by rfl) (fun w' hin => ?_) ?_
        rotate_left
        · (try simp only [] at hin); go_simp <;> with_reducible rfl
        try simp only [Act.put, List.setIfInBounds_toArray, List.set_cons_zero, List.set_cons_succ]
        refine wpS_take 5 (v := ?_) hSw rfl (by kernel_rfl) (by kernel_rfl) (by kernel_rfl) (by rfl) (fun w' hin => ?_) ?_
        rotate_left
        · (try simp only [] at hin); go_simp <;> with_reducible rfl
        try simp only [Act.put, List.setIfInBounds_toArray, List.set_cons_zero, List.set_cons_succ]
        refine wpS_one 4 rfl (by kernel_rfl) (by rfl) (fun K hK => ?_)
        go_simp
        refine (refKey_any r C C' p f p' f' _).mono ?_
        rintro e x1 ⟨rfl, hb1⟩
        simp only []
        refine hK.out _ _ (Ext w0) (fun _ h => h) (hSw.trans hb1) (fun hSw => ?_)
        clear hK K
        try simp only [Act.put, List.setIfInBounds_toArray, List.set_cons_zero, List.set_cons_succ]
        refine wpS_take 6 (v := ?_) hSw rfl (by kernel_rfl) (by kernel_rfl) (by kernel_rfl) (by rfl) (fun w' hin => ?_) ?_
        rotate_left
        · (try simp only [] at hin); go_simp <;> with_reducible rfl
        try simp only [Act.put, List.setIfInBounds_toArray, List.set_cons_zero, List.set_cons_succ]
        refine wpS_done (by kernel_rfl) ?_
        have GX := Lib.hid ((Ext.refl wr).drew.trans hb1)
        have HXX := Lib.hid (HX.out.trans GX.out)
        have HN2 := Lib.hid (find_none_snoc HLK.out HN.out (decide_eq_false HQ.out))
        clear d0 d1 d2 d3 d4 d5 d6 u0 u1 hSw hb1
        go_wp2_with fail
        go_roundw
        case rel => exact ⟨k + 1, by omega, by go_num, HN2, HXX⟩
        case measure => simp [intOf]; omega
    · have hT : l.take k = l := List.take_of_length_le (by have := HA.out.len; omega)
      have HG : Hid (getT l y = none) := Lib.hid (by have h9 := HN.out; rwa [hT] at h9)
      have i2 : ¬ (k : Int) < (n : Int) := by omega
      obtain ⟨rr0, rr1⟩ := blk_rules RR.out
      clear hT
      go_wp2_with fail
      clear rr0 rr1
      generalize hV : ((((((wr.setCell { block := w.heap.size + 1, off := 0 } (Value.int IntKind.i64 0)).setCell { block := w.heap.size + 1, off := 1 } (Value.string ⟨#[]⟩)).setCell { block := w.heap.size + 1, off := 2 } (Value.int IntKind.i64 0)).setCell { block := w.heap.size + 1, off := 3 } (Value.int IntKind.i64 0)).setCell { block := w.heap.size + 1, off := 4 } (Value.string ⟨#[]⟩)).setCell { block := w.heap.size + 1, off := 5 } (Value.slice none 0 0)).setCell { block := w.heap.size + 1, off := 6 } (Value.slice none 0 0) = V
      obtain ⟨bV, xV⟩ := setE7 RR.out _ _ _ _ _ _ _ hV
      clear hV
      obtain ⟨z0, -⟩ := blk_rules bV
      exact bodyPost_ret (v := .tuple #[.agg #[.int .i64 0, .string ⟨#[]⟩, .int .i64 0, .int .i64 0, .string ⟨#[]⟩, .slice none 0 0, .slice none 0 0], .bool false]) (by simp [results, Tryz.results34, go_sem, z0]) rfl
        (show GivesO w (getT l y) _ V from by rw [HG.out]; exact ⟨rs0, none, 0, 0, none, 0, 0, rfl, rfl, tab0_V _ _, xV w HE.out (by omega)⟩)
end Go.Proofs.YtfdjbnofcniodaaGreatDoor
