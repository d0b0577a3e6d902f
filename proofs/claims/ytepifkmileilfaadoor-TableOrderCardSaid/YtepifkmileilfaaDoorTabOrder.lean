/- The law TableOrder of layer 5. -/
import Derived.Test.YtepifkmileilfaaDoorTabLaw
namespace Go.Proofs.YtepifkmileilfaaDoor
set_option linter.unusedVariables false
open Go.RowKit
structure OrdT (t : List Rs) (i N : Nat) : Prop where
  len : t.length ≤ i
  srt : Srt t
  each : ∀ x ∈ t, saneR x = 0
  low : ∀ x ∈ t, x.kind = 0 → x.port ≤ (N : Int)
  apart : ∀ x ∈ t, ∀ y ∈ t, x.kind = 0 → y.kind = 0 → x.port = y.port → x = y
  few : N ≤ i
theorem sameR_self (r : Rs) : sameR r r = true := (same_iff r r).2 rfl
theorem OrdT.nil : OrdT [] 0 0 := ⟨by simp, List.Pairwise.nil, by simp, by simp, by simp, Nat.le_refl _⟩
theorem OrdT.skip {t : List Rs} {i N : Nat} (h : OrdT t i N) : OrdT t (i + 1) N := ⟨Nat.le_succ_of_le h.len, h.srt, h.each, h.low, h.apart, Nat.le_succ_of_le h.few⟩
theorem withT_len {t : List Rs} (h : Srt t) (r : Rs) : (withT t r).length ≤ t.length + 1 := by
  rw [len_withT h]; split <;> omega
theorem OrdT.put {t : List Rs} {i N : Nat} (h : OrdT t i N) {r : Rs} (hs : saneR r = 0) (hk : r.kind ≠ 0) : OrdT (withT t r) (i + 1) N := by
  refine ⟨by have := withT_len h.srt r; have := h.len; omega, srt_withT h.srt r, fun x hx => ?_, fun x hx hx0 => ?_, fun x hx y hy hx0 hy0 he => ?_, Nat.le_succ_of_le h.few⟩
  · rcases mem_withT.1 hx with rfl | ⟨h1, -⟩
    · exact hs
    · exact h.each x h1
  · rcases mem_withT.1 hx with rfl | ⟨h1, -⟩
    · exact absurd hx0 hk
    · exact h.low x h1 hx0
  · rcases mem_withT.1 hx with rfl | ⟨h1, -⟩
    · exact absurd hx0 hk
    rcases mem_withT.1 hy with rfl | ⟨h2, -⟩
    · exact absurd hy0 hk
    exact h.apart x h1 y h2 hx0 hy0 he
theorem OrdT.put0 {t : List Rs} {i N : Nat} (h : OrdT t i N) {r : Rs} (hs : saneR r = 0) (hp : r.port = (N : Int) + 1) : OrdT (withT t r) (i + 1) (N + 1) := by
  refine ⟨by have := withT_len h.srt r; have := h.len; omega, srt_withT h.srt r, fun x hx => ?_, fun x hx hx0 => ?_, fun x hx y hy hx0 hy0 he => ?_, Nat.succ_le_succ h.few⟩
  · rcases mem_withT.1 hx with rfl | ⟨h1, -⟩
    · exact hs
    · exact h.each x h1
  · rcases mem_withT.1 hx with rfl | ⟨h1, -⟩
    · omega
    · have := h.low x h1 hx0; omega
  · rcases mem_withT.1 hx with rfl | ⟨h1, -⟩
    · rcases mem_withT.1 hy with rfl | ⟨h2, -⟩
      · rfl
      · have := h.low y h2 hy0; omega
    rcases mem_withT.1 hy with rfl | ⟨h2, -⟩
    · have := h.low x h1 hx0; omega
    exact h.apart x h1 y h2 hx0 hy0 he
theorem OrdT.sane {t : List Rs} {i N : Nat} (h : OrdT t i N) (hi : i ≤ 64) : saneT t = 0 := by
  refine (saneT_iff t).2 ⟨Nat.le_trans h.len hi, h.each, h.srt, ?_⟩
  unfold List.Nodup
  rw [List.pairwise_map]
  refine List.Pairwise.imp_of_mem (R := (· ≠ ·)) (fun {a b} ha hb hne he => ?_) (List.Pairwise.filter _ h.srt.nodup)
  obtain ⟨ha1, ha2⟩ := List.mem_filter.1 ha
  obtain ⟨hb1, hb2⟩ := List.mem_filter.1 hb
  exact hne (h.apart a ha1 b hb1 (by simpa using ha2) (by simpa using hb2) he)
theorem sane_port {r : Rs} (h : saneR r = 0) (h0 : r.kind = 0) {p : Int} (hp : 0 ≤ p) (hp' : p ≤ 65535) : saneR { r with port := p } = 0 := by
  obtain ⟨h1, h2, h3, h4, h5, h6⟩ := (sane_iff r).1 h
  refine (sane_iff _).2 ⟨h1, h2, ?_, ?_, h5, h6⟩
  · have : inB p 65535 = true := by simp [inB]; omega
    simp only [smallR, this, Bool.and_true, Bool.and_eq_true] at h3 ⊢
    simp_all
  · simp only [shapedR, noPort, noTo, noRules, noHosts, h0, Bool.and_eq_true] at h4 ⊢
    simp_all
set_option maxRecDepth 100000 in
set_option maxHeartbeats 8000000 in
theorem tableOrder_any (A : Option Addr) (n c : Nat) (a : List Rs) (w : World) (hsa : SlW A n c) (hA : ResL All w A n a) :
    Calls Tryd.prog 11 #[.slice A n c] w fun e w' => e = .returned (.bool true) ∧ Ext w w' := by
  have Ha := Lib.hid hA
  have HMa : Hid (n ≤ maxLen) := Lib.hid (Nat.le_trans hsa.1 hsa.2.1)
  have hla : a.length = n := hA.len
  have HSLa := Lib.hid hsa
  clear hA hsa
  go_enter Tryd.func11, Tryd.ntmps11
  go_wp2_with fail
  refine (awake05 _).mono ?_
  rintro e w1 ⟨rfl, hb1⟩
  have E1 := Lib.hid hb1
  clear hb1
  go_wp2_with fail
  refine (few04_any All a A n c _ HMa.out (ResL.keep Ha.out E1.out.keep)).mono ?_
  rintro e w2 ⟨v, rfl, hv, hb2⟩
  have E2 := Lib.hid (E1.out.trans hb2)
  clear hb2
  cases v with
  | false =>
    go_wp2_with fail
    go_ret
    exact ⟨rfl, E2.out⟩
  | true =>
  have hfa : n ≤ 80 := hv rfl
  clear hv

  by_cases h30 : 30 < n
  · have i0 : (30 : Int) < (n : Int) := by omega
    go_wp2_with fail
    go_ret
    exact ⟨rfl, E2.out⟩
  have i0 : ¬ (30 : Int) < (n : Int) := by omega
  go_wp2_with fail
  go_loopw [4, 5, 6] (fun v s i wr => ∃ (k N : Nat) (t : List Rs) (A' : Option Addr) (p' c' : Nat), k ≤ n ∧ v = .slice A' p' c' ∧ s = .int .i64 N ∧ i = .int .i64 k ∧ Hid (SlW A' p' c') ∧ Hid (ResL All wr A' p' t) ∧ Hid (OrdT t k N) ∧ Hid (Ext w2 wr)) (fun _ _ i _ => n - (intOf i).toNat)
  case atStart => exact ⟨0, 0, [], none, 0, 0, Nat.zero_le _, rfl, by go_num, by go_num, Lib.hid SlW.nil_, Lib.hid ArrQ.nil_, Lib.hid OrdT.nil, Lib.hid (Ext.refl _)⟩
  case round =>
    obtain ⟨k, N, t, A', p', c', hk, rfl, rfl, rfl, hSL, hAL, HO, HE⟩ := hrel
    by_cases hlt : k < n
    · obtain ⟨bb, off, r, B1, m1, d1, B1', m1', d1', rfl, hbl0, -, hx, hv, e0, e1, e2, e3, e4, e5, e6⟩ := ResL.at_ Ha.out hlt
      have HV := Lib.hid hv
      have hblr : bb < wr.heap.size := Nat.lt_of_lt_of_le hbl0 (E2.out.trans HE.out).size
      have i1 : (0 : Int) ≤ (k : Int) := by omega
      have i2 : (k : Int) < (n : Int) := by omega
      have t0 : wr.cell? ⟨bb, off + k * 7, none⟩ = some (.int .i64 r.kind) := ((E2.out.trans HE.out).cell hbl0).trans e0
      have t1 : wr.cell? ⟨bb, off + k * 7 + 1, none⟩ = some (.string r.name) := ((E2.out.trans HE.out).cell hbl0).trans e1
      have t2 : wr.cell? ⟨bb, off + k * 7 + 2, none⟩ = some (.int .i64 r.ver) := ((E2.out.trans HE.out).cell hbl0).trans e2
      have t3 : wr.cell? ⟨bb, off + k * 7 + 3, none⟩ = some (.int .i64 r.port) := ((E2.out.trans HE.out).cell hbl0).trans e3
      have t4 : wr.cell? ⟨bb, off + k * 7 + 4, none⟩ = some (.string r.to) := ((E2.out.trans HE.out).cell hbl0).trans e4
      have t5 : wr.cell? ⟨bb, off + k * 7 + 5, none⟩ = some (.slice B1 m1 d1) := ((E2.out.trans HE.out).cell hbl0).trans e5
      have t6 : wr.cell? ⟨bb, off + k * 7 + 6, none⟩ = some (.slice B1' m1' d1') := ((E2.out.trans HE.out).cell hbl0).trans e6
      clear hx hv e0 e1 e2 e3 e4 e5 e6
      go_wp2_with fail
      refine (resSane_any All r B1 B1' m1 d1 m1' d1' _ (HV.out.up (E2.out.trans HE.out))).mono ?_
      rintro e w7 ⟨rfl, hb7⟩
      have HE7 := Lib.hid (HE.out.trans hb7)
      have hAL7 := Lib.hid (ResL.keep hAL.out hb7.keep)
      have HV7 := Lib.hid (HV.out.up (E2.out.trans HE7.out))
      obtain ⟨Z, hZ⟩ : ∃ Z, Z = saneR r := ⟨_, rfl⟩
      rw [← hZ]
      have HZ := Lib.hid hZ
      have s0 : w7.cell? ⟨bb, off + k * 7, none⟩ = some (.int .i64 r.kind) := (hb7.cell hblr).trans t0
      have s1 : w7.cell? ⟨bb, off + k * 7 + 1, none⟩ = some (.string r.name) := (hb7.cell hblr).trans t1
      have s2 : w7.cell? ⟨bb, off + k * 7 + 2, none⟩ = some (.int .i64 r.ver) := (hb7.cell hblr).trans t2
      have s3 : w7.cell? ⟨bb, off + k * 7 + 3, none⟩ = some (.int .i64 r.port) := (hb7.cell hblr).trans t3
      have s4 : w7.cell? ⟨bb, off + k * 7 + 4, none⟩ = some (.string r.to) := (hb7.cell hblr).trans t4
      have s5 : w7.cell? ⟨bb, off + k * 7 + 5, none⟩ = some (.slice B1 m1 d1) := (hb7.cell hblr).trans t5
      have s6 : w7.cell? ⟨bb, off + k * 7 + 6, none⟩ = some (.slice B1' m1' d1') := (hb7.cell hblr).trans t6
      clear hZ t0 t1 t2 t3 t4 t5 t6 hb7
      by_cases hz : Z = 0
      rotate_left
      · have hz1 : (Z != 0) = true := by simpa using hz
        go_wp2_with fail
        go_roundw
        case rel => exact ⟨k + 1, N, t, A', p', c', by omega, rfl, by go_num, by go_num, hSL, hAL7, Lib.hid HO.out.skip, HE7⟩
        case measure => simp [intOf]; omega
      subst hz
      have HS := Lib.hid HZ.out.symm
      clear hAL
      by_cases h0 : r.kind = 0
      · have hz1 : (r.kind == 0) = true := by simpa using h0
        have hN : IntKind.i64.wrap ((N : Int) + 1) = ((N + 1 : Nat) : Int) := by rw [IntKind.wrap_i64]; have := HO.out.few; omega
        go_wp2_with fail
        obtain ⟨r', hr'⟩ : ∃ r' : Rs, r' = { r with port := (N : Int) + 1 } := ⟨_, rfl⟩
        have hVr : RsV All w7 r' B1 m1 d1 B1' m1' d1' := by subst hr'; exact ⟨HV7.out.nm, HV7.out.to, HV7.out.sl, HV7.out.sl', HV7.out.arr, HV7.out.arr'⟩
        have HSR : Hid (saneR r' = 0) := Lib.hid (by subst hr'; exact sane_port HS.out h0 (by omega) (by have := HO.out.few; omega))
        have HPR : Hid (r'.port = (N : Int) + 1) := Lib.hid (by subst hr'; rfl)
        have hcs : (#[.int .i64 0, .string r.name, .int .i64 r.ver, .int .i64 ((N : Int) + 1), .string r.to, .slice B1 m1 d1, .slice B1' m1' d1'] : Array Value) = #[.int .i64 r'.kind, .string r'.name, .int .i64 r'.ver, .int .i64 r'.port, .string r'.to, .slice B1 m1 d1, .slice B1' m1' d1'] := by subst hr'; simp [h0]
        rw [hcs]
        clear hcs hr'
        have KV := Lib.hid (heap_alloc_new w7 (.cells #[.int .i64 r'.kind, .string r'.name, .int .i64 r'.ver, .int .i64 r'.port, .string r'.to, .slice B1 m1 d1, .slice B1' m1' d1'] 36))
        have HEV := Lib.hid (Ext.new w7 (.cells #[.int .i64 r'.kind, .string r'.name, .int .i64 r'.ver, .int .i64 r'.port, .string r'.to, .slice B1 m1 d1, .slice B1' m1' d1'] 36))
        have HVV := Lib.hid (hVr.up HEV.out)
        have HEW := Lib.hid (HE7.out.trans HEV.out)
        clear hVr
        generalize w7.alloc (.cells #[.int .i64 r'.kind, .string r'.name, .int .i64 r'.ver, .int .i64 r'.port, .string r'.to, .slice B1 m1 d1, .slice B1' m1' d1'] 36) = V at KV HEV HVV HEW ⊢
        refine (with_any A' p' c' t r' B1 m1 d1 B1' m1' d1' _ (by have := HO.out.len; have := hAL7.out.len; omega) (ResL.keep hAL7.out HEV.out.keep) HVV.out).mono ?_
        rintro e w9 ⟨Aw, pw, cw, rfl, hsw, hAw, hb9⟩
        have G9 := Lib.hid hb9
        have HAw := Lib.hid hAw
        clear hAw
        have HMw := Lib.hid hsw
        have HV9 := Lib.hid (HVV.out.up hb9)
        have qb9 := (blk_rules ((hb9.block (Array.getElem?_eq_some_iff.1 KV.out).1).trans KV.out)).1
        have y0 : w9.cell? ⟨w7.heap.size, 0, none⟩ = some (.int .i64 r'.kind) := qb9 0
        have y1 : w9.cell? ⟨w7.heap.size, 1, none⟩ = some (.string r'.name) := qb9 1
        have y2 : w9.cell? ⟨w7.heap.size, 2, none⟩ = some (.int .i64 r'.ver) := qb9 2
        have y3 : w9.cell? ⟨w7.heap.size, 3, none⟩ = some (.int .i64 r'.port) := qb9 3
        have y4 : w9.cell? ⟨w7.heap.size, 4, none⟩ = some (.string r'.to) := qb9 4
        have y5 : w9.cell? ⟨w7.heap.size, 5, none⟩ = some (.slice B1 m1 d1) := qb9 5
        have y6 : w9.cell? ⟨w7.heap.size, 6, none⟩ = some (.slice B1' m1' d1') := qb9 6
        clear hb9 hsw qb9
        go_wp2_with fail
        refine (key_any r' B1 m1 d1 B1' m1' d1' _).mono ?_
        rintro e w10 ⟨rfl, hb10⟩
        have G10 := Lib.hid (G9.out.trans hb10)
        have HAw10 := Lib.hid (ResL.keep HAw.out hb10.keep)
        have HV10 := Lib.hid (HV9.out.up hb10)
        clear hb10 y0 y1 y2 y3 y4 y5 y6
        go_wp2_with fail
        have hgt : getT (withT t r') r'.key = some r' := by rw [get_withT HO.out.srt, if_pos rfl]
        refine (get_any r'.key Aw pw cw (withT t r') _ (by have h8 := withT_len HO.out.srt r'; have h9 := HAw.out.len; have := HO.out.len; omega) HAw10.out).mono ?_
        rintro e w11 ⟨x, C, p, f, C', p'', f', rfl, hr', hv', hb11⟩
        rw [hgt] at hr' ⊢
        obtain rfl : r' = x := hr'
        have HVx := Lib.hid hv'
        have G11 := Lib.hid (G10.out.trans hb11)
        have HAw11 := Lib.hid (ResL.keep HAw10.out hb11.keep)
        have HV11 := Lib.hid (HV10.out.up hb11)
        have qb11 := (blk_rules ((G11.out.block (Array.getElem?_eq_some_iff.1 KV.out).1).trans KV.out)).1
        have hq11 : w7.heap.size < w11.heap.size := Nat.lt_of_lt_of_le (Array.getElem?_eq_some_iff.1 KV.out).1 G11.out.size
        have y0 : w11.cell? ⟨w7.heap.size, 0, none⟩ = some (.int .i64 r'.kind) := qb11 0
        have y1 : w11.cell? ⟨w7.heap.size, 1, none⟩ = some (.string r'.name) := qb11 1
        have y2 : w11.cell? ⟨w7.heap.size, 2, none⟩ = some (.int .i64 r'.ver) := qb11 2
        have y3 : w11.cell? ⟨w7.heap.size, 3, none⟩ = some (.int .i64 r'.port) := qb11 3
        have y4 : w11.cell? ⟨w7.heap.size, 4, none⟩ = some (.string r'.to) := qb11 4
        have y5 : w11.cell? ⟨w7.heap.size, 5, none⟩ = some (.slice B1 m1 d1) := qb11 5
        have y6 : w11.cell? ⟨w7.heap.size, 6, none⟩ = some (.slice B1' m1' d1') := qb11 6
        clear hb11 hv' hgt qb11
        unfold rsVal
        go_wp2_with fail
        refine (same_any All All r' r' C p f C' p'' f' B1 m1 d1 B1' m1' d1' _ (HVx.out.up (Ext.new _ _)) (HV11.out.up (Ext.new _ _))).mono ?_
        rintro e w12 ⟨rfl, hb12⟩
        rw [sameR_self]
        have HAw12 := Lib.hid (ResL.keep HAw11.out ((Ext.new _ _).trans hb12).keep)
        have HE12 := Lib.hid (HEW.out.trans (G11.out.trans ((Ext.new _ _).trans hb12)))
        clear hb12 y0 y1 y2 y3 y4 y5 y6
        go_wp2_with fail
        go_roundw
        case rel => exact ⟨k + 1, N + 1, withT t r', Aw, pw, cw, by omega, rfl, by go_num, by go_num, HMw, HAw12, Lib.hid (HO.out.put0 HSR.out HPR.out), HE12⟩
        case measure => simp [intOf]; omega
      · have hz1 : (r.kind == 0) = false := by simpa using h0
        go_wp2_with fail
        have hVr := HV7.out
        have KV := Lib.hid (heap_alloc_new w7 (.cells #[.int .i64 r.kind, .string r.name, .int .i64 r.ver, .int .i64 r.port, .string r.to, .slice B1 m1 d1, .slice B1' m1' d1'] 36))
        have HEV := Lib.hid (Ext.new w7 (.cells #[.int .i64 r.kind, .string r.name, .int .i64 r.ver, .int .i64 r.port, .string r.to, .slice B1 m1 d1, .slice B1' m1' d1'] 36))
        have HVV := Lib.hid (hVr.up HEV.out)
        have HEW := Lib.hid (HE7.out.trans HEV.out)
        clear hVr
        generalize w7.alloc (.cells #[.int .i64 r.kind, .string r.name, .int .i64 r.ver, .int .i64 r.port, .string r.to, .slice B1 m1 d1, .slice B1' m1' d1'] 36) = V at KV HEV HVV HEW ⊢
        refine (with_any A' p' c' t r B1 m1 d1 B1' m1' d1' _ (by have := HO.out.len; have := hAL7.out.len; omega) (ResL.keep hAL7.out HEV.out.keep) HVV.out).mono ?_
        rintro e w9 ⟨Aw, pw, cw, rfl, hsw, hAw, hb9⟩
        have G9 := Lib.hid hb9
        have HAw := Lib.hid hAw
        clear hAw
        have HMw := Lib.hid hsw
        have HV9 := Lib.hid (HVV.out.up hb9)
        have qb9 := (blk_rules ((hb9.block (Array.getElem?_eq_some_iff.1 KV.out).1).trans KV.out)).1
        have y0 : w9.cell? ⟨w7.heap.size, 0, none⟩ = some (.int .i64 r.kind) := qb9 0
        have y1 : w9.cell? ⟨w7.heap.size, 1, none⟩ = some (.string r.name) := qb9 1
        have y2 : w9.cell? ⟨w7.heap.size, 2, none⟩ = some (.int .i64 r.ver) := qb9 2
        have y3 : w9.cell? ⟨w7.heap.size, 3, none⟩ = some (.int .i64 r.port) := qb9 3
        have y4 : w9.cell? ⟨w7.heap.size, 4, none⟩ = some (.string r.to) := qb9 4
        have y5 : w9.cell? ⟨w7.heap.size, 5, none⟩ = some (.slice B1 m1 d1) := qb9 5
        have y6 : w9.cell? ⟨w7.heap.size, 6, none⟩ = some (.slice B1' m1' d1') := qb9 6
        clear hb9 hsw qb9
        go_wp2_with fail
        refine (key_any r B1 m1 d1 B1' m1' d1' _).mono ?_
        rintro e w10 ⟨rfl, hb10⟩
        have G10 := Lib.hid (G9.out.trans hb10)
        have HAw10 := Lib.hid (ResL.keep HAw.out hb10.keep)
        have HV10 := Lib.hid (HV9.out.up hb10)
        clear hb10 y0 y1 y2 y3 y4 y5 y6
        go_wp2_with fail
        have hgt : getT (withT t r) r.key = some r := by rw [get_withT HO.out.srt, if_pos rfl]
        refine (get_any r.key Aw pw cw (withT t r) _ (by have h8 := withT_len HO.out.srt r; have h9 := HAw.out.len; have := HO.out.len; omega) HAw10.out).mono ?_
        rintro e w11 ⟨x, C, p, f, C', p'', f', rfl, hr', hv', hb11⟩
        rw [hgt] at hr' ⊢
        obtain rfl : r = x := hr'
        have HVx := Lib.hid hv'
        have G11 := Lib.hid (G10.out.trans hb11)
        have HAw11 := Lib.hid (ResL.keep HAw10.out hb11.keep)
        have HV11 := Lib.hid (HV10.out.up hb11)
        have qb11 := (blk_rules ((G11.out.block (Array.getElem?_eq_some_iff.1 KV.out).1).trans KV.out)).1
        have hq11 : w7.heap.size < w11.heap.size := Nat.lt_of_lt_of_le (Array.getElem?_eq_some_iff.1 KV.out).1 G11.out.size
        have y0 : w11.cell? ⟨w7.heap.size, 0, none⟩ = some (.int .i64 r.kind) := qb11 0
        have y1 : w11.cell? ⟨w7.heap.size, 1, none⟩ = some (.string r.name) := qb11 1
        have y2 : w11.cell? ⟨w7.heap.size, 2, none⟩ = some (.int .i64 r.ver) := qb11 2
        have y3 : w11.cell? ⟨w7.heap.size, 3, none⟩ = some (.int .i64 r.port) := qb11 3
        have y4 : w11.cell? ⟨w7.heap.size, 4, none⟩ = some (.string r.to) := qb11 4
        have y5 : w11.cell? ⟨w7.heap.size, 5, none⟩ = some (.slice B1 m1 d1) := qb11 5
        have y6 : w11.cell? ⟨w7.heap.size, 6, none⟩ = some (.slice B1' m1' d1') := qb11 6
        clear hb11 hv' hgt qb11
        unfold rsVal
        go_wp2_with fail
        refine (same_any All All r r C p f C' p'' f' B1 m1 d1 B1' m1' d1' _ (HVx.out.up (Ext.new _ _)) (HV11.out.up (Ext.new _ _))).mono ?_
        rintro e w12 ⟨rfl, hb12⟩
        rw [sameR_self]
        have HAw12 := Lib.hid (ResL.keep HAw11.out ((Ext.new _ _).trans hb12).keep)
        have HE12 := Lib.hid (HEW.out.trans (G11.out.trans ((Ext.new _ _).trans hb12)))
        clear hb12 y0 y1 y2 y3 y4 y5 y6
        go_wp2_with fail
        go_roundw
        case rel => exact ⟨k + 1, N, withT t r, Aw, pw, cw, by omega, rfl, by go_num, by go_num, HMw, HAw12, Lib.hid (HO.out.put HS.out h0), HE12⟩
        case measure => simp [intOf]; omega
    · obtain rfl : k = n := by omega
      have hle : p' ≤ k := by have := HO.out.len; have := hAL.out.len; omega
      have hle1 : (p' : Int) ≤ (k : Int) := by omega
      have hmp : p' ≤ maxLen := Nat.le_trans hSL.out.1 hSL.out.2.1
      have hsn := HO.out.sane (by omega)
      have HSN := Lib.hid hsn
      clear hsn
      go_wp2_with fail
      refine (tabSane_any A' p' c' t _ hmp hAL.out).mono ?_
      rintro e w7 ⟨rfl, hb7⟩
      rw [HSN.out]
      have HE7 := Lib.hid ((E2.out.trans HE.out).trans hb7)
      clear hb7
      go_wp2_with fail
      go_ret
      exact ⟨rfl, HE7.out⟩
end Go.Proofs.YtepifkmileilfaaDoor
