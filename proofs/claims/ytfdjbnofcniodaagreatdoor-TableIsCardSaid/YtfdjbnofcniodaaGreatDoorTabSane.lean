/- What package table's Sane computes. -/
import Derived.Test.YtfdjbnofcniodaaGreatDoorTabPatch
import Derived.Test.YtfdjbnofcniodaaGreatDoorResAll
namespace Go.Proofs.YtfdjbnofcniodaaGreatDoor
set_option linter.unusedVariables false
open Go.RowKit Go.Maps

/-- numbers that are in a map of numbers -/
theorem keyedI : Keyed Tryz.prog 3 := int_keyed Tryz.underlying3
def wfI (x : Int) : Prop := -9223372036854775808 ≤ x ∧ x ≤ 9223372036854775807
theorem wfI_wf {x : Int} (h : wfI x) : (Lit.int .i64 x).wf = true := by
  have h1 : IntKind.i64.min = -9223372036854775808 := by decide
  have h2 : IntKind.i64.max = 9223372036854775807 := by decide
  show (decide (IntKind.i64.min ≤ x) && decide (x ≤ IntKind.i64.max)) = true
  rw [h1, h2, Bool.and_eq_true, decide_eq_true_eq, decide_eq_true_eq]
  exact h
def SetOf (w : World) (b n : Nat) (ps : List Int) : Prop := ∃ D : DataW Value, w.ownsMap Tryz.prog 3 mR b n D ∧ ∀ x, wfI x → D.atKey (.int .i64 x) (.held (.bool false)) = .held (.bool (ps.contains x))
theorem SetOf.made (w : World) : SetOf (w.alloc (.map #[] 0)) w.heap.size 0 [] := ⟨_, World.ownsMap_made w _ _ _, fun x _ => by rw [Maps.atKey_of_not_has rfl]; rfl⟩
theorem SetOf.blk {w w' : World} {b n : Nat} {ps : List Int} (h : SetOf w b n ps) (he : w'.heap[b]? = w.heap[b]?) : SetOf w' b n ps := by
  obtain ⟨D, ⟨es, cl, hb, r⟩, h2⟩ := h
  exact ⟨D, ⟨es, cl, he.trans hb, r⟩, h2⟩
theorem SetOf.lt {w : World} {b n : Nat} {ps : List Int} (h : SetOf w b n ps) : b < w.heap.size := by obtain ⟨D, h1, _⟩ := h; exact h1.lt
theorem SetOf.up {w w' : World} {b n : Nat} {ps : List Int} (h : SetOf w b n ps) (he : Ext w w') : SetOf w' b n ps := h.blk (he.block h.lt)
set_option maxRecDepth 100000 in
theorem SetOf.look {w : World} {b n : Nat} {ps : List Int} (h : SetOf w b n ps) {x : Int} (hx : wfI x) : (Instr.lookup 139 (.map (some b)) (.int .i64 x) false).run Tryz.prog w = .ok (.bool (ps.contains x)) w := by
  obtain ⟨D, h1, h2⟩ := h
  obtain ⟨v, ps', hr, hv⟩ := h1.lookup keyedI Tryz.underlying139 (show (zeroValue 4).run Tryz.prog w = .ok (.bool false) w from rfl) (show mR (.bool false) = some (.held (.bool false), []) from rfl) (keyOf_int_mk Tryz.underlying3 (wfI_wf hx))
  rw [h2 x hx] at hv
  unfold mR at hv
  injection hv with hv
  injection hv with hv _
  injection hv with hv
  rw [hr, hv]
set_option maxRecDepth 100000 in
theorem SetOf.store {w : World} {b n : Nat} {ps : List Int} (h : SetOf w b n ps) (hn : n < maxLen) {x : Int} (hx : wfI x) :
    ∃ w', (Instr.mapUpdate 139 (.map (some b)) (.int .i64 x) (.bool true)).run Tryz.prog w = .ok () w' ∧ SetOf w' b (n + 1) (ps ++ [x]) ∧ w.mapTurned w' b := by
  obtain ⟨D, h1, h2⟩ := h
  obtain ⟨w', hr, ho, hm⟩ := h1.store keyedI Tryz.underlying139 hn (keyOf_int_mk Tryz.underlying3 (wfI_wf hx)) (show mR (.bool true) = some (.held (.bool true), []) from rfl)
  refine ⟨w', hr, ⟨_, ho, fun y hy => ?_⟩, hm⟩
  by_cases e : y = x
  · subst e
    rw [Maps.atKey_put_same h1.isMap (keyedI.key (keyOf_int_mk Tryz.underlying3 (wfI_wf hx)))]
    simp
  · rw [Maps.atKey_put_other (fun h => e (by injection h)), h2 y hy]
    congr 2
    simp [e]
theorem SameCells.ext {W W' : World} (h : Ext W W') : SameCells W W' := ⟨h.size, fun k cs t m hk => (h.block (Array.getElem?_eq_some_iff.1 hk).1).trans hk⟩
theorem SameCells.trans {A B C : World} (h : SameCells A B) (k : SameCells B C) : SameCells A C := ⟨Nat.le_trans h.size k.size, fun i cs t m hi => k.same _ _ _ _ (h.same _ _ _ _ hi)⟩
theorem SameCells.turned {W W' : World} {b : Nat} (h : W.mapTurned W' b) : SameCells W W' := by
  have hg := h.grown
  refine ⟨hg.size, fun k cs t m hk => ?_⟩
  refine (hg.block k (Array.getElem?_eq_some_iff.1 hk).1 ?_).trans hk
  intro e
  injection e with e
  subst e
  obtain ⟨es, c, _, _, hb, _⟩ := h
  rw [hb] at hk
  injection hk with hk
  cases hk
theorem Ext.turned {a W W' : World} {b : Nat} (h : Ext a W) (ht : W.mapTurned W' b) (hb : a.heap.size ≤ b) : Ext a W' := Below.grown h ht.grown h.size fun _ e => (by injection e with e; omega)
/-! ### plain -/
theorem ord_step {l : List Rs} {k : Nat} {x y : Rs} (hx : l[k]? = some x) (hy : l[k + 1]? = some y) : ordB (l.drop k) = (decide (cmpK x.key y.key < 0) && ordB (l.drop (k + 1))) := by
  rw [drop_of hx, drop_of hy]; rfl
theorem ord_end {l : List Rs} {k : Nat} (h : l.length ≤ k + 1) : ordB (l.drop k) = true := by
  have h1 : (l.drop k).length ≤ 1 := by rw [List.length_drop]; omega
  match l.drop k, h1 with
  | [], _ => rfl
  | [x], _ => rfl
theorem go_step {ps : List Int} {q : Nat} {x : Int} (hx : ps[q]? = some x) : goFrom (fun pre x => !pre.contains x) (ps.take q) (ps.drop q) = (!(ps.take q).contains x && goFrom (fun pre x => !pre.contains x) (ps.take (q + 1)) (ps.drop (q + 1))) := by
  rw [drop_of hx, take_snoc_of hx]; rfl
theorem port_ok {r : Rs} (h : saneR r = 0) : wfI r.port := by
  have hs := ((sane_iff r).1 h).small
  unfold smallR inB at hs
  simp only [Bool.and_eq_true, decide_eq_true_eq] at hs
  unfold wfI
  omega

set_option maxRecDepth 100000 in
set_option maxHeartbeats 8000000 in
theorem tabSane_any (A : Option Addr) (n c : Nat) (l : List Rs) (w : World) (hm : n ≤ maxLen) (hA : ResL All w A n l) :
    Calls Tryz.prog 37 #[.slice A n c] w fun e w' => e = .returned (.int .i64 (saneT l)) ∧ Ext w w' := by
  have hmm := @run_makeMap Tryz.prog
  have HA := Lib.hid hA
  have hln : l.length = n := hA.len
  have hm' : n ≤ 9223372036854775807 := by unfold maxLen at hm; exact hm
  clear hA hm
  by_cases hn : 64 < n
  · have HR : Hid (saneT l = 3) := Lib.hid (by unfold saneT; rw [if_pos (by omega)])
    go_enter Tryz.func37, Tryz.ntmps37
    go_wp2_with fail
    go_ret
    exact ⟨ret_int HR.out.symm, Ext.refl _⟩
  have HS0 : Hid (saneT l = if firstE saneR l ≠ 0 then firstE saneR l else if ordB l = false then 2 else if portsOk l = false then 13 else 0) := Lib.hid (by unfold saneT; rw [if_neg (by omega)])
  go_enter Tryz.func37, Tryz.ntmps37
  go_wp2_with fail
  go_loopw [15] (fun i wr => ∃ k : Nat, k ≤ n ∧ i = .int .i64 k ∧ Hid (firstE saneR l = firstE saneR (l.drop k)) ∧ Hid (Ext w wr)) (fun i _ => n - (intOf i).toNat)
  case atStart => exact ⟨0, Nat.zero_le _, rfl, Lib.hid rfl, Lib.hid (Ext.refl _)⟩
  case round =>
    obtain ⟨k, hk, rfl, HS, HX⟩ := hrel
    by_cases hlt : k < n
    · obtain ⟨b, o, r, B, m, d, B', m', d', rfl, hbB, -, hlk, hv, hc0, hc1, hc2, hc3, hc4, hc5, hc6⟩ := ResL.at_ HA.out hlt
      have d0 : wr.cell? ⟨b, o + k * 7, none⟩ = some (.int .i64 r.kind) := (HX.out.cell hbB).trans hc0
      have d1 : wr.cell? ⟨b, o + k * 7 + 1, none⟩ = some (.string r.name) := (HX.out.cell hbB).trans hc1
      have d2 : wr.cell? ⟨b, o + k * 7 + 2, none⟩ = some (.int .i64 r.ver) := (HX.out.cell hbB).trans hc2
      have d3 : wr.cell? ⟨b, o + k * 7 + 3, none⟩ = some (.int .i64 r.port) := (HX.out.cell hbB).trans hc3
      have d4 : wr.cell? ⟨b, o + k * 7 + 4, none⟩ = some (.string r.to) := (HX.out.cell hbB).trans hc4
      have d5 : wr.cell? ⟨b, o + k * 7 + 5, none⟩ = some (.slice B m d) := (HX.out.cell hbB).trans hc5
      have d6 : wr.cell? ⟨b, o + k * 7 + 6, none⟩ = some (.slice B' m' d') := (HX.out.cell hbB).trans hc6
      have HL := Lib.hid hlk
      have HVr := Lib.hid hv
      have hbw := Nat.lt_of_lt_of_le hbB HX.out.size
      clear hlk hv hc0 hc1 hc2 hc3 hc4 hc5 hc6
      go_wp2_with fail
      refine (resSane_any All r B B' m d m' d' _ (HVr.out.up (HX.out.alloc _))).mono ?_
      rintro e w1 ⟨rfl, hb1⟩
      have HX1 := Lib.hid ((HX.out.alloc _).trans hb1)
      clear hb1 d0 d1 d2 d3 d4 d5 d6
      obtain ⟨x, hx⟩ : ∃ x, x = saneR r := ⟨_, rfl⟩
      rw [← hx]
      have HSt : Hid (firstE saneR (l.drop k) = if x ≠ 0 then x else firstE saneR (l.drop (k + 1))) := Lib.hid (by rw [hx, drop_of HL.out]; rfl)
      clear hx
      by_cases h0 : x = 0
      · subst h0
        have HS2 : Hid (firstE saneR l = firstE saneR (l.drop (k + 1))) := Lib.hid (by rw [HS.out, HSt.out, if_neg (by simp)])
        go_wp2_with fail
        go_roundw
        case rel => exact ⟨k + 1, by omega, by go_num, HS2, HX1⟩
        case measure => simp [intOf]; omega
      · have hq : (x != 0) = true := by simpa using h0
        have HR : Hid (saneT l = x) := Lib.hid (by rw [HS0.out, HS.out, HSt.out, if_pos h0, if_pos h0])
        go_wp2_with fail
        go_ret
        exact ⟨ret_int HR.out.symm, HX1.out⟩
    · have hz : firstE saneR l = 0 := by rw [HS.out, List.drop_eq_nil_of_le (by omega)]; rfl
      have HZ : Hid (∀ x ∈ l, saneR x = 0) := Lib.hid ((firstE_zero _ _).1 hz)
      have HS1 : Hid (saneT l = if ordB l = false then 2 else if portsOk l = false then 13 else 0) := Lib.hid (by rw [HS0.out, hz, if_neg (by simp)])
      clear hz HS HS0
      go_wp2_with fail
      go_loopw [27, 6] (fun i _ wx => ∃ k : Nat, k ≤ n ∧ i = .int .i64 k ∧ Hid (ordB l = ordB (l.drop (k - 1))) ∧ Hid (Ext w wx)) (fun i _ _ => n - (intOf i).toNat)
      case atStart => exact ⟨0, Nat.zero_le _, by go_num, Lib.hid rfl, HX⟩
      case round =>
        clear HX
        obtain ⟨k, hk, rfl, HS, HX⟩ := hrel
        by_cases hlt : k < n
        · rcases Nat.eq_zero_or_pos k with rfl | hpos
          · have x0 : Ext wr.drew wr.drew := Ext.refl _
            go_wp2_with fail
            have hSw : Ext wr.drew wr.drew := x0
            refine wpS_begin (Ext wr.drew) (by kernel_rfl) ?_
            refine wpS_take 0 (v := ?_) hSw rfl (by kernel_rfl) (by kernel_rfl) (by kernel_rfl) (by rfl) (fun w' hin => ?_) ?_
            rotate_left
            · (try simp only [] at hin); go_simp <;> with_reducible rfl
            try simp only [Act.put, List.setIfInBounds_toArray, List.set_cons_zero, List.set_cons_succ]
            refine wpS_take 1 (v := ?_) hSw rfl (by kernel_rfl) (by kernel_rfl) (by kernel_rfl) (by rfl) (fun w' hin => ?_) ?_
            rotate_left
            · (try simp only [] at hin); go_simp <;> with_reducible rfl
            try simp only [Act.put, List.setIfInBounds_toArray, List.set_cons_zero, List.set_cons_succ]
            refine wpS_take 2 (v := ?_) hSw rfl (by kernel_rfl) (by kernel_rfl) (by kernel_rfl) (by rfl) (fun w' hin => ?_) ?_
            rotate_left
            · (try simp only [] at hin); go_simp <;> with_reducible rfl
            try simp only [Act.put, List.setIfInBounds_toArray, List.set_cons_zero, List.set_cons_succ]
            refine wpS_skip 3 hSw rfl (by kernel_rfl) (by kernel_rfl) (by kernel_rfl) (by rfl) ?_
            try simp only [Act.put, List.setIfInBounds_toArray, List.set_cons_zero, List.set_cons_succ]
            refine wpS_skip 4 hSw rfl (by kernel_rfl) (by kernel_rfl) (by kernel_rfl) (by rfl) ?_
            try simp only [Act.put, List.setIfInBounds_toArray, List.set_cons_zero, List.set_cons_succ]
            refine wpS_skip 5 hSw rfl (by kernel_rfl) (by kernel_rfl) (by kernel_rfl) (by rfl) ?_
            try simp only [Act.put, List.setIfInBounds_toArray, List.set_cons_zero, List.set_cons_succ]
            refine wpS_skip 6 hSw rfl (by kernel_rfl) (by kernel_rfl) (by kernel_rfl) (by rfl) ?_
            try simp only [Act.put, List.setIfInBounds_toArray, List.set_cons_zero, List.set_cons_succ]
            refine wpS_skip 7 hSw rfl (by kernel_rfl) (by kernel_rfl) (by kernel_rfl) (by rfl) ?_
            try simp only [Act.put, List.setIfInBounds_toArray, List.set_cons_zero, List.set_cons_succ]
            refine wpS_skip 8 hSw rfl (by kernel_rfl) (by kernel_rfl) (by kernel_rfl) (by rfl) ?_
            try simp only [Act.put, List.setIfInBounds_toArray, List.set_cons_zero, List.set_cons_succ]
            refine wpS_skip 9 hSw rfl (by kernel_rfl) (by kernel_rfl) (by kernel_rfl) (by rfl) ?_
            try simp only [Act.put, List.setIfInBounds_toArray, List.set_cons_zero, List.set_cons_succ]
            refine wpS_skip 10 hSw rfl (by kernel_rfl) (by kernel_rfl) (by kernel_rfl) (by rfl) ?_
            try simp only [Act.put, List.setIfInBounds_toArray, List.set_cons_zero, List.set_cons_succ]
            refine wpS_skip 11 hSw rfl (by kernel_rfl) (by kernel_rfl) (by kernel_rfl) (by rfl) ?_
            try simp only [Act.put, List.setIfInBounds_toArray, List.set_cons_zero, List.set_cons_succ]
            refine wpS_skip 12 hSw rfl (by kernel_rfl) (by kernel_rfl) (by kernel_rfl) (by rfl) ?_
            try simp only [Act.put, List.setIfInBounds_toArray, List.set_cons_zero, List.set_cons_succ]
            refine wpS_skip 13 hSw rfl (by kernel_rfl) (by kernel_rfl) (by kernel_rfl) (by rfl) ?_
            try simp only [Act.put, List.setIfInBounds_toArray, List.set_cons_zero, List.set_cons_succ]
            refine wpS_skip 14 hSw rfl (by kernel_rfl) (by kernel_rfl) (by kernel_rfl) (by rfl) ?_
            try simp only [Act.put, List.setIfInBounds_toArray, List.set_cons_zero, List.set_cons_succ]
            refine wpS_skip 15 hSw rfl (by kernel_rfl) (by kernel_rfl) (by kernel_rfl) (by rfl) ?_
            try simp only [Act.put, List.setIfInBounds_toArray, List.set_cons_zero, List.set_cons_succ]
            refine wpS_take 16 (v := ?_) hSw rfl (by kernel_rfl) (by kernel_rfl) (by kernel_rfl) (by rfl) (fun w' hin => ?_) ?_
            rotate_left
            · (try simp only [] at hin); go_simp <;> with_reducible rfl
            try simp only [Act.put, List.setIfInBounds_toArray, List.set_cons_zero, List.set_cons_succ]
            refine wpS_done (by kernel_rfl) ?_
            have HX2 := Lib.hid (HX.out.drew.trans hSw)
            have HS2 : Hid (ordB l = ordB (l.drop (0 + 1 - 1))) := Lib.hid HS.out
            clear hSw x0
            go_wp2_with fail
            go_roundw
            case rel => exact ⟨0 + 1, by omega, by go_num, HS2, HX2⟩
            case measure => simp [intOf]; omega
          · obtain ⟨kp, hkp⟩ : ∃ kp, kp + 1 = k := ⟨k - 1, by omega⟩
            obtain ⟨b, off, x, B, m, d, B', m', d', hA1, hbl0, -, hx, hv, dx0, dx1, dx2, dx3, dx4, dx5, dx6⟩ := ResL.at_ HA.out (show kp < n by omega)
            obtain ⟨b2, off2, y, C, p, f, C', p', f', hA2, hbl2, -, hy, hvy, dy0, dy1, dy2, dy3, dy4, dy5, dy6⟩ := ResL.at_ HA.out hlt
            rw [hA1] at hA2
            injection hA2 with hA2
            injection hA2 with e1 e2
            subst e1 e2 hA1
            have HOS : Hid (ordB (l.drop (k - 1)) = (decide (cmpK x.key y.key < 0) && ordB (l.drop k))) := Lib.hid (by
              have h9 := ord_step hx (by rw [hkp]; exact hy)
              rw [hkp] at h9
              rw [show k - 1 = kp by omega]; exact h9)
            have i1 : (0 : Int) ≤ (k : Int) := by omega
            have i2 : (k : Int) < (n : Int) := by omega
            have i3 : (0 : Int) ≤ (kp : Int) := by omega
            have i4 : (kp : Int) < (n : Int) := by omega
            have i5 : IntKind.i64.wrap ((k : Int) - 1) = (kp : Int) := by rw [IntKind.wrap_i64]; omega
            have i6 : (0 : Int) < (k : Int) := by omega
            have s0 : ∀ w', Ext wr.drew w' → w'.cell? ⟨b, off + kp * 7, none⟩ = some (.int .i64 x.kind) := fun w' h => ((HX.out.drew.trans h).cell hbl0).trans dx0
            have s1 : ∀ w', Ext wr.drew w' → w'.cell? ⟨b, off + kp * 7 + 1, none⟩ = some (.string x.name) := fun w' h => ((HX.out.drew.trans h).cell hbl0).trans dx1
            have s2 : ∀ w', Ext wr.drew w' → w'.cell? ⟨b, off + kp * 7 + 2, none⟩ = some (.int .i64 x.ver) := fun w' h => ((HX.out.drew.trans h).cell hbl0).trans dx2
            have s3 : ∀ w', Ext wr.drew w' → w'.cell? ⟨b, off + kp * 7 + 3, none⟩ = some (.int .i64 x.port) := fun w' h => ((HX.out.drew.trans h).cell hbl0).trans dx3
            have s4 : ∀ w', Ext wr.drew w' → w'.cell? ⟨b, off + kp * 7 + 4, none⟩ = some (.string x.to) := fun w' h => ((HX.out.drew.trans h).cell hbl0).trans dx4
            have s5 : ∀ w', Ext wr.drew w' → w'.cell? ⟨b, off + kp * 7 + 5, none⟩ = some (.slice B m d) := fun w' h => ((HX.out.drew.trans h).cell hbl0).trans dx5
            have s6 : ∀ w', Ext wr.drew w' → w'.cell? ⟨b, off + kp * 7 + 6, none⟩ = some (.slice B' m' d') := fun w' h => ((HX.out.drew.trans h).cell hbl0).trans dx6
            have t0 : ∀ w', Ext wr.drew w' → w'.cell? ⟨b, off + k * 7, none⟩ = some (.int .i64 y.kind) := fun w' h => ((HX.out.drew.trans h).cell hbl0).trans dy0
            have t1 : ∀ w', Ext wr.drew w' → w'.cell? ⟨b, off + k * 7 + 1, none⟩ = some (.string y.name) := fun w' h => ((HX.out.drew.trans h).cell hbl0).trans dy1
            have t2 : ∀ w', Ext wr.drew w' → w'.cell? ⟨b, off + k * 7 + 2, none⟩ = some (.int .i64 y.ver) := fun w' h => ((HX.out.drew.trans h).cell hbl0).trans dy2
            have t3 : ∀ w', Ext wr.drew w' → w'.cell? ⟨b, off + k * 7 + 3, none⟩ = some (.int .i64 y.port) := fun w' h => ((HX.out.drew.trans h).cell hbl0).trans dy3
            have t4 : ∀ w', Ext wr.drew w' → w'.cell? ⟨b, off + k * 7 + 4, none⟩ = some (.string y.to) := fun w' h => ((HX.out.drew.trans h).cell hbl0).trans dy4
            have t5 : ∀ w', Ext wr.drew w' → w'.cell? ⟨b, off + k * 7 + 5, none⟩ = some (.slice C p f) := fun w' h => ((HX.out.drew.trans h).cell hbl0).trans dy5
            have t6 : ∀ w', Ext wr.drew w' → w'.cell? ⟨b, off + k * 7 + 6, none⟩ = some (.slice C' p' f') := fun w' h => ((HX.out.drew.trans h).cell hbl0).trans dy6
            have x0 : Ext wr.drew wr.drew := Ext.refl _
            clear hx hv hy hvy dx0 dx1 dx2 dx3 dx4 dx5 dx6 dy0 dy1 dy2 dy3 dy4 dy5 dy6 hkp
            go_wp2_with fail
            have hSw : Ext wr.drew wr.drew := x0
            refine wpS_begin (Ext wr.drew) (by kernel_rfl) ?_
            refine wpS_take 0 (v := ?_) hSw rfl (by kernel_rfl) (by kernel_rfl) (by kernel_rfl) (by rfl) (fun w' hin => ?_) ?_
            rotate_left
            · (try simp only [] at hin); go_simp <;> with_reducible rfl
            try simp only [Act.put, List.setIfInBounds_toArray, List.set_cons_zero, List.set_cons_succ]
            refine wpS_take 1 (v := ?_) hSw rfl (by kernel_rfl) (by kernel_rfl) (by kernel_rfl) (by rfl) (fun w' hin => ?_) ?_
            rotate_left
            · (try simp only [] at hin); go_simp <;> with_reducible rfl
            try simp only [Act.put, List.setIfInBounds_toArray, List.set_cons_zero, List.set_cons_succ]
            refine wpS_take 2 (v := ?_) hSw rfl (by kernel_rfl) (by kernel_rfl) (by kernel_rfl) (by rfl) (fun w' hin => ?_) ?_
            rotate_left
            · (try simp only [] at hin); go_simp <;> with_reducible rfl
            try simp only [Act.put, List.setIfInBounds_toArray, List.set_cons_zero, List.set_cons_succ]
            refine wpS_take 3 (v := ?_) hSw rfl (by kernel_rfl) (by kernel_rfl) (by kernel_rfl) (by rfl) (fun w' hin => ?_) ?_
            rotate_left
            · (try simp only [] at hin); go_simp <;> with_reducible rfl
            try simp only [Act.put, List.setIfInBounds_toArray, List.set_cons_zero, List.set_cons_succ]
            refine wpS_take 4 (v := ?_) hSw rfl (by kernel_rfl) (by kernel_rfl) (by kernel_rfl) (by rfl) (fun w' hin => ?_) ?_
            rotate_left
            · (try simp only [] at hin); go_simp <;> with_reducible rfl
            try simp only [Act.put, List.setIfInBounds_toArray, List.set_cons_zero, List.set_cons_succ]
            refine wpS_take 5 (v := ?_) hSw rfl (by kernel_rfl) (by kernel_rfl) (by kernel_rfl) (by rfl) (fun w' hin => ?_) ?_
            rotate_left
            · (try simp only [] at hin); go_simp <;> with_reducible rfl
            try simp only [Act.put, List.setIfInBounds_toArray, List.set_cons_zero, List.set_cons_succ]
            refine wpS_take 6 (v := ?_) hSw rfl (by kernel_rfl) (by kernel_rfl) (by kernel_rfl) (by rfl) (fun w' hin => ?_) ?_
            rotate_left
            · (try simp only [] at hin); go_simp <;> with_reducible rfl
            try simp only [Act.put, List.setIfInBounds_toArray, List.set_cons_zero, List.set_cons_succ]
            refine wpS_take 7 (v := ?_) hSw rfl (by kernel_rfl) (by kernel_rfl) (by kernel_rfl) (by rfl) (fun w' hin => ?_) ?_
            rotate_left
            · (try simp only [] at hin); go_simp <;> with_reducible rfl
            try simp only [Act.put, List.setIfInBounds_toArray, List.set_cons_zero, List.set_cons_succ]
            refine wpS_take 9 (v := ?_) hSw rfl (by kernel_rfl) (by kernel_rfl) (by kernel_rfl) (by rfl) (fun w' hin => ?_) ?_
            rotate_left
            · (try simp only [] at hin); go_simp <;> with_reducible rfl
            try simp only [Act.put, List.setIfInBounds_toArray, List.set_cons_zero, List.set_cons_succ]
            refine wpS_take 10 (v := ?_) hSw rfl (by kernel_rfl) (by kernel_rfl) (by kernel_rfl) (by rfl) (fun w' hin => ?_) ?_
            rotate_left
            · (try simp only [] at hin); go_simp <;> with_reducible rfl
            try simp only [Act.put, List.setIfInBounds_toArray, List.set_cons_zero, List.set_cons_succ]
            refine wpS_take 11 (v := ?_) hSw rfl (by kernel_rfl) (by kernel_rfl) (by kernel_rfl) (by rfl) (fun w' hin => ?_) ?_
            rotate_left
            · (try simp only [] at hin); go_simp <;> with_reducible rfl
            try simp only [Act.put, List.setIfInBounds_toArray, List.set_cons_zero, List.set_cons_succ]
            refine wpS_take 12 (v := ?_) hSw rfl (by kernel_rfl) (by kernel_rfl) (by kernel_rfl) (by rfl) (fun w' hin => ?_) ?_
            rotate_left
            · (try simp only [] at hin); go_simp <;> with_reducible rfl
            try simp only [Act.put, List.setIfInBounds_toArray, List.set_cons_zero, List.set_cons_succ]
            refine wpS_one 8 rfl (by kernel_rfl) (by rfl) (fun K hK => ?_)
            go_simp
            refine (key_any x B m d B' m' d' _).mono ?_
            rintro e w5 ⟨rfl, hbw5⟩
            have Ew5 : Ext wr.drew w5 := Ext.trans x0 hbw5
            simp only []
            refine hK.out _ _ (Ext wr.drew) (fun _ h => h) (Ew5) (fun hSw => ?_)
            clear hK K
            try simp only [Act.put, List.setIfInBounds_toArray, List.set_cons_zero, List.set_cons_succ]
            refine wpS_one 13 rfl (by kernel_rfl) (by rfl) (fun K hK => ?_)
            go_simp
            refine (key_any y C p f C' p' f' _).mono ?_
            rintro e w6 ⟨rfl, hbw6⟩
            have Ew6 : Ext wr.drew w6 := Ext.trans Ew5 hbw6
            simp only []
            refine hK.out _ _ (Ext wr.drew) (fun _ h => h) (Ew6) (fun hSw => ?_)
            clear hK K
            try simp only [Act.put, List.setIfInBounds_toArray, List.set_cons_zero, List.set_cons_succ]
            refine wpS_one 14 rfl (by kernel_rfl) (by rfl) (fun K hK => ?_)
            go_simp
            refine (cmp_any x.key y.key _).mono ?_
            rintro e w7 ⟨rfl, hbw7⟩
            have Ew7 : Ext wr.drew w7 := Ext.trans Ew6 hbw7
            simp only []
            refine hK.out _ _ (Ext wr.drew) (fun _ h => h) (Ew7) (fun hSw => ?_)
            clear hK K
            try simp only [Act.put, List.setIfInBounds_toArray, List.set_cons_zero, List.set_cons_succ]
            refine wpS_take 15 (v := ?_) hSw rfl (by kernel_rfl) (by kernel_rfl) (by kernel_rfl) (by rfl) (fun w' hin => ?_) ?_
            rotate_left
            · (try simp only [] at hin); go_simp <;> with_reducible rfl
            try simp only [Act.put, List.setIfInBounds_toArray, List.set_cons_zero, List.set_cons_succ]
            refine wpS_take 16 (v := ?_) hSw rfl (by kernel_rfl) (by kernel_rfl) (by kernel_rfl) (by rfl) (fun w' hin => ?_) ?_
            rotate_left
            · (try simp only [] at hin); go_simp <;> with_reducible rfl
            try simp only [Act.put, List.setIfInBounds_toArray, List.set_cons_zero, List.set_cons_succ]
            refine wpS_done (by kernel_rfl) ?_
            have HX2 := Lib.hid (HX.out.drew.trans hSw)
            clear hSw x0 s0 s1 s2 s3 s4 s5 s6 t0 t1 t2 t3 t4 t5 t6 i5
            cases hc : decide (cmpK x.key y.key < 0) with
            | true =>
              have hv0 : cmpK x.key y.key < 0 := of_decide_eq_true hc
              have HS2 : Hid (ordB l = ordB (l.drop (k + 1 - 1))) := Lib.hid (by rw [HS.out, HOS.out, hc]; rfl)
              have hq : ¬ (0 : Int) ≤ cmpK x.key y.key := by omega
              clear hc
              go_wp2_with fail
              go_roundw
              case rel => exact ⟨k + 1, by omega, by go_num, HS2, HX2⟩
              case measure => simp [intOf]; omega
            | false =>
              have hv0 : ¬ cmpK x.key y.key < 0 := of_decide_eq_false hc
              have HR : Hid (saneT l = 2) := Lib.hid (by rw [HS1.out, HS.out, HOS.out, hc]; rfl)
              have hq : (0 : Int) ≤ cmpK x.key y.key := by omega
              clear hc
              go_wp2_with fail
              go_ret
              exact ⟨ret_int HR.out.symm, HX2.out⟩
        · have HO : Hid (ordB l = true) := Lib.hid (by rw [HS.out]; exact ord_end (by omega))
          have HS2 : Hid (saneT l = if portsOk l = false then 13 else 0) := Lib.hid (by rw [HS1.out, HO.out, if_neg (by decide)])
          clear HS HS1 HO
          have hmb0 : w.heap.size ≤ wr.heap.size := HX.out.size
          go_wp2_with fail
          refine (kind_any 0 A n c l _ (by omega) (ResL.keep HA.out (HX.out.alloc _).keep)).mono ?_
          rintro e w3 ⟨A2, n2, c2, rfl, hs2, h2, hb2⟩
          have HE3 := Lib.hid ((HX.out.alloc _).trans hb2)
          have HST0 := Lib.hid ((SetOf.made wr).up hb2)
          have H2 := Lib.hid h2
          have hn2 : n2 ≤ n := by have h8 : (kindT l 0).length = n2 := h2.len; have h9 : (kindT l 0).length ≤ l.length := List.length_filter_le _ _; omega
          obtain ⟨mb, hmb⟩ : ∃ mb, mb = wr.heap.size := ⟨_, rfl⟩
          rw [← hmb] at HST0 hmb0 ⊢
          obtain ⟨ps, hps⟩ : ∃ ps, ps = (kindT l 0).map Rs.port := ⟨_, rfl⟩
          have HPS := Lib.hid hps
          have HG0 : Hid (portsOk l = goFrom (fun pre x => !pre.contains x) (ps.take 0) (ps.drop 0)) := Lib.hid (by rw [hps]; rfl)
          have hpl : ps.length = n2 := by rw [hps, List.length_map]; exact h2.len
          clear hs2 h2 hb2 hmb hps
          go_wp2_with fail
          go_loopw [52] (fun i wy => ∃ q : Nat, q ≤ n2 ∧ i = .int .i64 q ∧ Hid (SetOf wy mb q (ps.take q)) ∧ Hid (portsOk l = goFrom (fun pre x => !pre.contains x) (ps.take q) (ps.drop q)) ∧ Hid (SameCells w3 wy) ∧ Hid (Ext w wy)) (fun i _ => n2 - (intOf i).toNat)
          case atStart => exact ⟨0, Nat.zero_le _, by go_num, HST0, HG0, Lib.hid (SameCells.ext (Ext.refl _)), HE3⟩
          case round =>
            obtain ⟨q, hq, rfl, HST, HG, HSC, HY⟩ := hrel
            by_cases hlq : q < n2
            · obtain ⟨b, off, r, B, m, d, B', m', d', rfl, hbl0, -, hx, hv, hc0, hc1, hc2, hc3, hc4, hc5, hc6⟩ := ResL.at_ H2.out hlq
              have d0 : wr.cell? ⟨b, off + q * 7, none⟩ = some (.int .i64 r.kind) := HSC.out.cell hc0
              have d1 : wr.cell? ⟨b, off + q * 7 + 1, none⟩ = some (.string r.name) := HSC.out.cell hc1
              have d2 : wr.cell? ⟨b, off + q * 7 + 2, none⟩ = some (.int .i64 r.ver) := HSC.out.cell hc2
              have d3 : wr.cell? ⟨b, off + q * 7 + 3, none⟩ = some (.int .i64 r.port) := HSC.out.cell hc3
              have d4 : wr.cell? ⟨b, off + q * 7 + 4, none⟩ = some (.string r.to) := HSC.out.cell hc4
              have d5 : wr.cell? ⟨b, off + q * 7 + 5, none⟩ = some (.slice B m d) := HSC.out.cell hc5
              have d6 : wr.cell? ⟨b, off + q * 7 + 6, none⟩ = some (.slice B' m' d') := HSC.out.cell hc6
              have hrl : r ∈ l := (List.mem_filter.1 (List.mem_of_getElem? hx)).1
              have hwf := port_ok (HZ.out r hrl)
              have hpq : ps[q]? = some r.port := by rw [HPS.out, List.getElem?_map, hx]; rfl
              have HGS := Lib.hid (go_step hpq)
              have HTK : Hid (ps.take (q + 1) = ps.take q ++ [r.port]) := Lib.hid (take_snoc_of hpq)
              have L0 : (Instr.lookup 139 (.map (some mb)) (.int .i64 r.port) false).run Tryz.prog (wr.alloc (.cells #[.int .i64 r.kind, .string r.name, .int .i64 r.ver, .int .i64 r.port, .string r.to, .slice B m d, .slice B' m' d'] 34)) = .ok (.bool ((ps.take q).contains r.port)) (wr.alloc (.cells #[.int .i64 r.kind, .string r.name, .int .i64 r.ver, .int .i64 r.port, .string r.to, .slice B m d, .slice B' m' d'] 34)) := (HST.out.up (Ext.new _ _)).look hwf
              have i1 : (0 : Int) ≤ (q : Int) := by omega
              have i2 : (q : Int) < (n2 : Int) := by omega
              obtain ⟨w6, hrun, hm6, ht6⟩ := (HST.out.up (Ext.new wr (.cells #[.int .i64 r.kind, .string r.name, .int .i64 r.ver, .int .i64 r.port, .string r.to, .slice B m d, .slice B' m' d'] 34))).store (by unfold maxLen; omega) hwf
              have HST6 : Hid (SetOf w6 mb (q + 1) (ps.take (q + 1))) := Lib.hid (by rw [HTK.out]; exact hm6)
              have HSC6 := Lib.hid ((HSC.out.trans (SameCells.ext (Ext.new wr (.cells #[.int .i64 r.kind, .string r.name, .int .i64 r.ver, .int .i64 r.port, .string r.to, .slice B m d, .slice B' m' d'] 34)))).trans (SameCells.turned ht6))
              have HY6 := Lib.hid ((HY.out.alloc (.cells #[.int .i64 r.kind, .string r.name, .int .i64 r.ver, .int .i64 r.port, .string r.to, .slice B m d, .slice B' m' d'] 34)).turned ht6 hmb0)
              clear hx hv hc0 hc1 hc2 hc3 hc4 hc5 hc6 hrl hwf hpq hm6 ht6
              cases hc : (ps.take q).contains r.port with
              | true =>
                rw [hc] at L0
                have HR : Hid (saneT l = 13) := Lib.hid (by rw [HS2.out, HG.out, HGS.out, hc]; rfl)
                clear hc hrun
                go_wp2_with fail
                go_ret
                exact ⟨ret_int HR.out.symm, HY.out.alloc _⟩
              | false =>
                rw [hc] at L0
                have HG2 : Hid (portsOk l = goFrom (fun pre x => !pre.contains x) (ps.take (q + 1)) (ps.drop (q + 1))) := Lib.hid (by rw [HG.out, HGS.out, hc]; rfl)
                clear hc
                go_wp2_with fail
                go_roundw
                case rel => exact ⟨q + 1, by omega, by go_num, HST6, HG2, HSC6, HY6⟩
                case measure => simp [intOf]; omega
            · have HR : Hid (saneT l = 0) := Lib.hid (by rw [HS2.out, HG.out, List.drop_eq_nil_of_le (by omega)]; rfl)
              go_wp2_with fail
              go_ret
              exact ⟨ret_int HR.out.symm, HY.out⟩
end Go.Proofs.YtfdjbnofcniodaaGreatDoor

