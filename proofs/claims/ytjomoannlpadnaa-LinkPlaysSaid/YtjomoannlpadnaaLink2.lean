/- What link.Take, Drop, Again, Late, Reset compute. -/
import Derived.Test.YtjomoannlpadnaaLink
namespace Go.Proofs.Ytjomoannlpadnaa
open Go.RowKit
attribute [local go_sem ↓] run_max2 run_min2
attribute [local go_sem ↓] Go.wp_at_zero Go.wp_at_succ

set_option maxHeartbeats 400000 in
theorem linkPlace_none (ep : Int) (A : Option Addr) (c : Nat) (i : Int) (w : World) :
    Calls Try.prog 68 #[.agg #[.int .i64 ep, .slice A 0 c], .int .i64 i] w fun e w' => e = .returned (.tuple #[.int .i64 0, .bool false]) ∧ Ext w w' := by
  go_enter Try.func68, Try.ntmps68
  go_wp2_with fail
  go_ret2
  exact ⟨rfl, Ext.new _ _⟩
set_option maxHeartbeats 400000 in
theorem linkPlace_some (ep : Int) (A : Option Addr) (n c : Nat) (i : Int) (k : Nat) (w : World) (hn : 0 < n) (hk : max 0 i % (n : Int) = (k : Int)) :
    Calls Try.prog 68 #[.agg #[.int .i64 ep, .slice A n c], .int .i64 i] w fun e w' => e = .returned (.tuple #[.int .i64 (k : Int), .bool true]) ∧ Ext w w' := by
  have hz : ((n : Int) == 0) = false := by simp; omega
  go_enter Try.func68, Try.ntmps68
  go_wp2_with fail
  go_ret2
  exact ⟨by rw [← hk]; rfl, Ext.new _ _⟩

theorem Flat.take {w : World} {A : Option Addr} {n k : Nat} {xs : List Value} (h : Flat w 1 A n xs) (hk : k ≤ n) : Flat w 1 A k (xs.take k) := by
  refine ⟨by rw [List.length_take, h.1]; omega, fun hp => ?_⟩
  obtain ⟨b, o, e, hb, hc⟩ := h.2 (by omega)
  refine ⟨b, o, e, hb, fun j u hu => ?_⟩
  have hj : j < k := by have := (List.getElem?_eq_some_iff.1 hu).1; rw [List.length_take] at this; omega
  rw [List.getElem?_take_of_lt hj] at hu
  exact hc j u hu
theorem Flat.drop {w : World} {b o n k : Nat} {xs : List Value} (h : Flat w 1 (some ⟨b, o, none⟩) n xs) : Flat w 1 (some ⟨b, o + k, none⟩) (n - k) (xs.drop k) := by
  refine ⟨by rw [List.length_drop, h.1]; omega, fun hp => ?_⟩
  obtain ⟨b', o', e, hb, hc⟩ := h.2 (by omega)
  injection e with e
  injection e with e1 e2
  subst e1 e2
  refine ⟨b, o + k, rfl, hb, fun j u hu => ?_⟩
  rw [List.getElem?_drop] at hu
  rw [Nat.add_assoc]
  exact hc _ u hu
/-- two slices laid into a row of two -/
theorem two_parts (w : World) (t : TypeId) (p q : Option Addr × Nat × Nat) : ArrR (w.alloc (.cells #[.slice p.1 p.2.1 p.2.2, .slice q.1 q.2.1 q.2.2] t)) 1 (fun cs p => cs = [Value.slice p.1 p.2.1 p.2.2]) (some ⟨w.heap.size, 0, none⟩) 2 [p, q] := by
  refine ArrR.of_block (heap_alloc_new w _) rfl fun k x hx => ?_
  match k, hx with
  | 0, hx => cases hx; exact ⟨_, rfl, rfl, fun j u hu => by match j, hu with | 0, hu => exact hu⟩
  | 1, hx => cases hx; exact ⟨_, rfl, rfl, fun j u hu => by match j, hu with | 0, hu => exact hu⟩

theorem LinkR.of_own {w : World} {X : Nat → Prop} {base m : Nat} {e : TypeId} {v : Value} {vs : List Value} {q : List (List UInt8)} (hown : w.ownsRow base e 1 v m vs) (hQ : QV w X vs q) (hX : ∀ b, X b → b < base) : ∃ A c, v = .slice A m c ∧ LinkR w X A m c q := by
  have hlt := hown.lt
  obtain ⟨A, c, rfl, hn, _, hA, hf⟩ := own_flat hown
  refine ⟨A, c, rfl, ⟨vs, hf, fun _ b o e hx => ?_, hQ⟩, hA, hn⟩
  subst e
  have := (hlt b rfl).1
  have := hX b hx
  omega
theorem concat_link {w : World} {X : Nat → Prop} {vs ws : List Value} {q : List (List UInt8)} (p1 p2 : Option Addr × Nat × Nat) (h1 : Flat w 1 p1.1 p1.2.1 vs) (h2 : Flat w 1 p2.1 p2.2.1 ws) (n1 : p1.1 = none → p1.2.2 = 0) (n2 : p2.1 = none → p2.2.2 = 0)
    (hq : QV w X (vs ++ ws) q) (hX : ∀ b, X b → b < w.heap.size) (hl : (vs ++ ws).length ≤ 32) :
    Calls Try.prog 69 #[.slice (some ⟨w.heap.size, 0, none⟩) 2 2] (w.alloc (.cells #[.slice p1.1 p1.2.1 p1.2.2, .slice p2.1 p2.2.1 p2.2.2] 35)) fun e w' => ∃ A3 n3 c3, e = .returned (.slice A3 n3 c3) ∧ LinkR w' X A3 n3 c3 q ∧ Ext w w' := by
  have e1 : [vs, ws].flatten = vs ++ ws := by simp
  refine (concat_slices _ _ _ [p1, p2] [vs, ws] _ (two_parts w 35 p1 p2) rfl (fun i p hp => ?_) (by rw [e1]; omega) (by omega)).mono fun e w' ⟨v, he, hown, hx⟩ => ?_
  · have hc := hq.one_cell
    match i, hp with
    | 0, hp => cases hp; exact ⟨n1, vs, rfl, h1.up (Ext.new _ _), fun u hu => hc u (List.mem_append_left _ hu)⟩
    | 1, hp => cases hp; exact ⟨n2, ws, rfl, h2.up (Ext.new _ _), fun u hu => hc u (List.mem_append_right _ hu)⟩
  · rw [e1] at hown
    obtain ⟨A, c, rfl, hL⟩ := LinkR.of_own hown (hq.up ((Ext.new _ _).trans hx)) (X := X) (by intro b hb; have := hX b hb; simp; omega)
    exact ⟨A, _, c, he, hL, (Ext.new _ _).trans hx⟩

/-- what Take leaves: a link, the bytes, an error -/
def GivesTake (w : World) (X : Nat → Prop) (l : Lk) (bs : List UInt8) (er : Int) (e : Ending) (w' : World) : Prop :=
  ∃ ep A n c A' n' c', e = .returned (.tuple #[.agg #[.int .i64 ep, .slice A n c], .slice A' n' c', .int .i64 er]) ∧ LkR w' X ep A n c l ∧ BV w' X (.slice A' n' c') bs ∧ Ext w w'

set_option maxHeartbeats 1600000 in
theorem linkTake_any (X : Nat → Prop) (ep : Int) (A : Option Addr) (n c : Nat) (l : Lk) (i : Int) (w : World) (h : LkR w X ep A n c l) (hX : ∀ b, X b → b < w.heap.size) :
    Calls Try.prog 32 #[.agg #[.int .i64 ep, .slice A n c], .int .i64 i] w (GivesTake w X (l.take i).1 (l.take i).2.1 (l.take i).2.2) := by
  have HS := Lib.hid l.sane_len
  have H := Lib.hid h
  have HX := Lib.hid hX
  clear h hX
  go_enter Try.func32, Try.ntmps32
  go_wp2_with fail
  refine (linksane_any (With2 X w.heap.size) _ _ _ _ _ _ ((H.out.fresh with2_of).up ((Ext.new _ _).alloc _)) (with2_lt HX.out (by simp))).mono ?_
  rintro e w1 ⟨ep1, A1, n1, c1, rfl, hl1, hb1⟩
  obtain ⟨hx0, hy0, hx1, hy1, hz1⟩ := box2 hb1
  have hn1 : n1 ≤ 32 := by rw [← hl1.len]; exact HS.out
  have hn1c : n1 ≤ c1 := hl1.2.2.2
  have hwb := box2b hb1
  have HE := Lib.hid (((Ext.new w _).alloc _).trans hb1)
  have HK := Lib.hid hwb
  have HL := Lib.hid hl1
  clear hl1 hwb hb1
  go_wp2_with fail
  generalize hW : (w1.setCell _ (Value.int IntKind.i64 ep1)).setCell _ (Value.slice A1 n1 c1) = W
  have k0 : W.heap[w.heap.size]? = some (.cells #[.int .i64 ep1, .slice A1 n1 c1] 40 (0, 0)) := by rw [← hW]; exact blk_set (blk_set HK.out.1 _) _
  have k1 : W.heap[w.heap.size + 1]? = some (.cells #[.int .i64 0, .slice none 0 0] 40 (0, 0)) := by rw [← hW, blk_far (by omega), blk_far (by omega)]; exact HK.out.2.1
  have hzW : w.heap.size + 1 < W.heap.size := by rw [← hW]; simpa [World.setCell] using HK.out.2.2
  have HLW : Hid (LkR W (With2 X w.heap.size) ep1 A1 n1 c1 l.sane) := by rw [← hW]; exact (HL.out.set (.inr (.inl rfl)) _).set (.inr (.inl rfl)) _
  have HEW : Hid (Ext w W) := by rw [← hW]; exact (HE.out.set (Nat.le_refl _) _).set (Nat.le_refl _) _
  clear hW hx0 hy0 hx1 hy1 hz1 HL HK HE
  have hzW' : w.heap.size < W.heap.size := by omega
  have hlen := Lib.hid HLW.out.len
  by_cases hn0 : n1 = 0
  · subst hn0
    have HQ : Hid (l.take i = (l.sane, [], 10)) := Lib.hid (by unfold Lk.take; rw [if_pos hlen.out])
    obtain ⟨hw0, hwf⟩ := blk_rules k0
    go_wp2_with (go_at_call 68; refine (linkPlace_none _ _ _ _ _).mono ?_; rintro e w2 ⟨rfl, hb2⟩; obtain ⟨q0, q1⟩ := blk_rules ((hb2.block hzW').trans k0); obtain ⟨q2, q3⟩ := blk_rules ((hb2.block hzW).trans k1))
    refine bodyPost_ret (v := .tuple #[.agg #[.int .i64 ep1, .slice A1 0 c1], .slice none 0 0, .int .i64 10]) (by simp [results, Try.results32, go_sem, q2]) rfl ⟨ep1, A1, 0, c1, none, 0, 0, by rw [HQ.out], ?_, ?_, ?_⟩
    · rw [HQ.out]
      exact (((HLW.out.up hb2).set (.inr (.inr rfl)) _).set (.inr (.inr rfl)) _).fresh fun b hb => .inl (.inl hb)
    · rw [HQ.out]
      exact ⟨none, 0, 0, rfl, fun _ => rfl, Nat.le_refl _, ArrR.nil_, fun h => absurd h (by omega)⟩
    · exact ((HEW.out.trans hb2).set (Nat.le_add_right _ _) _).set (Nat.le_add_right _ _) _
  · obtain ⟨k, hk⟩ : ∃ k : Nat, max 0 i % (n1 : Int) = (k : Int) := ⟨(max 0 i % n1).toNat, (Int.toNat_of_nonneg (Int.emod_nonneg _ (by omega))).symm⟩
    have hkn : k < n1 := by have : (k : Int) < n1 := by rw [← hk]; exact Int.emod_lt_of_pos _ (by omega)
                            omega
    have hpl : placeN l.sane.q.length i = k := by unfold placeN; rw [hlen.out, hk]; simp
    obtain ⟨b, o, Ab, nb, cb, bs, rfl, hbW, hqk, hcell, hb1, hb2, hb3, hb4⟩ := HLW.out.2.1.at_ hkn
    have HQ : Hid (l.take i = (⟨l.sane.ep, l.sane.q.take k ++ l.sane.q.drop (k + 1)⟩, bs, 0)) := Lib.hid (by unfold Lk.take; rw [if_neg (by rw [hlen.out]; exact hn0), hpl, hqk]; rfl)
    have HBV : Hid (BV W (With2 X w.heap.size) (.slice Ab nb cb) bs) := Lib.hid ⟨_, _, _, rfl, hb1, hb2, hb3, hb4⟩
    obtain ⟨vs, hF, hO, hQ⟩ := HLW.out.2.1
    have Hk := Lib.hid hk
    have HF := Lib.hid hF
    have HQV := Lib.hid hQ
    clear hk hpl hqk hb1 hb2 hb3 hb4 hF hQ hO
    obtain ⟨hw0, hwf⟩ := blk_rules k0
    go_wp2_with (go_at_call 68; refine (linkPlace_some _ _ _ _ _ k _ (by omega) Hk.out).mono ?_; rintro e w2 ⟨rfl, hb2⟩; obtain ⟨q0, q1⟩ := blk_rules ((hb2.block hzW').trans k0); obtain ⟨q2, q3⟩ := blk_rules ((hb2.block hzW).trans k1); have hcell2 := (hb2.cell hbW).trans hcell)
    have hz2 := hb2.size
    have i1 : (0 : Int) ≤ (k : Int) := by omega
    have i2 : (k : Int) ≤ (n1 : Int) := by omega
    have i3 : (n1 : Int) ≤ (c1 : Int) := by omega
    have i4 : (0 : Int) ≤ (k : Int) + 1 := by omega
    have i5 : (k : Int) + 1 ≤ (n1 : Int) := by omega
    have i6 : IntKind.i64.wrap ((k : Int) + 1) = (k : Int) + 1 := by rw [IntKind.wrap_i64]; omega
    have i7 : ((k : Int) + 1).toNat = k + 1 := by omega
    have i8 : k ≤ c1 := by omega
    have i9 : k + 1 ≤ n1 := by omega
    have hQV2 := Lib.hid ((HQV.out.take k).append (HQV.out.drop (k + 1)))
    have hl2 := Lib.hid (show (vs.take k ++ vs.drop (k + 1)).length ≤ 32 by have := HF.out.1; rw [List.length_append, List.length_take, List.length_drop]; omega)
    clear hcell hcell2
    by_cases hcap : c1 = k + 1
    · subst hcap
      obtain rfl : n1 = k + 1 := by omega
      have Hd : Hid (vs.drop (k + 1) = []) := Lib.hid (List.drop_eq_nil_of_le (by have := HF.out.1; omega))
      have i10 : (k : Int) ≤ (k : Int) + 1 := by omega
      obtain ⟨u0, u1⟩ := blk_rules k0
      have Hcat : Hid (∀ W3, Ext w2 W3 → Calls Try.prog 69 #[.slice (some ⟨W3.heap.size, 0, none⟩) 2 2] (W3.alloc (.cells #[.slice (some ⟨b, o, none⟩) k k, .slice (some ⟨b, o, none⟩) (0) (0)] 35)) fun e w' => ∃ A3 n3 c3, e = .returned (.slice A3 n3 c3) ∧ LinkR w' (With2 X w.heap.size) A3 n3 c3 (l.sane.q.take k ++ l.sane.q.drop (k + 1)) ∧ Ext W3 w') :=
        Lib.hid fun W3 hE => concat_link (some ⟨b, o, none⟩, k, k) ((some ⟨b, o, none⟩), 0, 0) ((HF.out.take (k := k) (by omega)).up (hb2.trans hE)) (by rw [Hd.out]; exact Flat.nil_) (fun h => by cases h) (fun h => by cases h) (hQV2.out.up (hb2.trans hE)) (fun b hb => Nat.lt_of_lt_of_le (with2_lt HX.out hzW b hb) (Nat.le_trans hz2 hE.size)) hl2.out
      go_region_law (first
        | (go_simp; go_at_call 69; refine (Hcat.out _ (Ext.refl _).drew).mono ?_; rintro e w3 ⟨A3, n3, c3, rfl, hL3, hE3⟩; have q4 := blk_rules ((hE3.block (show w.heap.size < w2.drew.heap.size by exact Nat.lt_of_lt_of_le hzW' hz2)).trans ((hb2.block hzW').trans k0)); have q5 := q4.1; have q6 := q4.2; clear q4)
        | fail)
      all_goals
        have hE23 := (Ext.refl w2).drew.trans hE3
        have b0 := blk_set ((hE23.block (Nat.lt_of_lt_of_le hzW' hz2)).trans ((hb2.block hzW').trans k0)) (i := 1) (.slice A3 n3 c3)
        have b1 := (blk_far (i := 1) (show w.heap.size + 1 ≠ w.heap.size by omega) (.slice A3 n3 c3)).trans ((hE23.block (Nat.lt_of_lt_of_le hzW hz2)).trans ((hb2.block hzW).trans k1))
        generalize hW4 : w3.setCell _ (Value.slice A3 n3 c3) = W4
        rw [hW4] at b0 b1
        obtain ⟨p0, -⟩ := blk_rules b0
        obtain ⟨p1, p2⟩ := blk_rules b1
        have hW4' := Lib.hid hW4
        clear hW4
        go_wp2_with fail
        refine bodyPost_ret (v := .tuple #[.agg #[.int .i64 ep1, .slice A3 n3 c3], .slice Ab nb cb, .int .i64 0]) (by simp [results, Try.results32, go_sem, p1]) rfl ⟨ep1, A3, n3, c3, Ab, nb, cb, by rw [HQ.out], ?_, ?_, ?_⟩
        · rw [HQ.out]
          have hL : LkR w3 (With2 X w.heap.size) ep1 A3 n3 c3 ⟨l.sane.ep, l.sane.q.take k ++ l.sane.q.drop (k + 1)⟩ := ⟨HLW.out.1, hL3⟩
          rw [← hW4'.out]
          exact (((hL.set (.inr (.inl rfl)) _).set (.inr (.inr rfl)) _).set (.inr (.inr rfl)) _).fresh fun b hb => .inl (.inl hb)
        · rw [HQ.out, ← hW4'.out]
          exact (((((HBV.out.up hb2).up hE23).set (.inr (.inl rfl)) _).set (.inr (.inr rfl)) _).set (.inr (.inr rfl)) _).fresh fun b hb => .inl (.inl hb)
        · rw [← hW4'.out]
          exact ((((HEW.out.trans hb2).trans hE23).set (Nat.le_refl _) _).set (Nat.le_add_right _ _) _).set (Nat.le_add_right _ _) _
    · obtain ⟨u0, u1⟩ := blk_rules k0
      have Hcat : Hid (∀ W3, Ext w2 W3 → Calls Try.prog 69 #[.slice (some ⟨W3.heap.size, 0, none⟩) 2 2] (W3.alloc (.cells #[.slice (some ⟨b, o, none⟩) k k, .slice (some ⟨b, o + (k + 1), none⟩) (n1 - (k + 1)) (c1 - (k + 1))] 35)) fun e w' => ∃ A3 n3 c3, e = .returned (.slice A3 n3 c3) ∧ LinkR w' (With2 X w.heap.size) A3 n3 c3 (l.sane.q.take k ++ l.sane.q.drop (k + 1)) ∧ Ext W3 w') :=
        Lib.hid fun W3 hE => concat_link (some ⟨b, o, none⟩, k, k) ((some ⟨b, o + (k + 1), none⟩), n1 - (k + 1), c1 - (k + 1)) ((HF.out.take (k := k) (by omega)).up (hb2.trans hE)) ((HF.out.drop (k := k + 1)).up (hb2.trans hE)) (fun h => by cases h) (fun h => by cases h) (hQV2.out.up (hb2.trans hE)) (fun b hb => Nat.lt_of_lt_of_le (with2_lt HX.out hzW b hb) (Nat.le_trans hz2 hE.size)) hl2.out
      go_region_law (first
        | (go_simp; go_at_call 69; refine (Hcat.out _ (Ext.refl _).drew).mono ?_; rintro e w3 ⟨A3, n3, c3, rfl, hL3, hE3⟩; have q4 := blk_rules ((hE3.block (show w.heap.size < w2.drew.heap.size by exact Nat.lt_of_lt_of_le hzW' hz2)).trans ((hb2.block hzW').trans k0)); have q5 := q4.1; have q6 := q4.2; clear q4)
        | fail)
      all_goals
        have hE23 := (Ext.refl w2).drew.trans hE3
        have b0 := blk_set ((hE23.block (Nat.lt_of_lt_of_le hzW' hz2)).trans ((hb2.block hzW').trans k0)) (i := 1) (.slice A3 n3 c3)
        have b1 := (blk_far (i := 1) (show w.heap.size + 1 ≠ w.heap.size by omega) (.slice A3 n3 c3)).trans ((hE23.block (Nat.lt_of_lt_of_le hzW hz2)).trans ((hb2.block hzW).trans k1))
        generalize hW4 : w3.setCell _ (Value.slice A3 n3 c3) = W4
        rw [hW4] at b0 b1
        obtain ⟨p0, -⟩ := blk_rules b0
        obtain ⟨p1, p2⟩ := blk_rules b1
        have hW4' := Lib.hid hW4
        clear hW4
        go_wp2_with fail
        refine bodyPost_ret (v := .tuple #[.agg #[.int .i64 ep1, .slice A3 n3 c3], .slice Ab nb cb, .int .i64 0]) (by simp [results, Try.results32, go_sem, p1]) rfl ⟨ep1, A3, n3, c3, Ab, nb, cb, by rw [HQ.out], ?_, ?_, ?_⟩
        · rw [HQ.out]
          have hL : LkR w3 (With2 X w.heap.size) ep1 A3 n3 c3 ⟨l.sane.ep, l.sane.q.take k ++ l.sane.q.drop (k + 1)⟩ := ⟨HLW.out.1, hL3⟩
          rw [← hW4'.out]
          exact (((hL.set (.inr (.inl rfl)) _).set (.inr (.inr rfl)) _).set (.inr (.inr rfl)) _).fresh fun b hb => .inl (.inl hb)
        · rw [HQ.out, ← hW4'.out]
          exact (((((HBV.out.up hb2).up hE23).set (.inr (.inl rfl)) _).set (.inr (.inr rfl)) _).set (.inr (.inr rfl)) _).fresh fun b hb => .inl (.inl hb)
        · rw [← hW4'.out]
          exact ((((HEW.out.trans hb2).trans hE23).set (Nat.le_refl _) _).set (Nat.le_add_right _ _) _).set (Nat.le_add_right _ _) _
end Go.Proofs.Ytjomoannlpadnaa
