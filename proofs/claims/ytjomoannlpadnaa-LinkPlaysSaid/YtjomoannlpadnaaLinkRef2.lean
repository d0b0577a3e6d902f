/- What the reference's functions on links compute: Send, Take, Again. -/
import Derived.Test.YtjomoannlpadnaaLinkRef
namespace Go.Proofs.Ytjomoannlpadnaa
open Go.RowKit
attribute [local go_sem ↓] run_max2 run_min2
attribute [local go_sem ↓] Go.wp_at_zero Go.wp_at_succ

/-- the walk is held before an operation -/
def Held (p : Prop) : Prop := p
theorem held_out {p : Prop} (h : Held p) : p := h
theorem held_in {p : Prop} (h : p) : Held p := h

set_option maxHeartbeats 1600000 in
theorem refSend12_any (X : Nat → Prop) (ep : Int) (A : Option Addr) (n c : Nat) (l : Lk) (Ab : Option Addr) (nb cb : Nat) (bs : List UInt8) (w : World) (h : LkR w X ep A n c l) (hX : ∀ b, X b → b < w.heap.size) (hb : Byts w Ab nb bs) (hcb : Ab = none → cb = 0) (hnb : nb ≤ 1000000) :
    Calls Try.prog 74 #[.agg #[.int .i64 ep, .slice A n c], .slice Ab nb cb] w (GivesLk w X (fun ep A n c => .tuple #[.agg #[.int .i64 ep, .slice A n c], .int .i64 (l.send bs).2]) (l.send bs).1) := by
  have HS := Lib.hid l.sane_len
  have H := Lib.hid h
  have HX := Lib.hid hX
  have HB := Lib.hid hb
  clear h hX hb
  go_enter Try.func74, Try.ntmps74
  go_wp2_with fail
  refine (refsane12_any (With2 X w.heap.size) _ _ _ _ _ _ ((H.out.fresh with2_of).up ((Ext.new _ _).alloc _)) (with2_lt HX.out (by simp))).mono ?_
  rintro e w1 ⟨ep1, A1, n1, c1, rfl, hl1, hb1⟩
  obtain ⟨hx0, hy0, hx1, hy1, hz1⟩ := box2 hb1
  have hn1 : n1 ≤ 32 := by rw [← hl1.len]; exact HS.out
  have hn1c : n1 ≤ c1 := hl1.2.2.2
  have hwb := box2b hb1
  have HE := Lib.hid (((Ext.new w _).alloc _).trans hb1)
  have HB1 := Lib.hid (ArrR.up HB.out HE.out)
  have HK := Lib.hid hwb
  have HL := Lib.hid hl1
  clear hl1 hwb hb1
  by_cases hfull : 32 ≤ n1
  · have HQ : Hid (l.send bs = (l.sane, 8)) := Lib.hid (by unfold Lk.send; rw [if_pos (by rw [HL.out.len]; exact hfull)])
    go_wp2_with fail
    refine bodyPost_ret (v := .tuple #[.agg #[.int .i64 ep1, .slice A1 n1 c1], .int .i64 8]) (by simp [results, Try.results74, go_sem, hx1]) rfl ⟨ep1, A1, n1, c1, by rw [HQ.out], ?_, ?_⟩
    · rw [HQ.out]
      exact (((((HL.out.set (.inr (.inl rfl)) _).set (.inr (.inl rfl)) _).set (.inr (.inr rfl)) _).set (.inr (.inr rfl)) _)).fresh fun b hb => .inl (.inl hb)
    · exact (((HE.out.set (Nat.le_refl _) _).set (Nat.le_refl _) _).set (Nat.le_add_right _ _) _).set (Nat.le_add_right _ _) _
  · have HQ : Hid (l.send bs = (⟨l.sane.ep, l.sane.q ++ [bs]⟩, 0)) := Lib.hid (by unfold Lk.send; rw [if_neg (by rw [HL.out.len]; exact hfull)])
    have hz1' : w.heap.size < w1.heap.size := by omega
    go_wp2_with (at_builtin; refine held_out ?_)
    generalize hW : (w1.setCell _ (Value.int IntKind.i64 ep1)).setCell _ (Value.slice A1 n1 c1) = W
    have hszW : W.heap.size = w1.heap.size := by rw [← hW]; simp [World.setCell]
    rw [← hszW]
    have K0 : Hid (W.heap[w.heap.size]? = some (.cells #[.int .i64 ep1, .slice A1 n1 c1] 37 (0, 0))) := Lib.hid (by rw [← hW]; exact blk_set (blk_set HK.out.1 _) _)
    have K1 : Hid (W.heap[w.heap.size + 1]? = some (.cells #[.int .i64 0, .slice none 0 0] 37 (0, 0))) := Lib.hid (by rw [← hW, blk_far (by omega), blk_far (by omega)]; exact HK.out.2.1)
    have hzW : w.heap.size + 1 < W.heap.size := by rw [← hW]; simpa [World.setCell] using HK.out.2.2
    have HLW : Hid (LkR W (With2 X w.heap.size) ep1 A1 n1 c1 l.sane) := Lib.hid (by rw [← hW]; exact (HL.out.set (.inr (.inl rfl)) _).set (.inr (.inl rfl)) _)
    have HEW : Hid (Ext w W) := Lib.hid (by rw [← hW]; exact (HE.out.set (Nat.le_refl _) _).set (Nat.le_refl _) _)
    have HBW : Hid (Byts W Ab nb bs) := Lib.hid (ArrR.up HB.out HEW.out)
    obtain ⟨vs, hF, hO, hQ⟩ := HLW.out.2.1
    have hnone : A1 = none → c1 = 0 := HLW.out.2.2.1
    have hone := hQ.one_cell
    have HQV := Lib.hid hQ
    have hE1 := own_empty_lit W W.heap.size 42 1 (Nat.le_refl _)
    have hF1 := hF.up (Ext.new W (.cells #[] 42))
    clear hW hF hO hQ HL HK HB1 HE hx0 hy0 hx1 hy1 hz1
    obtain ⟨v2, w2, hrun, hown2, hg2, hat2⟩ := run_append_flat elem_bytes 35 hE1 c1 hF1 hone (by omega) (by omega) (by simp) hnone
    refine held_in ?_
    refine Lib.wpList_append_run _ rfl _ _ _ _ rfl _ _ rfl rfl _ _ hrun ?_
    clear hrun hF1 hone
    have hE12 : Ext W w2 := Ext.grown (Ext.new W _) hg2 hE1 (Nat.le_refl _)
    have OW2 : Hid (w2.ownsRow W.heap.size 42 1 v2 n1 vs) := Lib.hid (by simpa using hown2)
    have hw2v : ∀ b, v2.ownBlock = some b → W.heap.size ≤ b ∧ b < w2.heap.size := fun b hb => OW2.out.lt b hb
    have HV2 := Lib.hid hw2v
    have HE12 := Lib.hid hE12
    have hz2 : w.heap.size + 1 < w2.heap.size := Nat.lt_of_lt_of_le hzW hE12.size
    clear hown2 hg2 hat2 hE1 hw2v hE12
    go_wp2_with (at_builtin; refine held_out ?_)
    have hE2 := own_empty_lit w2 w2.heap.size 5 1 (Nat.le_refl _)
    have hF2 := (Byts.flat HBW.out).up (HE12.out.alloc (.cells #[] 5))
    obtain ⟨v3, w3, hrun, hown3, hg3, hat3⟩ := run_append_flat elem_byte 42 hE2 cb hF2 (byteV_one bs) (by omega) (by omega) (by simp) hcb
    refine held_in ?_
    refine Lib.wpList_append_run _ rfl _ _ _ _ rfl _ _ rfl rfl _ _ hrun ?_
    have HE23 : Hid (Ext w2 w3) := Lib.hid (Ext.grown (Ext.new w2 _) hg3 hE2 (Nat.le_refl _))
    have OW3 : Hid (w3.ownsRow w2.heap.size 5 1 v3 nb (bs.map byteV)) := Lib.hid (by simpa using hown3)
    have hz3 := Nat.lt_of_lt_of_le hz2 HE23.out.size
    have hzz := HE12.out.size
    have hzz3 := HE23.out.size
    clear hrun hown3 hg3 hat3 hE2 hF2
    obtain ⟨A3, c3, rfl, -⟩ := own_flat OW3.out
    go_wp2_with (at_builtin; refine held_out ?_)
    have hE3 : (w3.alloc (.cells #[.slice A3 nb c3] 42)).ownsRow W.heap.size 42 1 v2 n1 vs := own_up OW2.out (HE23.out.alloc _)
    obtain ⟨v4, w4, hrun, hown4, hg4, hat4⟩ := run_append_flat elem_bytes 35 hE3 1 (one_flat w3 (.slice A3 nb c3) 42) (by simp [Value.oneCell']) (by omega) (by omega) (by simp; omega) (fun h => by cases h)
    refine held_in ?_
    refine Lib.wpList_append_run _ rfl _ _ _ _ rfl _ _ rfl rfl _ _ hrun ?_
    have hE34 : Ext w2 (w3.alloc (.cells #[.slice A3 nb c3] 42)) := HE23.out.alloc _
    have BV3 : BV (w3.alloc (.cells #[.slice A3 nb c3] 42)) (fun b => With2 X w.heap.size b ∨ v2.ownBlock = some b) (.slice A3 nb c3) bs :=
      (BV.of_own OW3.out (fun b hb => by
        rcases hb with hb | hb
        · have := with2_lt HX.out hzW b hb; omega
        · have := (HV2.out b hb).2; omega)).up (Ext.new _ _)
    have QV3 : QV (w3.alloc (.cells #[.slice A3 nb c3] 42)) (fun b => With2 X w.heap.size b ∨ v2.ownBlock = some b) vs l.sane.q :=
      (HQV.out.fresh (fun b hb => by
        rcases hb with hb | hb
        · exact .inl hb
        · exact .inr (HV2.out b hb).1)).up (HE12.out.trans hE34)
    have hQ4 : QV w4 (With2 X w.heap.size) (vs ++ [.slice A3 nb c3]) (l.sane.q ++ [bs]) := by
      have h1 := QV3.append (QV.one BV3)
      refine ⟨h1.1, fun i v hv => ?_⟩
      obtain ⟨b, h2, h3⟩ := h1.2 i v hv
      exact ⟨b, h2, (h3.grown hg4 (fun b hb => .inr hb)).fresh fun b hb => .inl (.inl hb)⟩
    have hL4 : LinkR w4 (With2 X w.heap.size) (match v4 with | .slice A _ _ => A | _ => none) (n1 + 1) (match v4 with | .slice _ _ c => c | _ => 0) (l.sane.q ++ [bs]) ∧ ∃ A4 c4, v4 = .slice A4 (n1 + 1) c4 := by
      have hlt := hown4.lt
      obtain ⟨A4, c4, rfl, hn4, _, hA4, hf4⟩ := own_flat hown4
      exact ⟨⟨⟨_, hf4, fun _ b o e hx => by
        simp only at e
        subst e
        have h1 := (hlt b rfl).1
        have h2 := with2_lt HX.out hzW b hx
        omega, hQ4⟩, hA4, hn4⟩, A4, c4, rfl⟩
    obtain ⟨hL4, A4, c4, rfl⟩ := hL4
    simp only at hL4
    have hE24 : Ext w w4 := Ext.grown (HEW.out.trans (HE12.out.trans hE34)) hg4 hE3 HEW.out.size
    have hk : ∀ g o, g < W.heap.size → W.heap[g]? = some o → w4.heap[g]? = some o := fun g o hlt hg => by
      have hx := HE12.out.trans hE34
      rw [hg4.block g (Nat.lt_of_lt_of_le hlt hx.size) (fun e => by have := (HV2.out g e.symm).1; omega)]
      exact (hx.block hlt).trans hg
    have b0 := hk _ _ (by omega) K0.out
    have b1 := hk _ _ hzW K1.out
    have HL4 := Lib.hid hL4
    have HE24 := Lib.hid hE24
    clear hrun hown4 hg4 hat4 hE3 BV3 QV3 hQ4 hE34 hk hL4 hE24
    obtain ⟨p0, -⟩ := blk_rules b0
    obtain ⟨p1, p2⟩ := blk_rules b1
    go_wp2_with fail
    refine bodyPost_ret (v := .tuple #[.agg #[.int .i64 ep1, .slice A4 (n1 + 1) c4], .int .i64 0]) (by simp [results, Try.results74, go_sem, p1]) rfl ⟨ep1, A4, n1 + 1, c4, by rw [HQ.out], ?_, ?_⟩
    · rw [HQ.out]
      have hL : LkR w4 (With2 X w.heap.size) ep1 A4 (n1 + 1) c4 ⟨l.sane.ep, l.sane.q ++ [bs]⟩ := ⟨HLW.out.1, HL4.out⟩
      exact ((hL.set (.inr (.inr rfl)) _).set (.inr (.inr rfl)) _).fresh fun b hb => .inl (.inl hb)
    · exact (HE24.out.set (Nat.le_add_right _ _) _).set (Nat.le_add_right _ _) _

theorem link_of_row {w4 : World} {X : Nat → Prop} {base n : Nat} {e : TypeId} {v : Value} {xs : List Value} {q : List (List UInt8)} (hown : w4.ownsRow base e 1 v n xs) (hq : QV w4 X xs q) (hX : ∀ b, X b → b < base) :
    ∃ A c, v = .slice A n c ∧ LinkR w4 X A n c q := by
  have hlt := hown.lt
  obtain ⟨A4, c4, rfl, hn4, _, hA4, hf4⟩ := own_flat hown
  exact ⟨A4, c4, rfl, ⟨_, hf4, fun _ b o e hx => by
    subst e
    have h1 := (hlt b rfl).1
    have h2 := hX b hx
    omega, hq⟩, hA4, hn4⟩
set_option maxHeartbeats 3200000 in
theorem refTake12_any (X : Nat → Prop) (ep : Int) (A : Option Addr) (n c : Nat) (l : Lk) (i : Int) (w : World) (h : LkR w X ep A n c l) (hX : ∀ b, X b → b < w.heap.size) :
    Calls Try.prog 75 #[.agg #[.int .i64 ep, .slice A n c], .int .i64 i] w (GivesTake w X (l.take i).1 (l.take i).2.1 (l.take i).2.2) := by
  have HS := Lib.hid l.sane_len
  have H := Lib.hid h
  have HX := Lib.hid hX
  clear h hX
  go_enter Try.func75, Try.ntmps75
  go_wp2_with fail
  refine (refsane12_any (With2 X w.heap.size) _ _ _ _ _ _ ((H.out.fresh with2_of).up ((Ext.new _ _).alloc _)) (with2_lt HX.out (by simp))).mono ?_
  rintro e w1 ⟨ep1, A1, n1, c1, rfl, hl1, hb1⟩
  obtain ⟨hx0, hy0, hx1, hy1, hz1⟩ := box2 hb1
  have hn1 : n1 ≤ 32 := by rw [← hl1.len]; exact HS.out
  have hn1c : n1 ≤ c1 := hl1.2.2.2
  have hwb := box2b hb1
  have HE := Lib.hid (((Ext.new w _).alloc _).trans hb1)
  have HK := Lib.hid hwb
  have HL := Lib.hid hl1
  clear hl1 hwb hb1
  by_cases hn0 : n1 = 0
  · subst hn0
    have HQ : Hid (l.take i = (l.sane, [], 10)) := Lib.hid (by unfold Lk.take; rw [if_pos HL.out.len])
    go_wp2_with fail
    refine bodyPost_ret (v := .tuple #[.agg #[.int .i64 ep1, .slice A1 0 c1], .slice none 0 0, .int .i64 10]) (by simp [results, Try.results75, go_sem, hx1]) rfl ⟨ep1, A1, 0, c1, none, 0, 0, by rw [HQ.out], ?_, ?_, ?_⟩
    · rw [HQ.out]
      exact ((((HL.out.set (.inr (.inl rfl)) _).set (.inr (.inl rfl)) _).set (.inr (.inr rfl)) _).set (.inr (.inr rfl)) _).fresh fun b hb => .inl (.inl hb)
    · rw [HQ.out]
      exact ⟨none, 0, 0, rfl, fun _ => rfl, Nat.le_refl _, ArrR.nil_, fun h => absurd h (by omega)⟩
    · exact (((HE.out.set (Nat.le_refl _) _).set (Nat.le_refl _) _).set (Nat.le_add_right _ _) _).set (Nat.le_add_right _ _) _
  · have hz1' : w.heap.size < w1.heap.size := by omega
    have hne0 : ((n1 : Int) == 0) = false := by rw [beq_eq_false_iff_ne]; omega
    obtain ⟨k, hk⟩ : ∃ k : Nat, max 0 i % (n1 : Int) = (k : Int) := ⟨(max 0 i % n1).toNat, (Int.toNat_of_nonneg (Int.emod_nonneg _ (by omega))).symm⟩
    have hkn : k < n1 := by have : (k : Int) < n1 := by rw [← hk]; exact Int.emod_lt_of_pos _ (by omega)
                            omega
    have hpl : placeN l.sane.q.length i = k := by unfold placeN; rw [HL.out.len, hk]; simp
    obtain ⟨b, o, Ab, nb, cb, bs, rfl, hbW, hqk, hcell, hb1, hb2, hb3, hb4⟩ := HL.out.2.1.at_ hkn
    have HQ : Hid (l.take i = (⟨l.sane.ep, l.sane.q.take k ++ l.sane.q.drop (k + 1)⟩, bs, 0)) := Lib.hid (by unfold Lk.take; rw [if_neg (by rw [HL.out.len]; exact hn0), hpl, hqk]; rfl)
    have HBV : Hid (BV w1 (With2 X w.heap.size) (.slice Ab nb cb) bs) := Lib.hid ⟨_, _, _, rfl, hb1, hb2, hb3, hb4⟩
    have hbne : b ≠ w.heap.size := fun e => by
      obtain ⟨vs, hF, hO, _⟩ := HL.out.2.1
      exact hO (by omega) b o rfl (.inr (.inl e))
    have hbne1 : b ≠ w.heap.size + 1 := fun e => by
      obtain ⟨vs, hF, hO, _⟩ := HL.out.2.1
      exact hO (by omega) b o rfl (.inr (.inr e))
    have Hk := Lib.hid hk
    have HC := Lib.hid hcell
    have i1 : (0 : Int) ≤ (k : Int) := by omega
    have i2 : (k : Int) ≤ (n1 : Int) := by omega
    have i2' : (k : Int) < (n1 : Int) := by omega
    have i3 : (n1 : Int) ≤ (c1 : Int) := by omega
    have i4 : (0 : Int) ≤ (k : Int) + 1 := by omega
    have i5 : (k : Int) + 1 ≤ (n1 : Int) := by omega
    have i6 : IntKind.i64.wrap ((k : Int) + 1) = (k : Int) + 1 := by rw [IntKind.wrap_i64]; omega
    have i7 : ((k : Int) + 1).toNat = k + 1 := by omega
    have i8 : k ≤ c1 := by omega
    have i9 : k + 1 ≤ n1 := by omega
    clear hpl hqk hb1 hb2 hb3 hb4 hcell
    go_wp2_with (at_builtin; refine held_out ?_)
    try rw [hk]
    generalize hW : (w1.setCell _ (Value.int IntKind.i64 ep1)).setCell _ (Value.slice _ n1 c1) = W
    have hszW : W.heap.size = w1.heap.size := by rw [← hW]; simp [World.setCell]
    rw [← hszW]
    have K0 : Hid (W.heap[w.heap.size]? = some (.cells #[.int .i64 ep1, .slice (some ⟨b, o, none⟩) n1 c1] 37 (0, 0))) := Lib.hid (by rw [← hW]; exact blk_set (blk_set HK.out.1 _) _)
    have K1 : Hid (W.heap[w.heap.size + 1]? = some (.cells #[.int .i64 0, .slice none 0 0] 37 (0, 0))) := Lib.hid (by rw [← hW, blk_far (by omega), blk_far (by omega)]; exact HK.out.2.1)
    have hzW : w.heap.size + 1 < W.heap.size := by rw [← hW]; simpa [World.setCell] using HK.out.2.2
    have HLW : Hid (LkR W (With2 X w.heap.size) ep1 (some ⟨b, o, none⟩) n1 c1 l.sane) := Lib.hid (by rw [← hW]; exact (HL.out.set (.inr (.inl rfl)) _).set (.inr (.inl rfl)) _)
    have HEW : Hid (Ext w W) := Lib.hid (by rw [← hW]; exact (HE.out.set (Nat.le_refl _) _).set (Nat.le_refl _) _)
    have HBW : Hid (BV W (With2 X w.heap.size) (.slice Ab nb cb) bs) := Lib.hid (by rw [← hW]; exact (HBV.out.set (.inr (.inl rfl)) _).set (.inr (.inl rfl)) _)
    have HCW : Hid (W.cell? ⟨b, o + k, none⟩ = some (.slice Ab nb cb)) := Lib.hid (by rw [← hW]; exact (cell_far hbne _).trans ((cell_far hbne _).trans HC.out))
    have hbW' : b < W.heap.size := by rw [hszW]; exact hbW
    obtain ⟨vs, hF, hO, hQ⟩ := HLW.out.2.1
    have hone := hQ.one_cell
    have HF := Lib.hid hF
    have HQV := Lib.hid hQ
    have hE1 := own_empty_lit W W.heap.size 42 1 (Nat.le_refl _)
    have hF1 := (hF.take (k := k) (by omega)).up (Ext.new W (.cells #[] 42))
    clear hW hF hO hQ HL HK HE HC HBV hx0 hy0 hx1 hy1 hz1 hk
    obtain ⟨v2, w2, hrun, hown2, hg2, hat2⟩ := run_append_flat elem_bytes 35 hE1 c1 hF1 (fun u hu => hone u (List.mem_of_mem_take hu)) (by omega) (by omega) (by simp) (fun h => by cases h)
    refine held_in ?_
    refine Lib.wpList_append_run _ rfl _ _ _ _ rfl _ _ rfl rfl v2 w2 hrun ?_
    have HE12 : Hid (Ext W w2) := Lib.hid (Ext.grown (Ext.new W _) hg2 hE1 (Nat.le_refl _))
    have OW2 : Hid (w2.ownsRow W.heap.size 42 1 v2 k (vs.take k)) := Lib.hid (by simpa using hown2)
    have hz2 : w.heap.size + 1 < w2.heap.size := Nat.lt_of_lt_of_le hzW HE12.out.size
    have hz2' : w.heap.size < w2.heap.size := by omega
    have hzs := HE12.out.size
    clear hrun hown2 hg2 hat2 hE1 hF1
    obtain ⟨p0, p0f⟩ := blk_rules ((HE12.out.block (by omega)).trans K0.out)
    have HON := Lib.hid hone
    clear hone
    by_cases hcap : c1 = k + 1
    · subst hcap
      obtain rfl : n1 = k + 1 := by omega
      have hft : Flat w2 1 (some ⟨b, o, none⟩) 0 (vs.drop (k + 1)) := by
        rw [List.drop_eq_nil_of_le (by have := HF.out.1; omega)]
        exact Flat.nil_
      go_wp2_with (at_builtin; refine held_out ?_)
      obtain ⟨v4, w4, hrun, hown4, hg4, hat4⟩ := run_append_flat elem_bytes 35 OW2.out 0 hft (fun u hu => HON.out u (List.mem_of_mem_drop hu)) (by omega) (by omega) hzs (fun h => by cases h)
      refine held_in ?_
      refine Lib.wpList_append_run _ rfl _ _ _ _ rfl _ _ rfl rfl v4 w4 hrun ?_
      have HE24 : Hid (Ext W w4) := Lib.hid (Ext.grown HE12.out hg4 OW2.out (Nat.le_refl _))
      obtain ⟨A4, c4, rfl, hL4⟩ := link_of_row (X := With2 X w.heap.size) hown4 (((HQV.out.take k).append (HQV.out.drop (k + 1))).up HE24.out) (with2_lt HX.out hzW)
      have HL4 := Lib.hid hL4
      clear hrun hown4 hg4 hat4 hL4 hft p0 p0f
      have hz4 : w.heap.size + 1 < w4.heap.size := Nat.lt_of_lt_of_le hzW HE24.out.size
      obtain ⟨r0, r0f⟩ := blk_rules ((HE24.out.block (by omega)).trans K0.out)
      obtain ⟨r1, r1f⟩ := blk_rules ((HE24.out.block hzW).trans K1.out)
      have rc := (HE24.out.cell hbW').trans HCW.out
      obtain ⟨N4, hN4⟩ : ∃ N, N = k + 0 := ⟨_, rfl⟩
      simp only [← hN4] at HL4 ⊢
      clear hN4
      have rc0 := (cell_far hbne1 (Value.int IntKind.i64 ep1) (i := 0)).trans rc
      have rc1 := (cell_far hbne1 (Value.slice A4 N4 c4) (i := 1)).trans rc0
      go_wp2_with fail
      go_region
      all_goals
        go_wp2_with fail
        refine bodyPost_ret (v := .tuple #[.agg #[.int .i64 ep1, .slice A4 N4 c4], .slice Ab nb cb, .int .i64 0]) (by simp [results, Try.results75, go_sem, r1]) rfl ⟨ep1, A4, N4, c4, Ab, nb, cb, by rw [HQ.out], ?_, ?_, ?_⟩
        · rw [HQ.out]
          have hL : LkR w4 (With2 X w.heap.size) ep1 A4 N4 c4 ⟨l.sane.ep, l.sane.q.take k ++ l.sane.q.drop (k + 1)⟩ := ⟨HLW.out.1, HL4.out⟩
          exact (((hL.set (.inr (.inr rfl)) _).set (.inr (.inr rfl)) _).up (Ext.refl _).drew).fresh fun b hb => .inl (.inl hb)
        · rw [HQ.out]
          exact ((((HBW.out.up HE24.out).set (.inr (.inr rfl)) _).set (.inr (.inr rfl)) _).up (Ext.refl _).drew).fresh fun b hb => .inl (.inl hb)
        · exact (((HEW.out.trans HE24.out).set (Nat.le_add_right _ _) _).set (Nat.le_add_right _ _) _).drew
    · have hft := (HF.out.drop (k := k + 1)).up HE12.out
      go_wp2_with (at_builtin; refine held_out ?_)
      obtain ⟨v4, w4, hrun, hown4, hg4, hat4⟩ := run_append_flat elem_bytes 35 OW2.out (c1 - (k + 1)) hft (fun u hu => HON.out u (List.mem_of_mem_drop hu)) (by omega) (by omega) hzs (fun h => by cases h)
      refine held_in ?_
      refine Lib.wpList_append_run _ rfl _ _ _ _ rfl _ _ rfl rfl v4 w4 hrun ?_
      have HE24 : Hid (Ext W w4) := Lib.hid (Ext.grown HE12.out hg4 OW2.out (Nat.le_refl _))
      obtain ⟨A4, c4, rfl, hL4⟩ := link_of_row (X := With2 X w.heap.size) hown4 (((HQV.out.take k).append (HQV.out.drop (k + 1))).up HE24.out) (with2_lt HX.out hzW)
      have HL4 := Lib.hid hL4
      clear hrun hown4 hg4 hat4 hL4 hft p0 p0f
      have hz4 : w.heap.size + 1 < w4.heap.size := Nat.lt_of_lt_of_le hzW HE24.out.size
      obtain ⟨r0, r0f⟩ := blk_rules ((HE24.out.block (by omega)).trans K0.out)
      obtain ⟨r1, r1f⟩ := blk_rules ((HE24.out.block hzW).trans K1.out)
      have rc := (HE24.out.cell hbW').trans HCW.out
      obtain ⟨N4, hN4⟩ : ∃ N, N = k + (n1 - (k + 1)) := ⟨_, rfl⟩
      simp only [← hN4] at HL4 ⊢
      clear hN4
      have rc0 := (cell_far hbne1 (Value.int IntKind.i64 ep1) (i := 0)).trans rc
      have rc1 := (cell_far hbne1 (Value.slice A4 N4 c4) (i := 1)).trans rc0
      go_wp2_with fail
      go_region
      all_goals
        go_wp2_with fail
        refine bodyPost_ret (v := .tuple #[.agg #[.int .i64 ep1, .slice A4 N4 c4], .slice Ab nb cb, .int .i64 0]) (by simp [results, Try.results75, go_sem, r1]) rfl ⟨ep1, A4, N4, c4, Ab, nb, cb, by rw [HQ.out], ?_, ?_, ?_⟩
        · rw [HQ.out]
          have hL : LkR w4 (With2 X w.heap.size) ep1 A4 N4 c4 ⟨l.sane.ep, l.sane.q.take k ++ l.sane.q.drop (k + 1)⟩ := ⟨HLW.out.1, HL4.out⟩
          exact (((hL.set (.inr (.inr rfl)) _).set (.inr (.inr rfl)) _).up (Ext.refl _).drew).fresh fun b hb => .inl (.inl hb)
        · rw [HQ.out]
          exact ((((HBW.out.up HE24.out).set (.inr (.inr rfl)) _).set (.inr (.inr rfl)) _).up (Ext.refl _).drew).fresh fun b hb => .inl (.inl hb)
        · exact (((HEW.out.trans HE24.out).set (Nat.le_add_right _ _) _).set (Nat.le_add_right _ _) _).drew
end Go.Proofs.Ytjomoannlpadnaa
