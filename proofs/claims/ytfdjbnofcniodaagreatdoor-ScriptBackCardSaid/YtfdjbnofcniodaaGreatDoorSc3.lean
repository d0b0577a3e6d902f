/- What script's Put and one compute. -/
import Derived.Test.YtfdjbnofcniodaaGreatDoorSc2
namespace Go.Proofs.YtfdjbnofcniodaaGreatDoor
set_option linter.unusedVariables false
open Go.RowKit

theorem putS_is {s : Sp} (h : saneS s = 0) : putS s = putS0 s := by unfold putS; rw [if_pos h]
theorem putS_not {s : Sp} (h : saneS s ≠ 0) : putS s = [] := by unfold putS; rw [if_neg h]
theorem putS_len (s : Sp) : (putS s).length ≤ 110000 := by
  by_cases h : saneS s = 0
  · rw [putS_is h]
    have hl := smallS_lens ((saneS_iff s).1 h).small
    have a1 := enc_len (bnd s.kind)
    have a2 := enc_len (bnd s.side)
    have a3 := enc_len (bnd s.way)
    have a4 := enc_len (bnd s.n)
    have a5 := enc_len (bnd s.a.port)
    have a6 := enc_len (bnd s.a.first)
    have a7 := enc_len (bnd s.a.other)
    have b1 := putAll_len s.adds
    have b2 := putKeys_len s.gone
    have c1 := encT_len_tx (s := s.a.host) (k := 40) (by rw [tx_len]; omega)
    have c2 := encT_len_tx (s := s.a.path) (k := 40) (by rw [tx_len]; omega)
    unfold putS0 putSB
    split
    · simp only [List.length_append]; omega
    · split
      · simp only [List.length_append]; omega
      · simp only [List.length_append, List.length_nil]; omega
  · rw [putS_not h]; simp
theorem putSs_len_le (l : List Sp) : (putSs l).length ≤ 110000 * l.length := by
  induction l with
  | nil => simp [putSs]
  | cons s l ih =>
    have := putS_len s
    unfold putSs at ih ⊢
    rw [List.flatMap_cons, List.length_append, List.length_cons]
    omega
theorem putSs_snoc {l : List Sp} {k : Nat} {s : Sp} (h : l[k]? = some s) : putSs (l.take (k + 1)) = putSs (l.take k) ++ putS s := take_flat putS h

set_option maxRecDepth 100000 in
set_option maxHeartbeats 8000000 in
theorem scPut_any (S : Nat → Prop) (l : List Sp) (A : Option Addr) (n c : Nat) (w : World) (hA : SpL S w A n l) (hn : n ≤ 2000) :
    Calls Tryz.prog 57 #[.slice A n c] w (LayD w [] (putSs l)) := by
  have HA := Lib.hid hA
  clear hA
  go_enter Tryz.func57, Tryz.ntmps57
  go_wp2_with fail
  go_loopw [3, 8] (fun v i wr => ∃ (k : Nat) (Ak : Option Addr) (Nk ck : Nat), k ≤ n ∧ i = .int .i64 k ∧ v = .slice Ak Nk ck ∧ Nk ≤ 110000 * k ∧ Hid (BytW w wr Ak Nk ck (putSs (l.take k)))) (fun _ i _ => n - (intOf i).toNat)
  case atStart => exact ⟨0, none, 0, 0, by omega, by go_num, rfl, by omega, Lib.hid ⟨by simpa [putSs] using ArrR.nil_, fun _ => rfl, Nat.le_refl _, Nat.zero_le _, Ext.refl _⟩⟩
  case round =>
    obtain ⟨k, Ak, Nk, ck, hk, rfl, rfl, hNk, HBk⟩ := hrel
    have HX := Lib.hid HBk.out.ext
    by_cases hlt : k < n
    · obtain ⟨b, o, s, B, m, d, B', m', d', rfl, hbB, -, hlk, hv, hc0, hc1, hc2, hc3, hc4, hc5, hc6, hc7, hc8, hc9, hc10⟩ := SpL.at_ HA.out hlt
      have d0 : wr.cell? ⟨b, o + k * 11, none⟩ = some (.int .i64 s.kind) := (HX.out.cell hbB).trans hc0
      have d1 : wr.cell? ⟨b, o + k * 11 + 1, none⟩ = some (.int .i64 s.side) := (HX.out.cell hbB).trans hc1
      have d2 : wr.cell? ⟨b, o + k * 11 + 2, none⟩ = some (.int .i64 s.way) := (HX.out.cell hbB).trans hc2
      have d3 : wr.cell? ⟨b, o + k * 11 + 3, none⟩ = some (.int .i64 s.n) := (HX.out.cell hbB).trans hc3
      have d4 : wr.cell? ⟨b, o + k * 11 + 4, none⟩ = some (.slice B m d) := (HX.out.cell hbB).trans hc4
      have d5 : wr.cell? ⟨b, o + k * 11 + 5, none⟩ = some (.slice B' m' d') := (HX.out.cell hbB).trans hc5
      have d6 : wr.cell? ⟨b, o + k * 11 + 6, none⟩ = some (.int .i64 s.a.port) := (HX.out.cell hbB).trans hc6
      have d7 : wr.cell? ⟨b, o + k * 11 + 7, none⟩ = some (.string s.a.host) := (HX.out.cell hbB).trans hc7
      have d8 : wr.cell? ⟨b, o + k * 11 + 8, none⟩ = some (.string s.a.path) := (HX.out.cell hbB).trans hc8
      have d9 : wr.cell? ⟨b, o + k * 11 + 9, none⟩ = some (.int .i64 s.a.first) := (HX.out.cell hbB).trans hc9
      have d10 : wr.cell? ⟨b, o + k * 11 + 10, none⟩ = some (.int .i64 s.a.other) := (HX.out.cell hbB).trans hc10
      have HL := Lib.hid hlk
      have HV := Lib.hid hv
      have i1 : (0 : Int) ≤ (k : Int) := by omega
      have i2 : (k : Int) < (n : Int) := by omega
      clear hlk hv hc0 hc1 hc2 hc3 hc4 hc5 hc6 hc7 hc8 hc9 hc10
      go_wp2_with fail
      clear d0 d1 d2 d3 d4 d5 d6 d7 d8 d9 d10
      refine (scSane_any S s B m d B' m' d' _ (HV.out.up (HX.out.alloc _))).mono ?_
      rintro e w1 ⟨rfl, hb1⟩
      have K1 := Lib.hid (boxS_up hb1)
      have HB1 := Lib.hid (HBk.out.up ((Ext.new wr (.cells #[.int .i64 s.kind, .int .i64 s.side, .int .i64 s.way, .int .i64 s.n, .slice B m d, .slice B' m' d', .int .i64 s.a.port, .string s.a.host, .string s.a.path, .int .i64 s.a.first, .int .i64 s.a.other] 82)).trans hb1))
      obtain ⟨Z, hZ⟩ : ∃ Z, Z = saneS s := ⟨_, rfl⟩
      rw [← hZ]
      have HZ := Lib.hid hZ
      clear hZ hb1
      by_cases hs : Z = 0
      · have hz1 : (Z == 0) = true := by simpa using hs
        have HS : Hid (saneS s = 0) := Lib.hid (by rw [← HZ.out]; exact hs)
        clear hs
        obtain ⟨q0, q1⟩ := blk_rules K1.out
        go_wp2_with fail
        clear q0 q1
        refine (scLay_any S s B m d B' m' d' Ak Nk ck _ _ (HV.out.up HB1.out.ext) HS.out HB1.out.byts HB1.out.nil HB1.out.nc HB1.out.cm (by omega)).mono ?_
        rintro e w2 ⟨A2, N2, c2, rfl, h2⟩
        have HB2 : Hid (BytW w w2 A2 N2 c2 (putSs (l.take (k + 1)))) := Lib.hid (by
          rw [putSs_snoc HL.out, putS_is HS.out]
          exact ⟨h2.byts, h2.nil, h2.nc, h2.cm, HB1.out.ext.trans h2.ext⟩)
        have hN2 : N2 ≤ 110000 * (k + 1) := by
          have h8 := HB2.out.byts.len
          have h9 := putSs_len_le (l.take (k + 1))
          rw [List.length_take] at h9
          have : min (k + 1) l.length ≤ k + 1 := Nat.min_le_left _ _
          omega
        clear h2
        go_wp2_with fail
        go_roundw
        case rel => exact ⟨k + 1, A2, N2, c2, by omega, by go_num, rfl, hN2, HB2⟩
        case measure => simp [intOf]; omega
      · have hz1 : (Z == 0) = false := by simpa using hs
        have HB2 : Hid (BytW w w1 Ak Nk ck (putSs (l.take (k + 1)))) := Lib.hid (by
          rw [putSs_snoc HL.out, putS_not (by rw [← HZ.out]; exact hs), List.append_nil]
          exact HB1.out)
        clear hs
        go_wp2_with fail
        go_roundw
        case rel => exact ⟨k + 1, Ak, Nk, ck, by omega, by go_num, rfl, by omega, HB2⟩
        case measure => simp [intOf]; omega
    · have HT : Hid (l.take k = l) := Lib.hid (List.take_of_length_le (by have := HA.out.len; omega))
      go_wp2_with fail
      go_ret
      have h9 := HBk.out
      rw [HT.out] at h9
      exact LayD.mk h9 rfl

theorem oneB_nil : oneB [] = 0 := rfl
theorem oneB_of {b : List UInt8} {u : UInt8} (h : b[0]? = some u) : oneB b = u.toNat := by
  cases b with
  | nil => simp at h
  | cons x l => simp at h; subst h; rfl
set_option maxRecDepth 100000 in
set_option maxHeartbeats 2000000 in
theorem scOne_any (g : Nat) (rd : Rd) (w : World) (h : RdAt w g rd) : Calls Tryz.prog 126 #[.pointer (some ⟨g, 0, none⟩)] w (RdPost w g ⟨rd.b.drop 1, rd.e⟩ (.int .i64 (oneB rd.b : Nat))) := by
  have H := Lib.hid h
  obtain ⟨A, n, c, hg, hA, hnc, hcm, hB, ho⟩ := h
  obtain ⟨g0, g1⟩ := blk_rules hg
  have hlen := hB.len
  obtain ⟨r2, hr2⟩ : ∃ r2, r2 = (⟨rd.b.drop 1, rd.e⟩ : Rd) := ⟨_, rfl⟩
  rw [← hr2]
  have H2 := Lib.hid hr2
  clear hr2
  rcases Nat.eq_zero_or_pos n with hn | hn
  · subst hn
    have hb : rd.b = [] := List.eq_nil_of_length_eq_zero hlen
    have HE : Hid (RdPost w g r2 (.int .i64 (oneB rd.b : Nat)) (.returned (.int .i64 0)) w) := Lib.hid ⟨by rw [hb]; rfl, by rw [H2.out, hb]; have := H.out; rwa [show rd = ⟨[], rd.e⟩ from by cases rd; simp at hb; subst hb; rfl] at this, Only.refl g w⟩
    clear hg hB ho hA hb hlen
    go_enter Tryz.func126, Tryz.ntmps126
    go_wp2_with fail
    go_ret
    exact HE.out
  · obtain ⟨b, o, u, rfl, hbl, hu, hcu⟩ := Byts.at_ hB hn
    have HU := Lib.hid (oneB_of hu)
    have hu8 : (u.toNat : Int) < 256 := by have := u.toNat_lt; omega
    have hu9 : (0 : Int) ≤ (u.toNat : Int) := by omega
    have hw : wrap64 (u.toNat : Int) = (u.toNat : Int) := by unfold wrap64; omega
    rw [Nat.add_zero] at hcu
    have HO : Hid (Only g w (w.setCell ⟨g, 0, none⟩ (if c = 1 then .slice (some ⟨b, o, none⟩) 0 0 else .slice (some ⟨b, o + 1, none⟩) (n - 1) (c - 1)))) := Lib.hid ((Only.refl g w).set _ _)
    by_cases hc1 : c = 1
    · obtain rfl : n = 1 := by omega
      subst hc1
      have HE : Hid (RdAt (w.setCell ⟨g, 0, none⟩ (.slice (some ⟨b, o, none⟩) 0 0)) g r2) := Lib.hid (by rw [H2.out]; exact RdAt.setB0 hg hB)
      clear hg hB ho hA hu hlen HO
      go_enter Tryz.func126, Tryz.ntmps126
      go_wp2_with fail
      go_ret
      exact ⟨ret_int (by first | (rw [HU.out]; done) | (rw [HU.out]; exact hw)), HE.out, (Only.refl g w).set _ _⟩
    · have HE : Hid (RdAt (w.setCell ⟨g, 0, none⟩ (.slice (some ⟨b, o + 1, none⟩) (n - 1) (c - 1))) g r2) := Lib.hid (by rw [H2.out]; exact RdAt.setB hg hnc hcm hB ho hn)
      clear hg hB ho hA hu hlen HO
      go_enter Tryz.func126, Tryz.ntmps126
      go_wp2_with fail
      go_ret
      exact ⟨ret_int (by first | (rw [HU.out]; done) | (rw [HU.out]; exact hw)), HE.out, (Only.refl g w).set _ _⟩
end Go.Proofs.YtfdjbnofcniodaaGreatDoor
