/- What package stream's Feed computes. -/
import Derived.Test.YtjomoannlpadnaaStreamIter
import Derived.Test.YtjomoannlpadnaaRange2
import Derived.Outline
namespace Go.Proofs.Ytjomoannlpadnaa
set_option linter.unusedVariables false
open Go.RowKit Go.Shelf
attribute [local go_sem] Oper.semAt_some
attribute [local go_sem ↓] run_max2 run_min2

/-- two slices of bytes laid into a row of two, put together -/
theorem concat_two {w : World} {A Ab : Option Addr} {n c nb cb : Nat} {bs ds : List UInt8} (hA : Byts w A n bs) (hc : A = none → c = 0) (hB : Byts w Ab nb ds) (hcb : Ab = none → cb = 0) (hs : n + nb ≤ 1000000) :
    Calls Try.prog 81 #[.slice (some ⟨w.heap.size, 0, none⟩) 2 2] (w.alloc (.cells #[.slice A n c, .slice Ab nb cb] 42)) fun e w' => ∃ A' c', e = .returned (.slice A' (n + nb) c') ∧ Own8 w.heap.size w' A' (n + nb) c' (bs ++ ds) ∧ Ext w w' := by
  have e1 : [bs.map byteV, ds.map byteV].flatten = (bs ++ ds).map byteV := by simp
  have el : ([bs.map byteV, ds.map byteV].flatten).length = n + nb := by rw [e1, List.length_map, List.length_append, hA.len, hB.len]
  have hrow : ArrR (w.alloc (.cells #[.slice A n c, .slice Ab nb cb] 42)) 1 (fun cs p => cs = [Value.slice p.1 p.2.1 p.2.2]) (some ⟨w.heap.size, 0, none⟩) 2 [((A, n, c) : Option Addr × Nat × Nat), (Ab, nb, cb)] := by
    refine ArrR.of_block (heap_alloc_new w _) rfl fun k x hx => ?_
    match k, hx with
    | 0, hx => cases hx; exact ⟨_, rfl, rfl, fun j u hu => by match j, hu with | 0, hu => exact hu⟩
    | 1, hx => cases hx; exact ⟨_, rfl, rfl, fun j u hu => by match j, hu with | 0, hu => exact hu⟩
  refine (concat_bytes _ _ _ _ [bs.map byteV, ds.map byteV] _ hrow rfl (fun i p hp => ?_) (by rw [el]; omega) (by omega)).mono fun e w' ⟨v, he, hown, hx⟩ => ?_
  · match i, hp with
    | 0, hp => cases hp; exact ⟨hc, _, rfl, (ArrR.flat (f := byteV) hA).up (Ext.new _ _), byteV_one bs⟩
    | 1, hp => cases hp; exact ⟨hcb, _, rfl, (ArrR.flat (f := byteV) hB).up (Ext.new _ _), byteV_one ds⟩
  · rw [el, e1] at hown
    obtain ⟨A', c', rfl, h8⟩ := Own8.of_own hown
    exact ⟨A', c', he, ⟨h8.1, h8.2.1, h8.2.2.1, h8.2.2.2.1, fun b o e => by have := h8.2.2.2.2 b o e; simp at this; omega⟩, (Ext.new _ _).trans hx⟩

/-- what Feed gives: a stream, the texts that have come -/
def FeedPost (w : World) (D : Bf × List (List UInt8)) (e : Ending) (w' : World) : Prop :=
  ∃ A n c v, e = .returned (.tuple #[.agg #[.slice A n c, .int .i64 D.1.bad], v]) ∧ Elem w' (fun b => b < w.heap.size ∨ v.ownBlock = some b) (.slice A n c) D.1.rest ∧ (∃ base F, w.heap.size ≤ base ∧ (∀ b, b < w.heap.size → F b) ∧ Outs w' base 42 F v D.2) ∧ Ext w w'

set_option maxRecDepth 100000 in
set_option maxHeartbeats 4000000 in
theorem feed_good (A Ab : Option Addr) (n c nb cb : Nat) (x : Bf) (bs : List UInt8) (w : World) (hA : Byts w A n x.rest) (hc : A = none → c = 0) (hnc : n ≤ c) (hcm : c ≤ 9223372036854775807) (hB : Byts w Ab nb bs) (hcb : Ab = none → cb = 0) (hnb : n + nb ≤ 1000000)
    (hs : x.sane = true) (h0 : x.bad = 0) :
    Calls Try.prog 57 #[.agg #[.slice A n c, .int .i64 x.bad], .slice Ab nb cb] w (FeedPost w (x.feed bs)) := by
  refine (callsIn_wide (n := 5)).1 ?_
  have HA := Lib.hid hA
  have HB := Lib.hid hB
  have HS := Lib.hid hs
  have H0 := Lib.hid h0
  have hb0 : (x.bad == 0) = true := by simpa using h0
  clear h0
  clear hA hB hs
  refine callsIn_of_wp_marks Try.func57 rfl trivial ?_ rfl
  simp only [Try.ntmps57, List.size_toArray, List.length_cons, List.length_nil, Nat.reduceAdd, Nat.reduceSub, Array.replicate_succ, Array.replicate_zero, List.push_toArray, List.append_toArray, List.nil_append, List.cons_append]
  gi_wp2
  refine ⟨trivial, ?_⟩
  refine (callsIn_wide.2 (streamSane_any A n c x _ (ArrR.up HA.out ((Ext.new _ _).alloc _)) hc hnc hcm)).mono ?_
  rintro e w1 ⟨rfl, hb1⟩
  rw [HS.out]
  obtain ⟨hx0, hy0, hx1, hy1, hz1⟩ := box2 hb1
  have HK := Lib.hid (box2b hb1)
  have HE := Lib.hid (((Ext.new w _).alloc _).trans hb1)
  clear hb1
  gi_wp2
  refine ⟨trivial, ?_⟩
  refine (callsIn_wide.2 (concat_two (ArrR.up HA.out HE.out) hc (ArrR.up HB.out HE.out) hcb hnb)).mono ?_
  rintro e w2 ⟨A2, c2, rfl, h8, hb2⟩
  have H8 := Lib.hid h8
  have k0 := (hb2.block (Nat.lt_trans (Nat.lt_succ_self _) hz1)).trans HK.out.1
  have k1 := (hb2.block hz1).trans HK.out.2.1
  have K0 := Lib.hid k0
  have K1 := Lib.hid k1
  obtain ⟨q0, q1⟩ := blk_rules k0
  have hz2 : w.heap.size + 1 < w2.heap.size := Nat.lt_of_lt_of_le hz1 hb2.size
  have HB2 := Lib.hid hb2
  clear h8 hb2 k0 k1 hx0 hy0 hx1 hy1
  gi_wp2
  obtain ⟨wz, hwz⟩ : ∃ wz, wz = w2.setCell ⟨w.heap.size, 0, none⟩ (.slice A2 (n + nb) c2) := ⟨_, rfl⟩
  rw [← hwz]
  have hGs : wz.heap.size = w2.heap.size := by rw [hwz]; simp [World.setCell]
  obtain ⟨G, hG⟩ : ∃ G, G = w2.heap.size := ⟨_, rfl⟩
  rw [← hG]
  have HG : Hid (wz.heap.size = G) := Lib.hid (by omega)
  have HZZ : Hid (w.heap.size + 1 < wz.heap.size) := Lib.hid (by omega)
  have hGz : w.heap.size + 1 < G := by omega
  obtain ⟨N2, hN2⟩ : ∃ N2, N2 = n + nb := ⟨_, rfl⟩
  obtain ⟨rest2, hrest2⟩ : ∃ rest2, rest2 = x.rest ++ bs := ⟨_, rfl⟩
  obtain ⟨bad2, hbad2⟩ : ∃ bad2 : Int, bad2 = x.bad := ⟨_, rfl⟩
  have Z0 : Hid (wz.heap[w.heap.size]? = some (.cells #[.slice A2 N2 c2, .int .i64 bad2] 86 (0, 0))) := Lib.hid (by rw [hwz, hN2, hbad2]; exact blk_set K0.out _)
  have Z1 : Hid (wz.heap[w.heap.size + 1]? = some (.cells #[.slice none 0 0, .int .i64 0] 86 (0, 0))) := Lib.hid (by rw [hwz]; exact (blk_far (by omega) _).trans K1.out)
  have ZE : Hid (Elem wz (fun b => (b = w.heap.size ∨ b = w.heap.size + 1) ∨ b < w.heap.size) (.slice A2 N2 c2) rest2) := Lib.hid (by
    have h1 : Elem w2 (fun b => (b = w.heap.size ∨ b = w.heap.size + 1) ∨ b < w.heap.size) (.slice A2 (n + nb) c2) (x.rest ++ bs) := H8.out.elem (fun b hb => by omega)
    rw [hwz, hN2, hrest2]
    exact h1.but (grownBy_set w2 w.heap.size 0 _) (fun b e => by injection e with e; exact .inl (.inl e.symm)))
  have EZ : Hid (Ext w wz) := Lib.hid (by rw [hwz]; exact (HE.out.trans HB2.out).set (Nat.le_refl _) _)
  obtain ⟨D, hD⟩ : ∃ D, D = ((drain rest2).1, (drain rest2).2) := ⟨_, rfl⟩
  have HDN : Hid (Dn D [] ⟨rest2, bad2⟩) := Lib.hid (.inl ⟨(hbad2.trans H0.out), hD⟩)
  have HCNT : Hid (D.1.length ≤ 1000000) := Lib.hid (by
    have h3 := drain_count _ rest2 (Nat.le_refl _)
    rw [hD]
    simp only []
    rw [hrest2] at h3 ⊢
    have h4 := HB.out.len
    have h5 := HA.out.len
    have h6 : ([] : List UInt8).length = 0 := rfl
    simp only [List.length_append] at h3
    omega)
  have HFD : Hid (x.feed bs = (D.2, D.1)) := Lib.hid (by
    unfold Bf.feed
    rw [Bf.norm_sane HS.out, if_pos H0.out, hD, hrest2])
  clear hwz hGs hG hN2 hrest2 hbad2 hD q0 q1 hz1 hz2 K0 K1 H8
  obtain ⟨W3, hW3⟩ : ∃ W3, W3 = wz.alloc (.cells #[.slice none 0 0] 35) := ⟨_, rfl⟩
  rw [← hW3]
  have hs3 : W3.heap.size = G + 1 := by rw [hW3]; simp [HG.out]
  have E3 : Ext wz W3 := by rw [hW3]; exact Ext.new _ _
  have e2 : W3.heap[G]? = some (.cells #[.slice none 0 0] 35 (0, 0)) := by
    rw [hW3, ← HG.out]; exact heap_alloc_new wz _
  clear hW3
  refine ⟨trivial, ?_⟩
  refine (callsIn_wide.2 (come_any w.heap.size W3)).mono ?_
  rintro e w4 ⟨rfl, hw4⟩
  have hs4 : w4.heap.size = G + 2 := by rw [hw4]; simp [hs3]
  have E4 : Ext W3 w4 := by rw [hw4]; exact Ext.new _ _
  have e3 : w4.heap[G + 1]? = some (.cells #[.pointer (some ⟨w.heap.size, 0, none⟩)] 127 (0, 0)) := by
    rw [hw4]
    have := heap_alloc_new W3 (.cells #[.pointer (some ⟨w.heap.size, 0, none⟩)] 127)
    rw [hs3] at this
    exact this
  have b0 := ((E3.trans E4).block (show w.heap.size < wz.heap.size by have := HZZ.out; omega)).trans Z0.out
  have b1 := ((E3.trans E4).block (show w.heap.size + 1 < wz.heap.size from HZZ.out)).trans Z1.out
  have b2 := (E4.block (show G < W3.heap.size by omega)).trans e2
  rw [hs3]
  have HI : Hid (FI w ⟨w.heap.size, G + 1, G, w.heap.size + 1, w.heap.size⟩ (G + 2) (.slice none 0 0) [] ⟨rest2, bad2⟩ w4) := Lib.hid
    { buf := ⟨A2, N2, c2, b0, ((ZE.out.weak (fun b hb => by
        rcases hb with hb | hb
        · rcases hb with hb | hb | hb | hb | hb
          · exact .inl (.inl (.inl hb))
          · exact .inr (by rw [hb]; show wz.heap.size ≤ G + 1; rw [HG.out]; exact Nat.le_succ _)
          · exact .inr (Nat.le_of_eq (HG.out.trans hb.symm))
          · exact .inl (.inl (.inr hb))
          · exact .inl (.inr hb)
        · cases hb)).up (E3.trans E4))⟩
      ptr := e3
      out := b2
      res := b1
      row := Outs.nil_
      ext := EZ.out.trans (E3.trans E4)
      sz := Nat.le_of_eq hs4.symm }
  clear hw4 e2 e3 b0 b1 b2 E3 E4
  gi_wp2
  obtain ⟨B, hBx⟩ : ∃ B : Bx, B = ⟨w.heap.size, G + 1, G, w.heap.size + 1, w.heap.size⟩ := ⟨_, rfl⟩
  have Hgo : Hid (G = B.go) := Lib.hid (by rw [hBx])
  have Hgb : Hid (w.heap.size = B.gb) := Lib.hid (by rw [hBx])
  have Hgr : Hid (w.heap.size + 1 = B.gr) := Lib.hid (by rw [hBx])
  have Hgp : Hid (G + 1 = B.gp) := Lib.hid (by rw [hBx])
  have Hlo : Hid (B.lo = w.heap.size) := Lib.hid (by rw [hBx])
  have hOk : B.Ok (G + 2) := by rw [hBx]; have := HG.out; have := HZZ.out; constructor <;> simp only [] <;> omega
  rw [← hBx] at HI
  have HS4 := Lib.hid hs4
  clear hBx hs3 hs4
  have HZ2 : Hid (w.heap.size ≤ G + 2) := Lib.hid (by have := EZ.out.size; have := HG.out; omega)
  have HF : Hid (w.heap.size ≤ B.go) := Lib.hid (by have h3 := Hgo.out; have h5 := EZ.out.size; have h6 := HG.out; omega)
  refine range_law (α := Yd) (n := 4) (gf := 87) (lb := #[.pointer (some ⟨G + 1, 0, none⟩)]) rfl (enters_of Try.func87 (by kernel_rfl) rfl) Yd.enc (fun _ => rfl)
    (FJ0 w B (G + 2) D ⟨rest2, bad2⟩) (FJy w B (G + 2) D) (FJ1 w B (G + 2) D) (FJd w B (G + 2) D) (fun _ _ => False)
    ?s0 ?sy ?s1 ?sd ?sx ?a1 ?h0 ?assign ?body ?iter ?done ?stop
  case assign =>
    intro l y W K hK
    dsimp only [Yd.enc]
    gi_wp2
    exact hK
  case s0 =>
    rintro W l o o' ⟨v, hI, hD⟩ hl ho hc
    exact ⟨v, FI.stab (by have := HS4.out; have := HZ2.out; omega) W l o o' hI hl ho hc, hD⟩
  case sy =>
    rintro y W l o o' ⟨v, q, hI, hE, hD⟩ hl ho hc
    exact ⟨v, q, FI.stab (by have := HS4.out; have := HZ2.out; omega) W l o o' hI hl ho hc, hE.same (SameCells.putObj ho hc o'), hD⟩
  case s1 =>
    rintro y W l o o' ⟨v, q, hI, hD⟩ hl ho hc
    exact ⟨v, q, FI.stab (by have := HS4.out; have := HZ2.out; omega) W l o o' hI hl ho hc, hD⟩
  case sd =>
    rintro W l o o' ⟨v, hI⟩ hl ho hc
    exact ⟨v, FI.stab (by have := HS4.out; have := HZ2.out; omega) W l o o' hI hl ho hc⟩
  case sx => exact fun _ _ _ _ _ h => h.elim
  case h0 => exact fun W hx _ => ⟨_, HI.out.up hx, HDN.out⟩
  case iter =>
    have h := come_iter 4 w B (G + 2) w4.heap.size D ⟨rest2, bad2⟩ hOk (Nat.le_of_eq Hgb.out) (Nat.le_of_eq HS4.out.symm)
    rw [← Hgp.out] at h
    exact h
  case stop => exact fun _ _ h => h.elim
  case body =>
    rintro l y W ⟨v, q, hI, hE, hD⟩
    have hlen : q.length + 1 ≤ 1000001 := by
      have h1 := congrArg (fun d => d.1.length) hD
      have h3 := HCNT.out
      simp only [List.length_append, List.length_cons] at h1
      omega
    obtain ⟨vs, hov, hels⟩ := hI.row
    have hvl : vs.length = q.length := by have := hov.1; omega
    have c0 : W.cell? ⟨G, 0, none⟩ = some v := by rw [Hgo.out]; exact (blk_rules hI.out).1 0
    have hsz := hI.sz
    have HIh := Lib.hid hI
    have HEh := Lib.hid hE
    have HDh := Lib.hid hD
    have HOV := Lib.hid hov
    have HELS := Lib.hid hels
    clear hI hE hD hov hels
    have f0 : W.frozen? ⟨G, 0, none⟩ = false := by rw [Hgo.out]; exact (blk_rules HIh.out.out).2 0
    gi_wp2_with (gi_at_builtin
                 obtain ⟨v', w5, hrun, hown', hg', hat⟩ := run_append_flat elem_bytes 35 (own_up HOV.out (Ext.new W (.cells #[.slice y.A y.n y.c] 42))) 1 (flat_one W (.slice y.A y.n y.c) 42) (by simp [Value.oneCell']) (by omega) (by omega) (by simp; omega) (fun h => by cases h)
                 obtain ⟨hF5, hK5, hgo5⟩ := HIh.out.push hOk HF.out HZ2.out HOV.out HELS.out hvl HEh.out hown' hg' hat
                 have HF5 := Lib.hid hF5
                 have HK5 := Lib.hid hK5
                 have d0 : w5.cell? ⟨G, 0, none⟩ = some v := by rw [Hgo.out]; exact (blk_rules hgo5).1 0
                 have d1 : w5.frozen? ⟨G, 0, none⟩ = false := by rw [Hgo.out]; exact (blk_rules hgo5).2 0
                 obtain ⟨A5, c5, rfl, _⟩ := own_flat hown'
                 refine inAppend_run rfl _ _ _ _ rfl rfl rfl hrun ?_
                 clear hrun hown' hg' hat hF5 hK5 hgo5)
    refine ⟨?_, ?_⟩
    · rw [← Hgo.out] at HK5; exact HK5.out
    · rw [← Hgo.out] at HF5
      have hdn : D = ((q ++ [y.p]) ++ (drain y.rest).1, (drain y.rest).2) := by rw [HDh.out, List.append_assoc]; rfl
      exact ⟨_, _, HF5.out, .inl ⟨rfl, hdn⟩⟩
  case done =>
    rintro W ⟨v, hI⟩ hK
    obtain ⟨A6, n6, c6, h6, hel6⟩ := hI.buf
    obtain ⟨z0, z1⟩ := blk_rules h6
    obtain ⟨r0, r1⟩ := blk_rules hI.res
    have o0 := (blk_rules hI.out).1 0
    rw [← Hgb.out] at z0 z1
    rw [← Hgr.out] at r0 r1
    rw [← Hgo.out] at o0
    have HIh := Lib.hid hI
    have HEL := Lib.hid hel6
    have HKD := Lib.hid hK
    clear hI hel6 hK h6
    gi_wp2
    gi_region
    all_goals
      gi_wp2
      obtain ⟨W6, hW6⟩ : ∃ W6, W6 = ((W.setCell ⟨w.heap.size + 1, 0, none⟩ (.slice A6 n6 c6)).setCell ⟨w.heap.size + 1, 1, none⟩ (.int .i64 D.2.bad)).drew := ⟨_, rfl⟩
      rw [← hW6]
      have k6 : KeepsOthers W W6 := by rw [hW6]; exact ((KeepsOthers.setCell _ _ _).trans (KeepsOthers.setCell _ _ _)).trans (KeepsOthers.drew _)
      have hK6 := k6.same _ _ HKD.out rfl
      have hI6 : FI w B (G + 2) v D.1 D.2 W → True := fun _ => trivial
      have g6 : W6.heap[w.heap.size + 1]? = some (.cells #[.slice A6 n6 c6, .int .i64 D.2.bad] 86 (0, 0)) := by
        have h := HIh.out.res
        rw [← Hgr.out] at h
        rw [hW6]; exact blk_set (blk_set h _) _
      have e6 : Elem W6 (RowF B.F v) (.slice A6 n6 c6) D.2.rest := by
        have hX : ∀ b, some (w.heap.size + 1) = some b → RowF B.F v b := fun b e => by injection e with e; exact .inl (.inr (.inr (.inr (.inl (by rw [← e]; exact Hgr.out)))))
        rw [hW6]; exact ((HEL.out.but (grownBy_set _ _ _ _) hX).but (grownBy_set _ _ _ _) hX).up (Ext.refl _).drew
      have o6 : Outs W6 (G + 2) 42 B.F v D.1 := by
        have hF : B.F (w.heap.size + 1) := .inr (.inr (.inr (.inl Hgr.out)))
        rw [hW6]; exact ((HIh.out.row.set hF (by rw [Hgr.out]; exact hOk.b4) 0 _).set hF (by rw [Hgr.out]; exact hOk.b4) 1 _).up (Ext.refl _).drew
      have x6 : Ext w W6 := by rw [hW6]; exact ((HIh.out.ext.set (Nat.le_succ _) _).set (Nat.le_succ _) _).drew
      have s6 := SameCells.putObj hK6 rfl (.deferred none)
      have g7 := s6.same _ _ _ _ g6
      refine ⟨by simp, .inl ⟨_, _, rfl, run_takeDeferred hK6, ?_⟩⟩
      have q7 := (blk_rules g7).1
      refine ⟨_, show (results _ _).run _ _ = .ok (.tuple #[.agg #[.slice A6 n6 c6, .int .i64 D.2.bad], v]) _ from (by simp [results, Try.results57, go_sem, q7]), ?_⟩
      refine ⟨A6, n6, c6, v, by rw [HFD.out], ?_, ⟨G + 2, B.F, HZ2.out, fun b hb => .inr (.inr (.inr (.inr (by rw [Hlo.out]; exact hb)))), ?_⟩, ?_⟩
      · rw [HFD.out]; exact (e6.same s6).weak (fun b h => .inl (h.elim (fun h => .inl (.inr (.inr (.inr (.inr (by rw [Hlo.out]; exact h)))))) .inr))
      · rw [HFD.out]; exact o6.same s6
      · exact x6.putObj (by have := HS4.out; have := HZ2.out; omega) _
set_option maxRecDepth 100000 in
set_option maxHeartbeats 4000000 in
theorem feed_bad (A Ab : Option Addr) (n c nb cb : Nat) (x : Bf) (bs : List UInt8) (w : World) (hA : Byts w A n x.rest) (hc : A = none → c = 0) (hnc : n ≤ c) (hcm : c ≤ 9223372036854775807) (hB : Byts w Ab nb bs) (_hcb : Ab = none → cb = 0) (_hnb : n + nb ≤ 1000000)
    (hs : x.sane = true) (h0 : x.bad ≠ 0) :
    Calls Try.prog 57 #[.agg #[.slice A n c, .int .i64 x.bad], .slice Ab nb cb] w (FeedPost w (x.feed bs)) := by
  refine (callsIn_wide (n := 5)).1 ?_
  have HA := Lib.hid hA
  have HB := Lib.hid hB
  have HS := Lib.hid hs
  have H0 := Lib.hid h0
  have hb0 : (x.bad == 0) = false := by simpa using h0
  clear h0
  clear hA hB hs
  refine callsIn_of_wp_marks Try.func57 rfl trivial ?_ rfl
  simp only [Try.ntmps57, List.size_toArray, List.length_cons, List.length_nil, Nat.reduceAdd, Nat.reduceSub, Array.replicate_succ, Array.replicate_zero, List.push_toArray, List.append_toArray, List.nil_append, List.cons_append]
  gi_wp2
  refine ⟨trivial, ?_⟩
  refine (callsIn_wide.2 (streamSane_any A n c x _ (ArrR.up HA.out ((Ext.new _ _).alloc _)) hc hnc hcm)).mono ?_
  rintro e w1 ⟨rfl, hb1⟩
  rw [HS.out]
  obtain ⟨hx0, hy0, hx1, hy1, hz1⟩ := box2 hb1
  have HK := Lib.hid (box2b hb1)
  have HE := Lib.hid (((Ext.new w _).alloc _).trans hb1)
  clear hb1
  gi_wp2
  obtain ⟨wz, hwz⟩ : ∃ wz, wz = w1 := ⟨_, rfl⟩
  rw [← hwz]
  obtain ⟨G, hG⟩ : ∃ G, G = w1.heap.size := ⟨_, rfl⟩
  rw [← hwz] at hG
  rw [← hG]
  have HG : Hid (wz.heap.size = G) := Lib.hid hG.symm
  have HZZ : Hid (w.heap.size + 1 < wz.heap.size) := Lib.hid (by rw [hwz]; exact hz1)
  have hGz : w.heap.size + 1 < G := by have := HZZ.out; omega
  obtain ⟨A2, hA2⟩ : ∃ A2, A2 = A := ⟨_, rfl⟩
  obtain ⟨N2, hN2⟩ : ∃ N2, N2 = n := ⟨_, rfl⟩
  obtain ⟨c2, hc2⟩ : ∃ c2, c2 = c := ⟨_, rfl⟩
  obtain ⟨rest2, hrest2⟩ : ∃ rest2, rest2 = x.rest := ⟨_, rfl⟩
  obtain ⟨bad2, hbad2⟩ : ∃ bad2 : Int, bad2 = x.bad := ⟨_, rfl⟩
  have hrn : x.rest = [] := by
    have h := HS.out
    unfold Bf.sane at h
    rw [if_neg H0.out] at h
    exact List.eq_nil_of_length_eq_zero (of_decide_eq_true h)
  have hn0 : n = 0 := by have := HA.out.len; rw [hrn] at this; simpa using this.symm
  have Z0 : Hid (wz.heap[w.heap.size]? = some (.cells #[.slice A2 N2 c2, .int .i64 bad2] 86 (0, 0))) := Lib.hid (by rw [hwz, hA2, hN2, hc2, hbad2]; exact HK.out.1)
  have Z1 : Hid (wz.heap[w.heap.size + 1]? = some (.cells #[.slice none 0 0, .int .i64 0] 86 (0, 0))) := Lib.hid (by rw [hwz]; exact HK.out.2.1)
  have ZE : Hid (Elem wz (fun b => (b = w.heap.size ∨ b = w.heap.size + 1) ∨ b < w.heap.size) (.slice A2 N2 c2) rest2) := Lib.hid (by
    rw [hA2, hN2, hc2, hrest2, hrn, hn0]
    exact ⟨A, 0, c, rfl, hc, Nat.zero_le _, hcm, ArrR.nil_, fun h => absurd h (by omega)⟩)
  have EZ : Hid (Ext w wz) := Lib.hid (by rw [hwz]; exact HE.out)
  obtain ⟨D, hD⟩ : ∃ D : List (List UInt8) × Bf, D = ([], ⟨rest2, bad2⟩) := ⟨_, rfl⟩
  have HDN : Hid (Dn D [] ⟨rest2, bad2⟩) := Lib.hid (.inr ⟨by rw [hbad2]; exact H0.out, hD⟩)
  have HCNT : Hid (D.1.length ≤ 1000000) := Lib.hid (by rw [hD]; simp)
  have HFD : Hid (x.feed bs = (D.2, D.1)) := Lib.hid (by
    unfold Bf.feed
    rw [Bf.norm_sane HS.out, if_neg H0.out, hD, hrest2, hbad2])
  clear hwz hG hN2 hA2 hc2 hrest2 hbad2 hD hx0 hy0 hx1 hy1 hz1 hrn hn0
  obtain ⟨W3, hW3⟩ : ∃ W3, W3 = wz.alloc (.cells #[.slice none 0 0] 35) := ⟨_, rfl⟩
  rw [← hW3]
  have hs3 : W3.heap.size = G + 1 := by rw [hW3]; simp [HG.out]
  have E3 : Ext wz W3 := by rw [hW3]; exact Ext.new _ _
  have e2 : W3.heap[G]? = some (.cells #[.slice none 0 0] 35 (0, 0)) := by
    rw [hW3, ← HG.out]; exact heap_alloc_new wz _
  clear hW3
  refine ⟨trivial, ?_⟩
  refine (callsIn_wide.2 (come_any w.heap.size W3)).mono ?_
  rintro e w4 ⟨rfl, hw4⟩
  have hs4 : w4.heap.size = G + 2 := by rw [hw4]; simp [hs3]
  have E4 : Ext W3 w4 := by rw [hw4]; exact Ext.new _ _
  have e3 : w4.heap[G + 1]? = some (.cells #[.pointer (some ⟨w.heap.size, 0, none⟩)] 127 (0, 0)) := by
    rw [hw4]
    have := heap_alloc_new W3 (.cells #[.pointer (some ⟨w.heap.size, 0, none⟩)] 127)
    rw [hs3] at this
    exact this
  have b0 := ((E3.trans E4).block (show w.heap.size < wz.heap.size by have := HZZ.out; omega)).trans Z0.out
  have b1 := ((E3.trans E4).block (show w.heap.size + 1 < wz.heap.size from HZZ.out)).trans Z1.out
  have b2 := (E4.block (show G < W3.heap.size by omega)).trans e2
  rw [hs3]
  have HI : Hid (FI w ⟨w.heap.size, G + 1, G, w.heap.size + 1, w.heap.size⟩ (G + 2) (.slice none 0 0) [] ⟨rest2, bad2⟩ w4) := Lib.hid
    { buf := ⟨A2, N2, c2, b0, ((ZE.out.weak (fun b hb => by
        rcases hb with hb | hb
        · rcases hb with hb | hb | hb | hb | hb
          · exact .inl (.inl (.inl hb))
          · exact .inr (by rw [hb]; show wz.heap.size ≤ G + 1; rw [HG.out]; exact Nat.le_succ _)
          · exact .inr (Nat.le_of_eq (HG.out.trans hb.symm))
          · exact .inl (.inl (.inr hb))
          · exact .inl (.inr hb)
        · cases hb)).up (E3.trans E4))⟩
      ptr := e3
      out := b2
      res := b1
      row := Outs.nil_
      ext := EZ.out.trans (E3.trans E4)
      sz := Nat.le_of_eq hs4.symm }
  clear hw4 e2 e3 b0 b1 b2 E3 E4
  gi_wp2
  obtain ⟨B, hBx⟩ : ∃ B : Bx, B = ⟨w.heap.size, G + 1, G, w.heap.size + 1, w.heap.size⟩ := ⟨_, rfl⟩
  have Hgo : Hid (G = B.go) := Lib.hid (by rw [hBx])
  have Hgb : Hid (w.heap.size = B.gb) := Lib.hid (by rw [hBx])
  have Hgr : Hid (w.heap.size + 1 = B.gr) := Lib.hid (by rw [hBx])
  have Hgp : Hid (G + 1 = B.gp) := Lib.hid (by rw [hBx])
  have Hlo : Hid (B.lo = w.heap.size) := Lib.hid (by rw [hBx])
  have hOk : B.Ok (G + 2) := by rw [hBx]; have := HG.out; have := HZZ.out; constructor <;> simp only [] <;> omega
  rw [← hBx] at HI
  have HS4 := Lib.hid hs4
  clear hBx hs3 hs4
  have HZ2 : Hid (w.heap.size ≤ G + 2) := Lib.hid (by have := EZ.out.size; have := HG.out; omega)
  have HF : Hid (w.heap.size ≤ B.go) := Lib.hid (by have h3 := Hgo.out; have h5 := EZ.out.size; have h6 := HG.out; omega)
  refine range_law (α := Yd) (n := 4) (gf := 87) (lb := #[.pointer (some ⟨G + 1, 0, none⟩)]) rfl (enters_of Try.func87 (by kernel_rfl) rfl) Yd.enc (fun _ => rfl)
    (FJ0 w B (G + 2) D ⟨rest2, bad2⟩) (FJy w B (G + 2) D) (FJ1 w B (G + 2) D) (FJd w B (G + 2) D) (fun _ _ => False)
    ?s0 ?sy ?s1 ?sd ?sx ?a1 ?h0 ?assign ?body ?iter ?done ?stop
  case assign =>
    intro l y W K hK
    dsimp only [Yd.enc]
    gi_wp2
    exact hK
  case s0 =>
    rintro W l o o' ⟨v, hI, hD⟩ hl ho hc
    exact ⟨v, FI.stab (by have := HS4.out; have := HZ2.out; omega) W l o o' hI hl ho hc, hD⟩
  case sy =>
    rintro y W l o o' ⟨v, q, hI, hE, hD⟩ hl ho hc
    exact ⟨v, q, FI.stab (by have := HS4.out; have := HZ2.out; omega) W l o o' hI hl ho hc, hE.same (SameCells.putObj ho hc o'), hD⟩
  case s1 =>
    rintro y W l o o' ⟨v, q, hI, hD⟩ hl ho hc
    exact ⟨v, q, FI.stab (by have := HS4.out; have := HZ2.out; omega) W l o o' hI hl ho hc, hD⟩
  case sd =>
    rintro W l o o' ⟨v, hI⟩ hl ho hc
    exact ⟨v, FI.stab (by have := HS4.out; have := HZ2.out; omega) W l o o' hI hl ho hc⟩
  case sx => exact fun _ _ _ _ _ h => h.elim
  case h0 => exact fun W hx _ => ⟨_, HI.out.up hx, HDN.out⟩
  case iter =>
    have h := come_iter 4 w B (G + 2) w4.heap.size D ⟨rest2, bad2⟩ hOk (Nat.le_of_eq Hgb.out) (Nat.le_of_eq HS4.out.symm)
    rw [← Hgp.out] at h
    exact h
  case stop => exact fun _ _ h => h.elim
  case body =>
    rintro l y W ⟨v, q, hI, hE, hD⟩
    have hlen : q.length + 1 ≤ 1000001 := by
      have h1 := congrArg (fun d => d.1.length) hD
      have h3 := HCNT.out
      simp only [List.length_append, List.length_cons] at h1
      omega
    obtain ⟨vs, hov, hels⟩ := hI.row
    have hvl : vs.length = q.length := by have := hov.1; omega
    have c0 : W.cell? ⟨G, 0, none⟩ = some v := by rw [Hgo.out]; exact (blk_rules hI.out).1 0
    have hsz := hI.sz
    have HIh := Lib.hid hI
    have HEh := Lib.hid hE
    have HDh := Lib.hid hD
    have HOV := Lib.hid hov
    have HELS := Lib.hid hels
    clear hI hE hD hov hels
    have f0 : W.frozen? ⟨G, 0, none⟩ = false := by rw [Hgo.out]; exact (blk_rules HIh.out.out).2 0
    gi_wp2_with (gi_at_builtin
                 obtain ⟨v', w5, hrun, hown', hg', hat⟩ := run_append_flat elem_bytes 35 (own_up HOV.out (Ext.new W (.cells #[.slice y.A y.n y.c] 42))) 1 (flat_one W (.slice y.A y.n y.c) 42) (by simp [Value.oneCell']) (by omega) (by omega) (by simp; omega) (fun h => by cases h)
                 obtain ⟨hF5, hK5, hgo5⟩ := HIh.out.push hOk HF.out HZ2.out HOV.out HELS.out hvl HEh.out hown' hg' hat
                 have HF5 := Lib.hid hF5
                 have HK5 := Lib.hid hK5
                 have d0 : w5.cell? ⟨G, 0, none⟩ = some v := by rw [Hgo.out]; exact (blk_rules hgo5).1 0
                 have d1 : w5.frozen? ⟨G, 0, none⟩ = false := by rw [Hgo.out]; exact (blk_rules hgo5).2 0
                 obtain ⟨A5, c5, rfl, _⟩ := own_flat hown'
                 refine inAppend_run rfl _ _ _ _ rfl rfl rfl hrun ?_
                 clear hrun hown' hg' hat hF5 hK5 hgo5)
    refine ⟨?_, ?_⟩
    · rw [← Hgo.out] at HK5; exact HK5.out
    · rw [← Hgo.out] at HF5
      have hdn : D = ((q ++ [y.p]) ++ (drain y.rest).1, (drain y.rest).2) := by rw [HDh.out, List.append_assoc]; rfl
      exact ⟨_, _, HF5.out, .inl ⟨rfl, hdn⟩⟩
  case done =>
    rintro W ⟨v, hI⟩ hK
    obtain ⟨A6, n6, c6, h6, hel6⟩ := hI.buf
    obtain ⟨z0, z1⟩ := blk_rules h6
    obtain ⟨r0, r1⟩ := blk_rules hI.res
    have o0 := (blk_rules hI.out).1 0
    rw [← Hgb.out] at z0 z1
    rw [← Hgr.out] at r0 r1
    rw [← Hgo.out] at o0
    have HIh := Lib.hid hI
    have HEL := Lib.hid hel6
    have HKD := Lib.hid hK
    clear hI hel6 hK h6
    gi_wp2
    gi_region
    all_goals
      gi_wp2
      obtain ⟨W6, hW6⟩ : ∃ W6, W6 = ((W.setCell ⟨w.heap.size + 1, 0, none⟩ (.slice A6 n6 c6)).setCell ⟨w.heap.size + 1, 1, none⟩ (.int .i64 D.2.bad)).drew := ⟨_, rfl⟩
      rw [← hW6]
      have k6 : KeepsOthers W W6 := by rw [hW6]; exact ((KeepsOthers.setCell _ _ _).trans (KeepsOthers.setCell _ _ _)).trans (KeepsOthers.drew _)
      have hK6 := k6.same _ _ HKD.out rfl
      have hI6 : FI w B (G + 2) v D.1 D.2 W → True := fun _ => trivial
      have g6 : W6.heap[w.heap.size + 1]? = some (.cells #[.slice A6 n6 c6, .int .i64 D.2.bad] 86 (0, 0)) := by
        have h := HIh.out.res
        rw [← Hgr.out] at h
        rw [hW6]; exact blk_set (blk_set h _) _
      have e6 : Elem W6 (RowF B.F v) (.slice A6 n6 c6) D.2.rest := by
        have hX : ∀ b, some (w.heap.size + 1) = some b → RowF B.F v b := fun b e => by injection e with e; exact .inl (.inr (.inr (.inr (.inl (by rw [← e]; exact Hgr.out)))))
        rw [hW6]; exact ((HEL.out.but (grownBy_set _ _ _ _) hX).but (grownBy_set _ _ _ _) hX).up (Ext.refl _).drew
      have o6 : Outs W6 (G + 2) 42 B.F v D.1 := by
        have hF : B.F (w.heap.size + 1) := .inr (.inr (.inr (.inl Hgr.out)))
        rw [hW6]; exact ((HIh.out.row.set hF (by rw [Hgr.out]; exact hOk.b4) 0 _).set hF (by rw [Hgr.out]; exact hOk.b4) 1 _).up (Ext.refl _).drew
      have x6 : Ext w W6 := by rw [hW6]; exact ((HIh.out.ext.set (Nat.le_succ _) _).set (Nat.le_succ _) _).drew
      have s6 := SameCells.putObj hK6 rfl (.deferred none)
      have g7 := s6.same _ _ _ _ g6
      refine ⟨by simp, .inl ⟨_, _, rfl, run_takeDeferred hK6, ?_⟩⟩
      have q7 := (blk_rules g7).1
      refine ⟨_, show (results _ _).run _ _ = .ok (.tuple #[.agg #[.slice A6 n6 c6, .int .i64 D.2.bad], v]) _ from (by simp [results, Try.results57, go_sem, q7]), ?_⟩
      refine ⟨A6, n6, c6, v, by rw [HFD.out], ?_, ⟨G + 2, B.F, HZ2.out, fun b hb => .inr (.inr (.inr (.inr (by rw [Hlo.out]; exact hb)))), ?_⟩, ?_⟩
      · rw [HFD.out]; exact (e6.same s6).weak (fun b h => .inl (h.elim (fun h => .inl (.inr (.inr (.inr (.inr (by rw [Hlo.out]; exact h)))))) .inr))
      · rw [HFD.out]; exact o6.same s6
      · exact x6.putObj (by have := HS4.out; have := HZ2.out; omega) _
set_option maxRecDepth 100000 in
set_option maxHeartbeats 4000000 in
theorem feed_insane (A Ab : Option Addr) (n c nb cb : Nat) (x : Bf) (bs : List UInt8) (w : World) (hA : Byts w A n x.rest) (hc : A = none → c = 0) (hnc : n ≤ c) (hcm : c ≤ 9223372036854775807) (hB : Byts w Ab nb bs) (hcb : Ab = none → cb = 0) (hnb : n + nb ≤ 1000000)
    (hs : x.sane = false) :
    Calls Try.prog 57 #[.agg #[.slice A n c, .int .i64 x.bad], .slice Ab nb cb] w (FeedPost w (x.feed bs)) := by
  refine (callsIn_wide (n := 5)).1 ?_
  have HA := Lib.hid hA
  have HB := Lib.hid hB
  have HS := Lib.hid hs
  clear hA hB hs
  refine callsIn_of_wp_marks Try.func57 rfl trivial ?_ rfl
  simp only [Try.ntmps57, List.size_toArray, List.length_cons, List.length_nil, Nat.reduceAdd, Nat.reduceSub, Array.replicate_succ, Array.replicate_zero, List.push_toArray, List.append_toArray, List.nil_append, List.cons_append]
  gi_wp2
  refine ⟨trivial, ?_⟩
  refine (callsIn_wide.2 (streamSane_any A n c x _ (ArrR.up HA.out ((Ext.new _ _).alloc _)) hc hnc hcm)).mono ?_
  rintro e w1 ⟨rfl, hb1⟩
  rw [HS.out]
  obtain ⟨hx0, hy0, hx1, hy1, hz1⟩ := box2 hb1
  have HK := Lib.hid (box2b hb1)
  have HE := Lib.hid (((Ext.new w _).alloc _).trans hb1)
  clear hb1
  gi_wp2
  obtain ⟨wy, hwy⟩ : ∃ wy, wy = (w1.setCell ⟨w.heap.size, 0, none⟩ (.slice none 0 0)).setCell ⟨w.heap.size, 1, none⟩ (.int .i64 0) := ⟨_, rfl⟩
  rw [← hwy]
  have hys : wy.heap.size = w1.heap.size := by rw [hwy]; simp [World.setCell]
  have HY0 : Hid (wy.heap[w.heap.size]? = some (.cells #[.slice none 0 0, .int .i64 0] 86 (0, 0))) := Lib.hid (by rw [hwy]; exact blk_set (blk_set HK.out.1 _) _)
  have HY1 : Hid (wy.heap[w.heap.size + 1]? = some (.cells #[.slice none 0 0, .int .i64 0] 86 (0, 0))) := Lib.hid (by rw [hwy]; exact (blk_far (by omega) _).trans ((blk_far (by omega) _).trans HK.out.2.1))
  have HYE : Hid (Ext w wy) := Lib.hid (by rw [hwy]; exact (HE.out.set (Nat.le_refl _) _).set (Nat.le_refl _) _)
  have hzy : w.heap.size + 1 < wy.heap.size := by omega
  rw [← hys]
  clear hwy hys
  refine ⟨trivial, ?_⟩
  refine (callsIn_wide.2 (concat_two ArrR.nil_ (fun _ => rfl) (ArrR.up HB.out HYE.out) hcb (by omega))).mono ?_
  rintro e w2 ⟨A2, c2, rfl, h8, hb2⟩
  rw [Nat.zero_add] at h8 ⊢
  have H8 := Lib.hid h8
  have k0 := (hb2.block (Nat.lt_trans (Nat.lt_succ_self _) hzy)).trans HY0.out
  have k1 := (hb2.block hzy).trans HY1.out
  have K0 := Lib.hid k0
  have K1 := Lib.hid k1
  obtain ⟨q0, q1⟩ := blk_rules k0
  have hz2 : w.heap.size + 1 < w2.heap.size := Nat.lt_of_lt_of_le hzy hb2.size
  have HB2 := Lib.hid hb2
  clear h8 hb2 k0 k1 hx0 hy0 hx1 hy1
  gi_wp2
  obtain ⟨wz, hwz⟩ : ∃ wz, wz = w2.setCell ⟨w.heap.size, 0, none⟩ (.slice A2 (nb) c2) := ⟨_, rfl⟩
  rw [← hwz]
  have hGs : wz.heap.size = w2.heap.size := by rw [hwz]; simp [World.setCell]
  obtain ⟨G, hG⟩ : ∃ G, G = w2.heap.size := ⟨_, rfl⟩
  rw [← hG]
  have HG : Hid (wz.heap.size = G) := Lib.hid (by omega)
  have HZZ : Hid (w.heap.size + 1 < wz.heap.size) := Lib.hid (by omega)
  have hGz : w.heap.size + 1 < G := by omega
  obtain ⟨N2, hN2⟩ : ∃ N2, N2 = nb := ⟨_, rfl⟩
  obtain ⟨rest2, hrest2⟩ : ∃ rest2, rest2 = [] ++ bs := ⟨_, rfl⟩
  obtain ⟨bad2, hbad2⟩ : ∃ bad2 : Int, bad2 = 0 := ⟨_, rfl⟩
  have Z0 : Hid (wz.heap[w.heap.size]? = some (.cells #[.slice A2 N2 c2, .int .i64 bad2] 86 (0, 0))) := Lib.hid (by rw [hwz, hN2, hbad2]; exact blk_set K0.out _)
  have Z1 : Hid (wz.heap[w.heap.size + 1]? = some (.cells #[.slice none 0 0, .int .i64 0] 86 (0, 0))) := Lib.hid (by rw [hwz]; exact (blk_far (by omega) _).trans K1.out)
  have ZE : Hid (Elem wz (fun b => (b = w.heap.size ∨ b = w.heap.size + 1) ∨ b < w.heap.size) (.slice A2 N2 c2) rest2) := Lib.hid (by
    have h1 : Elem w2 (fun b => (b = w.heap.size ∨ b = w.heap.size + 1) ∨ b < w.heap.size) (.slice A2 (nb) c2) ([] ++ bs) := H8.out.elem (fun b hb => by omega)
    rw [hwz, hN2, hrest2]
    exact h1.but (grownBy_set w2 w.heap.size 0 _) (fun b e => by injection e with e; exact .inl (.inl e.symm)))
  have EZ : Hid (Ext w wz) := Lib.hid (by rw [hwz]; exact (HYE.out.trans HB2.out).set (Nat.le_refl _) _)
  obtain ⟨D, hD⟩ : ∃ D, D = ((drain rest2).1, (drain rest2).2) := ⟨_, rfl⟩
  have HDN : Hid (Dn D [] ⟨rest2, bad2⟩) := Lib.hid (.inl ⟨hbad2, hD⟩)
  have HCNT : Hid (D.1.length ≤ 1000000) := Lib.hid (by
    have h3 := drain_count _ rest2 (Nat.le_refl _)
    rw [hD]
    simp only []
    rw [hrest2] at h3 ⊢
    have h4 := HB.out.len
    have h5 := HA.out.len
    have h6 : ([] : List UInt8).length = 0 := rfl
    simp only [List.length_append] at h3
    omega)
  have HFD : Hid (x.feed bs = (D.2, D.1)) := Lib.hid (by
    unfold Bf.feed
    rw [show x.norm = ⟨[], 0⟩ by unfold Bf.norm; rw [if_neg (by rw [HS.out]; decide)], if_pos rfl, hD, hrest2])
  clear hwz hGs hG hN2 hrest2 hbad2 hD q0 q1 hz1 hz2 K0 K1 H8
  obtain ⟨W3, hW3⟩ : ∃ W3, W3 = wz.alloc (.cells #[.slice none 0 0] 35) := ⟨_, rfl⟩
  rw [← hW3]
  have hs3 : W3.heap.size = G + 1 := by rw [hW3]; simp [HG.out]
  have E3 : Ext wz W3 := by rw [hW3]; exact Ext.new _ _
  have e2 : W3.heap[G]? = some (.cells #[.slice none 0 0] 35 (0, 0)) := by
    rw [hW3, ← HG.out]; exact heap_alloc_new wz _
  clear hW3
  refine ⟨trivial, ?_⟩
  refine (callsIn_wide.2 (come_any w.heap.size W3)).mono ?_
  rintro e w4 ⟨rfl, hw4⟩
  have hs4 : w4.heap.size = G + 2 := by rw [hw4]; simp [hs3]
  have E4 : Ext W3 w4 := by rw [hw4]; exact Ext.new _ _
  have e3 : w4.heap[G + 1]? = some (.cells #[.pointer (some ⟨w.heap.size, 0, none⟩)] 127 (0, 0)) := by
    rw [hw4]
    have := heap_alloc_new W3 (.cells #[.pointer (some ⟨w.heap.size, 0, none⟩)] 127)
    rw [hs3] at this
    exact this
  have b0 := ((E3.trans E4).block (show w.heap.size < wz.heap.size by have := HZZ.out; omega)).trans Z0.out
  have b1 := ((E3.trans E4).block (show w.heap.size + 1 < wz.heap.size from HZZ.out)).trans Z1.out
  have b2 := (E4.block (show G < W3.heap.size by omega)).trans e2
  rw [hs3]
  have HI : Hid (FI w ⟨w.heap.size, G + 1, G, w.heap.size + 1, w.heap.size⟩ (G + 2) (.slice none 0 0) [] ⟨rest2, bad2⟩ w4) := Lib.hid
    { buf := ⟨A2, N2, c2, b0, ((ZE.out.weak (fun b hb => by
        rcases hb with hb | hb
        · rcases hb with hb | hb | hb | hb | hb
          · exact .inl (.inl (.inl hb))
          · exact .inr (by rw [hb]; show wz.heap.size ≤ G + 1; rw [HG.out]; exact Nat.le_succ _)
          · exact .inr (Nat.le_of_eq (HG.out.trans hb.symm))
          · exact .inl (.inl (.inr hb))
          · exact .inl (.inr hb)
        · cases hb)).up (E3.trans E4))⟩
      ptr := e3
      out := b2
      res := b1
      row := Outs.nil_
      ext := EZ.out.trans (E3.trans E4)
      sz := Nat.le_of_eq hs4.symm }
  clear hw4 e2 e3 b0 b1 b2 E3 E4
  gi_wp2
  obtain ⟨B, hBx⟩ : ∃ B : Bx, B = ⟨w.heap.size, G + 1, G, w.heap.size + 1, w.heap.size⟩ := ⟨_, rfl⟩
  have Hgo : Hid (G = B.go) := Lib.hid (by rw [hBx])
  have Hgb : Hid (w.heap.size = B.gb) := Lib.hid (by rw [hBx])
  have Hgr : Hid (w.heap.size + 1 = B.gr) := Lib.hid (by rw [hBx])
  have Hgp : Hid (G + 1 = B.gp) := Lib.hid (by rw [hBx])
  have Hlo : Hid (B.lo = w.heap.size) := Lib.hid (by rw [hBx])
  have hOk : B.Ok (G + 2) := by rw [hBx]; have := HG.out; have := HZZ.out; constructor <;> simp only [] <;> omega
  rw [← hBx] at HI
  have HS4 := Lib.hid hs4
  clear hBx hs3 hs4
  have HZ2 : Hid (w.heap.size ≤ G + 2) := Lib.hid (by have := EZ.out.size; have := HG.out; omega)
  have HF : Hid (w.heap.size ≤ B.go) := Lib.hid (by have h3 := Hgo.out; have h5 := EZ.out.size; have h6 := HG.out; omega)
  refine range_law (α := Yd) (n := 4) (gf := 87) (lb := #[.pointer (some ⟨G + 1, 0, none⟩)]) rfl (enters_of Try.func87 (by kernel_rfl) rfl) Yd.enc (fun _ => rfl)
    (FJ0 w B (G + 2) D ⟨rest2, bad2⟩) (FJy w B (G + 2) D) (FJ1 w B (G + 2) D) (FJd w B (G + 2) D) (fun _ _ => False)
    ?s0 ?sy ?s1 ?sd ?sx ?a1 ?h0 ?assign ?body ?iter ?done ?stop
  case assign =>
    intro l y W K hK
    dsimp only [Yd.enc]
    gi_wp2
    exact hK
  case s0 =>
    rintro W l o o' ⟨v, hI, hD⟩ hl ho hc
    exact ⟨v, FI.stab (by have := HS4.out; have := HZ2.out; omega) W l o o' hI hl ho hc, hD⟩
  case sy =>
    rintro y W l o o' ⟨v, q, hI, hE, hD⟩ hl ho hc
    exact ⟨v, q, FI.stab (by have := HS4.out; have := HZ2.out; omega) W l o o' hI hl ho hc, hE.same (SameCells.putObj ho hc o'), hD⟩
  case s1 =>
    rintro y W l o o' ⟨v, q, hI, hD⟩ hl ho hc
    exact ⟨v, q, FI.stab (by have := HS4.out; have := HZ2.out; omega) W l o o' hI hl ho hc, hD⟩
  case sd =>
    rintro W l o o' ⟨v, hI⟩ hl ho hc
    exact ⟨v, FI.stab (by have := HS4.out; have := HZ2.out; omega) W l o o' hI hl ho hc⟩
  case sx => exact fun _ _ _ _ _ h => h.elim
  case h0 => exact fun W hx _ => ⟨_, HI.out.up hx, HDN.out⟩
  case iter =>
    have h := come_iter 4 w B (G + 2) w4.heap.size D ⟨rest2, bad2⟩ hOk (Nat.le_of_eq Hgb.out) (Nat.le_of_eq HS4.out.symm)
    rw [← Hgp.out] at h
    exact h
  case stop => exact fun _ _ h => h.elim
  case body =>
    rintro l y W ⟨v, q, hI, hE, hD⟩
    have hlen : q.length + 1 ≤ 1000001 := by
      have h1 := congrArg (fun d => d.1.length) hD
      have h3 := HCNT.out
      simp only [List.length_append, List.length_cons] at h1
      omega
    obtain ⟨vs, hov, hels⟩ := hI.row
    have hvl : vs.length = q.length := by have := hov.1; omega
    have c0 : W.cell? ⟨G, 0, none⟩ = some v := by rw [Hgo.out]; exact (blk_rules hI.out).1 0
    have hsz := hI.sz
    have HIh := Lib.hid hI
    have HEh := Lib.hid hE
    have HDh := Lib.hid hD
    have HOV := Lib.hid hov
    have HELS := Lib.hid hels
    clear hI hE hD hov hels
    have f0 : W.frozen? ⟨G, 0, none⟩ = false := by rw [Hgo.out]; exact (blk_rules HIh.out.out).2 0
    gi_wp2_with (gi_at_builtin
                 obtain ⟨v', w5, hrun, hown', hg', hat⟩ := run_append_flat elem_bytes 35 (own_up HOV.out (Ext.new W (.cells #[.slice y.A y.n y.c] 42))) 1 (flat_one W (.slice y.A y.n y.c) 42) (by simp [Value.oneCell']) (by omega) (by omega) (by simp; omega) (fun h => by cases h)
                 obtain ⟨hF5, hK5, hgo5⟩ := HIh.out.push hOk HF.out HZ2.out HOV.out HELS.out hvl HEh.out hown' hg' hat
                 have HF5 := Lib.hid hF5
                 have HK5 := Lib.hid hK5
                 have d0 : w5.cell? ⟨G, 0, none⟩ = some v := by rw [Hgo.out]; exact (blk_rules hgo5).1 0
                 have d1 : w5.frozen? ⟨G, 0, none⟩ = false := by rw [Hgo.out]; exact (blk_rules hgo5).2 0
                 obtain ⟨A5, c5, rfl, _⟩ := own_flat hown'
                 refine inAppend_run rfl _ _ _ _ rfl rfl rfl hrun ?_
                 clear hrun hown' hg' hat hF5 hK5 hgo5)
    refine ⟨?_, ?_⟩
    · rw [← Hgo.out] at HK5; exact HK5.out
    · rw [← Hgo.out] at HF5
      have hdn : D = ((q ++ [y.p]) ++ (drain y.rest).1, (drain y.rest).2) := by rw [HDh.out, List.append_assoc]; rfl
      exact ⟨_, _, HF5.out, .inl ⟨rfl, hdn⟩⟩
  case done =>
    rintro W ⟨v, hI⟩ hK
    obtain ⟨A6, n6, c6, h6, hel6⟩ := hI.buf
    obtain ⟨z0, z1⟩ := blk_rules h6
    obtain ⟨r0, r1⟩ := blk_rules hI.res
    have o0 := (blk_rules hI.out).1 0
    rw [← Hgb.out] at z0 z1
    rw [← Hgr.out] at r0 r1
    rw [← Hgo.out] at o0
    have HIh := Lib.hid hI
    have HEL := Lib.hid hel6
    have HKD := Lib.hid hK
    clear hI hel6 hK h6
    gi_wp2
    gi_region
    all_goals
      gi_wp2
      obtain ⟨W6, hW6⟩ : ∃ W6, W6 = ((W.setCell ⟨w.heap.size + 1, 0, none⟩ (.slice A6 n6 c6)).setCell ⟨w.heap.size + 1, 1, none⟩ (.int .i64 D.2.bad)).drew := ⟨_, rfl⟩
      rw [← hW6]
      have k6 : KeepsOthers W W6 := by rw [hW6]; exact ((KeepsOthers.setCell _ _ _).trans (KeepsOthers.setCell _ _ _)).trans (KeepsOthers.drew _)
      have hK6 := k6.same _ _ HKD.out rfl
      have hI6 : FI w B (G + 2) v D.1 D.2 W → True := fun _ => trivial
      have g6 : W6.heap[w.heap.size + 1]? = some (.cells #[.slice A6 n6 c6, .int .i64 D.2.bad] 86 (0, 0)) := by
        have h := HIh.out.res
        rw [← Hgr.out] at h
        rw [hW6]; exact blk_set (blk_set h _) _
      have e6 : Elem W6 (RowF B.F v) (.slice A6 n6 c6) D.2.rest := by
        have hX : ∀ b, some (w.heap.size + 1) = some b → RowF B.F v b := fun b e => by injection e with e; exact .inl (.inr (.inr (.inr (.inl (by rw [← e]; exact Hgr.out)))))
        rw [hW6]; exact ((HEL.out.but (grownBy_set _ _ _ _) hX).but (grownBy_set _ _ _ _) hX).up (Ext.refl _).drew
      have o6 : Outs W6 (G + 2) 42 B.F v D.1 := by
        have hF : B.F (w.heap.size + 1) := .inr (.inr (.inr (.inl Hgr.out)))
        rw [hW6]; exact ((HIh.out.row.set hF (by rw [Hgr.out]; exact hOk.b4) 0 _).set hF (by rw [Hgr.out]; exact hOk.b4) 1 _).up (Ext.refl _).drew
      have x6 : Ext w W6 := by rw [hW6]; exact ((HIh.out.ext.set (Nat.le_succ _) _).set (Nat.le_succ _) _).drew
      have s6 := SameCells.putObj hK6 rfl (.deferred none)
      have g7 := s6.same _ _ _ _ g6
      refine ⟨by simp, .inl ⟨_, _, rfl, run_takeDeferred hK6, ?_⟩⟩
      have q7 := (blk_rules g7).1
      refine ⟨_, show (results _ _).run _ _ = .ok (.tuple #[.agg #[.slice A6 n6 c6, .int .i64 D.2.bad], v]) _ from (by simp [results, Try.results57, go_sem, q7]), ?_⟩
      refine ⟨A6, n6, c6, v, by rw [HFD.out], ?_, ⟨G + 2, B.F, HZ2.out, fun b hb => .inr (.inr (.inr (.inr (by rw [Hlo.out]; exact hb)))), ?_⟩, ?_⟩
      · rw [HFD.out]; exact (e6.same s6).weak (fun b h => .inl (h.elim (fun h => .inl (.inr (.inr (.inr (.inr (by rw [Hlo.out]; exact h)))))) .inr))
      · rw [HFD.out]; exact o6.same s6
      · exact x6.putObj (by have := HS4.out; have := HZ2.out; omega) _
theorem feed_any (A Ab : Option Addr) (n c nb cb : Nat) (x : Bf) (bs : List UInt8) (w : World) (hA : Byts w A n x.rest) (hc : A = none → c = 0) (hnc : n ≤ c) (hcm : c ≤ 9223372036854775807) (hB : Byts w Ab nb bs) (hcb : Ab = none → cb = 0) (hnb : n + nb ≤ 1000000) :
    Calls Try.prog 57 #[.agg #[.slice A n c, .int .i64 x.bad], .slice Ab nb cb] w (FeedPost w (x.feed bs)) := by
  cases hs : x.sane with
  | true =>
    by_cases h0 : x.bad = 0
    · exact feed_good A Ab n c nb cb x bs w hA hc hnc hcm hB hcb hnb hs h0
    · exact feed_bad A Ab n c nb cb x bs w hA hc hnc hcm hB hcb hnb hs h0
  | false => exact feed_insane A Ab n c nb cb x bs w hA hc hnc hcm hB hcb hnb hs
end Go.Proofs.Ytjomoannlpadnaa
