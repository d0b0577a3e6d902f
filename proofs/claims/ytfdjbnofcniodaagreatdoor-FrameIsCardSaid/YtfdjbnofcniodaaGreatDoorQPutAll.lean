/- What package record's putWeight and putRule lay. -/
import Derived.Test.YtfdjbnofcniodaaGreatDoorQEachAll
import Derived.Test.YtfdjbnofcniodaaGreatDoorQGround
import Derived.Test.YtfdjbnofcniodaaGreatDoorQResAll
namespace Go.Proofs.YtfdjbnofcniodaaGreatDoor
open Lib (hid)
set_option maxHeartbeats 4000000
set_option maxRecDepth 100000
set_option linter.unusedVariables false
open Go.RowKit
def LayN (w : World) (n : Nat) (bs out : List UInt8) (e : Ending) (w' : World) : Prop :=
 ∃ A N c, e = .returned (.slice A N c) ∧ Hid (N = n + out.length) ∧ Hid (A = none → c = 0) ∧ Hid (Byts w' A N (bs ++ out)) ∧ Hid (w'.ownsRow w.heap.size 5 1 (.slice A N c) N ((bs ++ out).map byteV)) ∧ Ext w w'
theorem LayN.of {w w' : World} {n : Nat} {bs out : List UInt8} {e : Ending} (h : LayPost w n bs out e w') : LayN w n bs out e w' := by
 obtain ⟨A, c, rfl, h1, h2, h3, h4, h5, h6⟩ := h.out
 exact ⟨A, _, c, rfl, hid rfl, hid h1, hid h4, hid h6, h5⟩
theorem number_lay (A : Option Addr) (n c : Nat) (bs : List UInt8) (k : Int) (w : World) (hA : Byts w A n bs) (hc : A = none → c = 0) (hn : n ≤ 1000000000) : Calls Tryz.prog 93 #[.slice A n c, .int .i64 k] w (LayN w n bs (enc (bnd k))) :=
 (number_any A n c bs k w hA hc hn).mono fun _ _ h => LayN.of h
theorem text_lay (A : Option Addr) (n c : Nat) (bs : List UInt8) (s : ByteArray) (w : World) (hA : Byts w A n bs) (hc : A = none → c = 0) (hn : n ≤ 1000000000) (hs : s.size ≤ 1000000000) : Calls Tryz.prog 94 #[.slice A n c, .string s] w (LayN w n bs (encT (tx s))) :=
 (text_any A n c bs s w hA hc hn hs).mono fun _ _ h => LayN.of h
theorem putWeight_lay (S : Nat → Prop) (w0 : World) : LayW S w0 172 #[] (fun p => p.1.size ≤ 1000) putW 990000000 := by
 refine ⟨Tryz.call172, fun A n c bs s x w _ hB hc hn hok hs => ?_⟩
 show Calls Tryz.prog 172 #[.slice A n c, .agg #[.string s, .int .i64 x]] w _
 have HB := hid hB
 have HC := hid hc
 have hok' : s.size ≤ 1000 := hok
 have HL : Hid ((encT (tx s)).length ≤ 1005) := hid (by have := encT_len (tx s); rw [tx_len] at this; omega)
 clear hB hc hok
 go_enter Tryz.func172, Tryz.ntmps172
 go_wp2_with fail
 have kA := heap_alloc_new w (.cells #[.string s, .int .i64 x] 166)
 have EW := hid (Ext.new w (.cells #[.string s, .int .i64 x] 166))
 have hsW : w.heap.size < (w.alloc (.cells #[.string s, .int .i64 x] 166)).heap.size := by simp
 generalize w.alloc (.cells #[.string s, .int .i64 x] 166) = W at kA EW hsW ⊢
 have KA := hid kA
 clear kA
 have t0 : ∀ w', Ext W.drew w' → w'.cell? ⟨w.heap.size, 0, none⟩ = some (.string s) := fun w' hx => (blk_rules ((((Ext.refl W).drew.trans hx).block hsW).trans KA.out)).1 0
 have t1 : ∀ w', Ext W.drew w' → w'.cell? ⟨w.heap.size, 1, none⟩ = some (.int .i64 x) := fun w' hx => (blk_rules ((((Ext.refl W).drew.trans hx).block hsW).trans KA.out)).1 1
 have hSw : Ext W.drew W.drew := Ext.refl _
 refine wpS_begin (Ext W.drew) (by kernel_rfl) ?_
 refine wpS_tk 0 ?_ hSw rfl (fun w' hin => ?_) ?_; rotate_left
 ·go_simp <;> with_reducible rfl
 try simp only [lyr]
 refine wpS_tk 1 ?_ hSw rfl (fun w' hin => ?_) ?_; rotate_left
 ·go_simp <;> with_reducible rfl
 try simp only [lyr]
 refine wpS_tk 2 ?_ hSw rfl (fun w' hin => ?_) ?_; rotate_left
 ·go_simp <;> with_reducible rfl
 try simp only [lyr]
 refine wpS_tk 4 ?_ hSw rfl (fun w' hin => ?_) ?_; rotate_left
 ·go_simp <;> with_reducible rfl
 try simp only [lyr]
 refine wpS_tk 5 ?_ hSw rfl (fun w' hin => ?_) ?_; rotate_left
 ·go_simp <;> with_reducible rfl
 try simp only [lyr]
 refine wpS_on 3 rfl (fun K hK => ?_)
 go_simp
 refine (text_lay A n c bs s _ (ArrR.up HB.out (EW.out.drew)) HC.out (by omega) (by omega)).mono ?_
 rintro e w1 ⟨A1, N1, c1, rfl, HN1, HC1, HB1, HO1, hb1⟩
 simp only []
 refine hK.out _ _ (Ext W.drew) (fun _ h => h) (hb1) (fun hSw => ?_)
 clear hK K
 try simp only [lyr]
 refine wpS_on 6 rfl (fun K hK => ?_)
 go_simp
 refine (number_lay A1 N1 c1 (bs ++ encT (tx s)) x _ HB1.out HC1.out (by have h1 := HN1.out; have h2 := HL.out; omega)).mono ?_
 rintro e w2 ⟨A2, N2, c2, rfl, HN2, HC2, HB2, HO2, hb2⟩
 simp only []
 refine hK.out _ _ (Ext W.drew) (fun _ h => h) (hb1.trans hb2) (fun hSw => ?_)
 clear hK K
 try simp only [lyr]
 refine wpS_tk 7 ?_ hSw rfl (fun w' hin => ?_) ?_; rotate_left
 ·go_simp <;> with_reducible rfl
 try simp only [lyr]
 refine wpS_done (by kernel_rfl) ?_
 clear t0 t1
 go_wp2_with fail
 go_ret
 have hz : w.heap.size ≤ w1.heap.size := Nat.le_trans EW.out.size hb1.size
 exact LayPost.mk (by rw [HN2.out, HN1.out]; unfold putW; simp only [List.length_append]; omega) (by unfold putW; simp) (own_base HO2.out hz) (EW.out.trans ((Ext.refl _).drew.trans (hb1.trans hb2)))
theorem putH_lay (S : Nat → Prop) (w0 : World) : LayH S w0 93 #[] (fun _ => True) putH 1000000000 :=
 ⟨Tryz.call93, fun A n c bs x w _ hB hc hn _ _ => (number_any A n c bs x w hB hc (by omega)).mono fun _ _ h => h⟩
theorem putRule_lay (S : Nat → Prop) (w0 : World) : LayL S w0 96 #[] rlSm putRl 980000000 := by
 refine ⟨Tryz.call96, fun A n c bs r B m d w _ hB hc hn hok hv => ?_⟩
 show Calls Tryz.prog 96 #[.slice A n c, .agg #[.string r.host, .string r.pre, .slice B m d]] w _
 have HB := hid hB
 have HC := hid hc
 have HV := hid hv
 have HOK := hid hok
 have HM := hid hv.arr.len
 have L1 : Hid ((encT (tx r.host)).length ≤ 45) := hid (by have := encT_len (tx r.host); have := hok.1; omega)
 have L2 : Hid ((encT (tx r.pre)).length ≤ 45) := hid (by have := encT_len (tx r.pre); have := hok.2.1; omega)
 have L3 : Hid ((r.ws.flatMap putW).length ≤ 88) := hid (by have h4 := flatMap_len putW 22 r.ws (fun p hp => putW_len (hok.2.2.2 p hp)); have := hok.2.2.1; omega)
 have hs1 : r.host.size ≤ 40 := by have := hok.1; rwa [tx_len] at this
 have hs2 : r.pre.size ≤ 40 := by have := hok.2.1; rwa [tx_len] at this
 clear hB hc hok hv
 go_enter Tryz.func96, Tryz.ntmps96
 go_wp2_with fail
 have kA := heap_alloc_new w (.cells #[.string r.host, .string r.pre, .slice B m d] 111)
 have EW := hid (Ext.new w (.cells #[.string r.host, .string r.pre, .slice B m d] 111))
 have hsW : w.heap.size < (w.alloc (.cells #[.string r.host, .string r.pre, .slice B m d] 111)).heap.size := by simp
 generalize w.alloc (.cells #[.string r.host, .string r.pre, .slice B m d] 111) = W at kA EW hsW ⊢
 have KA := hid kA
 clear kA
 have t0 : ∀ w', Ext W.drew w' → w'.cell? ⟨w.heap.size, 0, none⟩ = some (.string r.host) := fun w' hx => (blk_rules ((((Ext.refl W).drew.trans hx).block hsW).trans KA.out)).1 0
 have t1 : ∀ w', Ext W.drew w' → w'.cell? ⟨w.heap.size, 1, none⟩ = some (.string r.pre) := fun w' hx => (blk_rules ((((Ext.refl W).drew.trans hx).block hsW).trans KA.out)).1 1
 have t2 : ∀ w', Ext W.drew w' → w'.cell? ⟨w.heap.size, 2, none⟩ = some (.slice B m d) := fun w' hx => (blk_rules ((((Ext.refl W).drew.trans hx).block hsW).trans KA.out)).1 2
 have hSw : Ext W.drew W.drew := Ext.refl _
 refine wpS_begin (Ext W.drew) (by kernel_rfl) ?_
 refine wpS_tk 0 ?_ hSw rfl (fun w' hin => ?_) ?_; rotate_left
 ·go_simp <;> with_reducible rfl
 try simp only [lyr]
 refine wpS_tk 1 ?_ hSw rfl (fun w' hin => ?_) ?_; rotate_left
 ·go_simp <;> with_reducible rfl
 try simp only [lyr]
 refine wpS_tk 2 ?_ hSw rfl (fun w' hin => ?_) ?_; rotate_left
 ·go_simp <;> with_reducible rfl
 try simp only [lyr]
 refine wpS_tk 4 ?_ hSw rfl (fun w' hin => ?_) ?_; rotate_left
 ·go_simp <;> with_reducible rfl
 try simp only [lyr]
 refine wpS_tk 5 ?_ hSw rfl (fun w' hin => ?_) ?_; rotate_left
 ·go_simp <;> with_reducible rfl
 try simp only [lyr]
 refine wpS_tk 7 ?_ hSw rfl (fun w' hin => ?_) ?_; rotate_left
 ·go_simp <;> with_reducible rfl
 try simp only [lyr]
 refine wpS_tk 8 ?_ hSw rfl (fun w' hin => ?_) ?_; rotate_left
 ·go_simp <;> with_reducible rfl
 try simp only [lyr]
 refine wpS_on 3 rfl (fun K hK => ?_)
 go_simp
 refine (text_lay A n c bs r.host _ (ArrR.up HB.out (EW.out.drew)) HC.out (by omega) (by omega)).mono ?_
 rintro e w1 ⟨A1, N1, c1, rfl, HN1, HC1, HB1, HO1, hb1⟩
 simp only []
 refine hK.out _ _ (Ext W.drew) (fun _ h => h) (hb1) (fun hSw => ?_)
 clear hK K
 try simp only [lyr]
 refine wpS_on 6 rfl (fun K hK => ?_)
 go_simp
 refine (text_lay A1 N1 c1 (bs ++ encT (tx r.host)) r.pre _ HB1.out HC1.out (by have h1 := HN1.out; have h2 := L1.out; omega) (by omega)).mono ?_
 rintro e w2 ⟨A2, N2, c2, rfl, HN2, HC2, HB2, HO2, hb2⟩
 simp only []
 refine hK.out _ _ (Ext W.drew) (fun _ h => h) (hb1.trans hb2) (fun hSw => ?_)
 clear hK K
 try simp only [lyr]
 refine wpS_on 9 rfl (fun K hK => ?_)
 go_simp
 refine ((eachW_any S 172 #[] (fun p => p.1.size ≤ 1000) putW A2 N2 c2 (bs ++ encT (tx r.host) ++ encT (tx r.pre)) B m d r.ws _ HB2.out HC2.out 990000000 (by omega) (by have h1 := HN1.out; have h2 := HN2.out; have h3 := L1.out; have h4 := L2.out; have h5 := L3.out; omega) (by have h1 := HM.out; have h2 := HOK.out.2.2.1; omega) (fun p hp => by have h := (HOK.out.2.2.2 p hp).1; rw [tx_len] at h; omega) ((HV.out.up (EW.out.drew.trans (hb1.trans hb2))).arr) (putWeight_lay S _)).mono fun _ _ h => LayN.of h).mono ?_
 rintro e w3 ⟨A3, N3, c3, rfl, HN3, HC3, HB3, HO3, hb3⟩
 simp only []
 refine hK.out _ _ (Ext W.drew) (fun _ h => h) ((hb1.trans hb2).trans hb3) (fun hSw => ?_)
 clear hK K
 try simp only [lyr]
 refine wpS_tk 10 ?_ hSw rfl (fun w' hin => ?_) ?_; rotate_left
 ·go_simp <;> with_reducible rfl
 try simp only [lyr]
 refine wpS_done (by kernel_rfl) ?_
 clear t0 t1 t2
 go_wp2_with fail
 go_ret
 have hz : w.heap.size ≤ w2.heap.size := Nat.le_trans EW.out.size (hb1.trans hb2).size
 exact LayPost.mk (by rw [HN3.out, HN2.out, HN1.out]; unfold putRl; simp only [List.length_append]; omega) (by unfold putRl; simp) (own_base HO3.out hz) (EW.out.trans ((Ext.refl _).drew.trans ((hb1.trans hb2).trans hb3)))
set_option linter.unusedVariables false
open Go.RowKit
theorem recSane_any (S : Nat → Prop) (r : Rs) (A A' : Option Addr) (n c n' c' : Nat) (w : World) (hV : RsV S w r A n c A' n' c') :
  Calls Tryz.prog 91 #[rsVal r A n c A' n' c'] w fun e w' => e = .returned (.bool (okR r)) ∧ Ext w w' := by
 have HR : Hid ((saneR r == 0) = okR r) := hid (by unfold okR; rw [Bool.eq_iff_iff]; simp)
 have HV := hid hV
 clear hV
 unfold rsVal
 go_enter Tryz.func91, Tryz.ntmps91
 go_wp2_with fail
 refine (resSane_any S r A A' n c n' c' _ (HV.out.up (Ext.new _ _))).mono ?_
 rintro e w1 ⟨rfl, hb1⟩
 go_wp2_with fail
 go_ret
 exact ⟨ret_bool HR.out, (Ext.new _ _).trans hb1⟩
theorem okR_iff (r : Rs) : okR r = true ↔ saneR r = 0 := by unfold okR; simp
theorem put_not {r : Rs} (h : okR r = false) : putR r = [] := by unfold putR; rw [if_neg]; intro h'; rw [(okR_iff r).2 h'] at h; cases h
theorem put_is {r : Rs} (h : okR r = true) : putR r = putR0 r := by unfold putR; rw [if_pos ((okR_iff r).1 h)]
theorem put_lay (S : Nat → Prop) (w0 : World) : LayR S w0 24 #[] (fun _ => True) putR 900000000 := by
 refine ⟨Tryz.call24, fun A n c bs r B m d B' m' d' w _ hB hc hn _ hv => ?_⟩
 show Calls Tryz.prog 24 #[.slice A n c, .agg #[.int .i64 r.kind, .string r.name, .int .i64 r.ver, .int .i64 r.port, .string r.to, .slice B m d, .slice B' m' d']] w _
 have HB := hid hB
 have HC := hid hc
 have HV := hid hv
 have HM := hid hv.arr.len
 have HM' := hid hv.arr'.len
 clear hB hc hv
 go_enter Tryz.func24, Tryz.ntmps24
 go_wp2_with fail
 refine (recSane_any S r B B' m d m' d' _ (HV.out.up (Ext.new _ _))).mono ?_
 rintro e w1 ⟨rfl, hb1⟩
 have KA := hid (box1b hb1).1
 have hsW := (box1b hb1).2
 have EW := hid ((Ext.new w _).trans hb1)
 clear hb1
 cases hok : okR r with
 | false =>
  have HP := hid (put_not hok)
  go_wp2_with fail
  refine (clone_any A n c bs _ (ArrR.up HB.out EW.out) HC.out (by omega)).mono ?_
  rintro e w2 ⟨v, rfl, hown, hb2⟩
  obtain ⟨A1, c1, rfl, -, -, -, -, -⟩ := own_byts hown
  go_wp2_with fail
  go_ret
  refine LayPost.mk (by rw [HP.out]; simp) (by rw [HP.out]; simp) (own_base hown EW.out.size) (EW.out.trans hb2)
 | true =>
 have HP := hid (put_is hok)
 have hR := sane_rOk ((okR_iff r).1 hok)
 have HRO := hid hR
 have hkr : 0 ≤ r.kind ∧ r.kind ≤ 3 := ((sane_iff r).1 ((okR_iff r).1 hok)).kind
 have hs1 : r.name.size ≤ 12 := by have := hR.2.1; rwa [tx_len] at this
 have L1 : Hid ((encT (tx r.name)).length ≤ 17) := hid (by have := encT_len (tx r.name); have := hR.2.1; omega)
 have L0 := hid (enc_len (bnd r.kind))
 have L2 := hid (enc_len (bnd r.ver))
 clear hR hok
 go_wp2_with fail
 have t0 : ∀ w', Ext w1.drew w' → w'.cell? ⟨w.heap.size, 0, none⟩ = some (.int .i64 r.kind) := fun w' hx => (blk_rules ((((Ext.refl w1).drew.trans hx).block hsW).trans KA.out)).1 0
 have t1 : ∀ w', Ext w1.drew w' → w'.cell? ⟨w.heap.size, 1, none⟩ = some (.string r.name) := fun w' hx => (blk_rules ((((Ext.refl w1).drew.trans hx).block hsW).trans KA.out)).1 1
 have t2 : ∀ w', Ext w1.drew w' → w'.cell? ⟨w.heap.size, 2, none⟩ = some (.int .i64 r.ver) := fun w' hx => (blk_rules ((((Ext.refl w1).drew.trans hx).block hsW).trans KA.out)).1 2
 have hSw : Ext w1.drew w1.drew := Ext.refl _
 refine wpS_begin (Ext w1.drew) (by kernel_rfl) ?_
 refine wpS_tk 0 ?_ hSw rfl (fun w' hin => ?_) ?_; rotate_left
 ·go_simp <;> with_reducible rfl
 try simp only [lyr]
 refine wpS_tk 1 ?_ hSw rfl (fun w' hin => ?_) ?_; rotate_left
 ·go_simp <;> with_reducible rfl
 try simp only [lyr]
 refine wpS_tk 2 ?_ hSw rfl (fun w' hin => ?_) ?_; rotate_left
 ·go_simp <;> with_reducible rfl
 try simp only [lyr]
 refine wpS_tk 4 ?_ hSw rfl (fun w' hin => ?_) ?_; rotate_left
 ·go_simp <;> with_reducible rfl
 try simp only [lyr]
 refine wpS_tk 5 ?_ hSw rfl (fun w' hin => ?_) ?_; rotate_left
 ·go_simp <;> with_reducible rfl
 try simp only [lyr]
 refine wpS_tk 7 ?_ hSw rfl (fun w' hin => ?_) ?_; rotate_left
 ·go_simp <;> with_reducible rfl
 try simp only [lyr]
 refine wpS_tk 8 ?_ hSw rfl (fun w' hin => ?_) ?_; rotate_left
 ·go_simp <;> with_reducible rfl
 try simp only [lyr]
 refine wpS_on 3 rfl (fun K hK => ?_)
 go_simp
 refine (number_lay A n c bs r.kind _ (ArrR.up HB.out (EW.out.drew)) HC.out (by omega)).mono ?_
 rintro e w2 ⟨A2, N2, c2, rfl, HN2, HC2, HB2, HO2, hb2⟩
 simp only []
 refine hK.out _ _ (Ext w1.drew) (fun _ h => h) (hb2) (fun hSw => ?_)
 clear hK K
 try simp only [lyr]
 refine wpS_on 6 rfl (fun K hK => ?_)
 go_simp
 refine (text_lay A2 N2 c2 (bs ++ enc (bnd r.kind)) r.name _ HB2.out HC2.out (by have h1 := HN2.out; have h2 := L0.out; omega) (by omega)).mono ?_
 rintro e w3 ⟨A3, N3, c3, rfl, HN3, HC3, HB3, HO3, hb3⟩
 simp only []
 refine hK.out _ _ (Ext w1.drew) (fun _ h => h) (hb2.trans hb3) (fun hSw => ?_)
 clear hK K
 try simp only [lyr]
 refine wpS_on 9 rfl (fun K hK => ?_)
 go_simp
 refine (number_lay A3 N3 c3 (bs ++ enc (bnd r.kind) ++ encT (tx r.name)) r.ver _ HB3.out HC3.out (by have h1 := HN2.out; have h2 := L0.out; have h3 := HN3.out; have h4 := L1.out; omega)).mono ?_
 rintro e w4 ⟨A4, N4, c4, rfl, HN4, HC4, HB4, HO4, hb4⟩
 simp only []
 refine hK.out _ _ (Ext w1.drew) (fun _ h => h) ((hb2.trans hb3).trans hb4) (fun hSw => ?_)
 clear hK K
 try simp only [lyr]
 refine wpS_tk 10 ?_ hSw rfl (fun w' hin => ?_) ?_; rotate_left
 ·go_simp <;> with_reducible rfl
 try simp only [Act.put, List.setIfInBounds_toArray, List.set_cons_zero]
 refine wpS_done (by kernel_rfl) ?_
 have E4 := hid (EW.out.trans ((Ext.refl _).drew.trans ((hb2.trans hb3).trans hb4)))
 have hs4 : w.heap.size < w4.heap.size := Nat.lt_of_lt_of_le hsW (((Ext.refl w1).drew.trans ((hb2.trans hb3).trans hb4))).size
 have K4 := hid ((((Ext.refl w1).drew.trans ((hb2.trans hb3).trans hb4)).block hsW).trans KA.out)
 have hz3 : w.heap.size ≤ w3.heap.size := Nat.le_trans EW.out.size (hb2.trans hb3).size
 have HN : Hid (N4 = n + (enc (bnd r.kind) ++ (encT (tx r.name) ++ enc (bnd r.ver))).length) := hid (by rw [HN4.out, HN3.out, HN2.out]; simp only [List.length_append]; omega)
 have HNB : Hid (N4 ≤ n + 27) := hid (by have h1 := HN4.out; have h2 := HN3.out; have h3 := HN2.out; have h4 := L0.out; have h5 := L1.out; have h6 := L2.out; omega)
 have HBS : Hid (bs ++ enc (bnd r.kind) ++ encT (tx r.name) ++ enc (bnd r.ver) = bs ++ (enc (bnd r.kind) ++ (encT (tx r.name) ++ enc (bnd r.ver)))) := hid (by simp)
 rw [HBS.out] at HB4 HO4
 have HO5 := hid (own_base HO4.out hz3)
 clear t0 t1 t2 hSw HN4 HN3 HN2 HO4 HO3 HO2 HB3 HB2 HC3 HC2 hb2 hb3 hb4
 have HZ : Hid (∀ (tl : List UInt8), putBody r = tl → putR r = (enc (bnd r.kind) ++ (encT (tx r.name) ++ enc (bnd r.ver))) ++ tl) := hid (fun tl h => by rw [HP.out]; unfold putR0; rw [h]; simp)
 have hk4 : r.kind = 0 ∨ r.kind = 1 ∨ r.kind = 2 ∨ r.kind = 3 := by omega
 obtain ⟨q0, -⟩ := blk_rules K4.out
 rcases hk4 with hk | hk | hk | hk
 ·have b0 : (r.kind == 0) = true := by rw [hk]; rfl
  have HBd : Hid (putBody r = enc (bnd r.port) ++ encT (tx r.to)) := hid (by unfold putBody; rw [if_pos hk])
  have hs2 : r.to.size ≤ 12 := by
   rcases HRO.out.2.2 with ⟨_, _, h, _⟩ | ⟨e, _⟩ | ⟨e, _⟩ | ⟨e, _⟩
   ·rwa [tx_len] at h
   all_goals omega
  have L3 := hid (enc_len (bnd r.port))
  clear hk
  go_wp2_with fail
  clear q0
  have t3 : ∀ w', Ext w4.drew w' → w'.cell? ⟨w.heap.size, 3, none⟩ = some (.int .i64 r.port) := fun w' hx => (blk_rules ((((Ext.refl w4).drew.trans hx).block hs4).trans K4.out)).1 3
  have t4 : ∀ w', Ext w4.drew w' → w'.cell? ⟨w.heap.size, 4, none⟩ = some (.string r.to) := fun w' hx => (blk_rules ((((Ext.refl w4).drew.trans hx).block hs4).trans K4.out)).1 4
  have hSw : Ext w4.drew w4.drew := Ext.refl _
  refine wpS_begin (Ext w4.drew) (by kernel_rfl) ?_
  refine wpS_tk 0 ?_ hSw rfl (fun w' hin => ?_) ?_; rotate_left
  ·go_simp <;> with_reducible rfl
  try simp only [lyr]
  refine wpS_tk 1 ?_ hSw rfl (fun w' hin => ?_) ?_; rotate_left
  ·go_simp <;> with_reducible rfl
  try simp only [lyr]
  refine wpS_tk 2 ?_ hSw rfl (fun w' hin => ?_) ?_; rotate_left
  ·go_simp <;> with_reducible rfl
  try simp only [lyr]
  refine wpS_tk 4 ?_ hSw rfl (fun w' hin => ?_) ?_; rotate_left
  ·go_simp <;> with_reducible rfl
  try simp only [lyr]
  refine wpS_tk 5 ?_ hSw rfl (fun w' hin => ?_) ?_; rotate_left
  ·go_simp <;> with_reducible rfl
  try simp only [lyr]
  refine wpS_on 3 rfl (fun K hK => ?_)
  go_simp
  refine (number_lay A4 N4 c4 _ r.port _ (ArrR.up HB4.out (Ext.refl _).drew) HC4.out (by have h1 := HNB.out; omega)).mono ?_
  rintro e w5 ⟨A5, N5, c5, rfl, HN5, HC5, HB5, HO5, hb5⟩
  simp only []
  refine hK.out _ _ (Ext w4.drew) (fun _ h => h) (hb5) (fun hSw => ?_)
  clear hK K
  try simp only [lyr]
  refine wpS_on 6 rfl (fun K hK => ?_)
  go_simp
  refine (text_lay A5 N5 c5 _ r.to _ HB5.out HC5.out (by have h1 := HNB.out; have h2 := HN5.out; have h3 := L3.out; omega) (by omega)).mono ?_
  rintro e w6 ⟨A6, N6, c6, rfl, HN6, HC6, HB6, HO6, hb6⟩
  simp only []
  refine hK.out _ _ (Ext w4.drew) (fun _ h => h) (hb5.trans hb6) (fun hSw => ?_)
  clear hK K
  try simp only [lyr]
  refine wpS_tk 7 ?_ hSw rfl (fun w' hin => ?_) ?_; rotate_left
  ·go_simp <;> with_reducible rfl
  try simp only [lyr]
  refine wpS_done (by kernel_rfl) ?_
  clear t3 t4
  go_wp2_with fail
  go_ret
  have hz : w.heap.size ≤ w5.heap.size := Nat.le_trans E4.out.size ((Ext.refl w4).drew.trans hb5).size
  exact LayPost.mk (by rw [HZ.out _ HBd.out, HN6.out, HN5.out, HN.out]; simp only [List.length_append]; omega) (by rw [HZ.out _ HBd.out]; simp) (own_base HO6.out hz) (E4.out.trans ((Ext.refl _).drew.trans (hb5.trans hb6)))
 ·have b0 : (r.kind == 0) = false := by rw [hk]; rfl
  have b1 : (r.kind == 1) = true := by rw [hk]; rfl
  have HBd : Hid (putBody r = enc r.rules.length ++ r.rules.flatMap putRl) := hid (by unfold putBody; rw [if_neg (by omega), if_pos hk])
  have HRl : Hid (r.rules.length ≤ 8 ∧ ∀ x ∈ r.rules, rlSm x) := hid (by
   rcases HRO.out.2.2 with ⟨e, _⟩ | ⟨_, _, _, h, _⟩ | ⟨e, _⟩ | ⟨e, _⟩
   ·omega
   ·exact h
   all_goals omega)
  have L3 : Hid ((r.rules.flatMap putRl).length ≤ 1464) := hid (by have h4 := flatMap_len putRl 183 r.rules (fun x hx => putRl_len (HRl.out.2 x hx)); have := HRl.out.1; omega)
  clear hk
  go_wp2_with fail
  refine ((eachL_any S 96 #[] rlSm putRl A4 N4 c4 _ B m d r.rules _ HB4.out HC4.out 980000000 (by omega) (by have h1 := HNB.out; have h2 := L3.out; omega) (by have h1 := HM.out; have h2 := HRl.out.1; omega) HRl.out.2 ((HV.out.up E4.out).arr) (putRule_lay S _)).mono fun _ _ h => LayN.of h).mono ?_
  rintro e w5 ⟨A5, N5, c5, rfl, HN5, HC5, HB5, HO6, hb5⟩
  go_wp2_with fail
  go_ret
  exact LayPost.mk (by rw [HZ.out _ HBd.out, HN5.out, HN.out]; simp only [List.length_append]; omega) (by rw [HZ.out _ HBd.out]; simp) (own_base HO6.out E4.out.size) (E4.out.trans hb5)
 ·have b0 : (r.kind == 0) = false := by rw [hk]; rfl
  have b1 : (r.kind == 1) = false := by rw [hk]; rfl
  have b2 : (r.kind == 2) = true := by rw [hk]; rfl
  have HBd : Hid (putBody r = encT (tx r.to)) := hid (by unfold putBody; rw [if_neg (by omega), if_neg (by omega), if_pos hk])
  have hs2 : r.to.size ≤ 12 := by
   rcases HRO.out.2.2 with ⟨e, _⟩ | ⟨e, _⟩ | ⟨_, _, h, _⟩ | ⟨e, _⟩
   ·omega
   ·omega
   ·rwa [tx_len] at h
   ·omega
  clear hk
  go_wp2_with fail
  refine (text_lay A4 N4 c4 _ r.to _ HB4.out HC4.out (by have h1 := HNB.out; omega) (by omega)).mono ?_
  rintro e w5 ⟨A5, N5, c5, rfl, HN5, HC5, HB5, HO6, hb5⟩
  go_wp2_with fail
  go_ret
  exact LayPost.mk (by rw [HZ.out _ HBd.out, HN5.out, HN.out]; simp only [List.length_append]; omega) (by rw [HZ.out _ HBd.out]; simp) (own_base HO6.out E4.out.size) (E4.out.trans hb5)
 ·have b0 : (r.kind == 0) = false := by rw [hk]; rfl
  have b1 : (r.kind == 1) = false := by rw [hk]; rfl
  have b2 : (r.kind == 2) = false := by rw [hk]; rfl
  have HBd : Hid (putBody r = enc r.hosts.length ++ r.hosts.flatMap putH) := hid (by unfold putBody; rw [if_neg (by omega), if_neg (by omega), if_neg (by omega)])
  have HRl : Hid (r.hosts.length ≤ 8) := hid (by
   rcases HRO.out.2.2 with ⟨e, _⟩ | ⟨e, _⟩ | ⟨e, _⟩ | ⟨_, _, _, _, h, _⟩
   ·omega
   ·omega
   ·omega
   ·exact h)
  have L3 : Hid ((r.hosts.flatMap putH).length ≤ 40) := hid (by have h4 := flatMap_len putH 5 r.hosts (fun x hx => enc_len _); have := HRl.out; omega)
  clear hk
  go_wp2_with fail
  refine ((eachH_any S 93 #[] (fun _ => True) putH A4 N4 c4 _ B' m' d' r.hosts _ HB4.out HC4.out 1000000000 (by omega) (by have h1 := HNB.out; have h2 := L3.out; omega) (by have h1 := HM'.out; have h2 := HRl.out; omega) (fun _ _ => trivial) ((HV.out.up E4.out).arr') (putH_lay S _)).mono fun _ _ h => LayN.of h).mono ?_
  rintro e w5 ⟨A5, N5, c5, rfl, HN5, HC5, HB5, HO6, hb5⟩
  go_wp2_with fail
  go_ret
  exact LayPost.mk (by rw [HZ.out _ HBd.out, HN5.out, HN.out]; simp only [List.length_append]; omega) (by rw [HZ.out _ HBd.out]; simp) (own_base HO6.out E4.out.size) (E4.out.trans hb5)
theorem gk1 {k : Ky} (h : ¬ 0 ≤ k.kind) : goodK k = false := by unfold goodK; rw [in_ff h]; rfl
theorem gk2 {k : Ky} (h : ¬ k.kind < 4) : goodK k = false := by unfold goodK inB; rw [show decide (k.kind ≤ 3) = false from decide_eq_false (by omega)]; simp
theorem gk3 {k : Ky} (h : 0 ≤ k.kind) (h2 : k.kind < 4) : goodK k = saneN (tx k.name) := by unfold goodK; rw [in_tt h (by omega), Bool.true_and]
theorem good_any (k : Ky) (w : World) (hs : k.name.size ≤ maxLen) : Calls Tryz.prog 85 #[.agg #[.int .i64 k.kind, .string k.name]] w fun e w' => e = .returned (.bool (goodK k)) ∧ Ext w w' := by
 by_cases h1 : 0 ≤ k.kind
 ·by_cases h2 : k.kind < 4
  ·have HR := hid (gk3 h1 h2)
   go_enter Tryz.func85, Tryz.ntmps85
   go_wp2_with fail
   refine (sane_any _ _ hs).mono ?_
   rintro e w1 ⟨rfl, hb1⟩
   go_wp2_with fail
   go_ret
   exact ⟨ret_bool HR.out.symm, (Ext.new _ _).trans hb1⟩
  ·have HR := hid (gk2 h2)
   go_enter Tryz.func85, Tryz.ntmps85
   go_wp2_with fail
   go_ret
   exact ⟨ret_bool HR.out.symm, Ext.new _ _⟩
 ·have HR := hid (gk1 h1)
  go_enter Tryz.func85, Tryz.ntmps85
  go_wp2_with fail
  go_ret
  exact ⟨ret_bool HR.out.symm, Ext.new _ _⟩
theorem putK_not {k : Ky} (h : goodK k = false) : putK k = [] := by unfold putK; rw [if_neg (by rw [h]; decide)]
theorem putK_is {k : Ky} (h : goodK k = true) : putK k = enc (bnd k.kind) ++ encT (tx k.name) := by unfold putK; rw [if_pos h]; rfl
theorem putKey_lay (S : Nat → Prop) (w0 : World) : LayK S w0 26 #[] (fun _ => True) putK 900000000 := by
 refine ⟨Tryz.call26, fun A n c bs k w _ hB hc hn _ hs => ?_⟩
 show Calls Tryz.prog 26 #[.slice A n c, .agg #[.int .i64 k.kind, .string k.name]] w _
 have HB := hid hB
 have HC := hid hc
 clear hB hc
 go_enter Tryz.func26, Tryz.ntmps26
 go_wp2_with fail
 refine (good_any k _ hs).mono ?_
 rintro e w1 ⟨rfl, hb1⟩
 have KA := hid (box1b hb1).1
 have hsW := (box1b hb1).2
 have EW := hid ((Ext.new w _).trans hb1)
 clear hb1
 cases hok : goodK k with
 | false =>
  have HP := hid (putK_not hok)
  go_wp2_with fail
  refine (clone_any A n c bs _ (ArrR.up HB.out EW.out) HC.out (by omega)).mono ?_
  rintro e w2 ⟨v, rfl, hown, hb2⟩
  obtain ⟨A1, c1, rfl, -, -, -, -, -⟩ := own_byts hown
  go_wp2_with fail
  go_ret
  refine LayPost.mk (by rw [HP.out]; simp) (by rw [HP.out]; simp) (own_base hown EW.out.size) (EW.out.trans hb2)
 | true =>
 have HP := hid (putK_is hok)
 have hs1 : k.name.size ≤ 12 := by have := (sane_len ((good_iff k).1 hok).2).2; rwa [tx_len] at this
 have L0 := hid (enc_len (bnd k.kind))
 clear hok
 go_wp2_with fail
 have t0 : ∀ w', Ext w1.drew w' → w'.cell? ⟨w.heap.size, 0, none⟩ = some (.int .i64 k.kind) := fun w' hx => (blk_rules ((((Ext.refl w1).drew.trans hx).block hsW).trans KA.out)).1 0
 have t1 : ∀ w', Ext w1.drew w' → w'.cell? ⟨w.heap.size, 1, none⟩ = some (.string k.name) := fun w' hx => (blk_rules ((((Ext.refl w1).drew.trans hx).block hsW).trans KA.out)).1 1
 have hSw : Ext w1.drew w1.drew := Ext.refl _
 refine wpS_begin (Ext w1.drew) (by kernel_rfl) ?_
 refine wpS_tk 0 ?_ hSw rfl (fun w' hin => ?_) ?_; rotate_left
 ·go_simp <;> with_reducible rfl
 try simp only [lyr]
 refine wpS_tk 1 ?_ hSw rfl (fun w' hin => ?_) ?_; rotate_left
 ·go_simp <;> with_reducible rfl
 try simp only [lyr]
 refine wpS_tk 2 ?_ hSw rfl (fun w' hin => ?_) ?_; rotate_left
 ·go_simp <;> with_reducible rfl
 try simp only [lyr]
 refine wpS_tk 4 ?_ hSw rfl (fun w' hin => ?_) ?_; rotate_left
 ·go_simp <;> with_reducible rfl
 try simp only [lyr]
 refine wpS_tk 5 ?_ hSw rfl (fun w' hin => ?_) ?_; rotate_left
 ·go_simp <;> with_reducible rfl
 try simp only [lyr]
 refine wpS_on 3 rfl (fun K hK => ?_)
 go_simp
 refine (number_lay A n c bs k.kind _ (ArrR.up HB.out (EW.out.drew)) HC.out (by omega)).mono ?_
 rintro e w2 ⟨A2, N2, c2, rfl, HN2, HC2, HB2, HO2, hb2⟩
 simp only []
 refine hK.out _ _ (Ext w1.drew) (fun _ h => h) (hb2) (fun hSw => ?_)
 clear hK K
 try simp only [lyr]
 refine wpS_on 6 rfl (fun K hK => ?_)
 go_simp
 refine (text_lay A2 N2 c2 (bs ++ enc (bnd k.kind)) k.name _ HB2.out HC2.out (by have h1 := HN2.out; have h2 := L0.out; omega) (by omega)).mono ?_
 rintro e w3 ⟨A3, N3, c3, rfl, HN3, HC3, HB3, HO3, hb3⟩
 simp only []
 refine hK.out _ _ (Ext w1.drew) (fun _ h => h) (hb2.trans hb3) (fun hSw => ?_)
 clear hK K
 try simp only [lyr]
 refine wpS_tk 7 ?_ hSw rfl (fun w' hin => ?_) ?_; rotate_left
 ·go_simp <;> with_reducible rfl
 try simp only [lyr]
 refine wpS_done (by kernel_rfl) ?_
 clear t0 t1
 go_wp2_with fail
 go_ret
 have hz : w.heap.size ≤ w2.heap.size := Nat.le_trans EW.out.size ((Ext.refl w1).drew.trans hb2).size
 exact LayPost.mk (by rw [HP.out, HN3.out, HN2.out]; simp only [List.length_append]; omega) (by rw [HP.out]; simp) (own_base HO3.out hz) (EW.out.trans ((Ext.refl _).drew.trans (hb2.trans hb3)))
end Go.Proofs.YtfdjbnofcniodaaGreatDoor
