/- What frame.Put lays, of whatever frame. -/
import Derived.Test.YtfdjbnofcniodaaGreatDoorQFrD
import Derived.Test.YtfdjbnofcniodaaGreatDoorQFirstAll
import Derived.Test.YtfdjbnofcniodaaGreatDoorQPutAll
namespace Go.Proofs.YtfdjbnofcniodaaGreatDoor
open Lib (hid)
set_option maxHeartbeats 8000000
set_option maxRecDepth 100000
set_option linter.unusedVariables false
open Go.RowKit
def FPut (w : World) (f : Fr) (e : Ending) (w' : World) : Prop := ∃ A N c, e = .returned (.tuple #[.slice A N c, .int .i64 (saneF f)]) ∧ SlW A N c ∧ Byts w' A N (putF f) ∧ Ext w w'
theorem own_sl {w : World} {base N c : Nat} {t : TypeId} {A : Option Addr} {bs : List UInt8} (h : w.ownsRow base t 1 (.slice A N c) N (bs.map byteV)) : SlW A N c := by
 obtain ⟨A1, c1, e1, h1, h2, h3, -, -⟩ := own_byts h
 injection e1 with e1 _ e2; subst e1 e2; exact ⟨h1, h2, h3⟩
theorem frPut_bad (S : Nat → Prop) (f : Fr) (s : FrS) (w : World) (hV : FrV S w f s) (hs : saneF f ≠ 0) :
  Calls Tryz.prog 63 #[frVal f s] w (FPut w f) := by
 have HV := hid hV
 have HP : Hid (putF f = []) := hid (by unfold putF; rw [if_neg hs])
 obtain ⟨⟨A1, n1, c1⟩, ⟨A2, n2, c2⟩, ⟨A3, n3, c3⟩, ⟨A4, n4, c4⟩⟩ := s
 clear hV
 rw [show frVal f ⟨⟨A1, n1, c1⟩, ⟨A2, n2, c2⟩, ⟨A3, n3, c3⟩, ⟨A4, n4, c4⟩⟩ = .agg #[.int .i64 f.typ, .int .i64 f.epoch, .int .i64 f.kind, .int .i64 f.nonce, .int .i64 f.turn, .slice A1 n1 c1, .slice A2 n2 c2, .int .i64 f.err, .slice A3 n3 c3, .slice A4 n4 c4] from rfl]
 go_enter Tryz.func63, Tryz.ntmps63
 go_wp2_with fail
 refine (frSane_any S f ⟨⟨A1, n1, c1⟩, ⟨A2, n2, c2⟩, ⟨A3, n3, c3⟩, ⟨A4, n4, c4⟩⟩ _ (HV.out.up (Ext.new _ _))).mono ?_
 rintro e w1 ⟨rfl, hb1⟩
 have E1 := hid ((Ext.new w _).trans hb1)
 have hq : (saneF f != 0) = true := by simpa using hs
 go_wp2_with fail
 exact bodyPost_ret (v := .tuple #[.slice none 0 0, .int .i64 (saneF f)]) (by simp [results, Tryz.results63, go_sem]) rfl ⟨none, 0, 0, rfl, SlW.nil_, by rw [HP.out]; exact ArrR.nil_, E1.out⟩
theorem sane_lens {f : Fr} (h : saneF f = 0) : f.adds.length ≤ 64 ∧ f.gone.length ≤ 64 ∧ f.hav.length ≤ 64 ∧ f.held.length ≤ 64 := by
 have h1 := ((saneF_iff f).1 h).small
 unfold smallF at h1
 simp only [Bool.and_eq_true, decide_eq_true_eq] at h1
 omega
theorem frPut_drain (S : Nat → Prop) (f : Fr) (s : FrS) (w : World) (hV : FrV S w f s) (hs : saneF f = 0) (ht : f.typ = 3) :
  Calls Tryz.prog 63 #[frVal f s] w (FPut w f) := by
 have HV := hid hV
 have HT := hid ht
 have HZ := hid hs
 have HP : Hid (putF f = putF0 f) := hid (by unfold putF; rw [if_pos hs])
 have HLn := sane_lens hs
 rw [hV.adds.len, hV.gone.len, hV.hav.len, hV.held.len] at HLn
 have HLn := hid HLn
 obtain ⟨⟨A1, n1, c1⟩, ⟨A2, n2, c2⟩, ⟨A3, n3, c3⟩, ⟨A4, n4, c4⟩⟩ := s
 simp only at HLn
 clear hV ht
 rw [show frVal f ⟨⟨A1, n1, c1⟩, ⟨A2, n2, c2⟩, ⟨A3, n3, c3⟩, ⟨A4, n4, c4⟩⟩ = .agg #[.int .i64 f.typ, .int .i64 f.epoch, .int .i64 f.kind, .int .i64 f.nonce, .int .i64 f.turn, .slice A1 n1 c1, .slice A2 n2 c2, .int .i64 f.err, .slice A3 n3 c3, .slice A4 n4 c4] from rfl]
 go_enter Tryz.func63, Tryz.ntmps63
 go_wp2_with fail
 refine (frSane_any S f ⟨⟨A1, n1, c1⟩, ⟨A2, n2, c2⟩, ⟨A3, n3, c3⟩, ⟨A4, n4, c4⟩⟩ _ (HV.out.up (Ext.new _ _))).mono ?_
 rintro e w1 ⟨rfl, hb1⟩
 rw [hs]
 have EH := hid ((Ext.new w _).trans hb1)
 have KH := hid (box_up hb1)
 have hsH := (box1b hb1).2
 clear hb1 hs
 obtain ⟨q0, -⟩ := blk_rules KH.out
 go_wp2_with fail
 obtain ⟨t0, t1, t2, t3, t4, t5, t6, t7, t8, t9⟩ := bx10 (S := Ext w1.drew) (fun w' hx => (blk_rules ((((Ext.refl w1).drew.trans hx).block hsH).trans KH.out)).1)
 have hSw : Ext w1.drew w1.drew := Ext.refl _
 refine wpS_begin (Ext w1.drew) (by kernel_rfl) ?_
 refine wpS_tk 0 ?_ hSw rfl (fun w' hin => ?_) ?_; rotate_left
 ·go_simp <;> with_reducible rfl
 try simp only [lyr]
 refine wpS_tk 1 ?_ hSw rfl (fun w' hin => ?_) ?_; rotate_left
 ·go_simp <;> with_reducible rfl
 try simp only [lyr]
 refine wpS_tk 3 ?_ hSw rfl (fun w' hin => ?_) ?_; rotate_left
 ·go_simp <;> with_reducible rfl
 try simp only [lyr]
 refine wpS_tk 4 ?_ hSw rfl (fun w' hin => ?_) ?_; rotate_left
 ·go_simp <;> with_reducible rfl
 try simp only [lyr]
 refine wpS_on 2 rfl (fun K hK => ?_)
 go_simp
 refine (number_lay none 0 0 ([]) f.typ _ ArrR.nil_ (fun _ => rfl) (by  omega)).mono ?_
 rintro e wp1 ⟨Q1, M1, e1, rfl, HM1, HCq1, HBq1, HOq1, hp1⟩
 simp only []
 refine hK.out _ _ (Ext w1.drew) (fun _ h => h) (hp1) (fun hSw => ?_)
 clear hK K
 try simp only [lyr]
 refine wpS_on 5 rfl (fun K hK => ?_)
 go_simp
 refine (number_lay Q1 M1 e1 ([] ++ enc (bnd f.typ)) f.epoch _ HBq1.out HCq1.out (by have l1 := HM1.out; have m1 := enc_len (bnd f.typ); omega)).mono ?_
 rintro e wp2 ⟨Q2, M2, e2, rfl, HM2, HCq2, HBq2, HOq2, hp2⟩
 simp only []
 refine hK.out _ _ (Ext w1.drew) (fun _ h => h) ((hp1).trans hp2) (fun hSw => ?_)
 clear hK K
 try simp only [lyr]
 refine wpS_tk 6 ?_ hSw rfl (fun w' hin => ?_) ?_; rotate_left
 ·go_simp <;> with_reducible rfl
 try simp only [lyr]
 refine wpS_done (by kernel_rfl) ?_
 clear t0 t1 t2 t3 t4 t5 t6 t7 t8 t9
 have EN := hid (EH.out.trans ((Ext.refl w1).drew.trans ((hp1).trans hp2)))
 have KN := hid ((((Ext.refl w1).drew.trans ((hp1).trans hp2)).block hsH).trans KH.out)
 have hsN : w.heap.size < wp2.heap.size := Nat.lt_of_lt_of_le hsH ((Ext.refl w1).drew.trans ((hp1).trans hp2)).size
 clear EH KH hsH q0
 have EH := EN
 have KH := KN
 have hsH := hsN
 clear EN KN hsN
 obtain ⟨q0, -⟩ := blk_rules KH.out
 have ht := HT.out
 go_wp2_with fail
 obtain ⟨t0, t1, t2, t3, t4, t5, t6, t7, t8, t9⟩ := bx10 (S := Ext wp2.drew) (fun w' hx => (blk_rules ((((Ext.refl wp2).drew.trans hx).block hsH).trans KH.out)).1)
 have hSw : Ext wp2.drew wp2.drew := Ext.refl _
 refine wpS_begin (Ext wp2.drew) (by kernel_rfl) ?_
 refine wpS_tk 0 ?_ hSw rfl (fun w' hin => ?_) ?_; rotate_left
 ·go_simp <;> with_reducible rfl
 try simp only [lyr]
 refine wpS_tk 1 ?_ hSw rfl (fun w' hin => ?_) ?_; rotate_left
 ·go_simp <;> with_reducible rfl
 try simp only [lyr]
 refine wpS_tk 2 ?_ hSw rfl (fun w' hin => ?_) ?_; rotate_left
 ·go_simp <;> with_reducible rfl
 try simp only [lyr]
 refine wpS_tk 4 ?_ hSw rfl (fun w' hin => ?_) ?_; rotate_left
 ·go_simp <;> with_reducible rfl
 try simp only [lyr]
 refine wpS_tk 5 ?_ hSw rfl (fun w' hin => ?_) ?_; rotate_left
 ·go_simp <;> with_reducible rfl
 try simp only [lyr]
 refine wpS_on 3 rfl (fun K hK => ?_)
 go_simp
 refine (number_lay Q2 M2 e2 ([] ++ enc (bnd f.typ) ++ enc (bnd f.epoch)) f.turn _ (ArrR.up HBq2.out (Ext.refl _).drew) HCq2.out (by have l1 := HM1.out; have m1 := enc_len (bnd f.typ); have l2 := HM2.out; have m2 := enc_len (bnd f.epoch); omega)).mono ?_
 rintro e wp3 ⟨Q3, M3, e3, rfl, HM3, HCq3, HBq3, HOq3, hp3⟩
 simp only []
 refine hK.out _ _ (Ext wp2.drew) (fun _ h => h) (hp3) (fun hSw => ?_)
 clear hK K
 try simp only [lyr]
 refine wpS_on 6 rfl (fun K hK => ?_)
 go_simp
 refine ((putKeys_any S Q3 M3 e3 ([] ++ enc (bnd f.typ) ++ enc (bnd f.epoch) ++ enc (bnd f.turn)) A4 n4 c4 f.held _ HBq3.out HCq3.out (by have l1 := HM1.out; have m1 := enc_len (bnd f.typ); have l2 := HM2.out; have m2 := enc_len (bnd f.epoch); have l3 := HM3.out; have m3 := enc_len (bnd f.turn); omega) HV.out.sk (by have l0 := HLn.out.2.2.2; omega) (KeyL.keep HV.out.held (EH.out.trans ((Ext.refl wp2).drew.trans hSw)).keep)).mono fun _ _ h => LayN.of h).mono ?_
 rintro e wp4 ⟨Q4, M4, e4, rfl, HM4, HCq4, HBq4, HOq4, hp4⟩
 simp only []
 refine hK.out _ _ (Ext wp2.drew) (fun _ h => h) ((hp3).trans hp4) (fun hSw => ?_)
 clear hK K
 try simp only [lyr]
 refine wpS_tk 7 ?_ hSw rfl (fun w' hin => ?_) ?_; rotate_left
 ·go_simp <;> with_reducible rfl
 try simp only [lyr]
 refine wpS_done (by kernel_rfl) ?_
 clear t0 t1 t2 t3 t4 t5 t6 t7 t8 t9
 have EN := hid (EH.out.trans ((Ext.refl wp2).drew.trans ((hp3).trans hp4)))
 have KN := hid ((((Ext.refl wp2).drew.trans ((hp3).trans hp4)).block hsH).trans KH.out)
 have hsN : w.heap.size < wp4.heap.size := Nat.lt_of_lt_of_le hsH ((Ext.refl wp2).drew.trans ((hp3).trans hp4)).size
 clear EH KH hsH q0
 have EH := EN
 have KH := KN
 have hsH := hsN
 clear EN KN hsN
 obtain ⟨q0, -⟩ := blk_rules KH.out
 go_wp2_with fail
 exact bodyPost_ret (v := .tuple #[.slice Q4 M4 e4, .int .i64 0]) (by simp [results, Tryz.results63, go_sem]) rfl ⟨Q4, M4, e4, by rw [HZ.out], own_sl HOq4.out, by
  have h := HBq4.out
  rw [show putF f = [] ++ enc (bnd f.typ) ++ enc (bnd f.epoch) ++ enc (bnd f.turn) ++ putKeys f.held from by rw [HP.out]; simp [putF0, putFB, HT.out]]
  exact h, EH.out⟩
theorem frPut_push (S : Nat → Prop) (f : Fr) (s : FrS) (w : World) (hV : FrV S w f s) (hs : saneF f = 0) (ht : f.typ = 1) :
  Calls Tryz.prog 63 #[frVal f s] w (FPut w f) := by
 have HV := hid hV
 have HT := hid ht
 have HZ := hid hs
 have HP : Hid (putF f = putF0 f) := hid (by unfold putF; rw [if_pos hs])
 have HLn := sane_lens hs
 rw [hV.adds.len, hV.gone.len, hV.hav.len, hV.held.len] at HLn
 have HLn := hid HLn
 obtain ⟨⟨A1, n1, c1⟩, ⟨A2, n2, c2⟩, ⟨A3, n3, c3⟩, ⟨A4, n4, c4⟩⟩ := s
 simp only at HLn
 clear hV ht
 rw [show frVal f ⟨⟨A1, n1, c1⟩, ⟨A2, n2, c2⟩, ⟨A3, n3, c3⟩, ⟨A4, n4, c4⟩⟩ = .agg #[.int .i64 f.typ, .int .i64 f.epoch, .int .i64 f.kind, .int .i64 f.nonce, .int .i64 f.turn, .slice A1 n1 c1, .slice A2 n2 c2, .int .i64 f.err, .slice A3 n3 c3, .slice A4 n4 c4] from rfl]
 go_enter Tryz.func63, Tryz.ntmps63
 go_wp2_with fail
 refine (frSane_any S f ⟨⟨A1, n1, c1⟩, ⟨A2, n2, c2⟩, ⟨A3, n3, c3⟩, ⟨A4, n4, c4⟩⟩ _ (HV.out.up (Ext.new _ _))).mono ?_
 rintro e w1 ⟨rfl, hb1⟩
 rw [hs]
 have EH := hid ((Ext.new w _).trans hb1)
 have KH := hid (box_up hb1)
 have hsH := (box1b hb1).2
 clear hb1 hs
 obtain ⟨q0, -⟩ := blk_rules KH.out
 go_wp2_with fail
 obtain ⟨t0, t1, t2, t3, t4, t5, t6, t7, t8, t9⟩ := bx10 (S := Ext w1.drew) (fun w' hx => (blk_rules ((((Ext.refl w1).drew.trans hx).block hsH).trans KH.out)).1)
 have hSw : Ext w1.drew w1.drew := Ext.refl _
 refine wpS_begin (Ext w1.drew) (by kernel_rfl) ?_
 refine wpS_tk 0 ?_ hSw rfl (fun w' hin => ?_) ?_; rotate_left
 ·go_simp <;> with_reducible rfl
 try simp only [lyr]
 refine wpS_tk 1 ?_ hSw rfl (fun w' hin => ?_) ?_; rotate_left
 ·go_simp <;> with_reducible rfl
 try simp only [lyr]
 refine wpS_tk 3 ?_ hSw rfl (fun w' hin => ?_) ?_; rotate_left
 ·go_simp <;> with_reducible rfl
 try simp only [lyr]
 refine wpS_tk 4 ?_ hSw rfl (fun w' hin => ?_) ?_; rotate_left
 ·go_simp <;> with_reducible rfl
 try simp only [lyr]
 refine wpS_on 2 rfl (fun K hK => ?_)
 go_simp
 refine (number_lay none 0 0 ([]) f.typ _ ArrR.nil_ (fun _ => rfl) (by  omega)).mono ?_
 rintro e wp1 ⟨Q1, M1, e1, rfl, HM1, HCq1, HBq1, HOq1, hp1⟩
 simp only []
 refine hK.out _ _ (Ext w1.drew) (fun _ h => h) (hp1) (fun hSw => ?_)
 clear hK K
 try simp only [lyr]
 refine wpS_on 5 rfl (fun K hK => ?_)
 go_simp
 refine (number_lay Q1 M1 e1 ([] ++ enc (bnd f.typ)) f.epoch _ HBq1.out HCq1.out (by have l1 := HM1.out; have m1 := enc_len (bnd f.typ); omega)).mono ?_
 rintro e wp2 ⟨Q2, M2, e2, rfl, HM2, HCq2, HBq2, HOq2, hp2⟩
 simp only []
 refine hK.out _ _ (Ext w1.drew) (fun _ h => h) ((hp1).trans hp2) (fun hSw => ?_)
 clear hK K
 try simp only [lyr]
 refine wpS_tk 6 ?_ hSw rfl (fun w' hin => ?_) ?_; rotate_left
 ·go_simp <;> with_reducible rfl
 try simp only [lyr]
 refine wpS_done (by kernel_rfl) ?_
 clear t0 t1 t2 t3 t4 t5 t6 t7 t8 t9
 have EN := hid (EH.out.trans ((Ext.refl w1).drew.trans ((hp1).trans hp2)))
 have KN := hid ((((Ext.refl w1).drew.trans ((hp1).trans hp2)).block hsH).trans KH.out)
 have hsN : w.heap.size < wp2.heap.size := Nat.lt_of_lt_of_le hsH ((Ext.refl w1).drew.trans ((hp1).trans hp2)).size
 clear EH KH hsH q0
 have EH := EN
 have KH := KN
 have hsH := hsN
 clear EN KN hsN
 obtain ⟨q0, -⟩ := blk_rules KH.out
 have ht := HT.out
 go_wp2_with fail
 obtain ⟨t0, t1, t2, t3, t4, t5, t6, t7, t8, t9⟩ := bx10 (S := Ext wp2.drew) (fun w' hx => (blk_rules ((((Ext.refl wp2).drew.trans hx).block hsH).trans KH.out)).1)
 have hSw : Ext wp2.drew wp2.drew := Ext.refl _
 refine wpS_begin (Ext wp2.drew) (by kernel_rfl) ?_
 refine wpS_tk 0 ?_ hSw rfl (fun w' hin => ?_) ?_; rotate_left
 ·go_simp <;> with_reducible rfl
 try simp only [lyr]
 refine wpS_tk 1 ?_ hSw rfl (fun w' hin => ?_) ?_; rotate_left
 ·go_simp <;> with_reducible rfl
 try simp only [lyr]
 refine wpS_tk 2 ?_ hSw rfl (fun w' hin => ?_) ?_; rotate_left
 ·go_simp <;> with_reducible rfl
 try simp only [lyr]
 refine wpS_tk 4 ?_ hSw rfl (fun w' hin => ?_) ?_; rotate_left
 ·go_simp <;> with_reducible rfl
 try simp only [lyr]
 refine wpS_tk 5 ?_ hSw rfl (fun w' hin => ?_) ?_; rotate_left
 ·go_simp <;> with_reducible rfl
 try simp only [lyr]
 refine wpS_on 3 rfl (fun K hK => ?_)
 go_simp
 refine (number_lay Q2 M2 e2 ([] ++ enc (bnd f.typ) ++ enc (bnd f.epoch)) f.kind _ (ArrR.up HBq2.out (Ext.refl _).drew) HCq2.out (by have l1 := HM1.out; have m1 := enc_len (bnd f.typ); have l2 := HM2.out; have m2 := enc_len (bnd f.epoch); omega)).mono ?_
 rintro e wp3 ⟨Q3, M3, e3, rfl, HM3, HCq3, HBq3, HOq3, hp3⟩
 simp only []
 refine hK.out _ _ (Ext wp2.drew) (fun _ h => h) (hp3) (fun hSw => ?_)
 clear hK K
 try simp only [lyr]
 refine wpS_on 6 rfl (fun K hK => ?_)
 go_simp
 refine (number_lay Q3 M3 e3 ([] ++ enc (bnd f.typ) ++ enc (bnd f.epoch) ++ enc (bnd f.kind)) f.nonce _ HBq3.out HCq3.out (by have l1 := HM1.out; have m1 := enc_len (bnd f.typ); have l2 := HM2.out; have m2 := enc_len (bnd f.epoch); have l3 := HM3.out; have m3 := enc_len (bnd f.kind); omega)).mono ?_
 rintro e wp4 ⟨Q4, M4, e4, rfl, HM4, HCq4, HBq4, HOq4, hp4⟩
 simp only []
 refine hK.out _ _ (Ext wp2.drew) (fun _ h => h) ((hp3).trans hp4) (fun hSw => ?_)
 clear hK K
 try simp only [lyr]
 refine wpS_tk 7 ?_ hSw rfl (fun w' hin => ?_) ?_; rotate_left
 ·go_simp <;> with_reducible rfl
 try simp only [lyr]
 refine wpS_done (by kernel_rfl) ?_
 clear t0 t1 t2 t3 t4 t5 t6 t7 t8 t9
 have EN := hid (EH.out.trans ((Ext.refl wp2).drew.trans ((hp3).trans hp4)))
 have KN := hid ((((Ext.refl wp2).drew.trans ((hp3).trans hp4)).block hsH).trans KH.out)
 have hsN : w.heap.size < wp4.heap.size := Nat.lt_of_lt_of_le hsH ((Ext.refl wp2).drew.trans ((hp3).trans hp4)).size
 clear EH KH hsH q0
 have EH := EN
 have KH := KN
 have hsH := hsN
 clear EN KN hsN
 obtain ⟨q0, -⟩ := blk_rules KH.out
 go_wp2_with fail
 obtain ⟨t0, t1, t2, t3, t4, t5, t6, t7, t8, t9⟩ := bx10 (S := Ext wp4.drew) (fun w' hx => (blk_rules ((((Ext.refl wp4).drew.trans hx).block hsH).trans KH.out)).1)
 have hSw : Ext wp4.drew wp4.drew := Ext.refl _
 refine wpS_begin (Ext wp4.drew) (by kernel_rfl) ?_
 refine wpS_tk 0 ?_ hSw rfl (fun w' hin => ?_) ?_; rotate_left
 ·go_simp <;> with_reducible rfl
 try simp only [lyr]
 refine wpS_tk 1 ?_ hSw rfl (fun w' hin => ?_) ?_; rotate_left
 ·go_simp <;> with_reducible rfl
 try simp only [lyr]
 refine wpS_tk 2 ?_ hSw rfl (fun w' hin => ?_) ?_; rotate_left
 ·go_simp <;> with_reducible rfl
 try simp only [lyr]
 refine wpS_tk 4 ?_ hSw rfl (fun w' hin => ?_) ?_; rotate_left
 ·go_simp <;> with_reducible rfl
 try simp only [lyr]
 refine wpS_tk 5 ?_ hSw rfl (fun w' hin => ?_) ?_; rotate_left
 ·go_simp <;> with_reducible rfl
 try simp only [lyr]
 refine wpS_on 3 rfl (fun K hK => ?_)
 go_simp
 refine ((putAll_any S Q4 M4 e4 ([] ++ enc (bnd f.typ) ++ enc (bnd f.epoch) ++ enc (bnd f.kind) ++ enc (bnd f.nonce)) A1 n1 c1 f.adds _ (ArrR.up HBq4.out (Ext.refl _).drew) HCq4.out (by have l1 := HM1.out; have m1 := enc_len (bnd f.typ); have l2 := HM2.out; have m2 := enc_len (bnd f.epoch); have l3 := HM3.out; have m3 := enc_len (bnd f.kind); have l4 := HM4.out; have m4 := enc_len (bnd f.nonce); omega) HV.out.sa (by have l0 := HLn.out.1; omega) (ResL.keep HV.out.adds (EH.out.trans ((Ext.refl wp4).drew.trans hSw)).keep)).mono fun _ _ h => LayN.of h).mono ?_
 rintro e wp5 ⟨Q5, M5, e5, rfl, HM5, HCq5, HBq5, HOq5, hp5⟩
 simp only []
 refine hK.out _ _ (Ext wp4.drew) (fun _ h => h) (hp5) (fun hSw => ?_)
 clear hK K
 try simp only [lyr]
 refine wpS_on 6 rfl (fun K hK => ?_)
 go_simp
 refine ((putKeys_any S Q5 M5 e5 ([] ++ enc (bnd f.typ) ++ enc (bnd f.epoch) ++ enc (bnd f.kind) ++ enc (bnd f.nonce) ++ putAll f.adds) A2 n2 c2 f.gone _ HBq5.out HCq5.out (by have l1 := HM1.out; have m1 := enc_len (bnd f.typ); have l2 := HM2.out; have m2 := enc_len (bnd f.epoch); have l3 := HM3.out; have m3 := enc_len (bnd f.kind); have l4 := HM4.out; have m4 := enc_len (bnd f.nonce); have l5 := HM5.out; have m5 := putAll_len f.adds; omega) HV.out.sg (by have l0 := HLn.out.2.1; omega) (KeyL.keep HV.out.gone (EH.out.trans ((Ext.refl wp4).drew.trans hSw)).keep)).mono fun _ _ h => LayN.of h).mono ?_
 rintro e wp6 ⟨Q6, M6, e6, rfl, HM6, HCq6, HBq6, HOq6, hp6⟩
 simp only []
 refine hK.out _ _ (Ext wp4.drew) (fun _ h => h) ((hp5).trans hp6) (fun hSw => ?_)
 clear hK K
 try simp only [lyr]
 refine wpS_tk 7 ?_ hSw rfl (fun w' hin => ?_) ?_; rotate_left
 ·go_simp <;> with_reducible rfl
 try simp only [lyr]
 refine wpS_done (by kernel_rfl) ?_
 clear t0 t1 t2 t3 t4 t5 t6 t7 t8 t9
 have EN := hid (EH.out.trans ((Ext.refl wp4).drew.trans ((hp5).trans hp6)))
 have KN := hid ((((Ext.refl wp4).drew.trans ((hp5).trans hp6)).block hsH).trans KH.out)
 have hsN : w.heap.size < wp6.heap.size := Nat.lt_of_lt_of_le hsH ((Ext.refl wp4).drew.trans ((hp5).trans hp6)).size
 clear EH KH hsH q0
 have EH := EN
 have KH := KN
 have hsH := hsN
 clear EN KN hsN
 obtain ⟨q0, -⟩ := blk_rules KH.out
 go_wp2_with fail
 exact bodyPost_ret (v := .tuple #[.slice Q6 M6 e6, .int .i64 0]) (by simp [results, Tryz.results63, go_sem]) rfl ⟨Q6, M6, e6, by rw [HZ.out], own_sl HOq6.out, by
  have h := HBq6.out
  rw [show putF f = [] ++ enc (bnd f.typ) ++ enc (bnd f.epoch) ++ enc (bnd f.kind) ++ enc (bnd f.nonce) ++ putAll f.adds ++ putKeys f.gone from by rw [HP.out]; simp [putF0, putFB, HT.out]]
  exact h, EH.out⟩
theorem frPut_ack (S : Nat → Prop) (f : Fr) (s : FrS) (w : World) (hV : FrV S w f s) (hs : saneF f = 0) (ht : f.typ = 2) :
  Calls Tryz.prog 63 #[frVal f s] w (FPut w f) := by
 have HV := hid hV
 have HT := hid ht
 have HZ := hid hs
 have HP : Hid (putF f = putF0 f) := hid (by unfold putF; rw [if_pos hs])
 have HLn := sane_lens hs
 rw [hV.adds.len, hV.gone.len, hV.hav.len, hV.held.len] at HLn
 have HLn := hid HLn
 obtain ⟨⟨A1, n1, c1⟩, ⟨A2, n2, c2⟩, ⟨A3, n3, c3⟩, ⟨A4, n4, c4⟩⟩ := s
 simp only at HLn
 clear hV ht
 rw [show frVal f ⟨⟨A1, n1, c1⟩, ⟨A2, n2, c2⟩, ⟨A3, n3, c3⟩, ⟨A4, n4, c4⟩⟩ = .agg #[.int .i64 f.typ, .int .i64 f.epoch, .int .i64 f.kind, .int .i64 f.nonce, .int .i64 f.turn, .slice A1 n1 c1, .slice A2 n2 c2, .int .i64 f.err, .slice A3 n3 c3, .slice A4 n4 c4] from rfl]
 go_enter Tryz.func63, Tryz.ntmps63
 go_wp2_with fail
 refine (frSane_any S f ⟨⟨A1, n1, c1⟩, ⟨A2, n2, c2⟩, ⟨A3, n3, c3⟩, ⟨A4, n4, c4⟩⟩ _ (HV.out.up (Ext.new _ _))).mono ?_
 rintro e w1 ⟨rfl, hb1⟩
 rw [hs]
 have EH := hid ((Ext.new w _).trans hb1)
 have KH := hid (box_up hb1)
 have hsH := (box1b hb1).2
 clear hb1 hs
 obtain ⟨q0, -⟩ := blk_rules KH.out
 go_wp2_with fail
 obtain ⟨t0, t1, t2, t3, t4, t5, t6, t7, t8, t9⟩ := bx10 (S := Ext w1.drew) (fun w' hx => (blk_rules ((((Ext.refl w1).drew.trans hx).block hsH).trans KH.out)).1)
 have hSw : Ext w1.drew w1.drew := Ext.refl _
 refine wpS_begin (Ext w1.drew) (by kernel_rfl) ?_
 refine wpS_tk 0 ?_ hSw rfl (fun w' hin => ?_) ?_; rotate_left
 ·go_simp <;> with_reducible rfl
 try simp only [lyr]
 refine wpS_tk 1 ?_ hSw rfl (fun w' hin => ?_) ?_; rotate_left
 ·go_simp <;> with_reducible rfl
 try simp only [lyr]
 refine wpS_tk 3 ?_ hSw rfl (fun w' hin => ?_) ?_; rotate_left
 ·go_simp <;> with_reducible rfl
 try simp only [lyr]
 refine wpS_tk 4 ?_ hSw rfl (fun w' hin => ?_) ?_; rotate_left
 ·go_simp <;> with_reducible rfl
 try simp only [lyr]
 refine wpS_on 2 rfl (fun K hK => ?_)
 go_simp
 refine (number_lay none 0 0 ([]) f.typ _ ArrR.nil_ (fun _ => rfl) (by  omega)).mono ?_
 rintro e wp1 ⟨Q1, M1, e1, rfl, HM1, HCq1, HBq1, HOq1, hp1⟩
 simp only []
 refine hK.out _ _ (Ext w1.drew) (fun _ h => h) (hp1) (fun hSw => ?_)
 clear hK K
 try simp only [lyr]
 refine wpS_on 5 rfl (fun K hK => ?_)
 go_simp
 refine (number_lay Q1 M1 e1 ([] ++ enc (bnd f.typ)) f.epoch _ HBq1.out HCq1.out (by have l1 := HM1.out; have m1 := enc_len (bnd f.typ); omega)).mono ?_
 rintro e wp2 ⟨Q2, M2, e2, rfl, HM2, HCq2, HBq2, HOq2, hp2⟩
 simp only []
 refine hK.out _ _ (Ext w1.drew) (fun _ h => h) ((hp1).trans hp2) (fun hSw => ?_)
 clear hK K
 try simp only [lyr]
 refine wpS_tk 6 ?_ hSw rfl (fun w' hin => ?_) ?_; rotate_left
 ·go_simp <;> with_reducible rfl
 try simp only [lyr]
 refine wpS_done (by kernel_rfl) ?_
 clear t0 t1 t2 t3 t4 t5 t6 t7 t8 t9
 have EN := hid (EH.out.trans ((Ext.refl w1).drew.trans ((hp1).trans hp2)))
 have KN := hid ((((Ext.refl w1).drew.trans ((hp1).trans hp2)).block hsH).trans KH.out)
 have hsN : w.heap.size < wp2.heap.size := Nat.lt_of_lt_of_le hsH ((Ext.refl w1).drew.trans ((hp1).trans hp2)).size
 clear EH KH hsH q0
 have EH := EN
 have KH := KN
 have hsH := hsN
 clear EN KN hsN
 obtain ⟨q0, -⟩ := blk_rules KH.out
 have ht := HT.out
 go_wp2_with fail
 obtain ⟨t0, t1, t2, t3, t4, t5, t6, t7, t8, t9⟩ := bx10 (S := Ext wp2.drew) (fun w' hx => (blk_rules ((((Ext.refl wp2).drew.trans hx).block hsH).trans KH.out)).1)
 have hSw : Ext wp2.drew wp2.drew := Ext.refl _
 refine wpS_begin (Ext wp2.drew) (by kernel_rfl) ?_
 refine wpS_tk 0 ?_ hSw rfl (fun w' hin => ?_) ?_; rotate_left
 ·go_simp <;> with_reducible rfl
 try simp only [lyr]
 refine wpS_tk 1 ?_ hSw rfl (fun w' hin => ?_) ?_; rotate_left
 ·go_simp <;> with_reducible rfl
 try simp only [lyr]
 refine wpS_tk 2 ?_ hSw rfl (fun w' hin => ?_) ?_; rotate_left
 ·go_simp <;> with_reducible rfl
 try simp only [lyr]
 refine wpS_tk 4 ?_ hSw rfl (fun w' hin => ?_) ?_; rotate_left
 ·go_simp <;> with_reducible rfl
 try simp only [lyr]
 refine wpS_tk 5 ?_ hSw rfl (fun w' hin => ?_) ?_; rotate_left
 ·go_simp <;> with_reducible rfl
 try simp only [lyr]
 refine wpS_tk 7 ?_ hSw rfl (fun w' hin => ?_) ?_; rotate_left
 ·go_simp <;> with_reducible rfl
 try simp only [lyr]
 refine wpS_tk 8 ?_ hSw rfl (fun w' hin => ?_) ?_; rotate_left
 ·go_simp <;> with_reducible rfl
 try simp only [lyr]
 refine wpS_on 3 rfl (fun K hK => ?_)
 go_simp
 refine (number_lay Q2 M2 e2 ([] ++ enc (bnd f.typ) ++ enc (bnd f.epoch)) f.kind _ (ArrR.up HBq2.out (Ext.refl _).drew) HCq2.out (by have l1 := HM1.out; have m1 := enc_len (bnd f.typ); have l2 := HM2.out; have m2 := enc_len (bnd f.epoch); omega)).mono ?_
 rintro e wp3 ⟨Q3, M3, e3, rfl, HM3, HCq3, HBq3, HOq3, hp3⟩
 simp only []
 refine hK.out _ _ (Ext wp2.drew) (fun _ h => h) (hp3) (fun hSw => ?_)
 clear hK K
 try simp only [lyr]
 refine wpS_on 6 rfl (fun K hK => ?_)
 go_simp
 refine (number_lay Q3 M3 e3 ([] ++ enc (bnd f.typ) ++ enc (bnd f.epoch) ++ enc (bnd f.kind)) f.nonce _ HBq3.out HCq3.out (by have l1 := HM1.out; have m1 := enc_len (bnd f.typ); have l2 := HM2.out; have m2 := enc_len (bnd f.epoch); have l3 := HM3.out; have m3 := enc_len (bnd f.kind); omega)).mono ?_
 rintro e wp4 ⟨Q4, M4, e4, rfl, HM4, HCq4, HBq4, HOq4, hp4⟩
 simp only []
 refine hK.out _ _ (Ext wp2.drew) (fun _ h => h) ((hp3).trans hp4) (fun hSw => ?_)
 clear hK K
 try simp only [lyr]
 refine wpS_on 9 rfl (fun K hK => ?_)
 go_simp
 refine (number_lay Q4 M4 e4 ([] ++ enc (bnd f.typ) ++ enc (bnd f.epoch) ++ enc (bnd f.kind) ++ enc (bnd f.nonce)) f.err _ HBq4.out HCq4.out (by have l1 := HM1.out; have m1 := enc_len (bnd f.typ); have l2 := HM2.out; have m2 := enc_len (bnd f.epoch); have l3 := HM3.out; have m3 := enc_len (bnd f.kind); have l4 := HM4.out; have m4 := enc_len (bnd f.nonce); omega)).mono ?_
 rintro e wp5 ⟨Q5, M5, e5, rfl, HM5, HCq5, HBq5, HOq5, hp5⟩
 simp only []
 refine hK.out _ _ (Ext wp2.drew) (fun _ h => h) (((hp3).trans hp4).trans hp5) (fun hSw => ?_)
 clear hK K
 try simp only [lyr]
 refine wpS_tk 10 ?_ hSw rfl (fun w' hin => ?_) ?_; rotate_left
 ·go_simp <;> with_reducible rfl
 try simp only [lyr]
 refine wpS_done (by kernel_rfl) ?_
 clear t0 t1 t2 t3 t4 t5 t6 t7 t8 t9
 have EN := hid (EH.out.trans ((Ext.refl wp2).drew.trans (((hp3).trans hp4).trans hp5)))
 have KN := hid ((((Ext.refl wp2).drew.trans (((hp3).trans hp4).trans hp5)).block hsH).trans KH.out)
 have hsN : w.heap.size < wp5.heap.size := Nat.lt_of_lt_of_le hsH ((Ext.refl wp2).drew.trans (((hp3).trans hp4).trans hp5)).size
 clear EH KH hsH q0
 have EH := EN
 have KH := KN
 have hsH := hsN
 clear EN KN hsN
 obtain ⟨q0, -⟩ := blk_rules KH.out
 go_wp2_with fail
 obtain ⟨t0, t1, t2, t3, t4, t5, t6, t7, t8, t9⟩ := bx10 (S := Ext wp5.drew) (fun w' hx => (blk_rules ((((Ext.refl wp5).drew.trans hx).block hsH).trans KH.out)).1)
 have hSw : Ext wp5.drew wp5.drew := Ext.refl _
 refine wpS_begin (Ext wp5.drew) (by kernel_rfl) ?_
 refine wpS_tk 0 ?_ hSw rfl (fun w' hin => ?_) ?_; rotate_left
 ·go_simp <;> with_reducible rfl
 try simp only [lyr]
 refine wpS_tk 1 ?_ hSw rfl (fun w' hin => ?_) ?_; rotate_left
 ·go_simp <;> with_reducible rfl
 try simp only [lyr]
 refine wpS_tk 2 ?_ hSw rfl (fun w' hin => ?_) ?_; rotate_left
 ·go_simp <;> with_reducible rfl
 try simp only [lyr]
 refine wpS_tk 4 ?_ hSw rfl (fun w' hin => ?_) ?_; rotate_left
 ·go_simp <;> with_reducible rfl
 try simp only [lyr]
 refine wpS_tk 5 ?_ hSw rfl (fun w' hin => ?_) ?_; rotate_left
 ·go_simp <;> with_reducible rfl
 try simp only [lyr]
 refine wpS_on 3 rfl (fun K hK => ?_)
 go_simp
 refine (number_lay Q5 M5 e5 ([] ++ enc (bnd f.typ) ++ enc (bnd f.epoch) ++ enc (bnd f.kind) ++ enc (bnd f.nonce) ++ enc (bnd f.err)) f.turn _ (ArrR.up HBq5.out (Ext.refl _).drew) HCq5.out (by have l1 := HM1.out; have m1 := enc_len (bnd f.typ); have l2 := HM2.out; have m2 := enc_len (bnd f.epoch); have l3 := HM3.out; have m3 := enc_len (bnd f.kind); have l4 := HM4.out; have m4 := enc_len (bnd f.nonce); have l5 := HM5.out; have m5 := enc_len (bnd f.err); omega)).mono ?_
 rintro e wp6 ⟨Q6, M6, e6, rfl, HM6, HCq6, HBq6, HOq6, hp6⟩
 simp only []
 refine hK.out _ _ (Ext wp5.drew) (fun _ h => h) (hp6) (fun hSw => ?_)
 clear hK K
 try simp only [lyr]
 refine wpS_on 6 rfl (fun K hK => ?_)
 go_simp
 refine ((putKeys_any S Q6 M6 e6 ([] ++ enc (bnd f.typ) ++ enc (bnd f.epoch) ++ enc (bnd f.kind) ++ enc (bnd f.nonce) ++ enc (bnd f.err) ++ enc (bnd f.turn)) A4 n4 c4 f.held _ HBq6.out HCq6.out (by have l1 := HM1.out; have m1 := enc_len (bnd f.typ); have l2 := HM2.out; have m2 := enc_len (bnd f.epoch); have l3 := HM3.out; have m3 := enc_len (bnd f.kind); have l4 := HM4.out; have m4 := enc_len (bnd f.nonce); have l5 := HM5.out; have m5 := enc_len (bnd f.err); have l6 := HM6.out; have m6 := enc_len (bnd f.turn); omega) HV.out.sk (by have l0 := HLn.out.2.2.2; omega) (KeyL.keep HV.out.held (EH.out.trans ((Ext.refl wp5).drew.trans hSw)).keep)).mono fun _ _ h => LayN.of h).mono ?_
 rintro e wp7 ⟨Q7, M7, e7, rfl, HM7, HCq7, HBq7, HOq7, hp7⟩
 simp only []
 refine hK.out _ _ (Ext wp5.drew) (fun _ h => h) ((hp6).trans hp7) (fun hSw => ?_)
 clear hK K
 try simp only [lyr]
 refine wpS_tk 7 ?_ hSw rfl (fun w' hin => ?_) ?_; rotate_left
 ·go_simp <;> with_reducible rfl
 try simp only [lyr]
 refine wpS_done (by kernel_rfl) ?_
 clear t0 t1 t2 t3 t4 t5 t6 t7 t8 t9
 have EN := hid (EH.out.trans ((Ext.refl wp5).drew.trans ((hp6).trans hp7)))
 have KN := hid ((((Ext.refl wp5).drew.trans ((hp6).trans hp7)).block hsH).trans KH.out)
 have hsN : w.heap.size < wp7.heap.size := Nat.lt_of_lt_of_le hsH ((Ext.refl wp5).drew.trans ((hp6).trans hp7)).size
 clear EH KH hsH q0
 have EH := EN
 have KH := KN
 have hsH := hsN
 clear EN KN hsN
 obtain ⟨q0, -⟩ := blk_rules KH.out
 go_wp2_with fail
 exact bodyPost_ret (v := .tuple #[.slice Q7 M7 e7, .int .i64 0]) (by simp [results, Tryz.results63, go_sem]) rfl ⟨Q7, M7, e7, by rw [HZ.out], own_sl HOq7.out, by
  have h := HBq7.out
  rw [show putF f = [] ++ enc (bnd f.typ) ++ enc (bnd f.epoch) ++ enc (bnd f.kind) ++ enc (bnd f.nonce) ++ enc (bnd f.err) ++ enc (bnd f.turn) ++ putKeys f.held from by rw [HP.out]; simp [putF0, putFB, HT.out]]
  exact h, EH.out⟩
theorem frPut_hello (S : Nat → Prop) (f : Fr) (s : FrS) (w : World) (hV : FrV S w f s) (hs : saneF f = 0) (ht : f.typ = 0) :
  Calls Tryz.prog 63 #[frVal f s] w (FPut w f) := by
 have HV := hid hV
 have HT := hid ht
 have HZ := hid hs
 have HP : Hid (putF f = putF0 f) := hid (by unfold putF; rw [if_pos hs])
 have HLn := sane_lens hs
 rw [hV.adds.len, hV.gone.len, hV.hav.len, hV.held.len] at HLn
 have HLn := hid HLn
 obtain ⟨⟨A1, n1, c1⟩, ⟨A2, n2, c2⟩, ⟨A3, n3, c3⟩, ⟨A4, n4, c4⟩⟩ := s
 simp only at HLn
 clear hV ht
 rw [show frVal f ⟨⟨A1, n1, c1⟩, ⟨A2, n2, c2⟩, ⟨A3, n3, c3⟩, ⟨A4, n4, c4⟩⟩ = .agg #[.int .i64 f.typ, .int .i64 f.epoch, .int .i64 f.kind, .int .i64 f.nonce, .int .i64 f.turn, .slice A1 n1 c1, .slice A2 n2 c2, .int .i64 f.err, .slice A3 n3 c3, .slice A4 n4 c4] from rfl]
 go_enter Tryz.func63, Tryz.ntmps63
 go_wp2_with fail
 refine (frSane_any S f ⟨⟨A1, n1, c1⟩, ⟨A2, n2, c2⟩, ⟨A3, n3, c3⟩, ⟨A4, n4, c4⟩⟩ _ (HV.out.up (Ext.new _ _))).mono ?_
 rintro e w1 ⟨rfl, hb1⟩
 rw [hs]
 have EH := hid ((Ext.new w _).trans hb1)
 have KH := hid (box_up hb1)
 have hsH := (box1b hb1).2
 clear hb1 hs
 obtain ⟨q0, -⟩ := blk_rules KH.out
 go_wp2_with fail
 obtain ⟨t0, t1, t2, t3, t4, t5, t6, t7, t8, t9⟩ := bx10 (S := Ext w1.drew) (fun w' hx => (blk_rules ((((Ext.refl w1).drew.trans hx).block hsH).trans KH.out)).1)
 have hSw : Ext w1.drew w1.drew := Ext.refl _
 refine wpS_begin (Ext w1.drew) (by kernel_rfl) ?_
 refine wpS_tk 0 ?_ hSw rfl (fun w' hin => ?_) ?_; rotate_left
 ·go_simp <;> with_reducible rfl
 try simp only [lyr]
 refine wpS_tk 1 ?_ hSw rfl (fun w' hin => ?_) ?_; rotate_left
 ·go_simp <;> with_reducible rfl
 try simp only [lyr]
 refine wpS_tk 3 ?_ hSw rfl (fun w' hin => ?_) ?_; rotate_left
 ·go_simp <;> with_reducible rfl
 try simp only [lyr]
 refine wpS_tk 4 ?_ hSw rfl (fun w' hin => ?_) ?_; rotate_left
 ·go_simp <;> with_reducible rfl
 try simp only [lyr]
 refine wpS_on 2 rfl (fun K hK => ?_)
 go_simp
 refine (number_lay none 0 0 ([]) f.typ _ ArrR.nil_ (fun _ => rfl) (by  omega)).mono ?_
 rintro e wp1 ⟨Q1, M1, e1, rfl, HM1, HCq1, HBq1, HOq1, hp1⟩
 simp only []
 refine hK.out _ _ (Ext w1.drew) (fun _ h => h) (hp1) (fun hSw => ?_)
 clear hK K
 try simp only [lyr]
 refine wpS_on 5 rfl (fun K hK => ?_)
 go_simp
 refine (number_lay Q1 M1 e1 ([] ++ enc (bnd f.typ)) f.epoch _ HBq1.out HCq1.out (by have l1 := HM1.out; have m1 := enc_len (bnd f.typ); omega)).mono ?_
 rintro e wp2 ⟨Q2, M2, e2, rfl, HM2, HCq2, HBq2, HOq2, hp2⟩
 simp only []
 refine hK.out _ _ (Ext w1.drew) (fun _ h => h) ((hp1).trans hp2) (fun hSw => ?_)
 clear hK K
 try simp only [lyr]
 refine wpS_tk 6 ?_ hSw rfl (fun w' hin => ?_) ?_; rotate_left
 ·go_simp <;> with_reducible rfl
 try simp only [lyr]
 refine wpS_done (by kernel_rfl) ?_
 clear t0 t1 t2 t3 t4 t5 t6 t7 t8 t9
 have EN := hid (EH.out.trans ((Ext.refl w1).drew.trans ((hp1).trans hp2)))
 have KN := hid ((((Ext.refl w1).drew.trans ((hp1).trans hp2)).block hsH).trans KH.out)
 have hsN : w.heap.size < wp2.heap.size := Nat.lt_of_lt_of_le hsH ((Ext.refl w1).drew.trans ((hp1).trans hp2)).size
 clear EH KH hsH q0
 have EH := EN
 have KH := KN
 have hsH := hsN
 clear EN KN hsN
 obtain ⟨q0, -⟩ := blk_rules KH.out
 have ht := HT.out
 go_wp2_with fail
 refine (number_lay Q2 M2 e2 ([] ++ enc (bnd f.typ) ++ enc (bnd f.epoch)) (n3 : Int) _ HBq2.out HCq2.out (by have l1 := HM1.out; have m1 := enc_len (bnd f.typ); have l2 := HM2.out; have m2 := enc_len (bnd f.epoch); omega)).mono ?_
 rintro e wp3 ⟨Q3, M3, e3, rfl, HM3, HCq3, HBq3, HOq3, hp3⟩
 have hM3 : M3 ≤ 15 := by have l1 := HM1.out; have m1 := enc_len (bnd f.typ); have l2 := HM2.out; have m2 := enc_len (bnd f.epoch); have l3 := HM3.out; have m3 := enc_len (bnd (n3 : Int)); omega
 have EH3 := hid (EH.out.trans hp3)
 have KH3 := hid ((hp3.block hsH).trans KH.out)
 clear EH KH hsH q0
 obtain ⟨q0, -⟩ := blk_rules KH3.out
 have hn64 : n3 ≤ 64 := HLn.out.2.2.1
 go_wp2_with fail
 go_loopw [5, 38] (fun bv i wr => ∃ (k : Nat) (A : Option Addr) (N c : Nat), k ≤ n3 ∧ i = .int .i64 k ∧ bv = .slice A N c ∧ Hid (N ≤ 15 + k * 27) ∧ Hid (SlW A N c) ∧ Hid (Byts wr A N ([] ++ enc (bnd f.typ) ++ enc (bnd f.epoch) ++ enc (bnd (n3 : Int)) ++ (f.hav.take k).flatMap putM)) ∧ Hid (Ext w wr)) (fun _ i _ => n3 - (intOf i).toNat)
 case atStart => exact ⟨0, Q3, M3, e3, by omega, by go_num, rfl, hid (by omega), hid (own_sl HOq3.out), hid (by simpa using HBq3.out), EH3⟩
 case round =>
  obtain ⟨k, A, N, c, hk, rfl, rfl, HN, HSl, HBy, HX⟩ := hrel
  by_cases hlt : k < n3
  ·obtain ⟨b, o, y, v, rfl, hbB, -, hlk, hsz, hc0, hc1, hc2⟩ := MkL.at_ HV.out.hav hlt
   obtain ⟨d0, d1, d2⟩ := up3 (HX.out) hbB hc0 hc1 hc2
   have hbw := Nat.lt_of_lt_of_le hbB HX.out.size
   have HLk := hid hlk
   have i1 : (0 : Int) ≤ (k : Int) := by omega
   have i2 : (k : Int) < (n3 : Int) := by omega
   clear hlk hc0 hc1 hc2
   go_wp2_with fail
   have KM := hid (heap_alloc_new wr (.cells #[.int .i64 y.kind, .string y.name, .int .i64 v] 152))
   have hsM : wr.heap.size < (wr.alloc (.cells #[.int .i64 y.kind, .string y.name, .int .i64 v] 152)).heap.size := by simp
   have EM := hid (Ext.new wr (.cells #[.int .i64 y.kind, .string y.name, .int .i64 v] 152))
   clear d0 d1 d2
   generalize wr.alloc (.cells #[.int .i64 y.kind, .string y.name, .int .i64 v] 152) = W at KM hsM EM ⊢
   have t0 : ∀ w', Ext W.drew w' → w'.cell? ⟨wr.heap.size, 0, none⟩ = some (.int .i64 y.kind) := fun w' hx => (blk_rules ((((Ext.refl W).drew.trans hx).block hsM).trans KM.out)).1 0
   have t1 : ∀ w', Ext W.drew w' → w'.cell? ⟨wr.heap.size, 1, none⟩ = some (.string y.name) := fun w' hx => (blk_rules ((((Ext.refl W).drew.trans hx).block hsM).trans KM.out)).1 1
   have t2 : ∀ w', Ext W.drew w' → w'.cell? ⟨wr.heap.size, 2, none⟩ = some (.int .i64 v) := fun w' hx => (blk_rules ((((Ext.refl W).drew.trans hx).block hsM).trans KM.out)).1 2
   have hSw : Ext W.drew W.drew := Ext.refl _
   refine wpS_begin (Ext W.drew) (by kernel_rfl) ?_
   refine wpS_tk 0 ?_ hSw rfl (fun w' hin => ?_) ?_; rotate_left
   ·go_simp <;> with_reducible rfl
   try simp only [lyr]
   refine wpS_tk 1 ?_ hSw rfl (fun w' hin => ?_) ?_; rotate_left
   ·go_simp <;> with_reducible rfl
   try simp only [lyr]
   refine wpS_tk 2 ?_ hSw rfl (fun w' hin => ?_) ?_; rotate_left
   ·go_simp <;> with_reducible rfl
   try simp only [lyr]
   refine wpS_tk 4 ?_ hSw rfl (fun w' hin => ?_) ?_; rotate_left
   ·go_simp <;> with_reducible rfl
   try simp only [lyr]
   refine wpS_tk 5 ?_ hSw rfl (fun w' hin => ?_) ?_; rotate_left
   ·go_simp <;> with_reducible rfl
   try simp only [lyr]
   refine wpS_on 3 rfl (fun K hK => ?_)
   go_simp
   refine (((putKey_lay (fun _ => True) _).2 A N c ([] ++ enc (bnd f.typ) ++ enc (bnd f.epoch) ++ enc (bnd (n3 : Int)) ++ (f.hav.take k).flatMap putM) y _ (Ext.refl _) (ArrR.up HBy.out (EM.out.trans ((Ext.refl W).drew.trans hSw))) HSl.out.2.2 (by have l0 := HN.out; omega) trivial hsz).mono fun _ _ h => LayN.of h).mono ?_
   rintro e wa ⟨Qa, Ma, ea, rfl, HMa, HCa, HBa, HOa, ha⟩
   simp only []
   refine hK.out _ _ (Ext W.drew) (fun _ h => h) (ha) (fun hSw => ?_)
   clear hK K
   try simp only [lyr]
   refine wpS_on 6 rfl (fun K hK => ?_)
   go_simp
   refine (number_lay Qa Ma ea ([] ++ enc (bnd f.typ) ++ enc (bnd f.epoch) ++ enc (bnd (n3 : Int)) ++ (f.hav.take k).flatMap putM ++ putK y) v _ HBa.out HCa.out (by have l0 := HN.out; have l1 := HMa.out; have m1 := putK_len y; omega)).mono ?_
   rintro e wb ⟨Qb, Mb, eb, rfl, HMb, HCb, HBb, HOb, hb⟩
   simp only []
   refine hK.out _ _ (Ext W.drew) (fun _ h => h) (ha.trans hb) (fun hSw => ?_)
   clear hK K
   try simp only [lyr]
   refine wpS_tk 7 ?_ hSw rfl (fun w' hin => ?_) ?_; rotate_left
   ·go_simp <;> with_reducible rfl
   try simp only [lyr]
   refine wpS_done (by kernel_rfl) ?_
   clear t0 t1 t2
   have HN2 : Hid (Mb ≤ 15 + (k + 1) * 27) := hid (by have l0 := HN.out; have l1 := HMa.out; have m1 := putK_len y; have l2 := HMb.out; have m2 := enc_len (bnd v); omega)
   have HBy2 : Hid (Byts wb Qb Mb ([] ++ enc (bnd f.typ) ++ enc (bnd f.epoch) ++ enc (bnd (n3 : Int)) ++ (f.hav.take (k + 1)).flatMap putM)) := hid (by
    have h := HBb.out
    rw [take_snoc_of HLk.out, List.flatMap_append]
    simpa [putM] using h)
   have HX2 := hid (HX.out.trans (EM.out.trans ((Ext.refl W).drew.trans (ha.trans hb))))
   have HSl2 := hid (own_sl HOb.out)
   go_wp2_with fail
   go_roundw
   case rel => exact ⟨k + 1, Qb, Mb, eb, by omega, by go_num, rfl, HN2, HSl2, HBy2, HX2⟩
   case measure => simp [intOf]; omega
  ·obtain rfl : n3 = k := by omega
   have HFin : Hid (Byts wr A N (putF f)) := hid (by
    have h := HBy.out
    have hl : f.hav.length = n3 := HV.out.hav.len
    rw [List.take_of_length_le (Nat.le_of_eq hl)] at h
    rw [HP.out]
    rw [show bnd (n3 : Int) = n3 from bnd_of (by omega)] at h
    simpa [putF0, putFB, HT.out, hl] using h)
   go_wp2_with fail
   exact bodyPost_ret (v := .tuple #[.slice A N c, .int .i64 0]) (by simp [results, Tryz.results63, go_sem]) rfl ⟨A, N, c, by rw [HZ.out], HSl.out, HFin.out, HX.out⟩
set_option linter.unusedVariables false
open Go.RowKit
theorem frPut_any (S : Nat → Prop) (f : Fr) (s : FrS) (w : World) (hV : FrV S w f s) :
  Calls Tryz.prog 63 #[frVal f s] w (FPut w f) := by
 by_cases hs : saneF f = 0
 ·have ht := ((saneF_iff f).1 hs).typ
  by_cases h0 : f.typ = 0
  ·exact frPut_hello S f s w hV hs h0
  by_cases h1 : f.typ = 1
  ·exact frPut_push S f s w hV hs h1
  by_cases h2 : f.typ = 2
  ·exact frPut_ack S f s w hV hs h2
  exact frPut_drain S f s w hV hs (by omega)
 ·exact frPut_bad S f s w hV hs
end Go.Proofs.YtfdjbnofcniodaaGreatDoor
