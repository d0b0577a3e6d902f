/- What the document's Put of layer 10 lays. -/
import Derived.Test.YtfdjbnofcniodaaGreatDoorQRf3
import Derived.Test.YtfdjbnofcniodaaGreatDoorQFrPutA
import Derived.Test.YtfdjbnofcniodaaGreatDoorQRef04p
namespace Go.Proofs.YtfdjbnofcniodaaGreatDoor
open Lib (hid)
set_option maxHeartbeats 8000000
set_option maxRecDepth 100000
set_option linter.unusedVariables false
open Go.RowKit
theorem refPut10_bad (f : Fr) (s : FrS) (w : World) (hV : FrV (fun _ => True) w f s) (hs : saneF f ≠ 0) :
  Calls Tryz.prog 65 #[frVal f s] w (FPut w f) := by
 have HV := hid hV
 obtain ⟨⟨A1, n1, c1⟩, ⟨A2, n2, c2⟩, ⟨A3, n3, c3⟩, ⟨A4, n4, c4⟩⟩ := s
 have h1m : n1 ≤ 9223372036854775807 := by have := hV.sa.len; unfold maxLen at this; exact this
 have h2m : n2 ≤ 9223372036854775807 := by have := hV.sg.len; unfold maxLen at this; exact this
 have h3m : n3 ≤ 9223372036854775807 := by have := hV.sh.len; unfold maxLen at this; exact this
 have h4m : n4 ≤ 9223372036854775807 := by have := hV.sk.len; unfold maxLen at this; exact this
 have l1 : f.adds.length = n1 := hV.adds.len
 have l2 : f.gone.length = n2 := hV.gone.len
 have l3 : f.hav.length = n3 := hV.hav.len
 have l4 : f.held.length = n4 := hV.held.len
 clear hV
 rw [show frVal f ⟨⟨A1, n1, c1⟩, ⟨A2, n2, c2⟩, ⟨A3, n3, c3⟩, ⟨A4, n4, c4⟩⟩ = .agg #[.int .i64 f.typ, .int .i64 f.epoch, .int .i64 f.kind, .int .i64 f.nonce, .int .i64 f.turn, .slice A1 n1 c1, .slice A2 n2 c2, .int .i64 f.err, .slice A3 n3 c3, .slice A4 n4 c4] from rfl]
 have HFV : Hid (frVal f ⟨⟨A1, n1, c1⟩, ⟨A2, n2, c2⟩, ⟨A3, n3, c3⟩, ⟨A4, n4, c4⟩⟩ = .agg #[.int .i64 f.typ, .int .i64 f.epoch, .int .i64 f.kind, .int .i64 f.nonce, .int .i64 f.turn, .slice A1 n1 c1, .slice A2 n2 c2, .int .i64 f.err, .slice A3 n3 c3, .slice A4 n4 c4]) := hid rfl
 have HP : Hid (putF f = []) := hid (by unfold putF; rw [if_neg hs])
 go_enter Tryz.func65, Tryz.ntmps65
 go_wp2_with fail
 have KF := hid (heap_alloc_new w (.cells #[.int .i64 f.typ, .int .i64 f.epoch, .int .i64 f.kind, .int .i64 f.nonce, .int .i64 f.turn, .slice A1 n1 c1, .slice A2 n2 c2, .int .i64 f.err, .slice A3 n3 c3, .slice A4 n4 c4] 87))
 have E0 := hid (Ext.new w (.cells #[.int .i64 f.typ, .int .i64 f.epoch, .int .i64 f.kind, .int .i64 f.nonce, .int .i64 f.turn, .slice A1 n1 c1, .slice A2 n2 c2, .int .i64 f.err, .slice A3 n3 c3, .slice A4 n4 c4] 87))
 generalize w.alloc (.cells #[.int .i64 f.typ, .int .i64 f.epoch, .int .i64 f.kind, .int .i64 f.nonce, .int .i64 f.turn, .slice A1 n1 c1, .slice A2 n2 c2, .int .i64 f.err, .slice A3 n3 c3, .slice A4 n4 c4] 87) = W at KF E0 ⊢
 obtain ⟨q, -⟩ := blk_rules KF.out
 rw [← HFV.out]
 refine (refSane10_any _ f _ _ (HV.out.up E0.out)).mono ?_
 rintro e w1 ⟨rfl, hb1⟩
 have E_1 := hid (E0.out.trans hb1)
 have K_1 := hid ((hb1.block (Array.getElem?_eq_some_iff.1 KF.out).1).trans KF.out)
 clear hb1 q KF
 have hq : (saneF f != 0) = true := by simpa using hs
 go_wp2_with fail
 exact bodyPost_ret (v := .tuple #[.slice none 0 0, .int .i64 (saneF f)]) (by simp [results, Tryz.results65, go_sem]) rfl ⟨none, 0, 0, rfl, SlW.nil_, by rw [HP.out]; exact ArrR.nil_, E_1.out⟩
theorem refPut10_drain (f : Fr) (s : FrS) (w : World) (hV : FrV (fun _ => True) w f s) (hs : saneF f = 0) (ht : f.typ = 3) :
  Calls Tryz.prog 65 #[frVal f s] w (FPut w f) := by
 have HV := hid hV
 obtain ⟨⟨A1, n1, c1⟩, ⟨A2, n2, c2⟩, ⟨A3, n3, c3⟩, ⟨A4, n4, c4⟩⟩ := s
 have h1m : n1 ≤ 9223372036854775807 := by have := hV.sa.len; unfold maxLen at this; exact this
 have h2m : n2 ≤ 9223372036854775807 := by have := hV.sg.len; unfold maxLen at this; exact this
 have h3m : n3 ≤ 9223372036854775807 := by have := hV.sh.len; unfold maxLen at this; exact this
 have h4m : n4 ≤ 9223372036854775807 := by have := hV.sk.len; unfold maxLen at this; exact this
 have l1 : f.adds.length = n1 := hV.adds.len
 have l2 : f.gone.length = n2 := hV.gone.len
 have l3 : f.hav.length = n3 := hV.hav.len
 have l4 : f.held.length = n4 := hV.held.len
 clear hV
 rw [show frVal f ⟨⟨A1, n1, c1⟩, ⟨A2, n2, c2⟩, ⟨A3, n3, c3⟩, ⟨A4, n4, c4⟩⟩ = .agg #[.int .i64 f.typ, .int .i64 f.epoch, .int .i64 f.kind, .int .i64 f.nonce, .int .i64 f.turn, .slice A1 n1 c1, .slice A2 n2 c2, .int .i64 f.err, .slice A3 n3 c3, .slice A4 n4 c4] from rfl]
 have HFV : Hid (frVal f ⟨⟨A1, n1, c1⟩, ⟨A2, n2, c2⟩, ⟨A3, n3, c3⟩, ⟨A4, n4, c4⟩⟩ = .agg #[.int .i64 f.typ, .int .i64 f.epoch, .int .i64 f.kind, .int .i64 f.nonce, .int .i64 f.turn, .slice A1 n1 c1, .slice A2 n2 c2, .int .i64 f.err, .slice A3 n3 c3, .slice A4 n4 c4]) := hid rfl
 have HT := hid ht
 have HZ := hid hs
 have HP : Hid (putF f = putF0 f) := hid (by unfold putF; rw [if_pos hs])
 obtain ⟨b1, b2, b3, b4⟩ := sane_lens hs
 rw [l1] at b1
 rw [l2] at b2
 rw [l3] at b3
 rw [l4] at b4
 clear ht
 go_enter Tryz.func65, Tryz.ntmps65
 go_wp2_with fail
 have KF := hid (heap_alloc_new w (.cells #[.int .i64 f.typ, .int .i64 f.epoch, .int .i64 f.kind, .int .i64 f.nonce, .int .i64 f.turn, .slice A1 n1 c1, .slice A2 n2 c2, .int .i64 f.err, .slice A3 n3 c3, .slice A4 n4 c4] 87))
 have E0 := hid (Ext.new w (.cells #[.int .i64 f.typ, .int .i64 f.epoch, .int .i64 f.kind, .int .i64 f.nonce, .int .i64 f.turn, .slice A1 n1 c1, .slice A2 n2 c2, .int .i64 f.err, .slice A3 n3 c3, .slice A4 n4 c4] 87))
 generalize w.alloc (.cells #[.int .i64 f.typ, .int .i64 f.epoch, .int .i64 f.kind, .int .i64 f.nonce, .int .i64 f.turn, .slice A1 n1 c1, .slice A2 n2 c2, .int .i64 f.err, .slice A3 n3 c3, .slice A4 n4 c4] 87) = W at KF E0 ⊢
 obtain ⟨q, -⟩ := blk_rules KF.out
 rw [← HFV.out]
 refine (refSane10_any _ f _ _ (HV.out.up E0.out)).mono ?_
 rintro e w1 ⟨rfl, hb1⟩
 have E_1 := hid (E0.out.trans hb1)
 have K_1 := hid ((hb1.block (Array.getElem?_eq_some_iff.1 KF.out).1).trans KF.out)
 clear hb1 q KF
 rw [hs]
 clear hs
 obtain ⟨q, -⟩ := blk_rules K_1.out
 go_wp2_with fail
 refine (refNumber_lay none 0 0 ([]) f.typ _ ArrR.nil_ (fun _ => rfl) (by  omega)).mono ?_
 rintro e w2 h
 obtain ⟨Q2, N2, c20, rfl, hL, hN, hb⟩ := LaidAt.of h
 have L2 : Hid (LaidAt w1 w2 0 [] (enc (bnd f.typ)) Q2 N2 c20) := hid hL
 have Y2 : Hid (N2 ≤ 0 + (enc (bnd f.typ)).length) := hid (Nat.le_of_eq hN)
 have X2 := enc_len (bnd f.typ)
 have E_2 := hid (E_1.out.trans hb)
 have K_2 := hid ((hb.block (Array.getElem?_eq_some_iff.1 K_1.out).1).trans K_1.out)
 clear h hL hN hb q
 obtain ⟨q, -⟩ := blk_rules K_2.out
 go_wp2_with fail
 refine (refNumber_lay Q2 N2 c20 ([] ++ (enc (bnd f.typ))) f.epoch _ L2.out.byts L2.out.nil (by have y2 := Y2.out;  omega)).mono ?_
 rintro e w3 h
 obtain ⟨Q3, N3, c30, rfl, hL, hN, hb⟩ := L2.out.next h
 have L3 : Hid (LaidAt w1 w3 0 [] (enc (bnd f.typ) ++ enc (bnd f.epoch)) Q3 N3 c30) := hid hL
 have Y3 : Hid (N3 ≤ N2 + (enc (bnd f.epoch)).length) := hid (Nat.le_of_eq hN)
 have X3 := enc_len (bnd f.epoch)
 have E_3 := hid (E_2.out.trans hb)
 have K_3 := hid ((hb.block (Array.getElem?_eq_some_iff.1 K_2.out).1).trans K_2.out)
 clear h hL hN hb q
 have ht := HT.out
 obtain ⟨q, -⟩ := blk_rules K_3.out
 go_wp2_with fail
 refine (refNumber_lay Q3 N3 c30 ([] ++ (enc (bnd f.typ) ++ enc (bnd f.epoch))) f.turn _ L3.out.byts L3.out.nil (by have y2 := Y2.out;  have y3 := Y3.out;  omega)).mono ?_
 rintro e w4 h
 obtain ⟨Q4, N4, c40, rfl, hL, hN, hb⟩ := L3.out.next h
 have L4 : Hid (LaidAt w1 w4 0 [] (enc (bnd f.typ) ++ enc (bnd f.epoch) ++ enc (bnd f.turn)) Q4 N4 c40) := hid hL
 have Y4 : Hid (N4 ≤ N3 + (enc (bnd f.turn)).length) := hid (Nat.le_of_eq hN)
 have X4 := enc_len (bnd f.turn)
 have E_4 := hid (E_3.out.trans hb)
 have K_4 := hid ((hb.block (Array.getElem?_eq_some_iff.1 K_3.out).1).trans K_3.out)
 clear h hL hN hb q
 obtain ⟨q, -⟩ := blk_rules K_4.out
 go_wp2_with fail
 refine ((refPutKeys_any Q4 N4 c40 ([] ++ (enc (bnd f.typ) ++ enc (bnd f.epoch) ++ enc (bnd f.turn))) A4 n4 c4 f.held _ L4.out.byts L4.out.nil (by have y2 := Y2.out;  have y3 := Y3.out;  have y4 := Y4.out;  omega) (by omega) (KeyL.keep HV.out.held E_4.out.keep)).mono (fun _ _ h => LayN.of h)).mono ?_
 rintro e w5 h
 obtain ⟨Q5, N5, c50, rfl, hL, hN, hb⟩ := L4.out.next h
 have L5 : Hid (LaidAt w1 w5 0 [] (enc (bnd f.typ) ++ enc (bnd f.epoch) ++ enc (bnd f.turn) ++ putKeys f.held) Q5 N5 c50) := hid hL
 have Y5 : Hid (N5 ≤ N4 + (putKeys f.held).length) := hid (Nat.le_of_eq hN)
 have X5 := putKeys_len f.held
 have E_5 := hid (E_4.out.trans hb)
 have K_5 := hid ((hb.block (Array.getElem?_eq_some_iff.1 K_4.out).1).trans K_4.out)
 clear h hL hN hb q
 go_wp2_with fail
 exact bodyPost_ret (v := .tuple #[.slice Q5 N5 c50, .int .i64 0]) (by simp [results, Tryz.results65, go_sem]) rfl ⟨Q5, N5, c50, by rw [HZ.out], own_sl L5.out.own, by
  have h := L5.out.byts
  rw [show putF f = [] ++ (enc (bnd f.typ) ++ enc (bnd f.epoch) ++ enc (bnd f.turn) ++ putKeys f.held) from by rw [HP.out]; simp [putF0, putFB, HT.out]]
  exact h, E_5.out⟩
theorem refPut10_push (f : Fr) (s : FrS) (w : World) (hV : FrV (fun _ => True) w f s) (hs : saneF f = 0) (ht : f.typ = 1) :
  Calls Tryz.prog 65 #[frVal f s] w (FPut w f) := by
 have HV := hid hV
 obtain ⟨⟨A1, n1, c1⟩, ⟨A2, n2, c2⟩, ⟨A3, n3, c3⟩, ⟨A4, n4, c4⟩⟩ := s
 have h1m : n1 ≤ 9223372036854775807 := by have := hV.sa.len; unfold maxLen at this; exact this
 have h2m : n2 ≤ 9223372036854775807 := by have := hV.sg.len; unfold maxLen at this; exact this
 have h3m : n3 ≤ 9223372036854775807 := by have := hV.sh.len; unfold maxLen at this; exact this
 have h4m : n4 ≤ 9223372036854775807 := by have := hV.sk.len; unfold maxLen at this; exact this
 have l1 : f.adds.length = n1 := hV.adds.len
 have l2 : f.gone.length = n2 := hV.gone.len
 have l3 : f.hav.length = n3 := hV.hav.len
 have l4 : f.held.length = n4 := hV.held.len
 clear hV
 rw [show frVal f ⟨⟨A1, n1, c1⟩, ⟨A2, n2, c2⟩, ⟨A3, n3, c3⟩, ⟨A4, n4, c4⟩⟩ = .agg #[.int .i64 f.typ, .int .i64 f.epoch, .int .i64 f.kind, .int .i64 f.nonce, .int .i64 f.turn, .slice A1 n1 c1, .slice A2 n2 c2, .int .i64 f.err, .slice A3 n3 c3, .slice A4 n4 c4] from rfl]
 have HFV : Hid (frVal f ⟨⟨A1, n1, c1⟩, ⟨A2, n2, c2⟩, ⟨A3, n3, c3⟩, ⟨A4, n4, c4⟩⟩ = .agg #[.int .i64 f.typ, .int .i64 f.epoch, .int .i64 f.kind, .int .i64 f.nonce, .int .i64 f.turn, .slice A1 n1 c1, .slice A2 n2 c2, .int .i64 f.err, .slice A3 n3 c3, .slice A4 n4 c4]) := hid rfl
 have HT := hid ht
 have HZ := hid hs
 have HP : Hid (putF f = putF0 f) := hid (by unfold putF; rw [if_pos hs])
 obtain ⟨b1, b2, b3, b4⟩ := sane_lens hs
 rw [l1] at b1
 rw [l2] at b2
 rw [l3] at b3
 rw [l4] at b4
 clear ht
 go_enter Tryz.func65, Tryz.ntmps65
 go_wp2_with fail
 have KF := hid (heap_alloc_new w (.cells #[.int .i64 f.typ, .int .i64 f.epoch, .int .i64 f.kind, .int .i64 f.nonce, .int .i64 f.turn, .slice A1 n1 c1, .slice A2 n2 c2, .int .i64 f.err, .slice A3 n3 c3, .slice A4 n4 c4] 87))
 have E0 := hid (Ext.new w (.cells #[.int .i64 f.typ, .int .i64 f.epoch, .int .i64 f.kind, .int .i64 f.nonce, .int .i64 f.turn, .slice A1 n1 c1, .slice A2 n2 c2, .int .i64 f.err, .slice A3 n3 c3, .slice A4 n4 c4] 87))
 generalize w.alloc (.cells #[.int .i64 f.typ, .int .i64 f.epoch, .int .i64 f.kind, .int .i64 f.nonce, .int .i64 f.turn, .slice A1 n1 c1, .slice A2 n2 c2, .int .i64 f.err, .slice A3 n3 c3, .slice A4 n4 c4] 87) = W at KF E0 ⊢
 obtain ⟨q, -⟩ := blk_rules KF.out
 rw [← HFV.out]
 refine (refSane10_any _ f _ _ (HV.out.up E0.out)).mono ?_
 rintro e w1 ⟨rfl, hb1⟩
 have E_1 := hid (E0.out.trans hb1)
 have K_1 := hid ((hb1.block (Array.getElem?_eq_some_iff.1 KF.out).1).trans KF.out)
 clear hb1 q KF
 rw [hs]
 clear hs
 obtain ⟨q, -⟩ := blk_rules K_1.out
 go_wp2_with fail
 refine (refNumber_lay none 0 0 ([]) f.typ _ ArrR.nil_ (fun _ => rfl) (by  omega)).mono ?_
 rintro e w2 h
 obtain ⟨Q2, N2, c20, rfl, hL, hN, hb⟩ := LaidAt.of h
 have L2 : Hid (LaidAt w1 w2 0 [] (enc (bnd f.typ)) Q2 N2 c20) := hid hL
 have Y2 : Hid (N2 ≤ 0 + (enc (bnd f.typ)).length) := hid (Nat.le_of_eq hN)
 have X2 := enc_len (bnd f.typ)
 have E_2 := hid (E_1.out.trans hb)
 have K_2 := hid ((hb.block (Array.getElem?_eq_some_iff.1 K_1.out).1).trans K_1.out)
 clear h hL hN hb q
 obtain ⟨q, -⟩ := blk_rules K_2.out
 go_wp2_with fail
 refine (refNumber_lay Q2 N2 c20 ([] ++ (enc (bnd f.typ))) f.epoch _ L2.out.byts L2.out.nil (by have y2 := Y2.out;  omega)).mono ?_
 rintro e w3 h
 obtain ⟨Q3, N3, c30, rfl, hL, hN, hb⟩ := L2.out.next h
 have L3 : Hid (LaidAt w1 w3 0 [] (enc (bnd f.typ) ++ enc (bnd f.epoch)) Q3 N3 c30) := hid hL
 have Y3 : Hid (N3 ≤ N2 + (enc (bnd f.epoch)).length) := hid (Nat.le_of_eq hN)
 have X3 := enc_len (bnd f.epoch)
 have E_3 := hid (E_2.out.trans hb)
 have K_3 := hid ((hb.block (Array.getElem?_eq_some_iff.1 K_2.out).1).trans K_2.out)
 clear h hL hN hb q
 have ht := HT.out
 obtain ⟨q, -⟩ := blk_rules K_3.out
 go_wp2_with fail
 refine (refNumber_lay Q3 N3 c30 ([] ++ (enc (bnd f.typ) ++ enc (bnd f.epoch))) f.kind _ L3.out.byts L3.out.nil (by have y2 := Y2.out;  have y3 := Y3.out;  omega)).mono ?_
 rintro e w4 h
 obtain ⟨Q4, N4, c40, rfl, hL, hN, hb⟩ := L3.out.next h
 have L4 : Hid (LaidAt w1 w4 0 [] (enc (bnd f.typ) ++ enc (bnd f.epoch) ++ enc (bnd f.kind)) Q4 N4 c40) := hid hL
 have Y4 : Hid (N4 ≤ N3 + (enc (bnd f.kind)).length) := hid (Nat.le_of_eq hN)
 have X4 := enc_len (bnd f.kind)
 have E_4 := hid (E_3.out.trans hb)
 have K_4 := hid ((hb.block (Array.getElem?_eq_some_iff.1 K_3.out).1).trans K_3.out)
 clear h hL hN hb q
 obtain ⟨q, -⟩ := blk_rules K_4.out
 go_wp2_with fail
 refine (refNumber_lay Q4 N4 c40 ([] ++ (enc (bnd f.typ) ++ enc (bnd f.epoch) ++ enc (bnd f.kind))) f.nonce _ L4.out.byts L4.out.nil (by have y2 := Y2.out;  have y3 := Y3.out;  have y4 := Y4.out;  omega)).mono ?_
 rintro e w5 h
 obtain ⟨Q5, N5, c50, rfl, hL, hN, hb⟩ := L4.out.next h
 have L5 : Hid (LaidAt w1 w5 0 [] (enc (bnd f.typ) ++ enc (bnd f.epoch) ++ enc (bnd f.kind) ++ enc (bnd f.nonce)) Q5 N5 c50) := hid hL
 have Y5 : Hid (N5 ≤ N4 + (enc (bnd f.nonce)).length) := hid (Nat.le_of_eq hN)
 have X5 := enc_len (bnd f.nonce)
 have E_5 := hid (E_4.out.trans hb)
 have K_5 := hid ((hb.block (Array.getElem?_eq_some_iff.1 K_4.out).1).trans K_4.out)
 clear h hL hN hb q
 obtain ⟨q, -⟩ := blk_rules K_5.out
 go_wp2_with fail
 refine ((refPutAll_any Q5 N5 c50 ([] ++ (enc (bnd f.typ) ++ enc (bnd f.epoch) ++ enc (bnd f.kind) ++ enc (bnd f.nonce))) A1 n1 c1 f.adds _ L5.out.byts L5.out.nil (by have y2 := Y2.out;  have y3 := Y3.out;  have y4 := Y4.out;  have y5 := Y5.out;  omega) (by omega) (ResL.keep HV.out.adds E_5.out.keep)).mono (fun _ _ h => LayN.of h)).mono ?_
 rintro e w6 h
 obtain ⟨Q6, N6, c60, rfl, hL, hN, hb⟩ := L5.out.next h
 have L6 : Hid (LaidAt w1 w6 0 [] (enc (bnd f.typ) ++ enc (bnd f.epoch) ++ enc (bnd f.kind) ++ enc (bnd f.nonce) ++ putAll f.adds) Q6 N6 c60) := hid hL
 have Y6 : Hid (N6 ≤ N5 + (putAll f.adds).length) := hid (Nat.le_of_eq hN)
 have X6 := putAll_len f.adds
 have E_6 := hid (E_5.out.trans hb)
 have K_6 := hid ((hb.block (Array.getElem?_eq_some_iff.1 K_5.out).1).trans K_5.out)
 clear h hL hN hb q
 obtain ⟨q, -⟩ := blk_rules K_6.out
 go_wp2_with fail
 refine ((refPutKeys_any Q6 N6 c60 ([] ++ (enc (bnd f.typ) ++ enc (bnd f.epoch) ++ enc (bnd f.kind) ++ enc (bnd f.nonce) ++ putAll f.adds)) A2 n2 c2 f.gone _ L6.out.byts L6.out.nil (by have y2 := Y2.out;  have y3 := Y3.out;  have y4 := Y4.out;  have y5 := Y5.out;  have y6 := Y6.out;  omega) (by omega) (KeyL.keep HV.out.gone E_6.out.keep)).mono (fun _ _ h => LayN.of h)).mono ?_
 rintro e w7 h
 obtain ⟨Q7, N7, c70, rfl, hL, hN, hb⟩ := L6.out.next h
 have L7 : Hid (LaidAt w1 w7 0 [] (enc (bnd f.typ) ++ enc (bnd f.epoch) ++ enc (bnd f.kind) ++ enc (bnd f.nonce) ++ putAll f.adds ++ putKeys f.gone) Q7 N7 c70) := hid hL
 have Y7 : Hid (N7 ≤ N6 + (putKeys f.gone).length) := hid (Nat.le_of_eq hN)
 have X7 := putKeys_len f.gone
 have E_7 := hid (E_6.out.trans hb)
 have K_7 := hid ((hb.block (Array.getElem?_eq_some_iff.1 K_6.out).1).trans K_6.out)
 clear h hL hN hb q
 go_wp2_with fail
 exact bodyPost_ret (v := .tuple #[.slice Q7 N7 c70, .int .i64 0]) (by simp [results, Tryz.results65, go_sem]) rfl ⟨Q7, N7, c70, by rw [HZ.out], own_sl L7.out.own, by
  have h := L7.out.byts
  rw [show putF f = [] ++ (enc (bnd f.typ) ++ enc (bnd f.epoch) ++ enc (bnd f.kind) ++ enc (bnd f.nonce) ++ putAll f.adds ++ putKeys f.gone) from by rw [HP.out]; simp [putF0, putFB, HT.out]]
  exact h, E_7.out⟩
theorem refPut10_ack (f : Fr) (s : FrS) (w : World) (hV : FrV (fun _ => True) w f s) (hs : saneF f = 0) (ht : f.typ = 2) :
  Calls Tryz.prog 65 #[frVal f s] w (FPut w f) := by
 have HV := hid hV
 obtain ⟨⟨A1, n1, c1⟩, ⟨A2, n2, c2⟩, ⟨A3, n3, c3⟩, ⟨A4, n4, c4⟩⟩ := s
 have h1m : n1 ≤ 9223372036854775807 := by have := hV.sa.len; unfold maxLen at this; exact this
 have h2m : n2 ≤ 9223372036854775807 := by have := hV.sg.len; unfold maxLen at this; exact this
 have h3m : n3 ≤ 9223372036854775807 := by have := hV.sh.len; unfold maxLen at this; exact this
 have h4m : n4 ≤ 9223372036854775807 := by have := hV.sk.len; unfold maxLen at this; exact this
 have l1 : f.adds.length = n1 := hV.adds.len
 have l2 : f.gone.length = n2 := hV.gone.len
 have l3 : f.hav.length = n3 := hV.hav.len
 have l4 : f.held.length = n4 := hV.held.len
 clear hV
 rw [show frVal f ⟨⟨A1, n1, c1⟩, ⟨A2, n2, c2⟩, ⟨A3, n3, c3⟩, ⟨A4, n4, c4⟩⟩ = .agg #[.int .i64 f.typ, .int .i64 f.epoch, .int .i64 f.kind, .int .i64 f.nonce, .int .i64 f.turn, .slice A1 n1 c1, .slice A2 n2 c2, .int .i64 f.err, .slice A3 n3 c3, .slice A4 n4 c4] from rfl]
 have HFV : Hid (frVal f ⟨⟨A1, n1, c1⟩, ⟨A2, n2, c2⟩, ⟨A3, n3, c3⟩, ⟨A4, n4, c4⟩⟩ = .agg #[.int .i64 f.typ, .int .i64 f.epoch, .int .i64 f.kind, .int .i64 f.nonce, .int .i64 f.turn, .slice A1 n1 c1, .slice A2 n2 c2, .int .i64 f.err, .slice A3 n3 c3, .slice A4 n4 c4]) := hid rfl
 have HT := hid ht
 have HZ := hid hs
 have HP : Hid (putF f = putF0 f) := hid (by unfold putF; rw [if_pos hs])
 obtain ⟨b1, b2, b3, b4⟩ := sane_lens hs
 rw [l1] at b1
 rw [l2] at b2
 rw [l3] at b3
 rw [l4] at b4
 clear ht
 go_enter Tryz.func65, Tryz.ntmps65
 go_wp2_with fail
 have KF := hid (heap_alloc_new w (.cells #[.int .i64 f.typ, .int .i64 f.epoch, .int .i64 f.kind, .int .i64 f.nonce, .int .i64 f.turn, .slice A1 n1 c1, .slice A2 n2 c2, .int .i64 f.err, .slice A3 n3 c3, .slice A4 n4 c4] 87))
 have E0 := hid (Ext.new w (.cells #[.int .i64 f.typ, .int .i64 f.epoch, .int .i64 f.kind, .int .i64 f.nonce, .int .i64 f.turn, .slice A1 n1 c1, .slice A2 n2 c2, .int .i64 f.err, .slice A3 n3 c3, .slice A4 n4 c4] 87))
 generalize w.alloc (.cells #[.int .i64 f.typ, .int .i64 f.epoch, .int .i64 f.kind, .int .i64 f.nonce, .int .i64 f.turn, .slice A1 n1 c1, .slice A2 n2 c2, .int .i64 f.err, .slice A3 n3 c3, .slice A4 n4 c4] 87) = W at KF E0 ⊢
 obtain ⟨q, -⟩ := blk_rules KF.out
 rw [← HFV.out]
 refine (refSane10_any _ f _ _ (HV.out.up E0.out)).mono ?_
 rintro e w1 ⟨rfl, hb1⟩
 have E_1 := hid (E0.out.trans hb1)
 have K_1 := hid ((hb1.block (Array.getElem?_eq_some_iff.1 KF.out).1).trans KF.out)
 clear hb1 q KF
 rw [hs]
 clear hs
 obtain ⟨q, -⟩ := blk_rules K_1.out
 go_wp2_with fail
 refine (refNumber_lay none 0 0 ([]) f.typ _ ArrR.nil_ (fun _ => rfl) (by  omega)).mono ?_
 rintro e w2 h
 obtain ⟨Q2, N2, c20, rfl, hL, hN, hb⟩ := LaidAt.of h
 have L2 : Hid (LaidAt w1 w2 0 [] (enc (bnd f.typ)) Q2 N2 c20) := hid hL
 have Y2 : Hid (N2 ≤ 0 + (enc (bnd f.typ)).length) := hid (Nat.le_of_eq hN)
 have X2 := enc_len (bnd f.typ)
 have E_2 := hid (E_1.out.trans hb)
 have K_2 := hid ((hb.block (Array.getElem?_eq_some_iff.1 K_1.out).1).trans K_1.out)
 clear h hL hN hb q
 obtain ⟨q, -⟩ := blk_rules K_2.out
 go_wp2_with fail
 refine (refNumber_lay Q2 N2 c20 ([] ++ (enc (bnd f.typ))) f.epoch _ L2.out.byts L2.out.nil (by have y2 := Y2.out;  omega)).mono ?_
 rintro e w3 h
 obtain ⟨Q3, N3, c30, rfl, hL, hN, hb⟩ := L2.out.next h
 have L3 : Hid (LaidAt w1 w3 0 [] (enc (bnd f.typ) ++ enc (bnd f.epoch)) Q3 N3 c30) := hid hL
 have Y3 : Hid (N3 ≤ N2 + (enc (bnd f.epoch)).length) := hid (Nat.le_of_eq hN)
 have X3 := enc_len (bnd f.epoch)
 have E_3 := hid (E_2.out.trans hb)
 have K_3 := hid ((hb.block (Array.getElem?_eq_some_iff.1 K_2.out).1).trans K_2.out)
 clear h hL hN hb q
 have ht := HT.out
 obtain ⟨q, -⟩ := blk_rules K_3.out
 go_wp2_with fail
 refine (refNumber_lay Q3 N3 c30 ([] ++ (enc (bnd f.typ) ++ enc (bnd f.epoch))) f.kind _ L3.out.byts L3.out.nil (by have y2 := Y2.out;  have y3 := Y3.out;  omega)).mono ?_
 rintro e w4 h
 obtain ⟨Q4, N4, c40, rfl, hL, hN, hb⟩ := L3.out.next h
 have L4 : Hid (LaidAt w1 w4 0 [] (enc (bnd f.typ) ++ enc (bnd f.epoch) ++ enc (bnd f.kind)) Q4 N4 c40) := hid hL
 have Y4 : Hid (N4 ≤ N3 + (enc (bnd f.kind)).length) := hid (Nat.le_of_eq hN)
 have X4 := enc_len (bnd f.kind)
 have E_4 := hid (E_3.out.trans hb)
 have K_4 := hid ((hb.block (Array.getElem?_eq_some_iff.1 K_3.out).1).trans K_3.out)
 clear h hL hN hb q
 obtain ⟨q, -⟩ := blk_rules K_4.out
 go_wp2_with fail
 refine (refNumber_lay Q4 N4 c40 ([] ++ (enc (bnd f.typ) ++ enc (bnd f.epoch) ++ enc (bnd f.kind))) f.nonce _ L4.out.byts L4.out.nil (by have y2 := Y2.out;  have y3 := Y3.out;  have y4 := Y4.out;  omega)).mono ?_
 rintro e w5 h
 obtain ⟨Q5, N5, c50, rfl, hL, hN, hb⟩ := L4.out.next h
 have L5 : Hid (LaidAt w1 w5 0 [] (enc (bnd f.typ) ++ enc (bnd f.epoch) ++ enc (bnd f.kind) ++ enc (bnd f.nonce)) Q5 N5 c50) := hid hL
 have Y5 : Hid (N5 ≤ N4 + (enc (bnd f.nonce)).length) := hid (Nat.le_of_eq hN)
 have X5 := enc_len (bnd f.nonce)
 have E_5 := hid (E_4.out.trans hb)
 have K_5 := hid ((hb.block (Array.getElem?_eq_some_iff.1 K_4.out).1).trans K_4.out)
 clear h hL hN hb q
 obtain ⟨q, -⟩ := blk_rules K_5.out
 go_wp2_with fail
 refine (refNumber_lay Q5 N5 c50 ([] ++ (enc (bnd f.typ) ++ enc (bnd f.epoch) ++ enc (bnd f.kind) ++ enc (bnd f.nonce))) f.err _ L5.out.byts L5.out.nil (by have y2 := Y2.out;  have y3 := Y3.out;  have y4 := Y4.out;  have y5 := Y5.out;  omega)).mono ?_
 rintro e w6 h
 obtain ⟨Q6, N6, c60, rfl, hL, hN, hb⟩ := L5.out.next h
 have L6 : Hid (LaidAt w1 w6 0 [] (enc (bnd f.typ) ++ enc (bnd f.epoch) ++ enc (bnd f.kind) ++ enc (bnd f.nonce) ++ enc (bnd f.err)) Q6 N6 c60) := hid hL
 have Y6 : Hid (N6 ≤ N5 + (enc (bnd f.err)).length) := hid (Nat.le_of_eq hN)
 have X6 := enc_len (bnd f.err)
 have E_6 := hid (E_5.out.trans hb)
 have K_6 := hid ((hb.block (Array.getElem?_eq_some_iff.1 K_5.out).1).trans K_5.out)
 clear h hL hN hb q
 obtain ⟨q, -⟩ := blk_rules K_6.out
 go_wp2_with fail
 refine (refNumber_lay Q6 N6 c60 ([] ++ (enc (bnd f.typ) ++ enc (bnd f.epoch) ++ enc (bnd f.kind) ++ enc (bnd f.nonce) ++ enc (bnd f.err))) f.turn _ L6.out.byts L6.out.nil (by have y2 := Y2.out;  have y3 := Y3.out;  have y4 := Y4.out;  have y5 := Y5.out;  have y6 := Y6.out;  omega)).mono ?_
 rintro e w7 h
 obtain ⟨Q7, N7, c70, rfl, hL, hN, hb⟩ := L6.out.next h
 have L7 : Hid (LaidAt w1 w7 0 [] (enc (bnd f.typ) ++ enc (bnd f.epoch) ++ enc (bnd f.kind) ++ enc (bnd f.nonce) ++ enc (bnd f.err) ++ enc (bnd f.turn)) Q7 N7 c70) := hid hL
 have Y7 : Hid (N7 ≤ N6 + (enc (bnd f.turn)).length) := hid (Nat.le_of_eq hN)
 have X7 := enc_len (bnd f.turn)
 have E_7 := hid (E_6.out.trans hb)
 have K_7 := hid ((hb.block (Array.getElem?_eq_some_iff.1 K_6.out).1).trans K_6.out)
 clear h hL hN hb q
 obtain ⟨q, -⟩ := blk_rules K_7.out
 go_wp2_with fail
 refine ((refPutKeys_any Q7 N7 c70 ([] ++ (enc (bnd f.typ) ++ enc (bnd f.epoch) ++ enc (bnd f.kind) ++ enc (bnd f.nonce) ++ enc (bnd f.err) ++ enc (bnd f.turn))) A4 n4 c4 f.held _ L7.out.byts L7.out.nil (by have y2 := Y2.out;  have y3 := Y3.out;  have y4 := Y4.out;  have y5 := Y5.out;  have y6 := Y6.out;  have y7 := Y7.out;  omega) (by omega) (KeyL.keep HV.out.held E_7.out.keep)).mono (fun _ _ h => LayN.of h)).mono ?_
 rintro e w8 h
 obtain ⟨Q8, N8, c80, rfl, hL, hN, hb⟩ := L7.out.next h
 have L8 : Hid (LaidAt w1 w8 0 [] (enc (bnd f.typ) ++ enc (bnd f.epoch) ++ enc (bnd f.kind) ++ enc (bnd f.nonce) ++ enc (bnd f.err) ++ enc (bnd f.turn) ++ putKeys f.held) Q8 N8 c80) := hid hL
 have Y8 : Hid (N8 ≤ N7 + (putKeys f.held).length) := hid (Nat.le_of_eq hN)
 have X8 := putKeys_len f.held
 have E_8 := hid (E_7.out.trans hb)
 have K_8 := hid ((hb.block (Array.getElem?_eq_some_iff.1 K_7.out).1).trans K_7.out)
 clear h hL hN hb q
 go_wp2_with fail
 exact bodyPost_ret (v := .tuple #[.slice Q8 N8 c80, .int .i64 0]) (by simp [results, Tryz.results65, go_sem]) rfl ⟨Q8, N8, c80, by rw [HZ.out], own_sl L8.out.own, by
  have h := L8.out.byts
  rw [show putF f = [] ++ (enc (bnd f.typ) ++ enc (bnd f.epoch) ++ enc (bnd f.kind) ++ enc (bnd f.nonce) ++ enc (bnd f.err) ++ enc (bnd f.turn) ++ putKeys f.held) from by rw [HP.out]; simp [putF0, putFB, HT.out]]
  exact h, E_8.out⟩
theorem refPut10_hello (f : Fr) (s : FrS) (w : World) (hV : FrV (fun _ => True) w f s) (hs : saneF f = 0) (ht : f.typ = 0) :
  Calls Tryz.prog 65 #[frVal f s] w (FPut w f) := by
 have HV := hid hV
 obtain ⟨⟨A1, n1, c1⟩, ⟨A2, n2, c2⟩, ⟨A3, n3, c3⟩, ⟨A4, n4, c4⟩⟩ := s
 have h1m : n1 ≤ 9223372036854775807 := by have := hV.sa.len; unfold maxLen at this; exact this
 have h2m : n2 ≤ 9223372036854775807 := by have := hV.sg.len; unfold maxLen at this; exact this
 have h3m : n3 ≤ 9223372036854775807 := by have := hV.sh.len; unfold maxLen at this; exact this
 have h4m : n4 ≤ 9223372036854775807 := by have := hV.sk.len; unfold maxLen at this; exact this
 have l1 : f.adds.length = n1 := hV.adds.len
 have l2 : f.gone.length = n2 := hV.gone.len
 have l3 : f.hav.length = n3 := hV.hav.len
 have l4 : f.held.length = n4 := hV.held.len
 clear hV
 rw [show frVal f ⟨⟨A1, n1, c1⟩, ⟨A2, n2, c2⟩, ⟨A3, n3, c3⟩, ⟨A4, n4, c4⟩⟩ = .agg #[.int .i64 f.typ, .int .i64 f.epoch, .int .i64 f.kind, .int .i64 f.nonce, .int .i64 f.turn, .slice A1 n1 c1, .slice A2 n2 c2, .int .i64 f.err, .slice A3 n3 c3, .slice A4 n4 c4] from rfl]
 have HFV : Hid (frVal f ⟨⟨A1, n1, c1⟩, ⟨A2, n2, c2⟩, ⟨A3, n3, c3⟩, ⟨A4, n4, c4⟩⟩ = .agg #[.int .i64 f.typ, .int .i64 f.epoch, .int .i64 f.kind, .int .i64 f.nonce, .int .i64 f.turn, .slice A1 n1 c1, .slice A2 n2 c2, .int .i64 f.err, .slice A3 n3 c3, .slice A4 n4 c4]) := hid rfl
 have HT := hid ht
 have HZ := hid hs
 have HP : Hid (putF f = putF0 f) := hid (by unfold putF; rw [if_pos hs])
 obtain ⟨b1, b2, b3, b4⟩ := sane_lens hs
 rw [l1] at b1
 rw [l2] at b2
 rw [l3] at b3
 rw [l4] at b4
 clear ht
 go_enter Tryz.func65, Tryz.ntmps65
 go_wp2_with fail
 have KF := hid (heap_alloc_new w (.cells #[.int .i64 f.typ, .int .i64 f.epoch, .int .i64 f.kind, .int .i64 f.nonce, .int .i64 f.turn, .slice A1 n1 c1, .slice A2 n2 c2, .int .i64 f.err, .slice A3 n3 c3, .slice A4 n4 c4] 87))
 have E0 := hid (Ext.new w (.cells #[.int .i64 f.typ, .int .i64 f.epoch, .int .i64 f.kind, .int .i64 f.nonce, .int .i64 f.turn, .slice A1 n1 c1, .slice A2 n2 c2, .int .i64 f.err, .slice A3 n3 c3, .slice A4 n4 c4] 87))
 generalize w.alloc (.cells #[.int .i64 f.typ, .int .i64 f.epoch, .int .i64 f.kind, .int .i64 f.nonce, .int .i64 f.turn, .slice A1 n1 c1, .slice A2 n2 c2, .int .i64 f.err, .slice A3 n3 c3, .slice A4 n4 c4] 87) = W at KF E0 ⊢
 obtain ⟨q, -⟩ := blk_rules KF.out
 rw [← HFV.out]
 refine (refSane10_any _ f _ _ (HV.out.up E0.out)).mono ?_
 rintro e w1 ⟨rfl, hb1⟩
 have E_1 := hid (E0.out.trans hb1)
 have K_1 := hid ((hb1.block (Array.getElem?_eq_some_iff.1 KF.out).1).trans KF.out)
 clear hb1 q KF
 rw [hs]
 clear hs
 obtain ⟨q, -⟩ := blk_rules K_1.out
 go_wp2_with fail
 refine (refNumber_lay none 0 0 ([]) f.typ _ ArrR.nil_ (fun _ => rfl) (by  omega)).mono ?_
 rintro e w2 h
 obtain ⟨Q2, N2, c20, rfl, hL, hN, hb⟩ := LaidAt.of h
 have L2 : Hid (LaidAt w1 w2 0 [] (enc (bnd f.typ)) Q2 N2 c20) := hid hL
 have Y2 : Hid (N2 ≤ 0 + (enc (bnd f.typ)).length) := hid (Nat.le_of_eq hN)
 have X2 := enc_len (bnd f.typ)
 have E_2 := hid (E_1.out.trans hb)
 have K_2 := hid ((hb.block (Array.getElem?_eq_some_iff.1 K_1.out).1).trans K_1.out)
 clear h hL hN hb q
 obtain ⟨q, -⟩ := blk_rules K_2.out
 go_wp2_with fail
 refine (refNumber_lay Q2 N2 c20 ([] ++ (enc (bnd f.typ))) f.epoch _ L2.out.byts L2.out.nil (by have y2 := Y2.out;  omega)).mono ?_
 rintro e w3 h
 obtain ⟨Q3, N3, c30, rfl, hL, hN, hb⟩ := L2.out.next h
 have L3 : Hid (LaidAt w1 w3 0 [] (enc (bnd f.typ) ++ enc (bnd f.epoch)) Q3 N3 c30) := hid hL
 have Y3 : Hid (N3 ≤ N2 + (enc (bnd f.epoch)).length) := hid (Nat.le_of_eq hN)
 have X3 := enc_len (bnd f.epoch)
 have E_3 := hid (E_2.out.trans hb)
 have K_3 := hid ((hb.block (Array.getElem?_eq_some_iff.1 K_2.out).1).trans K_2.out)
 clear h hL hN hb q
 have ht := HT.out
 obtain ⟨q, -⟩ := blk_rules K_3.out
 go_wp2_with fail
 refine (refNumber_lay Q3 N3 c30 ([] ++ (enc (bnd f.typ) ++ enc (bnd f.epoch))) (n3 : Int) _ L3.out.byts L3.out.nil (by have y2 := Y2.out;  have y3 := Y3.out;  omega)).mono ?_
 rintro e w4 h
 obtain ⟨Q4, N4, c40, rfl, hL, hN, hb⟩ := L3.out.next h
 have L4 : Hid (LaidAt w1 w4 0 [] (enc (bnd f.typ) ++ enc (bnd f.epoch) ++ enc (bnd (n3 : Int))) Q4 N4 c40) := hid hL
 have Y4 : Hid (N4 ≤ N3 + (enc (bnd (n3 : Int))).length) := hid (Nat.le_of_eq hN)
 have X4 := enc_len (bnd (n3 : Int))
 have E_4 := hid (E_3.out.trans hb)
 have K_4 := hid ((hb.block (Array.getElem?_eq_some_iff.1 K_3.out).1).trans K_3.out)
 clear h hL hN hb q
 obtain ⟨q, -⟩ := blk_rules K_4.out
 go_wp2_with fail
 clear q
 have HNK : Hid (N4 ≤ 15) := hid (by have y2 := Y2.out; have y3 := Y3.out; have y4 := Y4.out; omega)
 have hzK : w.heap.size < w4.heap.size := (Array.getElem?_eq_some_iff.1 K_4.out).1
 go_loopw [5, 6] (fun v i wr => ∃ (k : Nat) (Q : Option Addr) (N c : Nat), k ≤ n3 ∧ i = .int .i64 k ∧ v = .slice Q N c ∧ Hid (N ≤ 15 + k * 27) ∧ Hid (LaidAt w1 wr 0 [] ((enc (bnd f.typ) ++ enc (bnd f.epoch) ++ enc (bnd (n3 : Int))) ++ (f.hav.take k).flatMap putM) Q N c) ∧ Hid (Ext w4 wr)) (fun _ i _ => n3 - (intOf i).toNat)
 case atStart => exact ⟨0, Q4, N4, c40, Nat.zero_le _, by go_num, rfl, hid (by have h := HNK.out; omega), hid (L4.out.as (by simp)), hid (Ext.refl _)⟩
 case round =>
  obtain ⟨k, Q, N, c, hk, rfl, rfl, HN, HL, HX⟩ := hrel
  have KR := hid ((HX.out.block hzK).trans K_4.out)
  obtain ⟨q, -⟩ := blk_rules KR.out
  by_cases hlt : k < n3
  ·obtain ⟨b, o, y, v, rfl, hbB, -, hlk, hsz, hc0, hc1, hc2⟩ := MkL.at_ HV.out.hav hlt
   have HLK := hid hlk
   have HSZ := hid hsz
   obtain ⟨d0, d1⟩ := up2 ((E_4.out.trans HX.out)) hbB hc0 hc1
   have D2 : Hid (∀ w', Ext w w' → w'.cell? ⟨b, o + k * 3 + 2, none⟩ = some (.int .i64 v)) := hid (fun w' h => (h.cell hbB).trans hc2)
   have i1 : (0 : Int) ≤ (k : Int) := by omega
   have i2 : (k : Int) < (n3 : Int) := by omega
   clear hlk hsz hc0 hc1 hc2
   go_wp2_with fail
   refine ((refPutKey_lay Q N c _ y _ HL.out.byts HL.out.nil (by have h := HN.out; omega) HSZ.out).mono (fun _ _ h => LayN.of h)).mono ?_
   rintro e x1 h
   obtain ⟨Q1, N1, c1', rfl, hL, hN1, hb⟩ := HL.out.next h
   have HL1 := hid hL
   have HN1 : Hid (N1 ≤ N + (putK y).length) := hid (Nat.le_of_eq hN1)
   have X1 := putK_len y
   have HX1 := hid (HX.out.trans hb)
   have KR1 := hid ((HX1.out.block hzK).trans K_4.out)
   have d2 : x1.cell? ⟨b, o + k * 3 + 2, none⟩ = some (.int .i64 v) := D2.out x1 (E_4.out.trans HX1.out)
   clear h hL hN1 hb q d0 d1
   obtain ⟨q, -⟩ := blk_rules KR1.out
   go_wp2_with fail
   refine (refNumber_lay Q1 N1 c1' _ v _ HL1.out.byts HL1.out.nil (by have h := HN.out; have h1 := HN1.out; omega)).mono ?_
   rintro e x2 h
   obtain ⟨Q2', N2', c2', rfl, hL, hN2, hb⟩ := HL1.out.next h
   have HL2 : Hid (LaidAt w1 x2 0 [] ((enc (bnd f.typ) ++ enc (bnd f.epoch) ++ enc (bnd (n3 : Int))) ++ (f.hav.take (k + 1)).flatMap putM) Q2' N2' c2') := hid (hL.as (by rw [take_snoc_of HLK.out, List.flatMap_append]; simp [putM]))
   have HN2 : Hid (N2' ≤ 15 + (k + 1) * 27) := hid (by have h := HN.out; have h1 := HN1.out; have h2 := enc_len (bnd v); omega)
   have HX2 := hid (HX1.out.trans hb)
   clear h hL hN2 hb q d2
   go_wp2_with fail
   go_roundw
   case rel => exact ⟨k + 1, Q2', N2', c2', by omega, by go_num, rfl, HN2, HL2, HX2⟩
   case measure => simp [intOf]; omega
  ·obtain rfl : k = n3 := by omega
   have HFin : Hid (Byts wr Q N (putF f)) := hid (by
    have h := HL.out.byts
    rw [List.take_of_length_le (Nat.le_of_eq l3)] at h
    rw [HP.out]
    rw [show bnd (k : Int) = k from bnd_of (by omega)] at h
    simpa [putF0, putFB, HT.out, l3] using h)
   have i2 : ¬ (k : Int) < (k : Int) := by omega
   go_wp2_with fail
   exact bodyPost_ret (v := .tuple #[.slice Q N c, .int .i64 0]) (by simp [results, Tryz.results65, go_sem]) rfl ⟨Q, N, c, by rw [HZ.out], own_sl HL.out.own, HFin.out, E_4.out.trans HX.out⟩
theorem refPut10_any (f : Fr) (s : FrS) (w : World) (hV : FrV (fun _ => True) w f s) : Calls Tryz.prog 65 #[frVal f s] w (FPut w f) := by
 by_cases hs : saneF f = 0; rotate_left
 ·exact refPut10_bad f s w hV hs
 have h4 : f.typ = 0 ∨ f.typ = 1 ∨ f.typ = 2 ∨ f.typ = 3 := by have h := ((saneF_iff f).1 hs).typ; omega
 rcases h4 with h | h | h | h
 ·exact refPut10_hello f s w hV hs h
 ·exact refPut10_push f s w hV hs h
 ·exact refPut10_ack f s w hV hs h
 ·exact refPut10_drain f s w hV hs h
end Go.Proofs.YtfdjbnofcniodaaGreatDoor
