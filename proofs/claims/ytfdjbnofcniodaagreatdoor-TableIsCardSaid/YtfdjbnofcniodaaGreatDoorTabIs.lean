/- The law TableIs of layer 5. -/
import Derived.Test.YtfdjbnofcniodaaGreatDoorTb5
import Derived.Test.YtfdjbnofcniodaaGreatDoorTb6
import Derived.Test.YtfdjbnofcniodaaGreatDoorTb4
import Derived.Test.YtfdjbnofcniodaaGreatDoorTb3
import Derived.Test.YtfdjbnofcniodaaGreatDoorTabLaw
import Derived.Test.YtfdjbnofcniodaaGreatDoorKeysEq
namespace Go.Proofs.YtfdjbnofcniodaaGreatDoor
set_option linter.unusedVariables false
open Go.RowKit

theorem refAll_eqL (l : List Rs) (A B : Option Addr) (n n' c d : Nat) (w : World) (hm : n ≤ maxLen) (hA : ResL All w A n l) (hB : ResL All w B n' l) :
    Calls Tryz.prog 16 #[.slice A n c, .slice B n' d] w fun e w' => e = .returned (.bool true) ∧ Ext w w' := by
  obtain rfl : n = n' := hA.len.symm.trans hB.len
  exact refAll_eq _ _ _ _ l A B n c d w hm hA hB
theorem refKeys_eqL (l : List Ky) (A B : Option Addr) (n n' c d : Nat) (w : World) (hm : n ≤ maxLen) (hA : KeyL All w A n l) (hB : KeyL All w B n' l) :
    Calls Tryz.prog 19 #[.slice A n c, .slice B n' d] w fun e w' => e = .returned (.bool true) ∧ Ext w w' := by
  obtain rfl : n = n' := hA.len.symm.trans hB.len
  exact refKeys_eq _ _ l A B n c d w hm hA hB
theorem keys_giv (A : Option Addr) (n c : Nat) (l : List Rs) (w : World) (hn : n ≤ 1000000) (hA : ResL All w A n l) :
    Calls Tryz.prog 45 #[.slice A n c] w (GivesK w (l.map Rs.key)) := by
  refine (keys_any A n c l w hn hA).mono ?_
  rintro e w' ⟨v, us, rfl, hO, hU, hb⟩
  obtain ⟨B, d, rfl, h1, h2, h3, hF⟩ := own_flat hO
  exact ⟨B, n, d, rfl, ⟨h1, h2, h3⟩, hF.arrQ hU (by omega) (fun _ _ _ _ => trivial), hb⟩

set_option maxRecDepth 100000 in
set_option maxHeartbeats 32000000 in
theorem tableIs_any (A : Option Addr) (n c : Nat) (a : List Rs) (B : Option Addr) (m d : Nat) (b : List Rs) (k : Ky) (r : Rs) (C : Option Addr) (p f : Nat) (C' : Option Addr) (p' f' : Nat) (G : Option Addr) (q h : Nat) (gone : List Ky) (w : World)
    (hsa : SlW A n c) (hA : ResL All w A n a) (hwa : ∀ x ∈ a, wfK x.key) (hsb : SlW B m d) (hB : ResL All w B m b) (hwb : ∀ x ∈ b, wfK x.key) (hV : RsV All w r C p f C' p' f') (hG : KeyL All w G q gone) :
    Calls Tryz.prog 5 #[.slice A n c, .slice B m d, .agg #[.int .i64 k.kind, .string k.name], rsVal r C p f C' p' f', .slice G q h] w fun e w' => e = .returned (.bool true) ∧ Ext w w' := by
  have HA := Lib.hid hA
  have HB := Lib.hid hB
  have HV := Lib.hid hV
  have HG := Lib.hid hG
  have HWA := Lib.hid hwa
  have HWB := Lib.hid hwb
  have HSA := Lib.hid hsa
  have HMa : Hid (n ≤ maxLen) := Lib.hid (Nat.le_trans hsa.1 hsa.2.1)
  have HMb : Hid (m ≤ maxLen) := Lib.hid (Nat.le_trans hsb.1 hsb.2.1)
  have hla : a.length = n := hA.len
  have hlb : b.length = m := hB.len
  clear hA hB hV hG hwa hwb hsa hsb
  unfold rsVal
  go_enter Tryz.func5, Tryz.ntmps5
  go_wp2_with fail
  refine (awake05 _).mono ?_
  rintro e w1 ⟨rfl, hb1⟩
  have hsz : ((w.alloc (.cells #[.int .i64 k.kind, .string k.name] 38)).alloc (.cells #[.int .i64 r.kind, .string r.name, .int .i64 r.ver, .int .i64 r.port, .string r.to, .slice C p f, .slice C' p' f'] 34)).heap.size = w.heap.size + 2 := by simp only [World.size_alloc]
  obtain ⟨q7, hq7⟩ : ∃ b, b = w.heap.size := ⟨_, rfl⟩
  obtain ⟨q8, hq8⟩ : ∃ b, b = w.heap.size + 1 := ⟨_, rfl⟩
  have K7_1 : Hid (w1.heap[q7]? = some (.cells #[.int .i64 k.kind, .string k.name] 38 (0, 0))) := Lib.hid (by rw [hq7]; exact (hb1.block (by rw [hsz]; omega)).trans (two_blocks w (.cells #[.int .i64 k.kind, .string k.name] 38) (.cells #[.int .i64 r.kind, .string r.name, .int .i64 r.ver, .int .i64 r.port, .string r.to, .slice C p f, .slice C' p' f'] 34)).1)
  have K8_1 : Hid (w1.heap[q8]? = some (.cells #[.int .i64 r.kind, .string r.name, .int .i64 r.ver, .int .i64 r.port, .string r.to, .slice C p f, .slice C' p' f'] 34 (0, 0))) := Lib.hid (by rw [hq8]; exact (hb1.block (by rw [hsz]; omega)).trans (two_blocks w (.cells #[.int .i64 k.kind, .string k.name] 38) (.cells #[.int .i64 r.kind, .string r.name, .int .i64 r.ver, .int .i64 r.port, .string r.to, .slice C p f, .slice C' p' f'] 34)).2)
  have E_1 := Lib.hid (((Ext.new w (.cells #[.int .i64 k.kind, .string k.name] 38)).alloc (.cells #[.int .i64 r.kind, .string r.name, .int .i64 r.ver, .int .i64 r.port, .string r.to, .slice C p f, .slice C' p' f'] 34)).trans hb1)
  rw [← hq8, ← hq7]
  clear hb1 hsz hq7 hq8
  go_wp2_with fail
  refine (few04_any All a A n c _ HMa.out (ResL.keep HA.out E_1.out.keep)).mono ?_
  rintro e w2 ⟨v, rfl, hv, hb⟩
  have E_2 := Lib.hid (E_1.out.trans hb)
  have K7_2 := Lib.hid ((hb.block (Array.getElem?_eq_some_iff.1 K7_1.out).1).trans K7_1.out)
  have K8_2 := Lib.hid ((hb.block (Array.getElem?_eq_some_iff.1 K8_1.out).1).trans K8_1.out)
  clear hb
  cases v with
  | false =>
    go_wp2_with fail
    go_ret
    exact ⟨rfl, E_2.out⟩
  | true =>
  have hfa : n ≤ 80 := hv rfl
  clear hv
  go_wp2_with fail
  refine (few04_any All b B m d _ HMb.out (ResL.keep HB.out E_2.out.keep)).mono ?_
  rintro e w3 ⟨v, rfl, hv, hb⟩
  have E_3 := Lib.hid (E_2.out.trans hb)
  have K7_3 := Lib.hid ((hb.block (Array.getElem?_eq_some_iff.1 K7_2.out).1).trans K7_2.out)
  have K8_3 := Lib.hid ((hb.block (Array.getElem?_eq_some_iff.1 K8_2.out).1).trans K8_2.out)
  clear hb
  cases v with
  | false =>
    go_wp2_with fail
    go_ret
    exact ⟨rfl, E_3.out⟩
  | true =>
  have hfb : m ≤ 80 := hv rfl
  clear hv
  obtain ⟨uK8, vK8⟩ := blk_rules K8_3.out
  go_wp2_with fail
  clear uK8 vK8
  refine (few03_any All r C C' p f p' f' _ (HV.out.up E_3.out)).mono ?_
  rintro e w4 ⟨v, rfl, hv, hb⟩
  have E_4 := Lib.hid (E_3.out.trans hb)
  have K7_4 := Lib.hid ((hb.block (Array.getElem?_eq_some_iff.1 K7_3.out).1).trans K7_3.out)
  have K8_4 := Lib.hid ((hb.block (Array.getElem?_eq_some_iff.1 K8_3.out).1).trans K8_3.out)
  clear hb
  cases v with
  | false =>
    go_wp2_with fail
    go_ret
    exact ⟨rfl, E_4.out⟩
  | true =>
  clear hv
  by_cases hq80 : 80 < q
  · go_wp2_with fail
    go_ret
    exact ⟨rfl, E_4.out⟩
  obtain ⟨uK7, vK7⟩ := blk_rules K7_4.out
  go_wp2_with fail
  clear uK7 vK7
  refine (get_any k A n c a _ (by omega) (ResL.keep HA.out E_4.out.keep)).mono ?_
  rintro e w5 ⟨x, CX, pX, fX, CX', pX', fX', rfl, hr, hv, hb⟩
  have E_5 := Lib.hid (E_4.out.trans hb)
  have K7_5 := Lib.hid ((hb.block (Array.getElem?_eq_some_iff.1 K7_4.out).1).trans K7_4.out)
  have K8_5 := Lib.hid ((hb.block (Array.getElem?_eq_some_iff.1 K8_4.out).1).trans K8_4.out)
  have HX_5 := Lib.hid hv
  have HR := Lib.hid hr
  obtain ⟨z, hz⟩ : ∃ z, z = (getT a k).isSome := ⟨_, rfl⟩
  rw [← hz]
  have HZ := Lib.hid hz
  clear hb hv hr hz
  unfold rsVal
  obtain ⟨uK7, vK7⟩ := blk_rules K7_5.out
  have hz7 : q7 < w5.heap.size := (Array.getElem?_eq_some_iff.1 K7_5.out).1
  go_wp2_with fail
  clear uK7 vK7 hz7
  have K12_X := Lib.hid (heap_alloc_new w5 (.cells #[.int .i64 x.kind, .string x.name, .int .i64 x.ver, .int .i64 x.port, .string x.to, .slice CX pX fX, .slice CX' pX' fX'] 34))
  have hb := Ext.new w5 (.cells #[.int .i64 x.kind, .string x.name, .int .i64 x.ver, .int .i64 x.port, .string x.to, .slice CX pX fX, .slice CX' pX' fX'] 34)
  generalize w5.alloc (.cells #[.int .i64 x.kind, .string x.name, .int .i64 x.ver, .int .i64 x.port, .string x.to, .slice CX pX fX, .slice CX' pX' fX'] 34) = wX at K12_X hb ⊢
  obtain ⟨qX, hq⟩ : ∃ b, b = w5.heap.size := ⟨_, rfl⟩
  rw [← hq] at K12_X ⊢
  clear hq
  have E_X := Lib.hid (E_5.out.trans hb)
  have K7_X := Lib.hid ((hb.block (Array.getElem?_eq_some_iff.1 K7_5.out).1).trans K7_5.out)
  have K8_X := Lib.hid ((hb.block (Array.getElem?_eq_some_iff.1 K8_5.out).1).trans K8_5.out)
  have HX_X := Lib.hid (HX_5.out.up hb)
  clear hb
  refine (refGet5_any k A n c a _ (by omega) (ResL.keep HA.out E_X.out.keep)).mono ?_
  rintro e w6 ⟨xY, CY, pY, fY, CY', pY', fY', rfl, hr, hv, hb⟩
  obtain rfl : xY = x := hr.symm.trans HR.out
  have E_6 := Lib.hid (E_X.out.trans hb)
  have K7_6 := Lib.hid ((hb.block (Array.getElem?_eq_some_iff.1 K7_X.out).1).trans K7_X.out)
  have K8_6 := Lib.hid ((hb.block (Array.getElem?_eq_some_iff.1 K8_X.out).1).trans K8_X.out)
  have K12_6 := Lib.hid ((hb.block (Array.getElem?_eq_some_iff.1 K12_X.out).1).trans K12_X.out)
  have HX_6 := Lib.hid (HX_X.out.up hb)
  have HY_6 := Lib.hid hv
  rw [← HZ.out]
  clear hb hv hr
  unfold rsVal
  go_wp2_with fail
  have K14_Y := Lib.hid (heap_alloc_new w6 (.cells #[.int .i64 xY.kind, .string xY.name, .int .i64 xY.ver, .int .i64 xY.port, .string xY.to, .slice CY pY fY, .slice CY' pY' fY'] 34))
  have hb := Ext.new w6 (.cells #[.int .i64 xY.kind, .string xY.name, .int .i64 xY.ver, .int .i64 xY.port, .string xY.to, .slice CY pY fY, .slice CY' pY' fY'] 34)
  generalize w6.alloc (.cells #[.int .i64 xY.kind, .string xY.name, .int .i64 xY.ver, .int .i64 xY.port, .string xY.to, .slice CY pY fY, .slice CY' pY' fY'] 34) = wY at K14_Y hb ⊢
  obtain ⟨qY, hq⟩ : ∃ b, b = w6.heap.size := ⟨_, rfl⟩
  rw [← hq] at K14_Y ⊢
  clear hq
  have E_Y := Lib.hid (E_6.out.trans hb)
  have K7_Y := Lib.hid ((hb.block (Array.getElem?_eq_some_iff.1 K7_6.out).1).trans K7_6.out)
  have K8_Y := Lib.hid ((hb.block (Array.getElem?_eq_some_iff.1 K8_6.out).1).trans K8_6.out)
  have K12_Y := Lib.hid ((hb.block (Array.getElem?_eq_some_iff.1 K12_6.out).1).trans K12_6.out)
  have HX_Y := Lib.hid (HX_6.out.up hb)
  have HY_Y := Lib.hid (HY_6.out.up hb)
  clear hb
  refine (diff_any A n c a B m d b _ (by omega) (by omega) (ResL.keep HA.out E_Y.out.keep) (ResL.keep HB.out E_Y.out.keep) HWA.out HWB.out).mono ?_
  rintro e w7 ⟨AP, nP, cP, AQ, nQ, cQ, rfl, hsP, hsQ, hP, hQ, hb⟩
  have E_7 := Lib.hid (E_Y.out.trans hb)
  have K7_7 := Lib.hid ((hb.block (Array.getElem?_eq_some_iff.1 K7_Y.out).1).trans K7_Y.out)
  have K8_7 := Lib.hid ((hb.block (Array.getElem?_eq_some_iff.1 K8_Y.out).1).trans K8_Y.out)
  have K12_7 := Lib.hid ((hb.block (Array.getElem?_eq_some_iff.1 K12_Y.out).1).trans K12_Y.out)
  have K14_7 := Lib.hid ((hb.block (Array.getElem?_eq_some_iff.1 K14_Y.out).1).trans K14_Y.out)
  have HX_7 := Lib.hid (HX_Y.out.up hb)
  have HY_7 := Lib.hid (HY_Y.out.up hb)
  have HLP_7 := Lib.hid hP
  have HLQ_7 := Lib.hid hQ
  have HMP : Hid (nP ≤ maxLen) := Lib.hid (Nat.le_trans hsP.1 hsP.2.1)
  have HMQ : Hid (nQ ≤ maxLen) := Lib.hid (Nat.le_trans hsQ.1 hsQ.2.1)
  clear hb hsP hsQ hP hQ
  go_wp2_with fail
  refine (refDiff5_any A n c a B m d b _ (by omega) (by omega) (ResL.keep HA.out E_7.out.keep) (ResL.keep HB.out E_7.out.keep)).mono ?_
  rintro e w8 ⟨AS, nS, cS, AT, nT, cT, rfl, hsS, hsT, hS, hT, hb⟩
  have E_8 := Lib.hid (E_7.out.trans hb)
  have K7_8 := Lib.hid ((hb.block (Array.getElem?_eq_some_iff.1 K7_7.out).1).trans K7_7.out)
  have K8_8 := Lib.hid ((hb.block (Array.getElem?_eq_some_iff.1 K8_7.out).1).trans K8_7.out)
  have K12_8 := Lib.hid ((hb.block (Array.getElem?_eq_some_iff.1 K12_7.out).1).trans K12_7.out)
  have K14_8 := Lib.hid ((hb.block (Array.getElem?_eq_some_iff.1 K14_7.out).1).trans K14_7.out)
  have HX_8 := Lib.hid (HX_7.out.up hb)
  have HY_8 := Lib.hid (HY_7.out.up hb)
  have HLP_8 := Lib.hid (ResL.keep HLP_7.out hb.keep)
  have HLQ_8 := Lib.hid (KeyL.keep HLQ_7.out hb.keep)
  have HLS_8 := Lib.hid hS
  have HLT_8 := Lib.hid hT
  have HMS : Hid (nS ≤ maxLen) := Lib.hid (Nat.le_trans hsS.1 hsS.2.1)
  have HMT : Hid (nT ≤ maxLen) := Lib.hid (Nat.le_trans hsT.1 hsT.2.1)
  clear hb hsS hsT hS hT
  go_wp2_with fail
  obtain ⟨Z, hZ⟩ : ∃ Z, Z = saneT a := ⟨_, rfl⟩
  have HZa := Lib.hid hZ
  clear hZ
  refine (tabSane_any A n c a _ HMa.out (ResL.keep HA.out E_8.out.keep)).mono ?_
  rintro e w9 ⟨rfl, hb⟩
  have E_9 := Lib.hid (E_8.out.trans hb)
  have K7_9 := Lib.hid ((hb.block (Array.getElem?_eq_some_iff.1 K7_8.out).1).trans K7_8.out)
  have K8_9 := Lib.hid ((hb.block (Array.getElem?_eq_some_iff.1 K8_8.out).1).trans K8_8.out)
  have K12_9 := Lib.hid ((hb.block (Array.getElem?_eq_some_iff.1 K12_8.out).1).trans K12_8.out)
  have K14_9 := Lib.hid ((hb.block (Array.getElem?_eq_some_iff.1 K14_8.out).1).trans K14_8.out)
  have HX_9 := Lib.hid (HX_8.out.up hb)
  have HY_9 := Lib.hid (HY_8.out.up hb)
  have HLP_9 := Lib.hid (ResL.keep HLP_8.out hb.keep)
  have HLQ_9 := Lib.hid (KeyL.keep HLQ_8.out hb.keep)
  have HLS_9 := Lib.hid (ResL.keep HLS_8.out hb.keep)
  have HLT_9 := Lib.hid (KeyL.keep HLT_8.out hb.keep)
  clear hb
  rw [← HZa.out]
  go_wp2_with fail
  refine (refSane5_any A n c a _ HMa.out (ResL.keep HA.out E_9.out.keep)).mono ?_
  rintro e w10 ⟨rfl, hb⟩
  have E_10 := Lib.hid (E_9.out.trans hb)
  have K7_10 := Lib.hid ((hb.block (Array.getElem?_eq_some_iff.1 K7_9.out).1).trans K7_9.out)
  have K8_10 := Lib.hid ((hb.block (Array.getElem?_eq_some_iff.1 K8_9.out).1).trans K8_9.out)
  have K12_10 := Lib.hid ((hb.block (Array.getElem?_eq_some_iff.1 K12_9.out).1).trans K12_9.out)
  have K14_10 := Lib.hid ((hb.block (Array.getElem?_eq_some_iff.1 K14_9.out).1).trans K14_9.out)
  have HX_10 := Lib.hid (HX_9.out.up hb)
  have HY_10 := Lib.hid (HY_9.out.up hb)
  have HLP_10 := Lib.hid (ResL.keep HLP_9.out hb.keep)
  have HLQ_10 := Lib.hid (KeyL.keep HLQ_9.out hb.keep)
  have HLS_10 := Lib.hid (ResL.keep HLS_9.out hb.keep)
  have HLT_10 := Lib.hid (KeyL.keep HLT_9.out hb.keep)
  clear hb
  rw [← HZa.out]
  have hzz : (Z != Z) = false := by simp
  obtain ⟨uK12, vK12⟩ := blk_rules K12_10.out
  obtain ⟨uK14, vK14⟩ := blk_rules K14_10.out
  go_wp2_with fail
  clear uK12 vK12 uK14 vK14
  refine (refSame_eq _ _ xY CX CY pX fX pY fY CX' CY' pX' fX' pY' fY' _ HX_10.out HY_10.out).mono ?_
  rintro e w11 ⟨rfl, hb⟩
  have E_11 := Lib.hid (E_10.out.trans hb)
  have K7_11 := Lib.hid ((hb.block (Array.getElem?_eq_some_iff.1 K7_10.out).1).trans K7_10.out)
  have K8_11 := Lib.hid ((hb.block (Array.getElem?_eq_some_iff.1 K8_10.out).1).trans K8_10.out)
  have K12_11 := Lib.hid ((hb.block (Array.getElem?_eq_some_iff.1 K12_10.out).1).trans K12_10.out)
  have K14_11 := Lib.hid ((hb.block (Array.getElem?_eq_some_iff.1 K14_10.out).1).trans K14_10.out)
  have HX_11 := Lib.hid (HX_10.out.up hb)
  have HY_11 := Lib.hid (HY_10.out.up hb)
  have HLP_11 := Lib.hid (ResL.keep HLP_10.out hb.keep)
  have HLQ_11 := Lib.hid (KeyL.keep HLQ_10.out hb.keep)
  have HLS_11 := Lib.hid (ResL.keep HLS_10.out hb.keep)
  have HLT_11 := Lib.hid (KeyL.keep HLT_10.out hb.keep)
  clear hb
  have hzy : (z != z) = false := by simp
  go_wp2_with fail
  refine (refAll_eqL (addsT a b) AP AS nP nS cP cS _ HMP.out HLP_11.out HLS_11.out).mono ?_
  rintro e w12 ⟨rfl, hb⟩
  have E_12 := Lib.hid (E_11.out.trans hb)
  have K7_12 := Lib.hid ((hb.block (Array.getElem?_eq_some_iff.1 K7_11.out).1).trans K7_11.out)
  have K8_12 := Lib.hid ((hb.block (Array.getElem?_eq_some_iff.1 K8_11.out).1).trans K8_11.out)
  have K12_12 := Lib.hid ((hb.block (Array.getElem?_eq_some_iff.1 K12_11.out).1).trans K12_11.out)
  have K14_12 := Lib.hid ((hb.block (Array.getElem?_eq_some_iff.1 K14_11.out).1).trans K14_11.out)
  have HX_12 := Lib.hid (HX_11.out.up hb)
  have HY_12 := Lib.hid (HY_11.out.up hb)
  have HLP_12 := Lib.hid (ResL.keep HLP_11.out hb.keep)
  have HLQ_12 := Lib.hid (KeyL.keep HLQ_11.out hb.keep)
  have HLS_12 := Lib.hid (ResL.keep HLS_11.out hb.keep)
  have HLT_12 := Lib.hid (KeyL.keep HLT_11.out hb.keep)
  clear hb
  go_wp2_with fail
  refine (refKeys_eqL (goneT a b) AQ AT nQ nT cQ cT _ HMQ.out HLQ_12.out HLT_12.out).mono ?_
  rintro e w13 ⟨rfl, hb⟩
  have E_13 := Lib.hid (E_12.out.trans hb)
  have K7_13 := Lib.hid ((hb.block (Array.getElem?_eq_some_iff.1 K7_12.out).1).trans K7_12.out)
  have K8_13 := Lib.hid ((hb.block (Array.getElem?_eq_some_iff.1 K8_12.out).1).trans K8_12.out)
  have K12_13 := Lib.hid ((hb.block (Array.getElem?_eq_some_iff.1 K12_12.out).1).trans K12_12.out)
  have K14_13 := Lib.hid ((hb.block (Array.getElem?_eq_some_iff.1 K14_12.out).1).trans K14_12.out)
  have HX_13 := Lib.hid (HX_12.out.up hb)
  have HY_13 := Lib.hid (HY_12.out.up hb)
  have HLP_13 := Lib.hid (ResL.keep HLP_12.out hb.keep)
  have HLQ_13 := Lib.hid (KeyL.keep HLQ_12.out hb.keep)
  have HLS_13 := Lib.hid (ResL.keep HLS_12.out hb.keep)
  have HLT_13 := Lib.hid (KeyL.keep HLT_12.out hb.keep)
  clear hb
  clear hzz hzy
  as_aux_lemma =>
    have hrk : ∀ w', Ext w13.drew w' → w'.cell? ⟨q8, 0, none⟩ = some (.int .i64 r.kind) ∧ w'.cell? ⟨q8, 1, none⟩ = some (.string r.name) ∧ w'.cell? ⟨q8, 2, none⟩ = some (.int .i64 r.ver) ∧ w'.cell? ⟨q8, 3, none⟩ = some (.int .i64 r.port) ∧ w'.cell? ⟨q8, 4, none⟩ = some (.string r.to) ∧ w'.cell? ⟨q8, 5, none⟩ = some (.slice C p f) ∧ w'.cell? ⟨q8, 6, none⟩ = some (.slice C' p' f') := fun w' h => ⟨(blk_rules ((((Ext.refl w13).drew.trans h).block (Array.getElem?_eq_some_iff.1 K8_13.out).1).trans K8_13.out)).1 0, (blk_rules ((((Ext.refl w13).drew.trans h).block (Array.getElem?_eq_some_iff.1 K8_13.out).1).trans K8_13.out)).1 1, (blk_rules ((((Ext.refl w13).drew.trans h).block (Array.getElem?_eq_some_iff.1 K8_13.out).1).trans K8_13.out)).1 2, (blk_rules ((((Ext.refl w13).drew.trans h).block (Array.getElem?_eq_some_iff.1 K8_13.out).1).trans K8_13.out)).1 3, (blk_rules ((((Ext.refl w13).drew.trans h).block (Array.getElem?_eq_some_iff.1 K8_13.out).1).trans K8_13.out)).1 4, (blk_rules ((((Ext.refl w13).drew.trans h).block (Array.getElem?_eq_some_iff.1 K8_13.out).1).trans K8_13.out)).1 5, (blk_rules ((((Ext.refl w13).drew.trans h).block (Array.getElem?_eq_some_iff.1 K8_13.out).1).trans K8_13.out)).1 6⟩
    have r0 : ∀ w', Ext w13.drew w' → w'.cell? ⟨q8, 0, none⟩ = some (.int .i64 r.kind) := fun w' h => (hrk w' h).1
    have r1 : ∀ w', Ext w13.drew w' → w'.cell? ⟨q8, 1, none⟩ = some (.string r.name) := fun w' h => (hrk w' h).2.1
    have r2 : ∀ w', Ext w13.drew w' → w'.cell? ⟨q8, 2, none⟩ = some (.int .i64 r.ver) := fun w' h => (hrk w' h).2.2.1
    have r3 : ∀ w', Ext w13.drew w' → w'.cell? ⟨q8, 3, none⟩ = some (.int .i64 r.port) := fun w' h => (hrk w' h).2.2.2.1
    have r4 : ∀ w', Ext w13.drew w' → w'.cell? ⟨q8, 4, none⟩ = some (.string r.to) := fun w' h => (hrk w' h).2.2.2.2.1
    have r5 : ∀ w', Ext w13.drew w' → w'.cell? ⟨q8, 5, none⟩ = some (.slice C p f) := fun w' h => (hrk w' h).2.2.2.2.2.1
    have r6 : ∀ w', Ext w13.drew w' → w'.cell? ⟨q8, 6, none⟩ = some (.slice C' p' f') := fun w' h => (hrk w' h).2.2.2.2.2.2
    have k0 : ∀ w', Ext w13.drew w' → w'.cell? ⟨q7, 0, none⟩ = some (.int .i64 k.kind) := fun w' h => (blk_rules ((((Ext.refl w13).drew.trans h).block (Array.getElem?_eq_some_iff.1 K7_13.out).1).trans K7_13.out)).1 0
    have k1 : ∀ w', Ext w13.drew w' → w'.cell? ⟨q7, 1, none⟩ = some (.string k.name) := fun w' h => (blk_rules ((((Ext.refl w13).drew.trans h).block (Array.getElem?_eq_some_iff.1 K7_13.out).1).trans K7_13.out)).1 1
    have HAr : Hid (∀ w', Ext w13.drew w' → ResL All w' A n a) := Lib.hid (fun w' h => ResL.keep HA.out (E_13.out.trans ((Ext.refl w13).drew.trans h)).keep)
    have HBr : Hid (∀ w', Ext w13.drew w' → ResL All w' B m b) := Lib.hid (fun w' h => ResL.keep HB.out (E_13.out.trans ((Ext.refl w13).drew.trans h)).keep)
    have HGr : Hid (∀ w', Ext w13.drew w' → KeyL All w' G q gone) := Lib.hid (fun w' h => KeyL.keep HG.out (E_13.out.trans ((Ext.refl w13).drew.trans h)).keep)
    have HVr : Hid (∀ w', Ext w13.drew w' → RsV All w' r C p f C' p' f') := Lib.hid (fun w' h => HV.out.up (E_13.out.trans ((Ext.refl w13).drew.trans h)))
    have X0 : Hid (Ext w13.drew w13.drew) := Lib.hid (Ext.refl _)
    clear hrk
    obtain ⟨Y, hY⟩ : ∃ Y, Y = decide (a = b) := ⟨_, rfl⟩
    have HY := Lib.hid hY
    clear hY
    have hyy : (Y == Y) = true := by simp
    go_wp2_with fail
    have hSw : Ext w13.drew w13.drew := X0.out
    refine wpS_begin (Ext w13.drew) (by kernel_rfl) ?_
    refine wpS_take 0 (v := ?_) hSw rfl (by kernel_rfl) (by kernel_rfl) (by kernel_rfl) (by rfl) (fun w' hin => ?_) ?_
    rotate_left
    · (try simp only [] at hin); go_simp <;> with_reducible rfl
    try simp only [Act.put, List.setIfInBounds_toArray, List.set_cons_zero, List.set_cons_succ]
    refine wpS_take 1 (v := ?_) hSw rfl (by kernel_rfl) (by kernel_rfl) (by kernel_rfl) (by rfl) (fun w' hin => ?_) ?_
    rotate_left
    · (try simp only [] at hin); go_simp <;> with_reducible rfl
    try simp only [Act.put, List.setIfInBounds_toArray, List.set_cons_zero, List.set_cons_succ]
    refine wpS_take 2 (v := ?_) hSw rfl (by kernel_rfl) (by kernel_rfl) (by kernel_rfl) (by rfl) (fun w' hin => ?_) ?_
    rotate_left
    · (try simp only [] at hin); go_simp <;> with_reducible rfl
    try simp only [Act.put, List.setIfInBounds_toArray, List.set_cons_zero, List.set_cons_succ]
    refine wpS_take 3 (v := ?_) hSw rfl (by kernel_rfl) (by kernel_rfl) (by kernel_rfl) (by rfl) (fun w' hin => ?_) ?_
    rotate_left
    · (try simp only [] at hin); go_simp <;> with_reducible rfl
    try simp only [Act.put, List.setIfInBounds_toArray, List.set_cons_zero, List.set_cons_succ]
    refine wpS_take 5 (v := ?_) hSw rfl (by kernel_rfl) (by kernel_rfl) (by kernel_rfl) (by rfl) (fun w' hin => ?_) ?_
    rotate_left
    · (try simp only [] at hin); go_simp <;> with_reducible rfl
    try simp only [Act.put, List.setIfInBounds_toArray, List.set_cons_zero, List.set_cons_succ]
    refine wpS_take 6 (v := ?_) hSw rfl (by kernel_rfl) (by kernel_rfl) (by kernel_rfl) (by rfl) (fun w' hin => ?_) ?_
    rotate_left
    · (try simp only [] at hin); go_simp <;> with_reducible rfl
    try simp only [Act.put, List.setIfInBounds_toArray, List.set_cons_zero, List.set_cons_succ]
    refine wpS_one 4 rfl (by kernel_rfl) (by rfl) (fun K hK => ?_)
    go_simp
    refine (with_any A n c a r C p f C' p' f' _ (by omega) (HAr.out _ X0.out) (HVr.out _ X0.out)).mono ?_
    rintro e x4 ⟨A4, n4, c4, rfl, hs4, h4, hbx⟩
    have X4 := Lib.hid (X0.out.trans hbx)
    have HS4 : Hid (n4 ≤ maxLen) := Lib.hid (Nat.le_trans hs4.1 hs4.2.1)
    have HL4 := Lib.hid h4
    clear hs4 h4
    clear hbx
    simp only []
    refine hK.out _ _ (Ext w13.drew) (fun _ h => h) (X4.out) (fun hSw => ?_)
    clear hK K
    try simp only [Act.put, List.setIfInBounds_toArray, List.set_cons_zero, List.set_cons_succ]
    refine wpS_one 7 rfl (by kernel_rfl) (by rfl) (fun K hK => ?_)
    go_simp
    refine (refWith5_any A n c a r C p f C' p' f' _ (by omega) (HAr.out _ X4.out) (HVr.out _ X4.out)).mono ?_
    rintro e x7 ⟨A7, n7, c7, rfl, hs7, h7, hbx⟩
    have X7 := Lib.hid (X4.out.trans hbx)
    have HS7 : Hid (n7 ≤ maxLen) := Lib.hid (Nat.le_trans hs7.1 hs7.2.1)
    have HL7 := Lib.hid h7
    clear hs7 h7
    have HLb4 := Lib.hid (ResL.keep HL4.out hbx.keep)
    clear hbx
    simp only []
    refine hK.out _ _ (Ext w13.drew) (fun _ h => h) (X7.out) (fun hSw => ?_)
    clear hK K
    try simp only [Act.put, List.setIfInBounds_toArray, List.set_cons_zero, List.set_cons_succ]
    refine wpS_one 8 rfl (by kernel_rfl) (by rfl) (fun K hK => ?_)
    go_simp
    refine (refAll_eqL (withT a r) A4 A7 n4 n7 c4 c7 _ HS4.out HLb4.out HL7.out).mono ?_
    rintro e x8 ⟨rfl, hbx⟩
    have X8 := Lib.hid (X7.out.trans hbx)
    clear hbx HL4 HLb4 HL7 HS4 HS7
    simp only []
    refine hK.out _ _ (Ext w13.drew) (fun _ h => h) (X8.out) (fun hSw => ?_)
    clear hK K
    try simp only [Act.put, List.setIfInBounds_toArray, List.set_cons_zero, List.set_cons_succ]
    as_aux_lemma =>
      refine wpS_take 9 (v := ?_) hSw rfl (by kernel_rfl) (by kernel_rfl) (by kernel_rfl) (by rfl) (fun w' hin => ?_) ?_
      rotate_left
      · (try simp only [] at hin); go_simp <;> with_reducible rfl
      try simp only [Act.put, List.setIfInBounds_toArray, List.set_cons_zero, List.set_cons_succ]
      refine wpS_take 10 (v := ?_) hSw rfl (by kernel_rfl) (by kernel_rfl) (by kernel_rfl) (by rfl) (fun w' hin => ?_) ?_
      rotate_left
      · (try simp only [] at hin); go_simp <;> with_reducible rfl
      try simp only [Act.put, List.setIfInBounds_toArray, List.set_cons_zero, List.set_cons_succ]
      refine wpS_take 11 (v := ?_) hSw rfl (by kernel_rfl) (by kernel_rfl) (by kernel_rfl) (by rfl) (fun w' hin => ?_) ?_
      rotate_left
      · (try simp only [] at hin); go_simp <;> with_reducible rfl
      try simp only [Act.put, List.setIfInBounds_toArray, List.set_cons_zero, List.set_cons_succ]
      refine wpS_take 12 (v := ?_) hSw rfl (by kernel_rfl) (by kernel_rfl) (by kernel_rfl) (by rfl) (fun w' hin => ?_) ?_
      rotate_left
      · (try simp only [] at hin); go_simp <;> with_reducible rfl
      try simp only [Act.put, List.setIfInBounds_toArray, List.set_cons_zero, List.set_cons_succ]
      refine wpS_take 14 (v := ?_) hSw rfl (by kernel_rfl) (by kernel_rfl) (by kernel_rfl) (by rfl) (fun w' hin => ?_) ?_
      rotate_left
      · (try simp only [] at hin); go_simp <;> with_reducible rfl
      try simp only [Act.put, List.setIfInBounds_toArray, List.set_cons_zero, List.set_cons_succ]
      refine wpS_take 15 (v := ?_) hSw rfl (by kernel_rfl) (by kernel_rfl) (by kernel_rfl) (by rfl) (fun w' hin => ?_) ?_
      rotate_left
      · (try simp only [] at hin); go_simp <;> with_reducible rfl
      try simp only [Act.put, List.setIfInBounds_toArray, List.set_cons_zero, List.set_cons_succ]
      refine wpS_one 13 rfl (by kernel_rfl) (by rfl) (fun K hK => ?_)
      go_simp
      refine (without_any k A n c a _ HSA.out (by omega) (HAr.out _ X8.out)).mono ?_
      rintro e x13 ⟨A13, n13, c13, rfl, hs13, h13, hbx⟩
      have X13 := Lib.hid (X8.out.trans hbx)
      have HS13 : Hid (n13 ≤ maxLen) := Lib.hid (Nat.le_trans hs13.1 hs13.2.1)
      have HL13 := Lib.hid h13
      clear hs13 h13
      clear hbx
      simp only []
      refine hK.out _ _ (Ext w13.drew) (fun _ h => h) (X13.out) (fun hSw => ?_)
      clear hK K
      try simp only [Act.put, List.setIfInBounds_toArray, List.set_cons_zero, List.set_cons_succ]
      refine wpS_one 16 rfl (by kernel_rfl) (by rfl) (fun K hK => ?_)
      go_simp
      refine (refWithout5_any a A n c k _ (HAr.out _ X13.out) (by omega)).mono ?_
      rintro e x16 ⟨A16, n16, c16, rfl, hs16, h16, hbx⟩
      have X16 := Lib.hid (X13.out.trans hbx)
      have HS16 : Hid (n16 ≤ maxLen) := Lib.hid (Nat.le_trans hs16.1 hs16.2.1)
      have HL16 := Lib.hid h16
      clear hs16 h16
      have HLb13 := Lib.hid (ResL.keep HL13.out hbx.keep)
      clear hbx
      simp only []
      refine hK.out _ _ (Ext w13.drew) (fun _ h => h) (X16.out) (fun hSw => ?_)
      clear hK K
      try simp only [Act.put, List.setIfInBounds_toArray, List.set_cons_zero, List.set_cons_succ]
      refine wpS_one 17 rfl (by kernel_rfl) (by rfl) (fun K hK => ?_)
      go_simp
      refine (refAll_eqL (withoutT a k) A13 A16 n13 n16 c13 c16 _ HS13.out HLb13.out HL16.out).mono ?_
      rintro e x17 ⟨rfl, hbx⟩
      have X17 := Lib.hid (X16.out.trans hbx)
      clear hbx HL13 HLb13 HL16 HS13 HS16
      simp only []
      refine hK.out _ _ (Ext w13.drew) (fun _ h => h) (X17.out) (fun hSw => ?_)
      clear hK K
      try simp only [Act.put, List.setIfInBounds_toArray, List.set_cons_zero, List.set_cons_succ]
      as_aux_lemma =>
        refine wpS_take 18 (v := ?_) hSw rfl (by kernel_rfl) (by kernel_rfl) (by kernel_rfl) (by rfl) (fun w' hin => ?_) ?_
        rotate_left
        · (try simp only [] at hin); go_simp <;> with_reducible rfl
        try simp only [Act.put, List.setIfInBounds_toArray, List.set_cons_zero, List.set_cons_succ]
        refine wpS_take 19 (v := ?_) hSw rfl (by kernel_rfl) (by kernel_rfl) (by kernel_rfl) (by rfl) (fun w' hin => ?_) ?_
        rotate_left
        · (try simp only [] at hin); go_simp <;> with_reducible rfl
        try simp only [Act.put, List.setIfInBounds_toArray, List.set_cons_zero, List.set_cons_succ]
        refine wpS_take 20 (v := ?_) hSw rfl (by kernel_rfl) (by kernel_rfl) (by kernel_rfl) (by rfl) (fun w' hin => ?_) ?_
        rotate_left
        · (try simp only [] at hin); go_simp <;> with_reducible rfl
        try simp only [Act.put, List.setIfInBounds_toArray, List.set_cons_zero, List.set_cons_succ]
        refine wpS_take 21 (v := ?_) hSw rfl (by kernel_rfl) (by kernel_rfl) (by kernel_rfl) (by rfl) (fun w' hin => ?_) ?_
        rotate_left
        · (try simp only [] at hin); go_simp <;> with_reducible rfl
        try simp only [Act.put, List.setIfInBounds_toArray, List.set_cons_zero, List.set_cons_succ]
        refine wpS_take 22 (v := ?_) hSw rfl (by kernel_rfl) (by kernel_rfl) (by kernel_rfl) (by rfl) (fun w' hin => ?_) ?_
        rotate_left
        · (try simp only [] at hin); go_simp <;> with_reducible rfl
        try simp only [Act.put, List.setIfInBounds_toArray, List.set_cons_zero, List.set_cons_succ]
        refine wpS_take 24 (v := ?_) hSw rfl (by kernel_rfl) (by kernel_rfl) (by kernel_rfl) (by rfl) (fun w' hin => ?_) ?_
        rotate_left
        · (try simp only [] at hin); go_simp <;> with_reducible rfl
        try simp only [Act.put, List.setIfInBounds_toArray, List.set_cons_zero, List.set_cons_succ]
        refine wpS_take 25 (v := ?_) hSw rfl (by kernel_rfl) (by kernel_rfl) (by kernel_rfl) (by rfl) (fun w' hin => ?_) ?_
        rotate_left
        · (try simp only [] at hin); go_simp <;> with_reducible rfl
        try simp only [Act.put, List.setIfInBounds_toArray, List.set_cons_zero, List.set_cons_succ]
        refine wpS_take 26 (v := ?_) hSw rfl (by kernel_rfl) (by kernel_rfl) (by kernel_rfl) (by rfl) (fun w' hin => ?_) ?_
        rotate_left
        · (try simp only [] at hin); go_simp <;> with_reducible rfl
        try simp only [Act.put, List.setIfInBounds_toArray, List.set_cons_zero, List.set_cons_succ]
        refine wpS_one 23 rfl (by kernel_rfl) (by rfl) (fun K hK => ?_)
        go_simp
        refine (kind_any k.kind A n c a _ (by omega) (HAr.out _ X17.out)).mono ?_
        rintro e x23 ⟨A23, n23, c23, rfl, hs23, h23, hbx⟩
        have X23 := Lib.hid (X17.out.trans hbx)
        have HS23 : Hid (n23 ≤ maxLen) := Lib.hid (Nat.le_trans hs23.1 hs23.2.1)
        have HL23 := Lib.hid h23
        clear hs23 h23
        clear hbx
        simp only []
        refine hK.out _ _ (Ext w13.drew) (fun _ h => h) (X23.out) (fun hSw => ?_)
        clear hK K
        try simp only [Act.put, List.setIfInBounds_toArray, List.set_cons_zero, List.set_cons_succ]
        refine wpS_one 27 rfl (by kernel_rfl) (by rfl) (fun K hK => ?_)
        go_simp
        refine (refKind5_any a A n c k.kind _ (HAr.out _ X23.out) (by omega)).mono ?_
        rintro e x27 ⟨A27, n27, c27, rfl, hs27, h27, hbx⟩
        have X27 := Lib.hid (X23.out.trans hbx)
        have HS27 : Hid (n27 ≤ maxLen) := Lib.hid (Nat.le_trans hs27.1 hs27.2.1)
        have HL27 := Lib.hid h27
        clear hs27 h27
        have HLb23 := Lib.hid (ResL.keep HL23.out hbx.keep)
        clear hbx
        simp only []
        refine hK.out _ _ (Ext w13.drew) (fun _ h => h) (X27.out) (fun hSw => ?_)
        clear hK K
        try simp only [Act.put, List.setIfInBounds_toArray, List.set_cons_zero, List.set_cons_succ]
        refine wpS_one 28 rfl (by kernel_rfl) (by rfl) (fun K hK => ?_)
        go_simp
        refine (refAll_eqL (kindT a k.kind) A23 A27 n23 n27 c23 c27 _ HS23.out HLb23.out HL27.out).mono ?_
        rintro e x28 ⟨rfl, hbx⟩
        have X28 := Lib.hid (X27.out.trans hbx)
        clear hbx HL23 HLb23 HL27 HS23 HS27
        simp only []
        refine hK.out _ _ (Ext w13.drew) (fun _ h => h) (X28.out) (fun hSw => ?_)
        clear hK K
        try simp only [Act.put, List.setIfInBounds_toArray, List.set_cons_zero, List.set_cons_succ]
        as_aux_lemma =>
          refine wpS_take 29 (v := ?_) hSw rfl (by kernel_rfl) (by kernel_rfl) (by kernel_rfl) (by rfl) (fun w' hin => ?_) ?_
          rotate_left
          · (try simp only [] at hin); go_simp <;> with_reducible rfl
          try simp only [Act.put, List.setIfInBounds_toArray, List.set_cons_zero, List.set_cons_succ]
          refine wpS_take 30 (v := ?_) hSw rfl (by kernel_rfl) (by kernel_rfl) (by kernel_rfl) (by rfl) (fun w' hin => ?_) ?_
          rotate_left
          · (try simp only [] at hin); go_simp <;> with_reducible rfl
          try simp only [Act.put, List.setIfInBounds_toArray, List.set_cons_zero, List.set_cons_succ]
          refine wpS_take 31 (v := ?_) hSw rfl (by kernel_rfl) (by kernel_rfl) (by kernel_rfl) (by rfl) (fun w' hin => ?_) ?_
          rotate_left
          · (try simp only [] at hin); go_simp <;> with_reducible rfl
          try simp only [Act.put, List.setIfInBounds_toArray, List.set_cons_zero, List.set_cons_succ]
          refine wpS_take 33 (v := ?_) hSw rfl (by kernel_rfl) (by kernel_rfl) (by kernel_rfl) (by rfl) (fun w' hin => ?_) ?_
          rotate_left
          · (try simp only [] at hin); go_simp <;> with_reducible rfl
          try simp only [Act.put, List.setIfInBounds_toArray, List.set_cons_zero, List.set_cons_succ]
          refine wpS_one 32 rfl (by kernel_rfl) (by rfl) (fun K hK => ?_)
          go_simp
          refine (keys_giv A n c a _ (by omega) (HAr.out _ X28.out)).mono ?_
          rintro e x32 ⟨A32, n32, c32, rfl, hs32, h32, hbx⟩
          have X32 := Lib.hid (X28.out.trans hbx)
          have HS32 : Hid (n32 ≤ maxLen) := Lib.hid (Nat.le_trans hs32.1 hs32.2.1)
          have HL32 := Lib.hid h32
          clear hs32 h32
          clear hbx
          simp only []
          refine hK.out _ _ (Ext w13.drew) (fun _ h => h) (X32.out) (fun hSw => ?_)
          clear hK K
          try simp only [Act.put, List.setIfInBounds_toArray, List.set_cons_zero, List.set_cons_succ]
          refine wpS_one 34 rfl (by kernel_rfl) (by rfl) (fun K hK => ?_)
          go_simp
          refine (refKeys5_any a A n c _ (HAr.out _ X32.out) (by omega)).mono ?_
          rintro e x34 ⟨A34, n34, c34, rfl, hs34, h34, hbx⟩
          have X34 := Lib.hid (X32.out.trans hbx)
          have HS34 : Hid (n34 ≤ maxLen) := Lib.hid (Nat.le_trans hs34.1 hs34.2.1)
          have HL34 := Lib.hid h34
          clear hs34 h34
          have HLb32 := Lib.hid (KeyL.keep HL32.out hbx.keep)
          clear hbx
          simp only []
          refine hK.out _ _ (Ext w13.drew) (fun _ h => h) (X34.out) (fun hSw => ?_)
          clear hK K
          try simp only [Act.put, List.setIfInBounds_toArray, List.set_cons_zero, List.set_cons_succ]
          refine wpS_one 35 rfl (by kernel_rfl) (by rfl) (fun K hK => ?_)
          go_simp
          refine (refKeys_eqL (a.map Rs.key) A32 A34 n32 n34 c32 c34 _ HS32.out HLb32.out HL34.out).mono ?_
          rintro e x35 ⟨rfl, hbx⟩
          have X35 := Lib.hid (X34.out.trans hbx)
          clear hbx HL32 HLb32 HL34 HS32 HS34
          simp only []
          refine hK.out _ _ (Ext w13.drew) (fun _ h => h) (X35.out) (fun hSw => ?_)
          clear hK K
          try simp only [Act.put, List.setIfInBounds_toArray, List.set_cons_zero, List.set_cons_succ]
          as_aux_lemma =>
            refine wpS_take 36 (v := ?_) hSw rfl (by kernel_rfl) (by kernel_rfl) (by kernel_rfl) (by rfl) (fun w' hin => ?_) ?_
            rotate_left
            · (try simp only [] at hin); go_simp <;> with_reducible rfl
            try simp only [Act.put, List.setIfInBounds_toArray, List.set_cons_zero, List.set_cons_succ]
            refine wpS_take 37 (v := ?_) hSw rfl (by kernel_rfl) (by kernel_rfl) (by kernel_rfl) (by rfl) (fun w' hin => ?_) ?_
            rotate_left
            · (try simp only [] at hin); go_simp <;> with_reducible rfl
            try simp only [Act.put, List.setIfInBounds_toArray, List.set_cons_zero, List.set_cons_succ]
            refine wpS_take 38 (v := ?_) hSw rfl (by kernel_rfl) (by kernel_rfl) (by kernel_rfl) (by rfl) (fun w' hin => ?_) ?_
            rotate_left
            · (try simp only [] at hin); go_simp <;> with_reducible rfl
            try simp only [Act.put, List.setIfInBounds_toArray, List.set_cons_zero, List.set_cons_succ]
            refine wpS_take 39 (v := ?_) hSw rfl (by kernel_rfl) (by kernel_rfl) (by kernel_rfl) (by rfl) (fun w' hin => ?_) ?_
            rotate_left
            · (try simp only [] at hin); go_simp <;> with_reducible rfl
            try simp only [Act.put, List.setIfInBounds_toArray, List.set_cons_zero, List.set_cons_succ]
            refine wpS_take 40 (v := ?_) hSw rfl (by kernel_rfl) (by kernel_rfl) (by kernel_rfl) (by rfl) (fun w' hin => ?_) ?_
            rotate_left
            · (try simp only [] at hin); go_simp <;> with_reducible rfl
            try simp only [Act.put, List.setIfInBounds_toArray, List.set_cons_zero, List.set_cons_succ]
            refine wpS_take 42 (v := ?_) hSw rfl (by kernel_rfl) (by kernel_rfl) (by kernel_rfl) (by rfl) (fun w' hin => ?_) ?_
            rotate_left
            · (try simp only [] at hin); go_simp <;> with_reducible rfl
            try simp only [Act.put, List.setIfInBounds_toArray, List.set_cons_zero, List.set_cons_succ]
            refine wpS_take 43 (v := ?_) hSw rfl (by kernel_rfl) (by kernel_rfl) (by kernel_rfl) (by rfl) (fun w' hin => ?_) ?_
            rotate_left
            · (try simp only [] at hin); go_simp <;> with_reducible rfl
            try simp only [Act.put, List.setIfInBounds_toArray, List.set_cons_zero, List.set_cons_succ]
            refine wpS_take 44 (v := ?_) hSw rfl (by kernel_rfl) (by kernel_rfl) (by kernel_rfl) (by rfl) (fun w' hin => ?_) ?_
            rotate_left
            · (try simp only [] at hin); go_simp <;> with_reducible rfl
            try simp only [Act.put, List.setIfInBounds_toArray, List.set_cons_zero, List.set_cons_succ]
            refine wpS_one 41 rfl (by kernel_rfl) (by rfl) (fun K hK => ?_)
            go_simp
            refine (patch_any A n c a B m d b G q h gone _ (by omega) (by omega) (by omega) HSA.out (HAr.out _ X35.out) (HBr.out _ X35.out) (HGr.out _ X35.out)).mono ?_
            rintro e x41 ⟨A41, n41, c41, rfl, hs41, h41, hbx⟩
            have X41 := Lib.hid (X35.out.trans hbx)
            have HS41 : Hid (n41 ≤ maxLen) := Lib.hid (Nat.le_trans hs41.1 hs41.2.1)
            have HL41 := Lib.hid h41
            clear hs41 h41
            clear hbx
            simp only []
            refine hK.out _ _ (Ext w13.drew) (fun _ h => h) (X41.out) (fun hSw => ?_)
            clear hK K
            try simp only [Act.put, List.setIfInBounds_toArray, List.set_cons_zero, List.set_cons_succ]
            refine wpS_one 45 rfl (by kernel_rfl) (by rfl) (fun K hK => ?_)
            go_simp
            refine (refPatch5_any A n c a B m d b G q h gone _ (by omega) (by omega) (by omega) HSA.out (HAr.out _ X41.out) (HBr.out _ X41.out) (HGr.out _ X41.out)).mono ?_
            rintro e x45 ⟨A45, n45, c45, rfl, hs45, h45, hbx⟩
            have X45 := Lib.hid (X41.out.trans hbx)
            have HS45 : Hid (n45 ≤ maxLen) := Lib.hid (Nat.le_trans hs45.1 hs45.2.1)
            have HL45 := Lib.hid h45
            clear hs45 h45
            have HLb41 := Lib.hid (ResL.keep HL41.out hbx.keep)
            clear hbx
            simp only []
            refine hK.out _ _ (Ext w13.drew) (fun _ h => h) (X45.out) (fun hSw => ?_)
            clear hK K
            try simp only [Act.put, List.setIfInBounds_toArray, List.set_cons_zero, List.set_cons_succ]
            refine wpS_one 46 rfl (by kernel_rfl) (by rfl) (fun K hK => ?_)
            go_simp
            refine (refAll_eqL (patchT a b gone) A41 A45 n41 n45 c41 c45 _ HS41.out HLb41.out HL45.out).mono ?_
            rintro e x46 ⟨rfl, hbx⟩
            have X46 := Lib.hid (X45.out.trans hbx)
            clear hbx HL41 HLb41 HL45 HS41 HS45
            simp only []
            refine hK.out _ _ (Ext w13.drew) (fun _ h => h) (X46.out) (fun hSw => ?_)
            clear hK K
            try simp only [Act.put, List.setIfInBounds_toArray, List.set_cons_zero, List.set_cons_succ]
            as_aux_lemma =>
              refine wpS_take 47 (v := ?_) hSw rfl (by kernel_rfl) (by kernel_rfl) (by kernel_rfl) (by rfl) (fun w' hin => ?_) ?_
              rotate_left
              · (try simp only [] at hin); go_simp <;> with_reducible rfl
              try simp only [Act.put, List.setIfInBounds_toArray, List.set_cons_zero, List.set_cons_succ]
              refine wpS_take 48 (v := ?_) hSw rfl (by kernel_rfl) (by kernel_rfl) (by kernel_rfl) (by rfl) (fun w' hin => ?_) ?_
              rotate_left
              · (try simp only [] at hin); go_simp <;> with_reducible rfl
              try simp only [Act.put, List.setIfInBounds_toArray, List.set_cons_zero, List.set_cons_succ]
              refine wpS_take 49 (v := ?_) hSw rfl (by kernel_rfl) (by kernel_rfl) (by kernel_rfl) (by rfl) (fun w' hin => ?_) ?_
              rotate_left
              · (try simp only [] at hin); go_simp <;> with_reducible rfl
              try simp only [Act.put, List.setIfInBounds_toArray, List.set_cons_zero, List.set_cons_succ]
              refine wpS_take 50 (v := ?_) hSw rfl (by kernel_rfl) (by kernel_rfl) (by kernel_rfl) (by rfl) (fun w' hin => ?_) ?_
              rotate_left
              · (try simp only [] at hin); go_simp <;> with_reducible rfl
              try simp only [Act.put, List.setIfInBounds_toArray, List.set_cons_zero, List.set_cons_succ]
              refine wpS_take 52 (v := ?_) hSw rfl (by kernel_rfl) (by kernel_rfl) (by kernel_rfl) (by rfl) (fun w' hin => ?_) ?_
              rotate_left
              · (try simp only [] at hin); go_simp <;> with_reducible rfl
              try simp only [Act.put, List.setIfInBounds_toArray, List.set_cons_zero, List.set_cons_succ]
              refine wpS_take 53 (v := ?_) hSw rfl (by kernel_rfl) (by kernel_rfl) (by kernel_rfl) (by rfl) (fun w' hin => ?_) ?_
              rotate_left
              · (try simp only [] at hin); go_simp <;> with_reducible rfl
              try simp only [Act.put, List.setIfInBounds_toArray, List.set_cons_zero, List.set_cons_succ]
              refine wpS_one 51 rfl (by kernel_rfl) (by rfl) (fun K hK => ?_)
              go_simp
              refine (tabSame_any A B n c m d a b _ HMa.out HMb.out (HAr.out _ X46.out) (HBr.out _ X46.out)).mono ?_
              rintro e x51 ⟨rfl, hbx⟩
              have X51 := Lib.hid (X46.out.trans hbx)
              rw [← HY.out]
              clear hbx
              simp only []
              refine hK.out _ _ (Ext w13.drew) (fun _ h => h) (X51.out) (fun hSw => ?_)
              clear hK K
              try simp only [Act.put, List.setIfInBounds_toArray, List.set_cons_zero, List.set_cons_succ]
              refine wpS_one 54 rfl (by kernel_rfl) (by rfl) (fun K hK => ?_)
              go_simp
              refine (refSame5_any A B n c m d a b _ HMa.out HMb.out (HAr.out _ X51.out) (HBr.out _ X51.out)).mono ?_
              rintro e x54 ⟨rfl, hbx⟩
              have X54 := Lib.hid (X51.out.trans hbx)
              rw [← HY.out]
              clear hbx
              simp only []
              refine hK.out _ _ (Ext w13.drew) (fun _ h => h) (X54.out) (fun hSw => ?_)
              clear hK K
              try simp only [Act.put, List.setIfInBounds_toArray, List.set_cons_zero, List.set_cons_succ]
              refine wpS_take 55 (v := ?_) hSw rfl (by kernel_rfl) (by kernel_rfl) (by kernel_rfl) (by rfl) (fun w' hin => ?_) ?_
              rotate_left
              · (try simp only [] at hin); go_simp <;> with_reducible rfl
              try simp only [Act.put, List.setIfInBounds_toArray, List.set_cons_zero, List.set_cons_succ]
              refine wpS_take 56 (v := ?_) hSw rfl (by kernel_rfl) (by kernel_rfl) (by kernel_rfl) (by rfl) (fun w' hin => ?_) ?_
              rotate_left
              · (try simp only [] at hin); go_simp <;> with_reducible rfl
              try simp only [Act.put, List.setIfInBounds_toArray, List.set_cons_zero, List.set_cons_succ]
              refine wpS_take 57 (v := ?_) hSw rfl (by kernel_rfl) (by kernel_rfl) (by kernel_rfl) (by rfl) (fun w' hin => ?_) ?_
              rotate_left
              · (try simp only [] at hin); go_simp <;> with_reducible rfl
              try simp only [Act.put, List.setIfInBounds_toArray, List.set_cons_zero, List.set_cons_succ]
              refine wpS_done (by kernel_rfl) ?_
              go_wp2_with fail
              go_ret
              exact ⟨by first | rfl | simp, E_13.out.trans ((Ext.refl _).drew.trans X54.out)⟩
end Go.Proofs.YtfdjbnofcniodaaGreatDoor
