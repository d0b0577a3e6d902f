/- What the document's functions of layer 4 that put compute: rules, Put, good, PutKey, PutAll, PutKeys. -/
import Derived.Test.YtfdjbnofcniodaaGreatDoorQRef02
import Derived.Test.YtfdjbnofcniodaaGreatDoorQR03
import Derived.Test.YtfdjbnofcniodaaGreatDoorQFirstAll
import Derived.Test.YtfdjbnofcniodaaGreatDoorQTabA
namespace Go.Proofs.YtfdjbnofcniodaaGreatDoor
open Lib (hid)
set_option maxHeartbeats 8000000
set_option maxRecDepth 100000
set_option linter.unusedVariables false
open Go.RowKit
structure LaidAt (w wr : World) (n : Nat) (bs out : List UInt8) (A : Option Addr) (N c : Nat) : Prop where
 len : N = n + out.length
 nil : A = none → c = 0
 byts : Byts wr A N (bs ++ out)
 own : wr.ownsRow w.heap.size 5 1 (.slice A N c) N ((bs ++ out).map byteV)
 ext : Ext w wr
theorem LaidAt.of {w wr : World} {n : Nat} {bs out : List UInt8} {e : Ending} (h : LayN w n bs out e wr) : ∃ A N c, e = .returned (.slice A N c) ∧ LaidAt w wr n bs out A N c ∧ N = n + out.length ∧ Ext w wr := by
 obtain ⟨A, N, c, rfl, h1, h2, h3, h4, h5⟩ := h
 exact ⟨A, N, c, rfl, ⟨h1.out, h2.out, h3.out, h4.out, h5⟩, h1.out, h5⟩
theorem LaidAt.of' {w w1 wr : World} {n : Nat} {bs out : List UInt8} {e : Ending} (hx : Ext w w1) (h : LayN w1 n bs out e wr) : ∃ A N c, e = .returned (.slice A N c) ∧ LaidAt w wr n bs out A N c ∧ N = n + out.length ∧ Ext w1 wr := by
 obtain ⟨A, N, c, rfl, h1, h2, h3, h4, h5⟩ := h
 exact ⟨A, N, c, rfl, ⟨h1.out, h2.out, h3.out, own_base h4.out hx.size, hx.trans h5⟩, h1.out, h5⟩
theorem LaidAt.next {w wr w2 : World} {n N c : Nat} {bs out o2 : List UInt8} {A : Option Addr} {e : Ending} (h : LaidAt w wr n bs out A N c) (k : LayN wr N (bs ++ out) o2 e w2) :
  ∃ A' N' c', e = .returned (.slice A' N' c') ∧ LaidAt w w2 n bs (out ++ o2) A' N' c' ∧ N' = N + o2.length ∧ Ext wr w2 := by
 obtain ⟨A', N', c', rfl, h1, h2, h3, h4, h5⟩ := k
 refine ⟨A', N', c', rfl, ⟨by rw [h1.out, h.len, List.length_append]; omega, h2.out, by rw [← List.append_assoc]; exact h3.out, by rw [← List.append_assoc]; exact own_base h4.out h.ext.size, h.ext.trans h5⟩, h1.out, h5⟩
theorem LaidAt.post {w wr : World} {n N c : Nat} {bs out out' : List UInt8} {A : Option Addr} (h : LaidAt w wr n bs out A N c) (ho : out = out') : LayPost w n bs out' (.returned (.slice A N c)) wr := by
 subst ho; exact LayPost.mk h.len rfl h.own h.ext
theorem LaidAt.as {w wr : World} {n N c : Nat} {bs out out' : List UInt8} {A : Option Addr} (h : LaidAt w wr n bs out A N c) (ho : out = out') : LaidAt w wr n bs out' A N c := by subst ho; exact h
theorem encT_len_tx {s : ByteArray} {k : Nat} (h : (tx s).length ≤ k) : (encT (tx s)).length ≤ k + 5 := by have := encT_len (tx s); omega
theorem take_flat {α : Type} (f : α → List UInt8) {l : List α} {k : Nat} {x : α} (h : l[k]? = some x) : (l.take (k + 1)).flatMap f = (l.take k).flatMap f ++ f x := by
 rw [take_snoc_of h, List.flatMap_append]; simp
theorem take_all {α : Type} {l : List α} {k : Nat} (h : l.length ≤ k) : l.take k = l := List.take_of_length_le h
theorem refRules4_lay (S : Nat → Prop) (A : Option Addr) (n c : Nat) (bs : List UInt8) (B : Option Addr) (m d : Nat) (l : List Rl) (w : World) (hB : Byts w A n bs) (hc : A = none → c = 0) (hn : n ≤ 900000000) (hm : m ≤ 8) (hok : ∀ x ∈ l, rlSm x) (hv : ArrQ S w 3 (RlQ S w) B m l) :
  Calls Tryz.prog 100 #[.slice A n c, .slice B m d] w (LayPost w n bs (enc m ++ l.flatMap putRl)) := by
 have HB := hid hB
 have HC := hid hc
 have HV := hid hv
 have HOK := hid hok
 have HLB : Hid (∀ k, ((l.take k).flatMap putRl).length ≤ 1464) := hid fun k => by
  have h1 := flatMap_len putRl 183 (l.take k) (fun x hx => putRl_len (hok x (List.mem_of_mem_take hx)))
  have h2 : (l.take k).length ≤ 8 := by have := hv.len; rw [List.length_take]; omega
  omega
 clear hB hc hv hok
 go_enter Tryz.func100, Tryz.ntmps100
 go_wp2_with fail
 refine (((refNumber_lay A n c bs (m : Int) _ HB.out HC.out (by omega)).mono fun _ _ h => LaidAt.of h)).mono ?_
 rintro e w1 ⟨A1, N1, c1, rfl, hl, -, -⟩
 rw [bnd_of (show m ≤ 2147483647 by omega)] at hl
 have HL1 := hid hl
 clear hl
 go_wp2_with fail
 go_loopw [0, 5] (fun v i wr => ∃ (k : Nat) (A : Option Addr) (N c : Nat), k ≤ m ∧ i = .int .i64 k ∧ v = .slice A N c ∧ Hid (LaidAt w wr n bs (enc m ++ (l.take k).flatMap putRl) A N c)) (fun _ i _ => m - (intOf i).toNat)
 case atStart => exact ⟨0, A1, N1, c1, Nat.zero_le _, by go_num, rfl, hid (HL1.out.as (by simp))⟩
 case round =>
  clear HL1 HB HC
  obtain ⟨k, A2, N2, c2, hk, rfl, rfl, HL2⟩ := hrel
  have hN2 : N2 ≤ n + 1469 := by have h1 := HL2.out.len; have h2 := HLB.out k; have h3 := enc_len m; rw [List.length_append] at h1; omega
  by_cases hlt : k < m
  ·obtain ⟨b, ob, x, C, p, q, rfl, hbB, -, hlk, hv, hc0, hc1, hc2⟩ := RlL.at_ HV.out hlt
   obtain ⟨hs1, hs2, hs3, hs4⟩ := HOK.out x (List.mem_of_getElem? hlk)
   have i1 : (0 : Int) ≤ (k : Int) := by omega
   have i2 : (k : Int) < (m : Int) := by omega
   have HX := hid hlk
   have HVx := hid hv
   have HC0 := hid hc0
   have HC1 := hid hc1
   have HC2 := hid hc2
   have hlw : x.ws.length = p := hv.arr.len
   have HS4 := hid hs4
   have L1 := encT_len_tx hs1
   have L2 := encT_len_tx hs2
   rw [tx_len] at hs1 hs2
   clear hc0 hc1 hc2 hlk hv hs4
   have d0 : wr.cell? ⟨b, ob + k * 3, none⟩ = some (.string x.host) := (HL2.out.ext.cell hbB).trans HC0.out
   go_wp2_with fail
   refine (((refText_lay A2 N2 c2 _ x.host _ HL2.out.byts HL2.out.nil (by omega) (by omega)).mono fun _ _ h => HL2.out.next h)).mono ?_
   rintro e w3 ⟨A3, N3, c3, rfl, hl, hN, -⟩
   have HL3 := hid hl
   have hN3 : N3 ≤ N2 + 45 := by have hx := L1; omega
   clear hl hN
   clear d0
   have d1 : w3.cell? ⟨b, ob + k * 3 + 1, none⟩ = some (.string x.pre) := (HL3.out.ext.cell hbB).trans HC1.out
   go_wp2_with fail
   refine (((refText_lay A3 N3 c3 _ x.pre _ HL3.out.byts HL3.out.nil (by omega) (by omega)).mono fun _ _ h => HL3.out.next h)).mono ?_
   rintro e w4 ⟨A4, N4, c4, rfl, hl, hN, -⟩
   have HL4 := hid hl
   have hN4 : N4 ≤ N3 + 45 := by have hx := L2; omega
   clear hl hN
   clear d1
   have d2 : w4.cell? ⟨b, ob + k * 3 + 2, none⟩ = some (.slice C p q) := (HL4.out.ext.cell hbB).trans HC2.out
   go_wp2_with fail
   refine (((refNumber_lay A4 N4 c4 _ (p : Int) _ HL4.out.byts HL4.out.nil (by omega)).mono fun _ _ h => HL4.out.next h)).mono ?_
   rintro e w5 ⟨A5, N5, c5, rfl, hl, hN, -⟩
   have HL5 := hid hl
   have hN5 : N5 ≤ N4 + 5 := by have hx := enc_len (bnd (p : Int)); omega
   clear hl hN
   clear d2
   have hl5 := HL5.out
   rw [bnd_of (show p ≤ 2147483647 by omega)] at hl5
   have HL6 : Hid (LaidAt w w5 n bs ((enc m ++ (l.take k).flatMap putRl) ++ (encT (tx x.host) ++ (encT (tx x.pre) ++ (enc p ++ (x.ws.take 0).flatMap putW)))) A5 N5 c5) := hid (hl5.as (by simp))
   have HLW : Hid (∀ q, ((x.ws.take q).flatMap putW).length ≤ 88) := hid fun q => by
    have h1 := flatMap_len putW 22 (x.ws.take q) (fun y hy => putW_len (HS4.out y (List.mem_of_mem_take hy)))
    have h2 : (x.ws.take q).length ≤ 4 := by rw [List.length_take]; omega
    omega
   have hN0 : (enc m ++ (l.take k).flatMap putRl).length ≤ 1469 := by have h2 := HLB.out k; have h3 := enc_len m; rw [List.length_append]; omega
   clear hl5 HL5 HL4 HL3 HL2
   go_wp2_with fail
   go_loopw [0, 6] (fun v i wr => ∃ (q : Nat) (A : Option Addr) (N c : Nat), q ≤ p ∧ i = .int .i64 q ∧ v = .slice A N c ∧ Hid (LaidAt w wr n bs ((enc m ++ (l.take k).flatMap putRl) ++ (encT (tx x.host) ++ (encT (tx x.pre) ++ (enc p ++ (x.ws.take q).flatMap putW)))) A N c)) (fun _ i _ => p - (intOf i).toNat)
   case atStart => exact ⟨0, A5, N5, c5, Nat.zero_le _, by go_num, rfl, HL6⟩
   case round =>
    clear HL6
    obtain ⟨j, A7, N7, c7, hj, rfl, rfl, HL7⟩ := hrel
    have hN7 : N7 ≤ n + 2000 := by have h1 := HL7.out.len; have h2 := HLW.out j; have h3 := enc_len p; simp only [List.length_append] at h1 hN0; omega
    have d2 : wr.cell? ⟨b, ob + k * 3 + 2, none⟩ = some (.slice C p q) := (HL7.out.ext.cell hbB).trans HC2.out
    by_cases hlj : j < p
    ·obtain ⟨b1, o1, s, y, rfl, hbB1, -, hl1, -, hd0, hd1⟩ := WtL.at_ HVx.out.arr hlj
     have hsw := HS4.out (s, y) (List.mem_of_getElem? hl1)
     have L3 := encT_len_tx hsw.1
     have hsw1 := hsw.1
     simp only [] at hsw1 L3
     rw [tx_len] at hsw1
     have j1 : (0 : Int) ≤ (j : Int) := by omega
     have j2 : (j : Int) < (p : Int) := by omega
     have HL1 := hid hl1
     have HD1 := hid hd1
     have f0 : wr.cell? ⟨b1, o1 + j * 2, none⟩ = some (.string s) := (HL7.out.ext.cell hbB1).trans hd0
     clear hd0 hd1 hl1 hsw
     go_wp2_with fail
     refine (((refText_lay A7 N7 c7 _ s _ HL7.out.byts HL7.out.nil (by omega) (by omega)).mono fun _ _ h => HL7.out.next h)).mono ?_
     rintro e w8 ⟨A8, N8, c8, rfl, hl, hN, -⟩
     have HL8 := hid hl
     have hN8 : N8 ≤ N7 + 17 := by have hx := L3; omega
     clear hl hN
     clear d2 f0
     have d2 : w8.cell? ⟨b, ob + k * 3 + 2, none⟩ = some (.slice (some ⟨b1, o1, none⟩) p q) := (HL8.out.ext.cell hbB).trans HC2.out
     have f1 : w8.cell? ⟨b1, o1 + j * 2 + 1, none⟩ = some (.int .i64 y) := (HL8.out.ext.cell hbB1).trans HD1.out
     go_wp2_with fail
     refine (((refNumber_lay A8 N8 c8 _ y _ HL8.out.byts HL8.out.nil (by omega)).mono fun _ _ h => HL8.out.next h)).mono ?_
     rintro e w9 ⟨A9, N9, c9, rfl, hl, hN, -⟩
     have HL9 := hid hl
     have hN9 : N9 ≤ N8 + 5 := by have hx := enc_len (bnd y); omega
     clear hl hN
     have HL10 : Hid (LaidAt w w9 n bs ((enc m ++ (l.take k).flatMap putRl) ++ (encT (tx x.host) ++ (encT (tx x.pre) ++ (enc p ++ (x.ws.take (j + 1)).flatMap putW)))) A9 N9 c9) := hid (HL9.out.as (by rw [take_flat putW HL1.out]; unfold putW; simp))
     clear HL9 HL8 HL7 d2 f1
     go_wp2_with fail
     go_roundw
     case rel => exact ⟨j + 1, A9, N9, c9, by omega, by go_num, rfl, HL10⟩
     case measure => simp [intOf]; omega
    ·have HL10 : Hid (LaidAt w wr n bs (enc m ++ (l.take (k + 1)).flatMap putRl) A7 N7 c7) := hid (HL7.out.as (by rw [take_flat putRl HX.out, take_all (l := x.ws) (by omega)]; unfold putRl; rw [hlw]; simp))
     clear HL7
     go_wp2_with fail
     clear d2
     go_roundw
     case rel => exact ⟨k + 1, A7, N7, c7, by omega, by go_num, rfl, HL10⟩
     case measure => simp [intOf]; omega
  ·have HE : Hid (l.take k = l) := hid (take_all (by have := HV.out.len; omega))
   go_wp2_with fail
   go_ret
   exact HL2.out.post (by rw [HE.out])
theorem refGood_any (k : Ky) (w : World) (hs : k.name.size ≤ maxLen) :
  Calls Tryz.prog 88 #[.agg #[.int .i64 k.kind, .string k.name]] w fun e w' => e = .returned (.bool (goodK k)) ∧ Ext w w' := by
 have HS := hid hs
 by_cases g0 : 0 ≤ k.kind; rotate_left
 ·have H : Hid (goodK k = false) := hid (by unfold goodK inB; simp [g0])
  go_enter Tryz.func88, Tryz.ntmps88
  go_wp2_with fail
  go_ret
  exact ⟨ret_bool H.out.symm, Ext.new _ _⟩
 by_cases g1 : k.kind ≤ 3; rotate_left
 ·have H : Hid (goodK k = false) := hid (by unfold goodK inB; simp [g1])
  go_enter Tryz.func88, Tryz.ntmps88
  go_wp2_with fail
  go_ret
  exact ⟨ret_bool H.out.symm, Ext.new _ _⟩
 have H : Hid (goodK k = saneN (tx k.name)) := hid (by unfold goodK inB; simp [g0, g1])
 go_enter Tryz.func88, Tryz.ntmps88
 go_wp2_with fail
 refine (refSaneN_any k.name _ HS.out).mono ?_
 rintro e w1 ⟨rfl, rfl⟩
 go_wp2_with fail
 go_ret
 exact ⟨ret_bool H.out.symm, Ext.new _ _⟩
theorem refPutKey_lay (A : Option Addr) (n c : Nat) (bs : List UInt8) (k : Ky) (w : World) (hB : Byts w A n bs) (hc : A = none → c = 0) (hn : n ≤ 900000000) (hs : k.name.size ≤ maxLen) :
  Calls Tryz.prog 27 #[.slice A n c, .agg #[.int .i64 k.kind, .string k.name]] w (LayPost w n bs (putK k)) := by
 have HB := hid hB
 have HC := hid hc
 have HS := hid hs
 clear hB hc
 go_enter Tryz.func27, Tryz.ntmps27
 go_wp2_with fail
 refine (refGood_any k _ HS.out).mono ?_
 rintro e W ⟨rfl, hb⟩
 have HK := hid (box_at hb)
 have EX := hid ((Ext.new w _).trans hb)
 have hzW : w.heap.size < W.heap.size := (Array.getElem?_eq_some_iff.1 HK.out).1
 clear hb
 cases hok : goodK k with
 | false =>
  have HP := hid (putK_not hok)
  clear hok
  go_wp2_with (at_builtin
               obtain ⟨v1, w9, hrun, hown1, hg1, _⟩ := run_append_flat elem_byte 22 (own_empty_lit W w.heap.size 5 1 EX.out.size) c (HB.out.flat.up (EX.out.trans (Ext.new W (.cells #[] 5)))) (byteV_one bs) (by omega) (by omega) (by have := EX.out.size; simp; omega) HC.out
               refine Lib.wpList_append_run _ rfl _ _ _ _ rfl _ _ rfl rfl v1 w9 hrun ?_)
  have E9 := (EX.out.alloc (.cells #[] 5)).grown hg1 (own_empty_lit W w.heap.size 5 1 EX.out.size) (Nat.le_refl _)
  rw [Nat.zero_add, List.nil_append] at hown1
  go_ret
  exact ⟨_, rfl, by rw [HP.out]; simpa using hown1, E9⟩
 | true =>
 have HP := hid (putK_is hok)
 have hs1 : k.name.size ≤ 12 := by have := (sane_len ((good_iff k).1 hok).2).2; rwa [tx_len] at this
 have Q := hid (blk_rules HK.out).1
 have r0 : W.cell? ⟨w.heap.size, 0, none⟩ = some (.int .i64 k.kind) := Q.out 0
 clear hok
 go_wp2_with fail
 refine (((refNumber_lay A n c bs k.kind _ (ArrR.up HB.out EX.out) HC.out (by omega)).mono fun _ _ h => LaidAt.of' EX.out h)).mono ?_
 rintro e w2 ⟨A2, N2, c2, rfl, hl, hN, hx⟩
 have hN2 : N2 ≤ n + 5 := by have := enc_len (bnd k.kind); omega
 have HL2 := hid hl
 have r1 : w2.cell? ⟨w.heap.size, 1, none⟩ = some (.string k.name) := (hx.cell hzW).trans (Q.out 1)
 clear hl hN r0 hx
 go_wp2_with fail
 refine (((refText_lay A2 N2 c2 _ k.name _ HL2.out.byts HL2.out.nil (by omega) (by omega)).mono fun _ _ h => HL2.out.next h)).mono ?_
 rintro e w3 ⟨A3, N3, c3, rfl, hl, -, -⟩
 go_wp2_with fail
 go_ret
 exact hl.post (by rw [HP.out])
theorem refPut_lay (S : Nat → Prop) (A : Option Addr) (n c : Nat) (bs : List UInt8) (r : Rs) (B : Option Addr) (m d : Nat) (B' : Option Addr) (m' d' : Nat) (w : World) (hB : Byts w A n bs) (hc : A = none → c = 0) (hn : n ≤ 800000000) (hv : RsV S w r B m d B' m' d') :
  Calls Tryz.prog 25 #[.slice A n c, rsVal r B m d B' m' d'] w (LayPost w n bs (putR r)) := by
 have HB := hid hB
 have HC := hid hc
 have HV := hid hv
 have hv0 : m' ≤ 9223372036854775807 := by have h1 := hv.sl'.1; have h2 := hv.sl'.2.1; unfold maxLen at h2; omega
 clear hB hc hv
 unfold rsVal
 go_enter Tryz.func25, Tryz.ntmps25
 go_wp2_with fail
 refine (refSane_any S r B B' m d m' d' _ (HV.out.up (Ext.new _ _))).mono ?_
 rintro e W ⟨rfl, hb⟩
 have HK := hid (box_at hb)
 have EX := hid ((Ext.new w _).trans hb)
 have hzW : w.heap.size < W.heap.size := (Array.getElem?_eq_some_iff.1 HK.out).1
 clear hb
 by_cases hok : saneR r = 0; rotate_left
 ·have HP : Hid (putR r = []) := hid (by unfold putR; rw [if_neg hok])
  have hq : (saneR r != 0) = true := by rw [bne_iff_ne]; exact hok
  generalize saneR r = z at hq
  clear hok
  go_wp2_with (at_builtin
               obtain ⟨v1, w9, hrun, hown1, hg1, _⟩ := run_append_flat elem_byte 22 (own_empty_lit W w.heap.size 5 1 EX.out.size) c (HB.out.flat.up (EX.out.trans (Ext.new W (.cells #[] 5)))) (byteV_one bs) (by omega) (by omega) (by have := EX.out.size; simp; omega) HC.out
               refine Lib.wpList_append_run _ rfl _ _ _ _ rfl _ _ rfl rfl v1 w9 hrun ?_)
  have E9 := (EX.out.alloc (.cells #[] 5)).grown hg1 (own_empty_lit W w.heap.size 5 1 EX.out.size) (Nat.le_refl _)
  rw [Nat.zero_add, List.nil_append] at hown1
  go_ret
  exact ⟨_, rfl, by rw [HP.out]; simpa using hown1, E9⟩
 rw [hok]
 obtain ⟨-, hnm, hb⟩ := sane_rOk hok
 have hok := hid hok
 have Q := hid (blk_rules HK.out).1
 have HX0 : Hid (Ext w W) := EX
 have HX1 : Hid (Ext W W) := hid (Ext.refl _)
 rcases hb with hb | hb | hb | hb
 ·obtain ⟨hk, hp, ht, -, -⟩ := hb
  have HP : Hid (putR r = enc (bnd (0 : Int)) ++ (encT (tx r.name) ++ (enc (bnd r.ver) ++ (enc (bnd r.port) ++ encT (tx r.to))))) := hid (by
   have hb : putBody r = enc (bnd r.port) ++ encT (tx r.to) := by unfold putBody; rw [if_pos hk]
   unfold putR; rw [if_pos hok.out]; unfold putR0; rw [hb, hk])
  have hk := hid hk
  have L1 := encT_len_tx hnm
  have hnm' : r.name.size ≤ 12 := by rw [tx_len] at hnm; exact hnm
  have L2 := encT_len_tx ht
  have ht' : r.to.size ≤ 12 := by rw [tx_len] at ht; exact ht
  clear ht
  clear hp
  clear hnm hv0
  have r0 : W.cell? ⟨w.heap.size, 0, none⟩ = some (.int .i64 0) := (HX1.out.cell hzW).trans ((Q.out 0).trans (congrArg (fun z => some (Value.int .i64 z)) hk.out))
  go_wp2_with fail
  refine (((refNumber_lay A n c bs (0 : Int) _ (ArrR.up HB.out HX0.out) HC.out (by omega)).mono fun _ _ h => LaidAt.of' HX0.out h)).mono ?_
  rintro e w2 ⟨A2, N2, c2, rfl, hl, hN, hx⟩
  have HL2 := hid hl
  have HX2 := hid (HX1.out.trans hx)
  have hN2 : N2 ≤ n + 5 := by have hy := enc_len (bnd (0 : Int)); omega
  clear hl hN hx
  clear r0
  have r1 : w2.cell? ⟨w.heap.size, 1, none⟩ = some (.string r.name) := (HX2.out.cell hzW).trans (Q.out 1)
  go_wp2_with fail
  refine (((refText_lay A2 N2 c2 _ r.name _ HL2.out.byts HL2.out.nil (by omega) (by omega)).mono fun _ _ h => HL2.out.next h)).mono ?_
  rintro e w3 ⟨A3, N3, c3, rfl, hl, hN, hx⟩
  have HL3 := hid hl
  have HX3 := hid (HX2.out.trans hx)
  have hN3 : N3 ≤ N2 + 17 := by have hy := L1; omega
  clear hl hN hx
  clear r1
  have r2 : w3.cell? ⟨w.heap.size, 2, none⟩ = some (.int .i64 r.ver) := (HX3.out.cell hzW).trans (Q.out 2)
  go_wp2_with fail
  refine (((refNumber_lay A3 N3 c3 _ r.ver _ HL3.out.byts HL3.out.nil (by omega)).mono fun _ _ h => HL3.out.next h)).mono ?_
  rintro e w4 ⟨A4, N4, c4, rfl, hl, hN, hx⟩
  have HL4 := hid hl
  have HX4 := hid (HX3.out.trans hx)
  have hN4 : N4 ≤ N3 + 5 := by have hy := enc_len (bnd r.ver); omega
  clear hl hN hx
  clear r2
  have r0 : w4.cell? ⟨w.heap.size, 0, none⟩ = some (.int .i64 0) := (HX4.out.cell hzW).trans ((Q.out 0).trans (congrArg (fun z => some (Value.int .i64 z)) hk.out))
  have r3 : w4.cell? ⟨w.heap.size, 3, none⟩ = some (.int .i64 r.port) := (HX4.out.cell hzW).trans (Q.out 3)
  go_wp2_with fail
  refine (((refNumber_lay A4 N4 c4 _ r.port _ HL4.out.byts HL4.out.nil (by omega)).mono fun _ _ h => HL4.out.next h)).mono ?_
  rintro e w5 ⟨A5, N5, c5, rfl, hl, hN, hx⟩
  have HL5 := hid hl
  have HX5 := hid (HX4.out.trans hx)
  have hN5 : N5 ≤ N4 + 5 := by have hy := enc_len (bnd r.port); omega
  clear hl hN hx
  clear r0 r3
  have r4 : w5.cell? ⟨w.heap.size, 4, none⟩ = some (.string r.to) := (HX5.out.cell hzW).trans (Q.out 4)
  go_wp2_with fail
  refine (((refText_lay A5 N5 c5 _ r.to _ HL5.out.byts HL5.out.nil (by omega) (by omega)).mono fun _ _ h => HL5.out.next h)).mono ?_
  rintro e w6 ⟨A6, N6, c6, rfl, hl, hN, hx⟩
  have HL6 := hid hl
  have HX6 := hid (HX5.out.trans hx)
  have hN6 : N6 ≤ N5 + 17 := by have hy := L2; omega
  clear hl hN hx
  clear r4
  go_wp2_with fail
  go_ret
  exact HL6.out.post (by rw [HP.out]; simp)
 ·obtain ⟨hk, -, -, ⟨hr, hrl⟩, -⟩ := hb
  have HP : Hid (putR r = enc (bnd (1 : Int)) ++ (encT (tx r.name) ++ (enc (bnd r.ver) ++ (enc r.rules.length ++ r.rules.flatMap putRl)))) := hid (by
   have hb : putBody r = enc r.rules.length ++ r.rules.flatMap putRl := by unfold putBody; rw [if_neg (by omega), if_pos hk]
   unfold putR; rw [if_pos hok.out]; unfold putR0; rw [hb, hk])
  have hk := hid hk
  have L1 := encT_len_tx hnm
  have hnm' : r.name.size ≤ 12 := by rw [tx_len] at hnm; exact hnm
  have hm8 : m ≤ 8 := by rw [← HV.out.arr.len]; exact hr
  have HRL := hid hrl
  clear hrl hr
  clear hnm hv0
  have r0 : W.cell? ⟨w.heap.size, 0, none⟩ = some (.int .i64 1) := (HX1.out.cell hzW).trans ((Q.out 0).trans (congrArg (fun z => some (Value.int .i64 z)) hk.out))
  go_wp2_with fail
  refine (((refNumber_lay A n c bs (1 : Int) _ (ArrR.up HB.out HX0.out) HC.out (by omega)).mono fun _ _ h => LaidAt.of' HX0.out h)).mono ?_
  rintro e w2 ⟨A2, N2, c2, rfl, hl, hN, hx⟩
  have HL2 := hid hl
  have HX2 := hid (HX1.out.trans hx)
  have hN2 : N2 ≤ n + 5 := by have hy := enc_len (bnd (1 : Int)); omega
  clear hl hN hx
  clear r0
  have r1 : w2.cell? ⟨w.heap.size, 1, none⟩ = some (.string r.name) := (HX2.out.cell hzW).trans (Q.out 1)
  go_wp2_with fail
  refine (((refText_lay A2 N2 c2 _ r.name _ HL2.out.byts HL2.out.nil (by omega) (by omega)).mono fun _ _ h => HL2.out.next h)).mono ?_
  rintro e w3 ⟨A3, N3, c3, rfl, hl, hN, hx⟩
  have HL3 := hid hl
  have HX3 := hid (HX2.out.trans hx)
  have hN3 : N3 ≤ N2 + 17 := by have hy := L1; omega
  clear hl hN hx
  clear r1
  have r2 : w3.cell? ⟨w.heap.size, 2, none⟩ = some (.int .i64 r.ver) := (HX3.out.cell hzW).trans (Q.out 2)
  go_wp2_with fail
  refine (((refNumber_lay A3 N3 c3 _ r.ver _ HL3.out.byts HL3.out.nil (by omega)).mono fun _ _ h => HL3.out.next h)).mono ?_
  rintro e w4 ⟨A4, N4, c4, rfl, hl, hN, hx⟩
  have HL4 := hid hl
  have HX4 := hid (HX3.out.trans hx)
  have hN4 : N4 ≤ N3 + 5 := by have hy := enc_len (bnd r.ver); omega
  clear hl hN hx
  clear r2
  have r0 : w4.cell? ⟨w.heap.size, 0, none⟩ = some (.int .i64 1) := (HX4.out.cell hzW).trans ((Q.out 0).trans (congrArg (fun z => some (Value.int .i64 z)) hk.out))
  have r5 : w4.cell? ⟨w.heap.size, 5, none⟩ = some (.slice B m d) := (HX4.out.cell hzW).trans (Q.out 5)
  go_wp2_with fail
  refine (((((refRules4_lay S A4 N4 c4 _ B m d r.rules _ HL4.out.byts HL4.out.nil (by omega) hm8 HRL.out ((HV.out.up HL4.out.ext).arr)).mono fun _ _ h => LayN.of h)).mono fun _ _ h => HL4.out.next h)).mono ?_
  rintro e w5 ⟨A5, N5, c5, rfl, hl, hN, hx⟩
  have HL5 := hid hl
  have HX5 := hid (HX4.out.trans hx)
  have hN5 : N5 ≤ N4 + 2000 := by have hy := (show (enc m ++ r.rules.flatMap putRl).length ≤ 2000 from by have h1 := flatMap_len putRl 183 r.rules (fun x hx => putRl_len (HRL.out x hx)); have h2 := enc_len m; have h3 := HV.out.arr.len; rw [List.length_append]; omega); omega
  clear hl hN hx
  clear r0 r5
  go_wp2_with fail
  go_ret
  exact HL5.out.post (by rw [HP.out, HV.out.arr.len]; simp)
 ·obtain ⟨hk, -, ht, -, -⟩ := hb
  have HP : Hid (putR r = enc (bnd (2 : Int)) ++ (encT (tx r.name) ++ (enc (bnd r.ver) ++ (encT (tx r.to))))) := hid (by
   have hb : putBody r = encT (tx r.to) := by unfold putBody; rw [if_neg (by omega), if_neg (by omega), if_pos hk]
   unfold putR; rw [if_pos hok.out]; unfold putR0; rw [hb, hk])
  have hk := hid hk
  have L1 := encT_len_tx hnm
  have hnm' : r.name.size ≤ 12 := by rw [tx_len] at hnm; exact hnm
  have L2 := encT_len_tx ht
  have ht' : r.to.size ≤ 12 := by rw [tx_len] at ht; exact ht
  clear ht
  clear hnm hv0
  have r0 : W.cell? ⟨w.heap.size, 0, none⟩ = some (.int .i64 2) := (HX1.out.cell hzW).trans ((Q.out 0).trans (congrArg (fun z => some (Value.int .i64 z)) hk.out))
  go_wp2_with fail
  refine (((refNumber_lay A n c bs (2 : Int) _ (ArrR.up HB.out HX0.out) HC.out (by omega)).mono fun _ _ h => LaidAt.of' HX0.out h)).mono ?_
  rintro e w2 ⟨A2, N2, c2, rfl, hl, hN, hx⟩
  have HL2 := hid hl
  have HX2 := hid (HX1.out.trans hx)
  have hN2 : N2 ≤ n + 5 := by have hy := enc_len (bnd (2 : Int)); omega
  clear hl hN hx
  clear r0
  have r1 : w2.cell? ⟨w.heap.size, 1, none⟩ = some (.string r.name) := (HX2.out.cell hzW).trans (Q.out 1)
  go_wp2_with fail
  refine (((refText_lay A2 N2 c2 _ r.name _ HL2.out.byts HL2.out.nil (by omega) (by omega)).mono fun _ _ h => HL2.out.next h)).mono ?_
  rintro e w3 ⟨A3, N3, c3, rfl, hl, hN, hx⟩
  have HL3 := hid hl
  have HX3 := hid (HX2.out.trans hx)
  have hN3 : N3 ≤ N2 + 17 := by have hy := L1; omega
  clear hl hN hx
  clear r1
  have r2 : w3.cell? ⟨w.heap.size, 2, none⟩ = some (.int .i64 r.ver) := (HX3.out.cell hzW).trans (Q.out 2)
  go_wp2_with fail
  refine (((refNumber_lay A3 N3 c3 _ r.ver _ HL3.out.byts HL3.out.nil (by omega)).mono fun _ _ h => HL3.out.next h)).mono ?_
  rintro e w4 ⟨A4, N4, c4, rfl, hl, hN, hx⟩
  have HL4 := hid hl
  have HX4 := hid (HX3.out.trans hx)
  have hN4 : N4 ≤ N3 + 5 := by have hy := enc_len (bnd r.ver); omega
  clear hl hN hx
  clear r2
  have r0 : w4.cell? ⟨w.heap.size, 0, none⟩ = some (.int .i64 2) := (HX4.out.cell hzW).trans ((Q.out 0).trans (congrArg (fun z => some (Value.int .i64 z)) hk.out))
  have r4 : w4.cell? ⟨w.heap.size, 4, none⟩ = some (.string r.to) := (HX4.out.cell hzW).trans (Q.out 4)
  go_wp2_with fail
  refine (((refText_lay A4 N4 c4 _ r.to _ HL4.out.byts HL4.out.nil (by omega) (by omega)).mono fun _ _ h => HL4.out.next h)).mono ?_
  rintro e w5 ⟨A5, N5, c5, rfl, hl, hN, hx⟩
  have HL5 := hid hl
  have HX5 := hid (HX4.out.trans hx)
  have hN5 : N5 ≤ N4 + 17 := by have hy := L2; omega
  clear hl hN hx
  clear r0 r4
  go_wp2_with fail
  go_ret
  exact HL5.out.post (by rw [HP.out]; simp)
 ·obtain ⟨hk, -, -, -, ⟨hh, -⟩⟩ := hb
  have HP : Hid (putR r = enc (bnd (3 : Int)) ++ (encT (tx r.name) ++ (enc (bnd r.ver) ++ (enc r.hosts.length ++ r.hosts.flatMap putH)))) := hid (by
   have hb : putBody r = enc r.hosts.length ++ r.hosts.flatMap putH := by unfold putBody; rw [if_neg (by omega), if_neg (by omega), if_neg (by omega)]
   unfold putR; rw [if_pos hok.out]; unfold putR0; rw [hb, hk])
  have hk := hid hk
  have L1 := encT_len_tx hnm
  have hnm' : r.name.size ≤ 12 := by rw [tx_len] at hnm; exact hnm
  have hm8 : m' ≤ 8 := by rw [← HV.out.arr'.len]; exact hh
  clear hh
  clear hnm hv0
  have r0 : W.cell? ⟨w.heap.size, 0, none⟩ = some (.int .i64 3) := (HX1.out.cell hzW).trans ((Q.out 0).trans (congrArg (fun z => some (Value.int .i64 z)) hk.out))
  go_wp2_with fail
  refine (((refNumber_lay A n c bs (3 : Int) _ (ArrR.up HB.out HX0.out) HC.out (by omega)).mono fun _ _ h => LaidAt.of' HX0.out h)).mono ?_
  rintro e w2 ⟨A2, N2, c2, rfl, hl, hN, hx⟩
  have HL2 := hid hl
  have HX2 := hid (HX1.out.trans hx)
  have hN2 : N2 ≤ n + 5 := by have hy := enc_len (bnd (3 : Int)); omega
  clear hl hN hx
  clear r0
  have r1 : w2.cell? ⟨w.heap.size, 1, none⟩ = some (.string r.name) := (HX2.out.cell hzW).trans (Q.out 1)
  go_wp2_with fail
  refine (((refText_lay A2 N2 c2 _ r.name _ HL2.out.byts HL2.out.nil (by omega) (by omega)).mono fun _ _ h => HL2.out.next h)).mono ?_
  rintro e w3 ⟨A3, N3, c3, rfl, hl, hN, hx⟩
  have HL3 := hid hl
  have HX3 := hid (HX2.out.trans hx)
  have hN3 : N3 ≤ N2 + 17 := by have hy := L1; omega
  clear hl hN hx
  clear r1
  have r2 : w3.cell? ⟨w.heap.size, 2, none⟩ = some (.int .i64 r.ver) := (HX3.out.cell hzW).trans (Q.out 2)
  go_wp2_with fail
  refine (((refNumber_lay A3 N3 c3 _ r.ver _ HL3.out.byts HL3.out.nil (by omega)).mono fun _ _ h => HL3.out.next h)).mono ?_
  rintro e w4 ⟨A4, N4, c4, rfl, hl, hN, hx⟩
  have HL4 := hid hl
  have HX4 := hid (HX3.out.trans hx)
  have hN4 : N4 ≤ N3 + 5 := by have hy := enc_len (bnd r.ver); omega
  clear hl hN hx
  clear r2
  have r0 : w4.cell? ⟨w.heap.size, 0, none⟩ = some (.int .i64 3) := (HX4.out.cell hzW).trans ((Q.out 0).trans (congrArg (fun z => some (Value.int .i64 z)) hk.out))
  have r6 : w4.cell? ⟨w.heap.size, 6, none⟩ = some (.slice B' m' d') := (HX4.out.cell hzW).trans (Q.out 6)
  go_wp2_with fail
  refine (((refNumber_lay A4 N4 c4 _ (m' : Int) _ HL4.out.byts HL4.out.nil (by omega)).mono fun _ _ h => HL4.out.next h)).mono ?_
  rintro e w5 ⟨A5, N5, c5, rfl, hl, hN, hx⟩
  have HL5 := hid hl
  have HX5 := hid (HX4.out.trans hx)
  have hN5 : N5 ≤ N4 + 5 := by have hy := enc_len (bnd (m' : Int)); omega
  clear hl hN hx
  clear r0 r6
  have hl5 := HL5.out
  rw [bnd_of (show m' ≤ 2147483647 by omega)] at hl5
  have HL6 : Hid (LaidAt w w5 n bs (enc (bnd (3 : Int)) ++ (encT (tx r.name) ++ (enc (bnd r.ver) ++ (enc m' ++ (r.hosts.take 0).flatMap putH)))) A5 N5 c5) := hid (hl5.as (by simp))
  clear hl5 HL5 HL4 HL3 HL2
  go_wp2_with fail
  go_loopw [0, 5] (fun v i wr => ∃ (q : Nat) (A : Option Addr) (N c : Nat), q ≤ m' ∧ i = .int .i64 q ∧ v = .slice A N c ∧ Hid (LaidAt w wr n bs (enc (bnd (3 : Int)) ++ (encT (tx r.name) ++ (enc (bnd r.ver) ++ (enc m' ++ (r.hosts.take q).flatMap putH)))) A N c) ∧ Hid (Ext w5 wr)) (fun _ i _ => m' - (intOf i).toNat)
  case atStart => exact ⟨0, A5, N5, c5, Nat.zero_le _, by go_num, rfl, HL6, hid (Ext.refl _)⟩
  case round =>
   clear HL6
   obtain ⟨j, A7, N7, c7, hj, rfl, rfl, HL7, HXr⟩ := hrel
   have hN7 : N7 ≤ n + 2000 := by
    have h1 := HL7.out.len; have h2 := flatMap_len putH 5 (r.hosts.take j) (fun h _ => enc_len _); have h3 := enc_len m'; have h4 := enc_len (bnd (3 : Int)); have h5 := enc_len (bnd r.ver)
    have h6 : (r.hosts.take j).length ≤ 8 := by rw [List.length_take]; omega
    simp only [List.length_append] at h1; omega
   have r6 : wr.cell? ⟨w.heap.size, 6, none⟩ = some (.slice B' m' d') := ((HX5.out.trans HXr.out).cell hzW).trans (Q.out 6)
   by_cases hlj : j < m'
   ·obtain ⟨b1, o1, x, rfl, hbB1, -, hl1, hd0⟩ := HostL.at_ HV.out.arr' hlj
    have j1 : (0 : Int) ≤ (j : Int) := by omega
    have j2 : (j : Int) < (m' : Int) := by omega
    have HL1 := hid hl1
    have f0 : wr.cell? ⟨b1, o1 + j, none⟩ = some (.int .i64 x) := (HL7.out.ext.cell hbB1).trans hd0
    clear hd0 hl1
    go_wp2_with fail
    refine (((refNumber_lay A7 N7 c7 _ x _ HL7.out.byts HL7.out.nil (by omega)).mono fun _ _ h => HL7.out.next h)).mono ?_
    rintro e w8 ⟨A8, N8, c8, rfl, hl, -, hx⟩
    have HL8 : Hid (LaidAt w w8 n bs (enc (bnd (3 : Int)) ++ (encT (tx r.name) ++ (enc (bnd r.ver) ++ (enc m' ++ (r.hosts.take (j + 1)).flatMap putH)))) A8 N8 c8) := hid (hl.as (by rw [take_flat putH HL1.out]; unfold putH; simp))
    have HX8 := hid (HXr.out.trans hx)
    clear hl hx HL7 f0 r6
    go_wp2_with fail
    go_roundw
    case rel => exact ⟨j + 1, A8, N8, c8, by omega, by go_num, rfl, HL8, HX8⟩
    case measure => simp [intOf]; omega
   ·have HE : Hid (r.hosts.take j = r.hosts) := hid (take_all (by have := HV.out.arr'.len; omega))
    go_wp2_with fail
    clear r6
    go_ret
    exact HL7.out.post (by rw [HP.out, HE.out, HV.out.arr'.len])
theorem filter_stop {α : Type} (p : α → Bool) {l : List α} {k : Nat} (h64 : ((l.take k).filter p).length ≤ 64) (h : l.length ≤ k ∨ ((l.take k).filter p).length = 64) : (l.filter p).take 64 = (l.take k).filter p := by
 have e : l.filter p = (l.take k).filter p ++ (l.drop k).filter p := by rw [← List.filter_append, List.take_append_drop]
 rw [e, List.take_append, List.take_of_length_le h64]
 rcases h with h | h
 ·rw [List.drop_eq_nil_of_le h]; simp
 ·rw [h]; simp
theorem LaidAt.low {w wm wr : World} {n N c : Nat} {bs out : List UInt8} {A : Option Addr} (h : LaidAt wm wr n bs out A N c) (hx : Ext w wm) : LaidAt w wr n bs out A N c := ⟨h.len, h.nil, h.byts, own_base h.own hx.size, hx.trans h.ext⟩
theorem refPutAll_any (A : Option Addr) (n c : Nat) (bs : List UInt8) (B : Option Addr) (m d : Nat) (l : List Rs) (w : World) (hB : Byts w A n bs) (hc : A = none → c = 0) (hn : n ≤ 700000000) (hm : m ≤ 1000000) (hA : ResL All w B m l) :
  Calls Tryz.prog 29 #[.slice A n c, .slice B m d] w (LayPost w n bs (putAll l)) := by
 have HB := hid hB
 have HC := hid hc
 have HA := hid hA
 clear hB hc hA
 go_enter Tryz.func29, Tryz.ntmps29
 go_wp2_with fail
 go_loopw [5, 6] (fun v i wr => ∃ (k q : Nat) (Av : Option Addr) (cv : Nat) (us : List Value), k ≤ m ∧ i = .int .i64 k ∧ v = .slice Av q cv ∧ q ≤ 64 ∧ Hid (q = ((l.take k).filter okR).length) ∧ Hid (wr.ownsRow w.heap.size 34 7 (.slice Av q cv) q us) ∧ Hid (RowsOf (RsQ All w) 7 us ((l.take k).filter okR)) ∧ Hid (Ext w wr)) (fun _ i _ => m - (intOf i).toNat)
 case atStart => exact ⟨0, 0, none, 0, [], Nat.zero_le _, by go_num, rfl, Nat.zero_le _, hid rfl, hid own_nil, hid rfl, hid (Ext.refl _)⟩
 case round =>
  obtain ⟨k, q, Av, cv, us, hk, rfl, rfl, hq, HQ, HW, HU, HE⟩ := hrel
  by_cases hgo : k < m ∧ q < 64
  ·obtain ⟨hlt, hq64⟩ := hgo
   obtain ⟨b, off, r, B1, m1, q1, B', m', d', rfl, hbl0, -, hx, hv, hc0, hc1, hc2, hc3, hc4, hc5, hc6⟩ := ResL.at_ HA.out hlt
   have HX := hid hx
   have HV := hid hv
   have HC0 := hid hc0
   have HC1 := hid hc1
   have HC2 := hid hc2
   have HC3 := hid hc3
   have HC4 := hid hc4
   have HC5 := hid hc5
   have HC6 := hid hc6
   have i1 : (0 : Int) ≤ (k : Int) := by omega
   have i2 : (k : Int) < (m : Int) := by omega
   have d0 : wr.cell? ⟨b, off + k * 7, none⟩ = some (.int .i64 r.kind) := (HE.out.cell hbl0).trans HC0.out
   have d1 : wr.cell? ⟨b, off + k * 7 + 1, none⟩ = some (.string r.name) := (HE.out.cell hbl0).trans HC1.out
   have d2 : wr.cell? ⟨b, off + k * 7 + 2, none⟩ = some (.int .i64 r.ver) := (HE.out.cell hbl0).trans HC2.out
   have d3 : wr.cell? ⟨b, off + k * 7 + 3, none⟩ = some (.int .i64 r.port) := (HE.out.cell hbl0).trans HC3.out
   have d4 : wr.cell? ⟨b, off + k * 7 + 4, none⟩ = some (.string r.to) := (HE.out.cell hbl0).trans HC4.out
   have d5 : wr.cell? ⟨b, off + k * 7 + 5, none⟩ = some (.slice B1 m1 q1) := (HE.out.cell hbl0).trans HC5.out
   have d6 : wr.cell? ⟨b, off + k * 7 + 6, none⟩ = some (.slice B' m' d') := (HE.out.cell hbl0).trans HC6.out
   clear hx hv hc0 hc1 hc2 hc3 hc4 hc5 hc6
   go_wp2_with fail
   refine (refSane_any All r B1 B' m1 q1 m' d' _ (HV.out.up HE.out)).mono ?_
   rintro e w4 ⟨rfl, hb4⟩
   have E4 := hid (HE.out.trans hb4)
   have HW4 := hid (own_up HW.out hb4)
   clear hb4 d0 d1 d2 d3 d4 d5 d6
   cases hp : okR r with
   | true =>
    rw [show saneR r = 0 from (okR_iff r).1 hp]
    have HFS : Hid ((l.take (k + 1)).filter okR = (l.take k).filter okR ++ [r]) := hid (tab_snoc HX.out hp)
    have e0 : w4.cell? ⟨b, off + k * 7, none⟩ = some (.int .i64 r.kind) := (E4.out.cell hbl0).trans HC0.out
    have e1 : w4.cell? ⟨b, off + k * 7 + 1, none⟩ = some (.string r.name) := (E4.out.cell hbl0).trans HC1.out
    have e2 : w4.cell? ⟨b, off + k * 7 + 2, none⟩ = some (.int .i64 r.ver) := (E4.out.cell hbl0).trans HC2.out
    have e3 : w4.cell? ⟨b, off + k * 7 + 3, none⟩ = some (.int .i64 r.port) := (E4.out.cell hbl0).trans HC3.out
    have e4 : w4.cell? ⟨b, off + k * 7 + 4, none⟩ = some (.string r.to) := (E4.out.cell hbl0).trans HC4.out
    have e5 : w4.cell? ⟨b, off + k * 7 + 5, none⟩ = some (.slice B1 m1 q1) := (E4.out.cell hbl0).trans HC5.out
    have e6 : w4.cell? ⟨b, off + k * 7 + 6, none⟩ = some (.slice B' m' d') := (E4.out.cell hbl0).trans HC6.out
    have hFk := flat_k1 w4 [.int .i64 r.kind, .string r.name, .int .i64 r.ver, .int .i64 r.port, .string r.to, .slice B1 m1 q1, .slice B' m' d'] 34 rfl
    have hOW := own_up HW4.out (Ext.new w4 (.cells #[.int .i64 r.kind, .string r.name, .int .i64 r.ver, .int .i64 r.port, .string r.to, .slice B1 m1 q1, .slice B' m' d'] 34))
    obtain ⟨v', w5, hrun, hown5, hg5, _⟩ := run_append_flat elem_res 42 hOW 1 hFk (by simp [Value.oneCell']) (by omega) (by omega) (by have h9 := E4.out.size; rw [World.size_alloc]; omega) (fun h => by cases h)
    obtain ⟨A5, c5, rfl, -, -, -, -⟩ := own_flat hown5
    have HRUN := hid hrun
    have E5 : Hid (Ext w w5) := hid ((E4.out.alloc (.cells #[.int .i64 r.kind, .string r.name, .int .i64 r.ver, .int .i64 r.port, .string r.to, .slice B1 m1 q1, .slice B' m' d'] 34)).grown hg5 hOW (Nat.le_refl _))
    have HW5 := hid hown5
    have HQ5 : Hid (q + 1 = ((l.take (k + 1)).filter okR).length) := hid (by rw [HFS.out, List.length_append, ← HQ.out]; rfl)
    have HU5 : Hid (RowsOf (RsQ All w) 7 (us ++ [.int .i64 r.kind, .string r.name, .int .i64 r.ver, .int .i64 r.port, .string r.to, .slice B1 m1 q1, .slice B' m' d']) ((l.take (k + 1)).filter okR)) := hid (by rw [HFS.out]; exact RowsOf.snoc rfl (show RsQ All w [.int .i64 r.kind, .string r.name, .int .i64 r.ver, .int .i64 r.port, .string r.to, .slice B1 m1 q1, .slice B' m' d'] r from ⟨_, _, _, _, _, _, rfl, HV.out⟩) HU.out)
    clear hp hFk hOW hown5 hg5 hrun
    go_wp2_with (refine Lib.wpList_append_run _ rfl _ _ _ _ rfl _ _ rfl rfl _ w5 HRUN.out ?_)
    clear e0 e1 e2 e3 e4 e5 e6
    go_roundw
    case rel => exact ⟨k + 1, q + 1, A5, c5, _, by omega, by go_num, rfl, by omega, HQ5, HW5, HU5, E5⟩
    case measure => simp [intOf]; omega
   | false =>
    have hq0 : (saneR r == 0) = false := by rw [beq_eq_false_iff_ne]; intro h; rw [(okR_iff r).2 h] at hp; cases hp
    have HFS : Hid ((l.take (k + 1)).filter okR = (l.take k).filter okR) := hid (tab_skip HX.out hp)
    have HQ5 : Hid (q = ((l.take (k + 1)).filter okR).length) := hid (by rw [HFS.out]; exact HQ.out)
    have HU5 : Hid (RowsOf (RsQ All w) 7 us ((l.take (k + 1)).filter okR)) := hid (by rw [HFS.out]; exact HU.out)
    clear hp
    go_wp2_with fail
    go_roundw
    case rel => exact ⟨k + 1, q, Av, cv, us, by omega, by go_num, rfl, hq, HQ5, HW4, HU5, E4⟩
    case measure => simp [intOf]; omega
  ·obtain ⟨wm, rfl⟩ : ∃ x, x = wr := ⟨_, rfl⟩
   obtain ⟨L, hL⟩ : ∃ L, L = (l.take k).filter okR := ⟨_, rfl⟩
   have HPA : Hid (putAll l = enc q ++ L.flatMap putR) := hid (by
    have ht : (l.filter okR).take 64 = L := by
     rw [hL]; exact filter_stop _ (by have := HQ.out; omega) (by have h1 := HA.out.len; have h2 := HQ.out; omega)
    unfold putAll; rw [ht, hL, ← HQ.out])
   have hqL : L.length = q := by rw [hL, ← HQ.out]
   have hU := HU.out
   rw [← hL] at hU
   have HM : Hid (ResL All wm Av q L) := hid (by
    obtain ⟨A9, c9, e9, -, -, -, hwF⟩ := own_flat HW.out
    injection e9 with e1 e2 e3
    subst e1
    exact hwF.arrQ (S := All) (hU.mono (fun _ _ h => h.keep HE.out.keep)) (by omega) (fun _ _ _ _ => trivial))
   have HLB : Hid (∀ k, ((L.take k).flatMap putR).length ≤ 102400) := hid fun k => by
    have h1 := flatMap_len putR 1600 (L.take k) (fun x _ => putR_len x)
    have h2 : (L.take k).length ≤ 64 := by rw [List.length_take]; omega
    omega
   clear hL hU HU HQ
   have HGO := hid hgo
   clear hgo
   by_cases hkm : k < m
   ·have hq64 : ¬ q < 64 := fun h => HGO.out ⟨hkm, h⟩
    have hq64' : ¬ (q : Int) < 64 := by omega
    clear hq64
    go_wp2_with fail
    refine (((refNumber_lay A n c bs (q : Int) _ (ArrR.up HB.out HE.out) HC.out (by omega)).mono fun _ _ h => LaidAt.of h)).mono ?_
    rintro e w1 ⟨A1, N1, c1, rfl, hl, -, -⟩
    rw [bnd_of (show q ≤ 2147483647 by omega)] at hl
    have HL1 : Hid (LaidAt wm w1 n bs (enc q ++ (L.take 0).flatMap putR) A1 N1 c1) := hid (hl.as (by simp))
    clear hl
    go_wp2_with fail
    go_loopw [0, 7] (fun v i wr => ∃ (j : Nat) (A : Option Addr) (N c : Nat), j ≤ q ∧ i = .int .i64 j ∧ v = .slice A N c ∧ Hid (LaidAt wm wr n bs (enc q ++ (L.take j).flatMap putR) A N c)) (fun _ i _ => q - (intOf i).toNat)
    case atStart => exact ⟨0, A1, N1, c1, Nat.zero_le _, by go_num, rfl, HL1⟩
    case round =>
     clear HL1
     obtain ⟨j, A2, N2, c2, hj, rfl, rfl, HL2⟩ := hrel
     have hN2 : N2 ≤ n + 102405 := by have h1 := HL2.out.len; have h2 := HLB.out j; have h3 := enc_len q; rw [List.length_append] at h1; omega
     by_cases hlj : j < q
     ·obtain ⟨b, off, r, B1, m1, q1, B', m', d', rfl, hbl0, -, hx, hv, hc0, hc1, hc2, hc3, hc4, hc5, hc6⟩ := ResL.at_ HM.out hlj
      have HX := hid hx
      have HVj := hid hv
      have i1 : (0 : Int) ≤ (j : Int) := by omega
      have i2 : (j : Int) < (q : Int) := by omega
      obtain ⟨d0, d1, d2, d3, d4, d5, d6⟩ := up7 (HL2.out.ext) hbl0 hc0 hc1 hc2 hc3 hc4 hc5 hc6
      clear hx hv hc0 hc1 hc2 hc3 hc4 hc5 hc6
      go_wp2_with fail
      refine ((((refPut_lay All A2 N2 c2 _ r B1 m1 q1 B' m' d' _ HL2.out.byts HL2.out.nil (by omega) (HVj.out.up HL2.out.ext)).mono fun _ _ h => LayN.of h).mono fun _ _ h => HL2.out.next h)).mono ?_
      rintro e w3 ⟨A3, N3, c3, rfl, hl, -, -⟩
      have HL3 : Hid (LaidAt wm w3 n bs (enc q ++ (L.take (j + 1)).flatMap putR) A3 N3 c3) := hid (hl.as (by rw [take_flat putR HX.out]; simp))
      clear hl HL2 d0 d1 d2 d3 d4 d5 d6
      go_wp2_with fail
      go_roundw
      case rel => exact ⟨j + 1, A3, N3, c3, by omega, by go_num, rfl, HL3⟩
      case measure => simp [intOf]; omega
     ·have HT : Hid (L.take j = L) := hid (take_all (by omega))
      go_wp2_with fail
      go_ret
      exact (HL2.out.low HE.out).post (by rw [HPA.out, HT.out])
   ·go_wp2_with fail
    refine (((refNumber_lay A n c bs (q : Int) _ (ArrR.up HB.out HE.out) HC.out (by omega)).mono fun _ _ h => LaidAt.of h)).mono ?_
    rintro e w1 ⟨A1, N1, c1, rfl, hl, -, -⟩
    rw [bnd_of (show q ≤ 2147483647 by omega)] at hl
    have HL1 : Hid (LaidAt wm w1 n bs (enc q ++ (L.take 0).flatMap putR) A1 N1 c1) := hid (hl.as (by simp))
    clear hl
    go_wp2_with fail
    go_loopw [0, 7] (fun v i wr => ∃ (j : Nat) (A : Option Addr) (N c : Nat), j ≤ q ∧ i = .int .i64 j ∧ v = .slice A N c ∧ Hid (LaidAt wm wr n bs (enc q ++ (L.take j).flatMap putR) A N c)) (fun _ i _ => q - (intOf i).toNat)
    case atStart => exact ⟨0, A1, N1, c1, Nat.zero_le _, by go_num, rfl, HL1⟩
    case round =>
     clear HL1
     obtain ⟨j, A2, N2, c2, hj, rfl, rfl, HL2⟩ := hrel
     have hN2 : N2 ≤ n + 102405 := by have h1 := HL2.out.len; have h2 := HLB.out j; have h3 := enc_len q; rw [List.length_append] at h1; omega
     by_cases hlj : j < q
     ·obtain ⟨b, off, r, B1, m1, q1, B', m', d', rfl, hbl0, -, hx, hv, hc0, hc1, hc2, hc3, hc4, hc5, hc6⟩ := ResL.at_ HM.out hlj
      have HX := hid hx
      have HVj := hid hv
      have i1 : (0 : Int) ≤ (j : Int) := by omega
      have i2 : (j : Int) < (q : Int) := by omega
      obtain ⟨d0, d1, d2, d3, d4, d5, d6⟩ := up7 (HL2.out.ext) hbl0 hc0 hc1 hc2 hc3 hc4 hc5 hc6
      clear hx hv hc0 hc1 hc2 hc3 hc4 hc5 hc6
      go_wp2_with fail
      refine ((((refPut_lay All A2 N2 c2 _ r B1 m1 q1 B' m' d' _ HL2.out.byts HL2.out.nil (by omega) (HVj.out.up HL2.out.ext)).mono fun _ _ h => LayN.of h).mono fun _ _ h => HL2.out.next h)).mono ?_
      rintro e w3 ⟨A3, N3, c3, rfl, hl, -, -⟩
      have HL3 : Hid (LaidAt wm w3 n bs (enc q ++ (L.take (j + 1)).flatMap putR) A3 N3 c3) := hid (hl.as (by rw [take_flat putR HX.out]; simp))
      clear hl HL2 d0 d1 d2 d3 d4 d5 d6
      go_wp2_with fail
      go_roundw
      case rel => exact ⟨j + 1, A3, N3, c3, by omega, by go_num, rfl, HL3⟩
      case measure => simp [intOf]; omega
     ·have HT : Hid (L.take j = L) := hid (take_all (by omega))
      go_wp2_with fail
      go_ret
      exact (HL2.out.low HE.out).post (by rw [HPA.out, HT.out])
theorem refPutKeys_any (A : Option Addr) (n c : Nat) (bs : List UInt8) (B : Option Addr) (m d : Nat) (l : List Ky) (w : World) (hB : Byts w A n bs) (hc : A = none → c = 0) (hn : n ≤ 700000000) (hm : m ≤ 1000000) (hA : KeyL All w B m l) :
  Calls Tryz.prog 31 #[.slice A n c, .slice B m d] w (LayPost w n bs (putKeys l)) := by
 have HB := hid hB
 have HC := hid hc
 have HA := hid hA
 clear hB hc hA
 go_enter Tryz.func31, Tryz.ntmps31
 go_wp2_with fail
 go_loopw [5, 6] (fun v i wr => ∃ (k q : Nat) (Av : Option Addr) (cv : Nat) (us : List Value), k ≤ m ∧ i = .int .i64 k ∧ v = .slice Av q cv ∧ q ≤ 64 ∧ Hid (q = ((l.take k).filter goodK).length) ∧ Hid (wr.ownsRow w.heap.size 38 2 (.slice Av q cv) q us) ∧ Hid (RowsOf KyQ 2 us ((l.take k).filter goodK)) ∧ Hid (Ext w wr)) (fun _ i _ => m - (intOf i).toNat)
 case atStart => exact ⟨0, 0, none, 0, [], Nat.zero_le _, by go_num, rfl, Nat.zero_le _, hid rfl, hid own_nil, hid rfl, hid (Ext.refl _)⟩
 case round =>
  obtain ⟨k, q, Av, cv, us, hk, rfl, rfl, hq, HQ, HW, HU, HE⟩ := hrel
  by_cases hgo : k < m ∧ q < 64
  ·obtain ⟨hlt, hq64⟩ := hgo
   obtain ⟨b, off, y, rfl, hbl0, -, hx, hv, hc0, hc1⟩ := KeyL.at_ HA.out hlt
   have HX := hid hx
   have HV := hid hv
   have HC0 := hid hc0
   have HC1 := hid hc1
   have i1 : (0 : Int) ≤ (k : Int) := by omega
   have i2 : (k : Int) < (m : Int) := by omega
   have d0 : wr.cell? ⟨b, off + k * 2, none⟩ = some (.int .i64 y.kind) := (HE.out.cell hbl0).trans HC0.out
   have d1 : wr.cell? ⟨b, off + k * 2 + 1, none⟩ = some (.string y.name) := (HE.out.cell hbl0).trans HC1.out
   clear hx hv hc0 hc1
   go_wp2_with fail
   refine (refGood_any y _ HV.out).mono ?_
   rintro e w4 ⟨rfl, hb4⟩
   have E4 := hid (HE.out.trans hb4)
   have HW4 := hid (own_up HW.out hb4)
   clear hb4 d0 d1
   cases hp : goodK y with
   | true =>
    have HFS : Hid ((l.take (k + 1)).filter goodK = (l.take k).filter goodK ++ [y]) := hid (tab_snoc HX.out hp)
    have e0 : w4.cell? ⟨b, off + k * 2, none⟩ = some (.int .i64 y.kind) := (E4.out.cell hbl0).trans HC0.out
    have e1 : w4.cell? ⟨b, off + k * 2 + 1, none⟩ = some (.string y.name) := (E4.out.cell hbl0).trans HC1.out
    have hFk := flat_k1 w4 [.int .i64 y.kind, .string y.name] 38 rfl
    have hOW := own_up HW4.out (Ext.new w4 (.cells #[.int .i64 y.kind, .string y.name] 38))
    obtain ⟨v', w5, hrun, hown5, hg5, _⟩ := run_append_flat elem_key 46 hOW 1 hFk (by simp [Value.oneCell']) (by omega) (by omega) (by have h9 := E4.out.size; rw [World.size_alloc]; omega) (fun h => by cases h)
    obtain ⟨A5, c5, rfl, -, -, -, -⟩ := own_flat hown5
    have HRUN := hid hrun
    have E5 : Hid (Ext w w5) := hid ((E4.out.alloc (.cells #[.int .i64 y.kind, .string y.name] 38)).grown hg5 hOW (Nat.le_refl _))
    have HW5 := hid hown5
    have HQ5 : Hid (q + 1 = ((l.take (k + 1)).filter goodK).length) := hid (by rw [HFS.out, List.length_append, ← HQ.out]; rfl)
    have HU5 : Hid (RowsOf KyQ 2 (us ++ [.int .i64 y.kind, .string y.name]) ((l.take (k + 1)).filter goodK)) := hid (by rw [HFS.out]; exact RowsOf.snoc rfl (show KyQ [.int .i64 y.kind, .string y.name] y from ⟨rfl, HV.out⟩) HU.out)
    clear hp hFk hOW hown5 hg5 hrun
    go_wp2_with (refine Lib.wpList_append_run _ rfl _ _ _ _ rfl _ _ rfl rfl _ w5 HRUN.out ?_)
    clear e0 e1
    go_roundw
    case rel => exact ⟨k + 1, q + 1, A5, c5, _, by omega, by go_num, rfl, by omega, HQ5, HW5, HU5, E5⟩
    case measure => simp [intOf]; omega
   | false =>
    have HFS : Hid ((l.take (k + 1)).filter goodK = (l.take k).filter goodK) := hid (tab_skip HX.out hp)
    have HQ5 : Hid (q = ((l.take (k + 1)).filter goodK).length) := hid (by rw [HFS.out]; exact HQ.out)
    have HU5 : Hid (RowsOf KyQ 2 us ((l.take (k + 1)).filter goodK)) := hid (by rw [HFS.out]; exact HU.out)
    clear hp
    go_wp2_with fail
    go_roundw
    case rel => exact ⟨k + 1, q, Av, cv, us, by omega, by go_num, rfl, hq, HQ5, HW4, HU5, E4⟩
    case measure => simp [intOf]; omega
  ·obtain ⟨wm, rfl⟩ : ∃ x, x = wr := ⟨_, rfl⟩
   obtain ⟨L, hL⟩ : ∃ L, L = (l.take k).filter goodK := ⟨_, rfl⟩
   have HPA : Hid (putKeys l = enc q ++ L.flatMap putK) := hid (by
    have ht : (l.filter goodK).take 64 = L := by
     rw [hL]; exact filter_stop _ (by have := HQ.out; omega) (by have h1 := HA.out.len; have h2 := HQ.out; omega)
    unfold putKeys; rw [ht, hL, ← HQ.out])
   have hqL : L.length = q := by rw [hL, ← HQ.out]
   have hU := HU.out
   rw [← hL] at hU
   have HM : Hid (KeyL All wm Av q L) := hid (by
    obtain ⟨A9, c9, e9, -, -, -, hwF⟩ := own_flat HW.out
    injection e9 with e1 e2 e3
    subst e1
    exact hwF.arrQ (S := All) (hU) (by omega) (fun _ _ _ _ => trivial))
   have HLB : Hid (∀ k, ((L.take k).flatMap putK).length ≤ 1408) := hid fun k => by
    have h1 := flatMap_len putK 22 (L.take k) (fun x _ => putK_len x)
    have h2 : (L.take k).length ≤ 64 := by rw [List.length_take]; omega
    omega
   clear hL hU HU HQ
   have HGO := hid hgo
   clear hgo
   by_cases hkm : k < m
   ·have hq64 : ¬ q < 64 := fun h => HGO.out ⟨hkm, h⟩
    have hq64' : ¬ (q : Int) < 64 := by omega
    clear hq64
    go_wp2_with fail
    refine (((refNumber_lay A n c bs (q : Int) _ (ArrR.up HB.out HE.out) HC.out (by omega)).mono fun _ _ h => LaidAt.of h)).mono ?_
    rintro e w1 ⟨A1, N1, c1, rfl, hl, -, -⟩
    rw [bnd_of (show q ≤ 2147483647 by omega)] at hl
    have HL1 : Hid (LaidAt wm w1 n bs (enc q ++ (L.take 0).flatMap putK) A1 N1 c1) := hid (hl.as (by simp))
    clear hl
    go_wp2_with fail
    go_loopw [0, 7] (fun v i wr => ∃ (j : Nat) (A : Option Addr) (N c : Nat), j ≤ q ∧ i = .int .i64 j ∧ v = .slice A N c ∧ Hid (LaidAt wm wr n bs (enc q ++ (L.take j).flatMap putK) A N c)) (fun _ i _ => q - (intOf i).toNat)
    case atStart => exact ⟨0, A1, N1, c1, Nat.zero_le _, by go_num, rfl, HL1⟩
    case round =>
     clear HL1
     obtain ⟨j, A2, N2, c2, hj, rfl, rfl, HL2⟩ := hrel
     have hN2 : N2 ≤ n + 1413 := by have h1 := HL2.out.len; have h2 := HLB.out j; have h3 := enc_len q; rw [List.length_append] at h1; omega
     by_cases hlj : j < q
     ·obtain ⟨b, off, y, rfl, hbl0, -, hx, hv, hc0, hc1⟩ := KeyL.at_ HM.out hlj
      have HX := hid hx
      have HVj := hid hv
      have i1 : (0 : Int) ≤ (j : Int) := by omega
      have i2 : (j : Int) < (q : Int) := by omega
      obtain ⟨d0, d1⟩ := up2 (HL2.out.ext) hbl0 hc0 hc1
      clear hx hv hc0 hc1
      go_wp2_with fail
      refine ((((refPutKey_lay A2 N2 c2 _ y _ HL2.out.byts HL2.out.nil (by omega) HVj.out).mono fun _ _ h => LayN.of h).mono fun _ _ h => HL2.out.next h)).mono ?_
      rintro e w3 ⟨A3, N3, c3, rfl, hl, -, -⟩
      have HL3 : Hid (LaidAt wm w3 n bs (enc q ++ (L.take (j + 1)).flatMap putK) A3 N3 c3) := hid (hl.as (by rw [take_flat putK HX.out]; simp))
      clear hl HL2 d0 d1
      go_wp2_with fail
      go_roundw
      case rel => exact ⟨j + 1, A3, N3, c3, by omega, by go_num, rfl, HL3⟩
      case measure => simp [intOf]; omega
     ·have HT : Hid (L.take j = L) := hid (take_all (by omega))
      go_wp2_with fail
      go_ret
      exact (HL2.out.low HE.out).post (by rw [HPA.out, HT.out])
   ·go_wp2_with fail
    refine (((refNumber_lay A n c bs (q : Int) _ (ArrR.up HB.out HE.out) HC.out (by omega)).mono fun _ _ h => LaidAt.of h)).mono ?_
    rintro e w1 ⟨A1, N1, c1, rfl, hl, -, -⟩
    rw [bnd_of (show q ≤ 2147483647 by omega)] at hl
    have HL1 : Hid (LaidAt wm w1 n bs (enc q ++ (L.take 0).flatMap putK) A1 N1 c1) := hid (hl.as (by simp))
    clear hl
    go_wp2_with fail
    go_loopw [0, 7] (fun v i wr => ∃ (j : Nat) (A : Option Addr) (N c : Nat), j ≤ q ∧ i = .int .i64 j ∧ v = .slice A N c ∧ Hid (LaidAt wm wr n bs (enc q ++ (L.take j).flatMap putK) A N c)) (fun _ i _ => q - (intOf i).toNat)
    case atStart => exact ⟨0, A1, N1, c1, Nat.zero_le _, by go_num, rfl, HL1⟩
    case round =>
     clear HL1
     obtain ⟨j, A2, N2, c2, hj, rfl, rfl, HL2⟩ := hrel
     have hN2 : N2 ≤ n + 1413 := by have h1 := HL2.out.len; have h2 := HLB.out j; have h3 := enc_len q; rw [List.length_append] at h1; omega
     by_cases hlj : j < q
     ·obtain ⟨b, off, y, rfl, hbl0, -, hx, hv, hc0, hc1⟩ := KeyL.at_ HM.out hlj
      have HX := hid hx
      have HVj := hid hv
      have i1 : (0 : Int) ≤ (j : Int) := by omega
      have i2 : (j : Int) < (q : Int) := by omega
      obtain ⟨d0, d1⟩ := up2 (HL2.out.ext) hbl0 hc0 hc1
      clear hx hv hc0 hc1
      go_wp2_with fail
      refine ((((refPutKey_lay A2 N2 c2 _ y _ HL2.out.byts HL2.out.nil (by omega) HVj.out).mono fun _ _ h => LayN.of h).mono fun _ _ h => HL2.out.next h)).mono ?_
      rintro e w3 ⟨A3, N3, c3, rfl, hl, -, -⟩
      have HL3 : Hid (LaidAt wm w3 n bs (enc q ++ (L.take (j + 1)).flatMap putK) A3 N3 c3) := hid (hl.as (by rw [take_flat putK HX.out]; simp))
      clear hl HL2 d0 d1
      go_wp2_with fail
      go_roundw
      case rel => exact ⟨j + 1, A3, N3, c3, by omega, by go_num, rfl, HL3⟩
      case measure => simp [intOf]; omega
     ·have HT : Hid (L.take j = L) := hid (take_all (by omega))
      go_wp2_with fail
      go_ret
      exact (HL2.out.low HE.out).post (by rw [HPA.out, HT.out])
end Go.Proofs.YtfdjbnofcniodaaGreatDoor
