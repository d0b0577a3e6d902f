/- What frame.Sane computes. -/
import Derived.Test.YtfdjbnofcniodaaGreatDoorQFrB
import Derived.Test.YtfdjbnofcniodaaGreatDoorQFrC
import Derived.Test.YtfdjbnofcniodaaGreatDoorQGround
import Derived.Test.YtfdjbnofcniodaaGreatDoorQFrA
namespace Go.Proofs.YtfdjbnofcniodaaGreatDoor
open Lib (hid)
set_option maxHeartbeats 4000000
set_option maxRecDepth 100000
set_option linter.unusedVariables false
open Go.RowKit
def nilS : FrS := ⟨⟨none, 0, 0⟩, ⟨none, 0, 0⟩, ⟨none, 0, 0⟩, ⟨none, 0, 0⟩⟩
theorem FrV.nil_ (S : Nat → Prop) (w : World) (a b c d e g : Int) : FrV S w ⟨a, b, c, d, e, [], [], g, [], []⟩ nilS :=
 ⟨SlW.nil_, SlW.nil_, SlW.nil_, SlW.nil_, ArrQ.nil_, ArrQ.nil_, ArrQ.nil_, ArrQ.nil_⟩
theorem FrV.bare {S : Nat → Prop} {w : World} {f : Fr} {s : FrS} (h : FrV S w f s) : FrV S w (bareF f) (bareS f.typ s) := by
 obtain ⟨a1, a2, a3, a4, b1, b2, b3, b4⟩ := h
 unfold bareF bareS
 by_cases h0 : f.typ = 0
 ·rw [if_pos h0, if_pos h0]; exact ⟨a1, a2, SlW.nil_, a4, b1, b2, ArrQ.nil_, b4⟩
 rw [if_neg h0, if_neg h0]
 by_cases h1 : f.typ = 1
 ·rw [if_pos h1, if_pos h1]; exact ⟨SlW.nil_, SlW.nil_, a3, a4, ArrQ.nil_, ArrQ.nil_, b3, b4⟩
 rw [if_neg h1, if_neg h1]
 by_cases h2 : f.typ = 2
 ·rw [if_pos h2, if_pos h2]; exact ⟨a1, a2, a3, SlW.nil_, b1, b2, b3, ArrQ.nil_⟩
 rw [if_neg h2, if_neg h2]
 by_cases h3 : f.typ = 3
 ·rw [if_pos h3, if_pos h3]; exact ⟨a1, a2, a3, SlW.nil_, b1, b2, b3, ArrQ.nil_⟩
 rw [if_neg h3, if_neg h3]
 exact ⟨a1, a2, a3, a4, b1, b2, b3, b4⟩
theorem frShaped_any (S : Nat → Prop) (f : Fr) (s : FrS) (w : World) (hV : FrV S w f s) :
  Calls Tryz.prog 142 #[frVal f s] w fun e w' => e = .returned (.bool (shapedF f)) ∧ Ext w w' := by
 have HV := hid hV
 have HVB := hid hV.bare
 obtain ⟨⟨A1, n1, c1⟩, ⟨A2, n2, c2⟩, ⟨A3, n3, c3⟩, ⟨A4, n4, c4⟩⟩ := s
 clear hV
 rw [show frVal f ⟨⟨A1, n1, c1⟩, ⟨A2, n2, c2⟩, ⟨A3, n3, c3⟩, ⟨A4, n4, c4⟩⟩ = .agg #[.int .i64 f.typ, .int .i64 f.epoch, .int .i64 f.kind, .int .i64 f.nonce, .int .i64 f.turn, .slice A1 n1 c1, .slice A2 n2 c2, .int .i64 f.err, .slice A3 n3 c3, .slice A4 n4 c4] from rfl]
 go_enter Tryz.func142, Tryz.ntmps142
 go_wp2_with fail
 have KX := hid (heap_alloc_new w (.cells #[.int .i64 f.typ, .int .i64 f.epoch, .int .i64 f.kind, .int .i64 f.nonce, .int .i64 f.turn, .slice A1 n1 c1, .slice A2 n2 c2, .int .i64 f.err, .slice A3 n3 c3, .slice A4 n4 c4] 93))
 have hsW : w.heap.size < (w.alloc (.cells #[.int .i64 f.typ, .int .i64 f.epoch, .int .i64 f.kind, .int .i64 f.nonce, .int .i64 f.turn, .slice A1 n1 c1, .slice A2 n2 c2, .int .i64 f.err, .slice A3 n3 c3, .slice A4 n4 c4] 93)).heap.size := by simp
 have EW := hid (Ext.new w (.cells #[.int .i64 f.typ, .int .i64 f.epoch, .int .i64 f.kind, .int .i64 f.nonce, .int .i64 f.turn, .slice A1 n1 c1, .slice A2 n2 c2, .int .i64 f.err, .slice A3 n3 c3, .slice A4 n4 c4] 93))
 generalize w.alloc (.cells #[.int .i64 f.typ, .int .i64 f.epoch, .int .i64 f.kind, .int .i64 f.nonce, .int .i64 f.turn, .slice A1 n1 c1, .slice A2 n2 c2, .int .i64 f.err, .slice A3 n3 c3, .slice A4 n4 c4] 93) = W at KX hsW EW ⊢
 obtain ⟨t0, t1, t2, t3, t4, t5, t6, t7, t8, t9⟩ := bx10 (S := Ext W.drew) (fun w' hx => (blk_rules ((((Ext.refl W).drew.trans hx).block hsW).trans KX.out)).1)
 have hSw : Ext W.drew W.drew := Ext.refl _
 refine wpS_begin (Ext W.drew) (by kernel_rfl) ?_
 refine wpS_tk 0 ?_ hSw rfl (fun w' hin => ?_) ?_; rotate_left
 ·go_simp <;> with_reducible rfl
 try simp only [lyr]
 refine wpS_tk 2 ?_ hSw rfl (fun w' hin => ?_) ?_; rotate_left
 ·go_simp <;> with_reducible rfl
 try simp only [lyr]
 refine wpS_tk 3 ?_ hSw rfl (fun w' hin => ?_) ?_; rotate_left
 ·go_simp <;> with_reducible rfl
 try simp only [lyr]
 refine wpS_tk 4 ?_ hSw rfl (fun w' hin => ?_) ?_; rotate_left
 ·go_simp <;> with_reducible rfl
 try simp only [lyr]
 refine wpS_on 1 rfl (fun K hK => ?_)
 go_simp
 refine (frBare_any f ⟨⟨A1, n1, c1⟩, ⟨A2, n2, c2⟩, ⟨A3, n3, c3⟩, ⟨A4, n4, c4⟩⟩ _).mono ?_
 rintro e w1 ⟨rfl, hb1⟩
 simp only []
 refine hK.out _ _ (Ext W.drew) (fun _ h => h) (hb1) (fun hSw => ?_)
 clear hK K
 try simp only [lyr]
 refine wpS_on 5 rfl (fun K hK => ?_)
 go_simp
 refine (frSame_any S S (bareF f) ⟨f.typ, 0, 0, 0, 0, [], [], 0, [], []⟩ (bareS f.typ ⟨⟨A1, n1, c1⟩, ⟨A2, n2, c2⟩, ⟨A3, n3, c3⟩, ⟨A4, n4, c4⟩⟩) nilS _ (HVB.out.up (EW.out.trans ((Ext.refl W).drew.trans hSw))) (FrV.nil_ _ _ _ _ _ _ _ _)).mono ?_
 rintro e w2 ⟨rfl, hb2⟩
 simp only []
 refine hK.out _ _ (Ext W.drew) (fun _ h => h) (hb1.trans hb2) (fun hSw => ?_)
 clear hK K
 try simp only [lyr]
 refine wpS_tk 6 ?_ hSw rfl (fun w' hin => ?_) ?_; rotate_left
 ·go_simp <;> with_reducible rfl
 try simp only [lyr]
 refine wpS_done (by kernel_rfl) ?_
 clear t0 t1 t2 t3 t4 t5 t6 t7 t8 t9
 have EF := hid (EW.out.trans ((Ext.refl W).drew.trans (hb1.trans hb2)))
 go_wp2_with fail
 go_ret
 exact ⟨rfl, EF.out⟩
set_option linter.unusedVariables false
open Go.RowKit
theorem frFirst_any (S : Nat → Prop) (l : List Int) (A : Option Addr) (n c : Nat) (w : World) (hm : n ≤ maxLen) (hA : ArrQ S w 1 (IntR .i64) A n l) :
  Calls Tryz.prog 138 #[.slice A n c] w fun e w' => e = .returned (.int .i64 (firstE (fun x : Int => x) l)) ∧ w = w' := by
 unfold maxLen at hm
 have HA := hid hA
 clear hA
 go_enter Tryz.func138, Tryz.ntmps138
 go_wp2_with fail
 go_loopw [7] (fun i wr => ∃ k : Nat, k ≤ n ∧ i = .int .i64 k ∧ Hid (firstE (fun x : Int => x) l = firstE (fun x : Int => x) (l.drop k)) ∧ w = wr) (fun i _ => n - (intOf i).toNat)
 case atStart => exact ⟨0, Nat.zero_le _, rfl, hid rfl, rfl⟩
 case round =>
  obtain ⟨k, hk, rfl, HS, rfl⟩ := hrel
  by_cases hlt : k < n
  ·obtain ⟨b, o, x, rfl, hbB, -, hlk, hc0⟩ := HostL.at_ HA.out hlt
   have HSt : Hid (firstE (fun x : Int => x) (l.drop k) = if x ≠ 0 then x else firstE (fun x : Int => x) (l.drop (k + 1))) := hid (by rw [drop_of hlk]; rfl)
   clear hlk
   by_cases h0 : x = 0
   ·subst h0
    have HS2 : Hid (firstE (fun x : Int => x) l = firstE (fun x : Int => x) (l.drop (k + 1))) := hid (by rw [HS.out, HSt.out, if_neg (by simp)])
    go_wp2_with fail
    go_roundw
    case rel => exact ⟨k + 1, by omega, by go_num, HS2, by simp⟩
    case measure => simp [intOf]; omega
   ·have hq : (x != 0) = true := by simpa using h0
    have HR : Hid (firstE (fun x : Int => x) l = x) := hid (by rw [HS.out, HSt.out, if_pos h0])
    go_wp2_with fail
    go_ret
    exact ⟨ret_int HR.out.symm, rfl⟩
  ·have HR : Hid (firstE (fun x : Int => x) l = 0) := hid (by rw [HS.out, List.drop_eq_nil_of_le (by have := HA.out.len; omega)]; rfl)
   go_wp2_with fail
   go_ret
   exact ⟨ret_int HR.out.symm, rfl⟩
set_option linter.unusedVariables false
open Go.RowKit
theorem six_ints (w : World) (t : TypeId) (a b c d e f : Int) : ArrR (w.alloc (.cells #[.int .i64 a, .int .i64 b, .int .i64 c, .int .i64 d, .int .i64 e, .int .i64 f] t)) 1 (IntR .i64) (some ⟨w.heap.size, 0, none⟩) 6 [a, b, c, d, e, f] := by
 refine ArrR.of_block (heap_alloc_new w _) rfl fun k p hp => ?_
 match k, hp with
 | 0, hp => cases hp; exact ⟨_, rfl, rfl, fun j u hu => by match j, hu with | 0, hu => exact hu⟩
 | 1, hp => cases hp; exact ⟨_, rfl, rfl, fun j u hu => by match j, hu with | 0, hu => exact hu⟩
 | 2, hp => cases hp; exact ⟨_, rfl, rfl, fun j u hu => by match j, hu with | 0, hu => exact hu⟩
 | 3, hp => cases hp; exact ⟨_, rfl, rfl, fun j u hu => by match j, hu with | 0, hu => exact hu⟩
 | 4, hp => cases hp; exact ⟨_, rfl, rfl, fun j u hu => by match j, hu with | 0, hu => exact hu⟩
 | 5, hp => cases hp; exact ⟨_, rfl, rfl, fun j u hu => by match j, hu with | 0, hu => exact hu⟩
theorem saneF_first (f : Fr) : firstE (fun x : Int => x) [unl (inB f.typ 3 && inB f.kind 3) 4, unl (smallF f) 3, unl (shapedF f) 2, unl (namedF f) 5, firstE saneR f.adds, unl (kindF f) 2] = saneF f := by
 unfold saneF unl
 simp only [firstE]
 cases inB f.typ 3 && inB f.kind 3 <;> cases smallF f <;> cases shapedF f <;> cases namedF f <;> cases kindF f <;> simp
theorem frSane_any (S : Nat → Prop) (f : Fr) (s : FrS) (w : World) (hV : FrV S w f s) :
  Calls Tryz.prog 68 #[frVal f s] w fun e w' => e = .returned (.int .i64 (saneF f)) ∧ Ext w w' := by
 have HV := hid hV
 obtain ⟨⟨A1, n1, c1⟩, ⟨A2, n2, c2⟩, ⟨A3, n3, c3⟩, ⟨A4, n4, c4⟩⟩ := s
 clear hV
 have HR := hid (saneF_first f)
 rw [show frVal f ⟨⟨A1, n1, c1⟩, ⟨A2, n2, c2⟩, ⟨A3, n3, c3⟩, ⟨A4, n4, c4⟩⟩ = .agg #[.int .i64 f.typ, .int .i64 f.epoch, .int .i64 f.kind, .int .i64 f.nonce, .int .i64 f.turn, .slice A1 n1 c1, .slice A2 n2 c2, .int .i64 f.err, .slice A3 n3 c3, .slice A4 n4 c4] from rfl]
 go_enter Tryz.func68, Tryz.ntmps68
 go_wp2_with fail
 have KX := hid (heap_alloc_new w (.cells #[.int .i64 f.typ, .int .i64 f.epoch, .int .i64 f.kind, .int .i64 f.nonce, .int .i64 f.turn, .slice A1 n1 c1, .slice A2 n2 c2, .int .i64 f.err, .slice A3 n3 c3, .slice A4 n4 c4] 93))
 have hsW : w.heap.size < (w.alloc (.cells #[.int .i64 f.typ, .int .i64 f.epoch, .int .i64 f.kind, .int .i64 f.nonce, .int .i64 f.turn, .slice A1 n1 c1, .slice A2 n2 c2, .int .i64 f.err, .slice A3 n3 c3, .slice A4 n4 c4] 93)).heap.size := by simp
 have EW := hid (Ext.new w (.cells #[.int .i64 f.typ, .int .i64 f.epoch, .int .i64 f.kind, .int .i64 f.nonce, .int .i64 f.turn, .slice A1 n1 c1, .slice A2 n2 c2, .int .i64 f.err, .slice A3 n3 c3, .slice A4 n4 c4] 93))
 generalize w.alloc (.cells #[.int .i64 f.typ, .int .i64 f.epoch, .int .i64 f.kind, .int .i64 f.nonce, .int .i64 f.turn, .slice A1 n1 c1, .slice A2 n2 c2, .int .i64 f.err, .slice A3 n3 c3, .slice A4 n4 c4] 93) = W at KX hsW EW ⊢
 obtain ⟨t0, t1, t2, t3, t4, t5, t6, t7, t8, t9⟩ := bx10 (S := Ext W.drew) (fun w' hx => (blk_rules ((((Ext.refl W).drew.trans hx).block hsW).trans KX.out)).1)
 cases g0 : inB f.typ 3 with
 | false =>
  have HR1 : Hid (firstE (fun x : Int => x) [unl false 4, unl (smallF f) 3, unl (shapedF f) 2, unl (namedF f) 5, firstE saneR f.adds, unl (kindF f) 2] = saneF f) := hid (by have h := HR.out; rw [g0] at h; exact h)
  have hSw : Ext W.drew W.drew := Ext.refl _
  refine wpS_begin (Ext W.drew) (by kernel_rfl) ?_
  refine wpS_tk 0 ?_ hSw rfl (fun w' hin => ?_) ?_; rotate_left
  ·go_simp <;> with_reducible rfl
  try simp only [lyr]
  refine wpS_tk 1 ?_ hSw rfl (fun w' hin => ?_) ?_; rotate_left
  ·go_simp <;> with_reducible rfl
  try simp only [lyr]
  refine wpS_tk 9 ?_ hSw rfl (fun w' hin => ?_) ?_; rotate_left
  ·go_simp <;> with_reducible rfl
  try simp only [lyr]
  refine wpS_tk 12 ?_ hSw rfl (fun w' hin => ?_) ?_; rotate_left
  ·go_simp <;> with_reducible rfl
  try simp only [lyr]
  refine wpS_tk 15 ?_ hSw rfl (fun w' hin => ?_) ?_; rotate_left
  ·go_simp <;> with_reducible rfl
  try simp only [lyr]
  refine wpS_tk 18 ?_ hSw rfl (fun w' hin => ?_) ?_; rotate_left
  ·go_simp <;> with_reducible rfl
  try simp only [lyr]
  refine wpS_tk 20 ?_ hSw rfl (fun w' hin => ?_) ?_; rotate_left
  ·go_simp <;> with_reducible rfl
  try simp only [lyr]
  refine wpS_on 2 rfl (fun K hK => ?_)
  go_simp
  refine (frWithin_any f.typ 3 _).mono ?_
  rintro e wx ⟨rfl, rfl⟩
  rw [g0]
  simp only []
  refine hK.out _ _ (Ext W.drew) (fun _ h => h) (hSw) (fun hSw => ?_)
  clear hK K
  try simp only [lyr]
  refine wpS_tk 3 ?_ hSw rfl (fun w' hin => ?_) ?_; rotate_left
  ·go_simp <;> with_reducible rfl
  try simp only [lyr]
  refine wpS_sk 4 hSw rfl ?_
  try simp only [lyr]
  refine wpS_sk 5 hSw rfl ?_
  try simp only [lyr]
  refine wpS_sk 6 hSw rfl ?_
  try simp only [lyr]
  refine wpS_tk 7 ?_ hSw rfl (fun w' hin => ?_) ?_; rotate_left
  ·go_simp <;> with_reducible rfl
  try simp only [lyr]
  refine wpS_on 8 rfl (fun K hK => ?_)
  go_simp
  refine (unless_any false 4 _).mono ?_
  rintro e wx ⟨rfl, rfl⟩
  simp only []
  refine hK.out _ _ (Ext W.drew) (fun _ h => h) (hSw) (fun hSw => ?_)
  clear hK K
  try simp only [lyr]
  refine wpS_on 10 rfl (fun K hK => ?_)
  go_simp
  refine (frSmall_any S f ⟨⟨A1, n1, c1⟩, ⟨A2, n2, c2⟩, ⟨A3, n3, c3⟩, ⟨A4, n4, c4⟩⟩ _ (HV.out.up (EW.out.trans ((Ext.refl W).drew.trans hSw)))).mono ?_
  rintro e wq1 ⟨rfl, hb1⟩
  simp only []
  refine hK.out _ _ (Ext W.drew) (fun _ h => h) (hb1) (fun hSw => ?_)
  clear hK K
  try simp only [lyr]
  refine wpS_on 11 rfl (fun K hK => ?_)
  go_simp
  refine (unless_any (smallF f) 3 _).mono ?_
  rintro e wx ⟨rfl, rfl⟩
  simp only []
  refine hK.out _ _ (Ext W.drew) (fun _ h => h) (hSw) (fun hSw => ?_)
  clear hK K
  try simp only [lyr]
  refine wpS_on 13 rfl (fun K hK => ?_)
  go_simp
  refine (frShaped_any S f ⟨⟨A1, n1, c1⟩, ⟨A2, n2, c2⟩, ⟨A3, n3, c3⟩, ⟨A4, n4, c4⟩⟩ _ (HV.out.up (EW.out.trans ((Ext.refl W).drew.trans hSw)))).mono ?_
  rintro e wq2 ⟨rfl, hb2⟩
  simp only []
  refine hK.out _ _ (Ext W.drew) (fun _ h => h) ((hb1).trans hb2) (fun hSw => ?_)
  clear hK K
  try simp only [lyr]
  refine wpS_on 14 rfl (fun K hK => ?_)
  go_simp
  refine (unless_any (shapedF f) 2 _).mono ?_
  rintro e wx ⟨rfl, rfl⟩
  simp only []
  refine hK.out _ _ (Ext W.drew) (fun _ h => h) (hSw) (fun hSw => ?_)
  clear hK K
  try simp only [lyr]
  refine wpS_on 16 rfl (fun K hK => ?_)
  go_simp
  refine (frNamed_any S f ⟨⟨A1, n1, c1⟩, ⟨A2, n2, c2⟩, ⟨A3, n3, c3⟩, ⟨A4, n4, c4⟩⟩ _ (HV.out.up (EW.out.trans ((Ext.refl W).drew.trans hSw)))).mono ?_
  rintro e wq3 ⟨rfl, hb3⟩
  simp only []
  refine hK.out _ _ (Ext W.drew) (fun _ h => h) (((hb1).trans hb2).trans hb3) (fun hSw => ?_)
  clear hK K
  try simp only [lyr]
  refine wpS_on 17 rfl (fun K hK => ?_)
  go_simp
  refine (unless_any (namedF f) 5 _).mono ?_
  rintro e wx ⟨rfl, rfl⟩
  simp only []
  refine hK.out _ _ (Ext W.drew) (fun _ h => h) (hSw) (fun hSw => ?_)
  clear hK K
  try simp only [lyr]
  refine wpS_on 19 rfl (fun K hK => ?_)
  go_simp
  refine (frAdds_any S f ⟨⟨A1, n1, c1⟩, ⟨A2, n2, c2⟩, ⟨A3, n3, c3⟩, ⟨A4, n4, c4⟩⟩ _ (HV.out.up (EW.out.trans ((Ext.refl W).drew.trans hSw)))).mono ?_
  rintro e wq4 ⟨rfl, hb4⟩
  simp only []
  refine hK.out _ _ (Ext W.drew) (fun _ h => h) ((((hb1).trans hb2).trans hb3).trans hb4) (fun hSw => ?_)
  clear hK K
  try simp only [lyr]
  refine wpS_on 21 rfl (fun K hK => ?_)
  go_simp
  refine (frKind_any S f ⟨⟨A1, n1, c1⟩, ⟨A2, n2, c2⟩, ⟨A3, n3, c3⟩, ⟨A4, n4, c4⟩⟩ _ (HV.out.up (EW.out.trans ((Ext.refl W).drew.trans hSw)))).mono ?_
  rintro e wq5 ⟨rfl, hb5⟩
  simp only []
  refine hK.out _ _ (Ext W.drew) (fun _ h => h) (((((hb1).trans hb2).trans hb3).trans hb4).trans hb5) (fun hSw => ?_)
  clear hK K
  try simp only [lyr]
  refine wpS_on 22 rfl (fun K hK => ?_)
  go_simp
  refine (unless_any (kindF f) 2 _).mono ?_
  rintro e wx ⟨rfl, rfl⟩
  simp only []
  refine hK.out _ _ (Ext W.drew) (fun _ h => h) (hSw) (fun hSw => ?_)
  clear hK K
  try simp only [lyr]
  refine wpS_on 23 rfl (fun K hK => ?_)
  go_simp
  skip
  refine hK.out _ _ (Ext (wq5.alloc (.cells #[.int .i64 (unl false 4), .int .i64 (unl (smallF f) 3), .int .i64 (unl (shapedF f) 2), .int .i64 (unl (namedF f) 5), .int .i64 (firstE saneR f.adds), .int .i64 (unl (kindF f) 2)] 23))) (fun x hx => (((((hb1).trans hb2).trans hb3).trans hb4).trans hb5).trans ((Ext.new _ _).trans hx)) (Ext.refl _) (fun hSw => ?_)
  clear hK K
  try simp only [lyr]
  refine wpS_on 24 rfl (fun K hK => ?_)
  go_simp
  refine (frFirst_any (fun _ => True) [unl false 4, unl (smallF f) 3, unl (shapedF f) 2, unl (namedF f) 5, firstE saneR f.adds, unl (kindF f) 2] _ 6 6 _ (by unfold maxLen; omega) ((six_ints wq5 _ _ _ _ _ _ _).q.weak (fun _ _ h => h) (fun _ _ _ => trivial))).mono ?_
  rintro e wz ⟨rfl, rfl⟩
  rw [HR1.out]
  simp only []
  refine hK.out _ _ (Ext (wq5.alloc (.cells #[.int .i64 (unl false 4), .int .i64 (unl (smallF f) 3), .int .i64 (unl (shapedF f) 2), .int .i64 (unl (namedF f) 5), .int .i64 (firstE saneR f.adds), .int .i64 (unl (kindF f) 2)] 23))) (fun _ h => h) (hSw) (fun hSw => ?_)
  clear hK K
  try simp only [lyr]
  refine wpS_tk 25 ?_ hSw rfl (fun w' hin => ?_) ?_; rotate_left
  ·go_simp <;> with_reducible rfl
  try simp only [lyr]
  refine wpS_done (by kernel_rfl) ?_
  clear t0 t1 t2 t3 t4 t5 t6 t7 t8 t9
  have EF := hid (EW.out.trans ((Ext.refl W).drew.trans ((((((hb1).trans hb2).trans hb3).trans hb4).trans hb5).trans (Ext.new wq5 (.cells #[.int .i64 (unl false 4), .int .i64 (unl (smallF f) 3), .int .i64 (unl (shapedF f) 2), .int .i64 (unl (namedF f) 5), .int .i64 (firstE saneR f.adds), .int .i64 (unl (kindF f) 2)] 23)))))
  go_wp2_with fail
  go_ret
  exact ⟨rfl, EF.out⟩
 | true =>
  have HR1 : Hid (firstE (fun x : Int => x) [unl (inB f.kind 3) 4, unl (smallF f) 3, unl (shapedF f) 2, unl (namedF f) 5, firstE saneR f.adds, unl (kindF f) 2] = saneF f) := hid (by have h := HR.out; rw [g0] at h; exact h)
  have hSw : Ext W.drew W.drew := Ext.refl _
  refine wpS_begin (Ext W.drew) (by kernel_rfl) ?_
  refine wpS_tk 0 ?_ hSw rfl (fun w' hin => ?_) ?_; rotate_left
  ·go_simp <;> with_reducible rfl
  try simp only [lyr]
  refine wpS_tk 1 ?_ hSw rfl (fun w' hin => ?_) ?_; rotate_left
  ·go_simp <;> with_reducible rfl
  try simp only [lyr]
  refine wpS_tk 9 ?_ hSw rfl (fun w' hin => ?_) ?_; rotate_left
  ·go_simp <;> with_reducible rfl
  try simp only [lyr]
  refine wpS_tk 12 ?_ hSw rfl (fun w' hin => ?_) ?_; rotate_left
  ·go_simp <;> with_reducible rfl
  try simp only [lyr]
  refine wpS_tk 15 ?_ hSw rfl (fun w' hin => ?_) ?_; rotate_left
  ·go_simp <;> with_reducible rfl
  try simp only [lyr]
  refine wpS_tk 18 ?_ hSw rfl (fun w' hin => ?_) ?_; rotate_left
  ·go_simp <;> with_reducible rfl
  try simp only [lyr]
  refine wpS_tk 20 ?_ hSw rfl (fun w' hin => ?_) ?_; rotate_left
  ·go_simp <;> with_reducible rfl
  try simp only [lyr]
  refine wpS_on 2 rfl (fun K hK => ?_)
  go_simp
  refine (frWithin_any f.typ 3 _).mono ?_
  rintro e wx ⟨rfl, rfl⟩
  rw [g0]
  simp only []
  refine hK.out _ _ (Ext W.drew) (fun _ h => h) (hSw) (fun hSw => ?_)
  clear hK K
  try simp only [lyr]
  refine wpS_tk 3 ?_ hSw rfl (fun w' hin => ?_) ?_; rotate_left
  ·go_simp <;> with_reducible rfl
  try simp only [lyr]
  refine wpS_tk 4 ?_ hSw rfl (fun w' hin => ?_) ?_; rotate_left
  ·go_simp <;> with_reducible rfl
  try simp only [lyr]
  refine wpS_tk 5 ?_ hSw rfl (fun w' hin => ?_) ?_; rotate_left
  ·go_simp <;> with_reducible rfl
  try simp only [lyr]
  refine wpS_on 6 rfl (fun K hK => ?_)
  go_simp
  refine (frWithin_any f.kind 3 _).mono ?_
  rintro e wx ⟨rfl, rfl⟩
  simp only []
  refine hK.out _ _ (Ext W.drew) (fun _ h => h) (hSw) (fun hSw => ?_)
  clear hK K
  try simp only [lyr]
  refine wpS_tk 7 ?_ hSw rfl (fun w' hin => ?_) ?_; rotate_left
  ·go_simp <;> with_reducible rfl
  try simp only [lyr]
  refine wpS_on 8 rfl (fun K hK => ?_)
  go_simp
  refine (unless_any (inB f.kind 3) 4 _).mono ?_
  rintro e wx ⟨rfl, rfl⟩
  simp only []
  refine hK.out _ _ (Ext W.drew) (fun _ h => h) (hSw) (fun hSw => ?_)
  clear hK K
  try simp only [lyr]
  refine wpS_on 10 rfl (fun K hK => ?_)
  go_simp
  refine (frSmall_any S f ⟨⟨A1, n1, c1⟩, ⟨A2, n2, c2⟩, ⟨A3, n3, c3⟩, ⟨A4, n4, c4⟩⟩ _ (HV.out.up (EW.out.trans ((Ext.refl W).drew.trans hSw)))).mono ?_
  rintro e wq1 ⟨rfl, hb1⟩
  simp only []
  refine hK.out _ _ (Ext W.drew) (fun _ h => h) (hb1) (fun hSw => ?_)
  clear hK K
  try simp only [lyr]
  refine wpS_on 11 rfl (fun K hK => ?_)
  go_simp
  refine (unless_any (smallF f) 3 _).mono ?_
  rintro e wx ⟨rfl, rfl⟩
  simp only []
  refine hK.out _ _ (Ext W.drew) (fun _ h => h) (hSw) (fun hSw => ?_)
  clear hK K
  try simp only [lyr]
  refine wpS_on 13 rfl (fun K hK => ?_)
  go_simp
  refine (frShaped_any S f ⟨⟨A1, n1, c1⟩, ⟨A2, n2, c2⟩, ⟨A3, n3, c3⟩, ⟨A4, n4, c4⟩⟩ _ (HV.out.up (EW.out.trans ((Ext.refl W).drew.trans hSw)))).mono ?_
  rintro e wq2 ⟨rfl, hb2⟩
  simp only []
  refine hK.out _ _ (Ext W.drew) (fun _ h => h) ((hb1).trans hb2) (fun hSw => ?_)
  clear hK K
  try simp only [lyr]
  refine wpS_on 14 rfl (fun K hK => ?_)
  go_simp
  refine (unless_any (shapedF f) 2 _).mono ?_
  rintro e wx ⟨rfl, rfl⟩
  simp only []
  refine hK.out _ _ (Ext W.drew) (fun _ h => h) (hSw) (fun hSw => ?_)
  clear hK K
  try simp only [lyr]
  refine wpS_on 16 rfl (fun K hK => ?_)
  go_simp
  refine (frNamed_any S f ⟨⟨A1, n1, c1⟩, ⟨A2, n2, c2⟩, ⟨A3, n3, c3⟩, ⟨A4, n4, c4⟩⟩ _ (HV.out.up (EW.out.trans ((Ext.refl W).drew.trans hSw)))).mono ?_
  rintro e wq3 ⟨rfl, hb3⟩
  simp only []
  refine hK.out _ _ (Ext W.drew) (fun _ h => h) (((hb1).trans hb2).trans hb3) (fun hSw => ?_)
  clear hK K
  try simp only [lyr]
  refine wpS_on 17 rfl (fun K hK => ?_)
  go_simp
  refine (unless_any (namedF f) 5 _).mono ?_
  rintro e wx ⟨rfl, rfl⟩
  simp only []
  refine hK.out _ _ (Ext W.drew) (fun _ h => h) (hSw) (fun hSw => ?_)
  clear hK K
  try simp only [lyr]
  refine wpS_on 19 rfl (fun K hK => ?_)
  go_simp
  refine (frAdds_any S f ⟨⟨A1, n1, c1⟩, ⟨A2, n2, c2⟩, ⟨A3, n3, c3⟩, ⟨A4, n4, c4⟩⟩ _ (HV.out.up (EW.out.trans ((Ext.refl W).drew.trans hSw)))).mono ?_
  rintro e wq4 ⟨rfl, hb4⟩
  simp only []
  refine hK.out _ _ (Ext W.drew) (fun _ h => h) ((((hb1).trans hb2).trans hb3).trans hb4) (fun hSw => ?_)
  clear hK K
  try simp only [lyr]
  refine wpS_on 21 rfl (fun K hK => ?_)
  go_simp
  refine (frKind_any S f ⟨⟨A1, n1, c1⟩, ⟨A2, n2, c2⟩, ⟨A3, n3, c3⟩, ⟨A4, n4, c4⟩⟩ _ (HV.out.up (EW.out.trans ((Ext.refl W).drew.trans hSw)))).mono ?_
  rintro e wq5 ⟨rfl, hb5⟩
  simp only []
  refine hK.out _ _ (Ext W.drew) (fun _ h => h) (((((hb1).trans hb2).trans hb3).trans hb4).trans hb5) (fun hSw => ?_)
  clear hK K
  try simp only [lyr]
  refine wpS_on 22 rfl (fun K hK => ?_)
  go_simp
  refine (unless_any (kindF f) 2 _).mono ?_
  rintro e wx ⟨rfl, rfl⟩
  simp only []
  refine hK.out _ _ (Ext W.drew) (fun _ h => h) (hSw) (fun hSw => ?_)
  clear hK K
  try simp only [lyr]
  refine wpS_on 23 rfl (fun K hK => ?_)
  go_simp
  skip
  refine hK.out _ _ (Ext (wq5.alloc (.cells #[.int .i64 (unl (inB f.kind 3) 4), .int .i64 (unl (smallF f) 3), .int .i64 (unl (shapedF f) 2), .int .i64 (unl (namedF f) 5), .int .i64 (firstE saneR f.adds), .int .i64 (unl (kindF f) 2)] 23))) (fun x hx => (((((hb1).trans hb2).trans hb3).trans hb4).trans hb5).trans ((Ext.new _ _).trans hx)) (Ext.refl _) (fun hSw => ?_)
  clear hK K
  try simp only [lyr]
  refine wpS_on 24 rfl (fun K hK => ?_)
  go_simp
  refine (frFirst_any (fun _ => True) [unl (inB f.kind 3) 4, unl (smallF f) 3, unl (shapedF f) 2, unl (namedF f) 5, firstE saneR f.adds, unl (kindF f) 2] _ 6 6 _ (by unfold maxLen; omega) ((six_ints wq5 _ _ _ _ _ _ _).q.weak (fun _ _ h => h) (fun _ _ _ => trivial))).mono ?_
  rintro e wz ⟨rfl, rfl⟩
  rw [HR1.out]
  simp only []
  refine hK.out _ _ (Ext (wq5.alloc (.cells #[.int .i64 (unl (inB f.kind 3) 4), .int .i64 (unl (smallF f) 3), .int .i64 (unl (shapedF f) 2), .int .i64 (unl (namedF f) 5), .int .i64 (firstE saneR f.adds), .int .i64 (unl (kindF f) 2)] 23))) (fun _ h => h) (hSw) (fun hSw => ?_)
  clear hK K
  try simp only [lyr]
  refine wpS_tk 25 ?_ hSw rfl (fun w' hin => ?_) ?_; rotate_left
  ·go_simp <;> with_reducible rfl
  try simp only [lyr]
  refine wpS_done (by kernel_rfl) ?_
  clear t0 t1 t2 t3 t4 t5 t6 t7 t8 t9
  have EF := hid (EW.out.trans ((Ext.refl W).drew.trans ((((((hb1).trans hb2).trans hb3).trans hb4).trans hb5).trans (Ext.new wq5 (.cells #[.int .i64 (unl (inB f.kind 3) 4), .int .i64 (unl (smallF f) 3), .int .i64 (unl (shapedF f) 2), .int .i64 (unl (namedF f) 5), .int .i64 (firstE saneR f.adds), .int .i64 (unl (kindF f) 2)] 23)))))
  go_wp2_with fail
  go_ret
  exact ⟨rfl, EF.out⟩
end Go.Proofs.YtfdjbnofcniodaaGreatDoor
