/- What is laid behind bytes: the post of a function that lays. -/
import Derived.Test.YtfdjbnofcniodaaGreatDoorQCodeAll
import Derived.Test.YtfdjbnofcniodaaGreatDoorQPlain
import Derived.Test.YtfdjbnofcniodaaGreatDoorQIndex
namespace Go.Proofs.YtfdjbnofcniodaaGreatDoor
open Lib (hid)
set_option maxHeartbeats 1000000
set_option maxRecDepth 100000
set_option linter.unusedVariables false
open Go.RowKit
def LayPost (w : World) (n : Nat) (bs out : List UInt8) (e : Ending) (w' : World) : Prop :=
 ∃ v, e = .returned v ∧ w'.ownsRow w.heap.size 5 1 v (n + out.length) ((bs ++ out).map byteV) ∧ Ext w w'
theorem LayPost.out {w w' : World} {n : Nat} {bs out : List UInt8} {e : Ending} (h : LayPost w n bs out e w') : ∃ A c, e = .returned (.slice A (n + out.length) c) ∧ (A = none → c = 0) ∧ n + out.length ≤ c ∧ c ≤ maxLen ∧ Byts w' A (n + out.length) (bs ++ out) ∧ Ext w w' ∧ w'.ownsRow w.heap.size 5 1 (.slice A (n + out.length) c) (n + out.length) ((bs ++ out).map byteV) := by
 obtain ⟨v, rfl, ho, he⟩ := h
 obtain ⟨A, c, rfl, h1, h2, h3, h4, _⟩ := own_byts ho
 exact ⟨A, c, rfl, h3, h1, h2, h4, he, ho⟩
theorem LayPost.mk {w w' : World} {n : Nat} {bs out : List UInt8} {A : Option Addr} {c m : Nat} {all : List UInt8} (hm : m = n + out.length) (ha : all = bs ++ out) (ho : w'.ownsRow w.heap.size 5 1 (.slice A m c) m (all.map byteV)) (he : Ext w w') : LayPost w n bs out (.returned (.slice A m c)) w' := by
 subst hm ha; exact ⟨_, rfl, ho, he⟩
set_option linter.unusedVariables false
open Go.RowKit
def LayW (S : Nat → Prop) (w0 : World) (F : Nat) (caps : Array Value) (ok : ByteArray × Int → Prop) (f : ByteArray × Int → List UInt8) (M : Nat) : Prop :=
 Enters F ∧ ∀ (Ab : Option Addr) (nb cb : Nat) (bs : List UInt8) (s : ByteArray) (x : Int) (w : World), Ext w0 w → Byts w Ab nb bs → (Ab = none → cb = 0) → nb ≤ M → ok (s, x) → s.size ≤ maxLen →
  Calls Tryz.prog F (#[.slice Ab nb cb, .agg #[.string s, .int .i64 x]] ++ caps) w (LayPost w nb bs (f (s, x)))
theorem eachW_any {T : Nat → Prop} (S : Nat → Prop) (F : Nat) (caps : Array Value) (ok : ByteArray × Int → Prop) (f : ByteArray × Int → List UInt8) (Ab : Option Addr) (nb cb : Nat) (bs : List UInt8) (A : Option Addr) (n c : Nat) (l : List (ByteArray × Int)) (w : World)
  (hB : Byts w Ab nb bs) (hcb : Ab = none → cb = 0) (M : Nat) (hM : M ≤ 1000000000) (hlen : nb + 5 + (l.flatMap f).length ≤ M) (hm : n ≤ 1000000) (hok : ∀ x ∈ l, ok x) (hA : ArrQ T w 2 WtQ A n l) (hF : LayW S w F caps ok f M) :
  Calls Tryz.prog 171 #[.slice Ab nb cb, .slice A n c, .func (.func F) #[] caps] w (LayPost w nb bs (enc l.length ++ l.flatMap f)) := by
 have HA := hid hA
 have HF := hid hF
 have HOK := hid hok
 have HLEN := hid hlen
 have HN := hid hA.len
 clear hA hF hok hlen
 go_enter Tryz.func171, Tryz.ntmps171
 go_wp2_with fail
 refine (number_any Ab nb cb bs _ _ hB hcb (by have := HLEN.out; omega)).mono ?_
 rintro e w1 ⟨v1, rfl, hown1, hb1⟩
 rw [bnd_of (by omega)] at hown1
 have HO1 := hid hown1
 have E1 := hid hb1
 clear hown1 hb1
 go_wp2_with fail
 go_loopw [0, 15] (fun v i wr => ∃ (k N : Nat), k ≤ n ∧ i = .int .i64 k ∧ Hid (N = nb + (enc n ++ (l.take k).flatMap f).length) ∧ Hid (wr.ownsRow w.heap.size 5 1 v N ((bs ++ (enc n ++ (l.take k).flatMap f)).map byteV)) ∧ Hid (Ext w wr)) (fun _ i _ => n - (intOf i).toNat)
 case atStart => exact ⟨0, nb + (enc n).length, Nat.zero_le _, rfl, hid (by simp), hid (by simpa using HO1.out), E1⟩
 case round =>
  obtain ⟨k, N, hk, rfl, HNN, HO, HX⟩ := hrel
  by_cases hlt : k < n
  ·obtain ⟨b, o, s, x, rfl, hbB, hSb, hlk, hsz, hc0, hc1⟩ := WtL.at_ HA.out hlt
   obtain ⟨d0, d1⟩ := up2 (HX.out) hbB hc0 hc1
   have i1 : (0 : Int) ≤ (k : Int) := by omega
   have i2 : (k : Int) < (n : Int) := by omega
   have HL := hid hlk
   clear hc0 hc1 hlk
   obtain ⟨Av, cv, hv1, -, -, hv4, hv5, -⟩ := own_byts HO.out
   subst hv1
   have HB5 := hid hv5
   have HC4 := hid hv4
   clear hv5 hv4
   have HTk : Hid ((l.take k).flatMap f ++ f (s, x) = (l.take (k + 1)).flatMap f) := hid (by rw [take_snoc_of HL.out, List.flatMap_append]; simp)
   have HLk : Hid (((l.take (k + 1)).flatMap f).length ≤ (l.flatMap f).length) := hid (by
    have : l.flatMap f = (l.take (k + 1)).flatMap f ++ (l.drop (k + 1)).flatMap f := by rw [← List.flatMap_append, List.take_append_drop]
    rw [this, List.length_append]; omega)
   go_wp2_with fail
   rw [HF.out.1, Oper.upon_enter]
   refine (HF.out.2 Av _ cv _ s x _ (HX.out.alloc _) (ArrR.up HB5.out (Ext.new _ _)) HC4.out ?_ (HOK.out _ (List.mem_of_getElem? HL.out)) hsz).mono ?_
   ·have h1 := HLEN.out
    have h2 := HLk.out
    have h3 := enc_len n
    rw [← HTk.out, List.length_append] at h2
    rw [HNN.out, List.length_append]
    omega
   rintro e w2 ⟨v2, rfl, hown2, hb2⟩
   have HO2 : Hid (w2.ownsRow w.heap.size 5 1 v2 (N + (f (s, x)).length) ((bs ++ (enc n ++ (l.take (k + 1)).flatMap f)).map byteV)) := hid (by
    have h := own_base hown2 ((HX.out.alloc _).size)
    rw [← HTk.out]
    rw [List.append_assoc, List.append_assoc] at h
    exact h)
   have HN2 : Hid (N + (f (s, x)).length = nb + (enc n ++ (l.take (k + 1)).flatMap f).length) := hid (by
    rw [HNN.out, ← HTk.out]; simp only [List.length_append]; omega)
   have HX2 := hid ((HX.out.alloc _).trans hb2)
   clear hown2 hb2
   go_wp2_with fail
   go_roundw
   case rel => exact ⟨k + 1, _, by omega, by go_num, HN2, HO2, HX2⟩
   case measure => simp [intOf]; omega
  ·have HT : Hid (l.take k = l) := hid (List.take_of_length_le (by have := HN.out; omega))
   obtain ⟨Av, cv, hv1, -, -, -, -, -⟩ := own_byts HO.out
   subst hv1
   go_wp2_with fail
   go_ret
   refine ⟨_, rfl, ?_, HX.out⟩
   have h := HO.out
   rw [HT.out] at h
   have e : nb + (enc l.length ++ l.flatMap f).length = N := by rw [HNN.out, HT.out, HN.out]
   rw [e, HN.out]
   exact h
set_option linter.unusedVariables false
open Go.RowKit
def LayL (S : Nat → Prop) (w0 : World) (F : Nat) (caps : Array Value) (ok : Rl → Prop) (f : Rl → List UInt8) (M : Nat) : Prop :=
 Enters F ∧ ∀ (Ab : Option Addr) (nb cb : Nat) (bs : List UInt8) (r : Rl) (B : Option Addr) (m d : Nat) (w : World), Ext w0 w → Byts w Ab nb bs → (Ab = none → cb = 0) → nb ≤ M → ok r → RlV S w r B m d →
  Calls Tryz.prog F (#[.slice Ab nb cb, .agg #[.string r.host, .string r.pre, .slice B m d]] ++ caps) w (LayPost w nb bs (f r))
theorem eachL_any {T : Nat → Prop} (S : Nat → Prop) (F : Nat) (caps : Array Value) (ok : Rl → Prop) (f : Rl → List UInt8) (Ab : Option Addr) (nb cb : Nat) (bs : List UInt8) (A : Option Addr) (n c : Nat) (l : List (Rl)) (w : World)
  (hB : Byts w Ab nb bs) (hcb : Ab = none → cb = 0) (M : Nat) (hM : M ≤ 1000000000) (hlen : nb + 5 + (l.flatMap f).length ≤ M) (hm : n ≤ 1000000) (hok : ∀ x ∈ l, ok x) (hA : ArrQ T w 3 (RlQ S w) A n l) (hF : LayL S w F caps ok f M) :
  Calls Tryz.prog 95 #[.slice Ab nb cb, .slice A n c, .func (.func F) #[] caps] w (LayPost w nb bs (enc l.length ++ l.flatMap f)) := by
 have HA := hid hA
 have HF := hid hF
 have HOK := hid hok
 have HLEN := hid hlen
 have HN := hid hA.len
 clear hA hF hok hlen
 go_enter Tryz.func95, Tryz.ntmps95
 go_wp2_with fail
 refine (number_any Ab nb cb bs _ _ hB hcb (by have := HLEN.out; omega)).mono ?_
 rintro e w1 ⟨v1, rfl, hown1, hb1⟩
 rw [bnd_of (by omega)] at hown1
 have HO1 := hid hown1
 have E1 := hid hb1
 clear hown1 hb1
 go_wp2_with fail
 go_loopw [0, 15] (fun v i wr => ∃ (k N : Nat), k ≤ n ∧ i = .int .i64 k ∧ Hid (N = nb + (enc n ++ (l.take k).flatMap f).length) ∧ Hid (wr.ownsRow w.heap.size 5 1 v N ((bs ++ (enc n ++ (l.take k).flatMap f)).map byteV)) ∧ Hid (Ext w wr)) (fun _ i _ => n - (intOf i).toNat)
 case atStart => exact ⟨0, nb + (enc n).length, Nat.zero_le _, rfl, hid (by simp), hid (by simpa using HO1.out), E1⟩
 case round =>
  obtain ⟨k, N, hk, rfl, HNN, HO, HX⟩ := hrel
  by_cases hlt : k < n
  ·obtain ⟨b, o, r, B, m, d, rfl, hbB, hSb, hlk, hv, hc0, hc1, hc2⟩ := RlL.at_ HA.out hlt
   obtain ⟨d0, d1, d2⟩ := up3 (HX.out) hbB hc0 hc1 hc2
   have i1 : (0 : Int) ≤ (k : Int) := by omega
   have i2 : (k : Int) < (n : Int) := by omega
   have HL := hid hlk
   have HV := hid hv
   clear hv
   clear hc0 hc1 hc2 hlk
   obtain ⟨Av, cv, hv1, -, -, hv4, hv5, -⟩ := own_byts HO.out
   subst hv1
   have HB5 := hid hv5
   have HC4 := hid hv4
   clear hv5 hv4
   have HTk : Hid ((l.take k).flatMap f ++ f r = (l.take (k + 1)).flatMap f) := hid (by rw [take_snoc_of HL.out, List.flatMap_append]; simp)
   have HLk : Hid (((l.take (k + 1)).flatMap f).length ≤ (l.flatMap f).length) := hid (by
    have : l.flatMap f = (l.take (k + 1)).flatMap f ++ (l.drop (k + 1)).flatMap f := by rw [← List.flatMap_append, List.take_append_drop]
    rw [this, List.length_append]; omega)
   go_wp2_with fail
   rw [HF.out.1, Oper.upon_enter]
   refine (HF.out.2 Av _ cv _ r B m d _ (HX.out.alloc _) (ArrR.up HB5.out (Ext.new _ _)) HC4.out ?_ (HOK.out _ (List.mem_of_getElem? HL.out)) (HV.out.up (HX.out.alloc _))).mono ?_
   ·have h1 := HLEN.out
    have h2 := HLk.out
    have h3 := enc_len n
    rw [← HTk.out, List.length_append] at h2
    rw [HNN.out, List.length_append]
    omega
   rintro e w2 ⟨v2, rfl, hown2, hb2⟩
   have HO2 : Hid (w2.ownsRow w.heap.size 5 1 v2 (N + (f r).length) ((bs ++ (enc n ++ (l.take (k + 1)).flatMap f)).map byteV)) := hid (by
    have h := own_base hown2 ((HX.out.alloc _).size)
    rw [← HTk.out]
    rw [List.append_assoc, List.append_assoc] at h
    exact h)
   have HN2 : Hid (N + (f r).length = nb + (enc n ++ (l.take (k + 1)).flatMap f).length) := hid (by
    rw [HNN.out, ← HTk.out]; simp only [List.length_append]; omega)
   have HX2 := hid ((HX.out.alloc _).trans hb2)
   clear hown2 hb2
   go_wp2_with fail
   go_roundw
   case rel => exact ⟨k + 1, _, by omega, by go_num, HN2, HO2, HX2⟩
   case measure => simp [intOf]; omega
  ·have HT : Hid (l.take k = l) := hid (List.take_of_length_le (by have := HN.out; omega))
   obtain ⟨Av, cv, hv1, -, -, -, -, -⟩ := own_byts HO.out
   subst hv1
   go_wp2_with fail
   go_ret
   refine ⟨_, rfl, ?_, HX.out⟩
   have h := HO.out
   rw [HT.out] at h
   have e : nb + (enc l.length ++ l.flatMap f).length = N := by rw [HNN.out, HT.out, HN.out]
   rw [e, HN.out]
   exact h
set_option linter.unusedVariables false
open Go.RowKit
def LayH (S : Nat → Prop) (w0 : World) (F : Nat) (caps : Array Value) (ok : Int → Prop) (f : Int → List UInt8) (M : Nat) : Prop :=
 Enters F ∧ ∀ (Ab : Option Addr) (nb cb : Nat) (bs : List UInt8) (x : Int) (w : World), Ext w0 w → Byts w Ab nb bs → (Ab = none → cb = 0) → nb ≤ M → ok x → True →
  Calls Tryz.prog F (#[.slice Ab nb cb, .int .i64 x] ++ caps) w (LayPost w nb bs (f x))
theorem eachH_any {T : Nat → Prop} (S : Nat → Prop) (F : Nat) (caps : Array Value) (ok : Int → Prop) (f : Int → List UInt8) (Ab : Option Addr) (nb cb : Nat) (bs : List UInt8) (A : Option Addr) (n c : Nat) (l : List (Int)) (w : World)
  (hB : Byts w Ab nb bs) (hcb : Ab = none → cb = 0) (M : Nat) (hM : M ≤ 1000000000) (hlen : nb + 5 + (l.flatMap f).length ≤ M) (hm : n ≤ 1000000) (hok : ∀ x ∈ l, ok x) (hA : ArrQ T w 1 (IntR .i64) A n l) (hF : LayH S w F caps ok f M) :
  Calls Tryz.prog 97 #[.slice Ab nb cb, .slice A n c, .func (.func F) #[] caps] w (LayPost w nb bs (enc l.length ++ l.flatMap f)) := by
 have HA := hid hA
 have HF := hid hF
 have HOK := hid hok
 have HLEN := hid hlen
 have HN := hid hA.len
 clear hA hF hok hlen
 go_enter Tryz.func97, Tryz.ntmps97
 go_wp2_with fail
 refine (number_any Ab nb cb bs _ _ hB hcb (by have := HLEN.out; omega)).mono ?_
 rintro e w1 ⟨v1, rfl, hown1, hb1⟩
 rw [bnd_of (by omega)] at hown1
 have HO1 := hid hown1
 have E1 := hid hb1
 clear hown1 hb1
 go_wp2_with fail
 go_loopw [0, 15] (fun v i wr => ∃ (k N : Nat), k ≤ n ∧ i = .int .i64 k ∧ Hid (N = nb + (enc n ++ (l.take k).flatMap f).length) ∧ Hid (wr.ownsRow w.heap.size 5 1 v N ((bs ++ (enc n ++ (l.take k).flatMap f)).map byteV)) ∧ Hid (Ext w wr)) (fun _ i _ => n - (intOf i).toNat)
 case atStart => exact ⟨0, nb + (enc n).length, Nat.zero_le _, rfl, hid (by simp), hid (by simpa using HO1.out), E1⟩
 case round =>
  obtain ⟨k, N, hk, rfl, HNN, HO, HX⟩ := hrel
  by_cases hlt : k < n
  ·obtain ⟨b, o, x, rfl, hbB, hSb, hlk, hc0⟩ := HostL.at_ HA.out hlt
   have d0 : wr.cell? ⟨b, o + k, none⟩ = some (.int .i64 x) := (HX.out.cell hbB).trans hc0
   have i1 : (0 : Int) ≤ (k : Int) := by omega
   have i2 : (k : Int) < (n : Int) := by omega
   have HL := hid hlk
   clear hc0 hlk
   obtain ⟨Av, cv, hv1, -, -, hv4, hv5, -⟩ := own_byts HO.out
   subst hv1
   have HB5 := hid hv5
   have HC4 := hid hv4
   clear hv5 hv4
   have HTk : Hid ((l.take k).flatMap f ++ f x = (l.take (k + 1)).flatMap f) := hid (by rw [take_snoc_of HL.out, List.flatMap_append]; simp)
   have HLk : Hid (((l.take (k + 1)).flatMap f).length ≤ (l.flatMap f).length) := hid (by
    have : l.flatMap f = (l.take (k + 1)).flatMap f ++ (l.drop (k + 1)).flatMap f := by rw [← List.flatMap_append, List.take_append_drop]
    rw [this, List.length_append]; omega)
   go_wp2_with fail
   rw [HF.out.1, Oper.upon_enter]
   refine (HF.out.2 Av _ cv _ x _ HX.out HB5.out HC4.out ?_ (HOK.out _ (List.mem_of_getElem? HL.out)) trivial).mono ?_
   ·have h1 := HLEN.out
    have h2 := HLk.out
    have h3 := enc_len n
    rw [← HTk.out, List.length_append] at h2
    rw [HNN.out, List.length_append]
    omega
   rintro e w2 ⟨v2, rfl, hown2, hb2⟩
   have HO2 : Hid (w2.ownsRow w.heap.size 5 1 v2 (N + (f x).length) ((bs ++ (enc n ++ (l.take (k + 1)).flatMap f)).map byteV)) := hid (by
    have h := own_base hown2 (HX.out.size)
    rw [← HTk.out]
    rw [List.append_assoc, List.append_assoc] at h
    exact h)
   have HN2 : Hid (N + (f x).length = nb + (enc n ++ (l.take (k + 1)).flatMap f).length) := hid (by
    rw [HNN.out, ← HTk.out]; simp only [List.length_append]; omega)
   have HX2 := hid (HX.out.trans hb2)
   clear hown2 hb2
   go_wp2_with fail
   go_roundw
   case rel => exact ⟨k + 1, _, by omega, by go_num, HN2, HO2, HX2⟩
   case measure => simp [intOf]; omega
  ·have HT : Hid (l.take k = l) := hid (List.take_of_length_le (by have := HN.out; omega))
   obtain ⟨Av, cv, hv1, -, -, -, -, -⟩ := own_byts HO.out
   subst hv1
   go_wp2_with fail
   go_ret
   refine ⟨_, rfl, ?_, HX.out⟩
   have h := HO.out
   rw [HT.out] at h
   have e : nb + (enc l.length ++ l.flatMap f).length = N := by rw [HNN.out, HT.out, HN.out]
   rw [e, HN.out]
   exact h
set_option linter.unusedVariables false
open Go.RowKit
def LayK (S : Nat → Prop) (w0 : World) (F : Nat) (caps : Array Value) (ok : Ky → Prop) (f : Ky → List UInt8) (M : Nat) : Prop :=
 Enters F ∧ ∀ (Ab : Option Addr) (nb cb : Nat) (bs : List UInt8) (y : Ky) (w : World), Ext w0 w → Byts w Ab nb bs → (Ab = none → cb = 0) → nb ≤ M → ok y → y.name.size ≤ maxLen →
  Calls Tryz.prog F (#[.slice Ab nb cb, .agg #[.int .i64 y.kind, .string y.name]] ++ caps) w (LayPost w nb bs (f y))
theorem eachK_any {T : Nat → Prop} (S : Nat → Prop) (F : Nat) (caps : Array Value) (ok : Ky → Prop) (f : Ky → List UInt8) (Ab : Option Addr) (nb cb : Nat) (bs : List UInt8) (A : Option Addr) (n c : Nat) (l : List (Ky)) (w : World)
  (hB : Byts w Ab nb bs) (hcb : Ab = none → cb = 0) (M : Nat) (hM : M ≤ 1000000000) (hlen : nb + 5 + (l.flatMap f).length ≤ M) (hm : n ≤ 1000000) (hok : ∀ x ∈ l, ok x) (hA : ArrQ T w 2 KyQ A n l) (hF : LayK S w F caps ok f M) :
  Calls Tryz.prog 103 #[.slice Ab nb cb, .slice A n c, .func (.func F) #[] caps] w (LayPost w nb bs (enc l.length ++ l.flatMap f)) := by
 have HA := hid hA
 have HF := hid hF
 have HOK := hid hok
 have HLEN := hid hlen
 have HN := hid hA.len
 clear hA hF hok hlen
 go_enter Tryz.func103, Tryz.ntmps103
 go_wp2_with fail
 refine (number_any Ab nb cb bs _ _ hB hcb (by have := HLEN.out; omega)).mono ?_
 rintro e w1 ⟨v1, rfl, hown1, hb1⟩
 rw [bnd_of (by omega)] at hown1
 have HO1 := hid hown1
 have E1 := hid hb1
 clear hown1 hb1
 go_wp2_with fail
 go_loopw [0, 15] (fun v i wr => ∃ (k N : Nat), k ≤ n ∧ i = .int .i64 k ∧ Hid (N = nb + (enc n ++ (l.take k).flatMap f).length) ∧ Hid (wr.ownsRow w.heap.size 5 1 v N ((bs ++ (enc n ++ (l.take k).flatMap f)).map byteV)) ∧ Hid (Ext w wr)) (fun _ i _ => n - (intOf i).toNat)
 case atStart => exact ⟨0, nb + (enc n).length, Nat.zero_le _, rfl, hid (by simp), hid (by simpa using HO1.out), E1⟩
 case round =>
  obtain ⟨k, N, hk, rfl, HNN, HO, HX⟩ := hrel
  by_cases hlt : k < n
  ·obtain ⟨b, o, y, rfl, hbB, hSb, hlk, hsz, hc0, hc1⟩ := KeyL.at_ HA.out hlt
   obtain ⟨d0, d1⟩ := up2 (HX.out) hbB hc0 hc1
   have i1 : (0 : Int) ≤ (k : Int) := by omega
   have i2 : (k : Int) < (n : Int) := by omega
   have HL := hid hlk
   clear hc0 hc1 hlk
   obtain ⟨Av, cv, hv1, -, -, hv4, hv5, -⟩ := own_byts HO.out
   subst hv1
   have HB5 := hid hv5
   have HC4 := hid hv4
   clear hv5 hv4
   have HTk : Hid ((l.take k).flatMap f ++ f y = (l.take (k + 1)).flatMap f) := hid (by rw [take_snoc_of HL.out, List.flatMap_append]; simp)
   have HLk : Hid (((l.take (k + 1)).flatMap f).length ≤ (l.flatMap f).length) := hid (by
    have : l.flatMap f = (l.take (k + 1)).flatMap f ++ (l.drop (k + 1)).flatMap f := by rw [← List.flatMap_append, List.take_append_drop]
    rw [this, List.length_append]; omega)
   go_wp2_with fail
   rw [HF.out.1, Oper.upon_enter]
   refine (HF.out.2 Av _ cv _ y _ (HX.out.alloc _) (ArrR.up HB5.out (Ext.new _ _)) HC4.out ?_ (HOK.out _ (List.mem_of_getElem? HL.out)) hsz).mono ?_
   ·have h1 := HLEN.out
    have h2 := HLk.out
    have h3 := enc_len n
    rw [← HTk.out, List.length_append] at h2
    rw [HNN.out, List.length_append]
    omega
   rintro e w2 ⟨v2, rfl, hown2, hb2⟩
   have HO2 : Hid (w2.ownsRow w.heap.size 5 1 v2 (N + (f y).length) ((bs ++ (enc n ++ (l.take (k + 1)).flatMap f)).map byteV)) := hid (by
    have h := own_base hown2 ((HX.out.alloc _).size)
    rw [← HTk.out]
    rw [List.append_assoc, List.append_assoc] at h
    exact h)
   have HN2 : Hid (N + (f y).length = nb + (enc n ++ (l.take (k + 1)).flatMap f).length) := hid (by
    rw [HNN.out, ← HTk.out]; simp only [List.length_append]; omega)
   have HX2 := hid ((HX.out.alloc _).trans hb2)
   clear hown2 hb2
   go_wp2_with fail
   go_roundw
   case rel => exact ⟨k + 1, _, by omega, by go_num, HN2, HO2, HX2⟩
   case measure => simp [intOf]; omega
  ·have HT : Hid (l.take k = l) := hid (List.take_of_length_le (by have := HN.out; omega))
   obtain ⟨Av, cv, hv1, -, -, -, -, -⟩ := own_byts HO.out
   subst hv1
   go_wp2_with fail
   go_ret
   refine ⟨_, rfl, ?_, HX.out⟩
   have h := HO.out
   rw [HT.out] at h
   have e : nb + (enc l.length ++ l.flatMap f).length = N := by rw [HNN.out, HT.out, HN.out]
   rw [e, HN.out]
   exact h
set_option linter.unusedVariables false
open Go.RowKit
def LayR (S : Nat → Prop) (w0 : World) (F : Nat) (caps : Array Value) (ok : Rs → Prop) (f : Rs → List UInt8) (M : Nat) : Prop :=
 Enters F ∧ ∀ (Ab : Option Addr) (nb cb : Nat) (bs : List UInt8) (r : Rs) (B : Option Addr) (m d : Nat) (B' : Option Addr) (m' d' : Nat) (w : World), Ext w0 w → Byts w Ab nb bs → (Ab = none → cb = 0) → nb ≤ M → ok r → RsV S w r B m d B' m' d' →
  Calls Tryz.prog F (#[.slice Ab nb cb, (rsVal r B m d B' m' d')] ++ caps) w (LayPost w nb bs (f r))
theorem eachR_any {T : Nat → Prop} (S : Nat → Prop) (F : Nat) (caps : Array Value) (ok : Rs → Prop) (f : Rs → List UInt8) (Ab : Option Addr) (nb cb : Nat) (bs : List UInt8) (A : Option Addr) (n c : Nat) (l : List (Rs)) (w : World)
  (hB : Byts w Ab nb bs) (hcb : Ab = none → cb = 0) (M : Nat) (hM : M ≤ 1000000000) (hlen : nb + 5 + (l.flatMap f).length ≤ M) (hm : n ≤ 1000000) (hok : ∀ x ∈ l, ok x) (hA : ArrQ T w 7 (RsQ S w) A n l) (hF : LayR S w F caps ok f M) :
  Calls Tryz.prog 101 #[.slice Ab nb cb, .slice A n c, .func (.func F) #[] caps] w (LayPost w nb bs (enc l.length ++ l.flatMap f)) := by
 have HA := hid hA
 have HF := hid hF
 have HOK := hid hok
 have HLEN := hid hlen
 have HN := hid hA.len
 clear hA hF hok hlen
 go_enter Tryz.func101, Tryz.ntmps101
 go_wp2_with fail
 refine (number_any Ab nb cb bs _ _ hB hcb (by have := HLEN.out; omega)).mono ?_
 rintro e w1 ⟨v1, rfl, hown1, hb1⟩
 rw [bnd_of (by omega)] at hown1
 have HO1 := hid hown1
 have E1 := hid hb1
 clear hown1 hb1
 go_wp2_with fail
 go_loopw [0, 15] (fun v i wr => ∃ (k N : Nat), k ≤ n ∧ i = .int .i64 k ∧ Hid (N = nb + (enc n ++ (l.take k).flatMap f).length) ∧ Hid (wr.ownsRow w.heap.size 5 1 v N ((bs ++ (enc n ++ (l.take k).flatMap f)).map byteV)) ∧ Hid (Ext w wr)) (fun _ i _ => n - (intOf i).toNat)
 case atStart => exact ⟨0, nb + (enc n).length, Nat.zero_le _, rfl, hid (by simp), hid (by simpa using HO1.out), E1⟩
 case round =>
  obtain ⟨k, N, hk, rfl, HNN, HO, HX⟩ := hrel
  by_cases hlt : k < n
  ·obtain ⟨b, o, r, B, m, d, B', m', d', rfl, hbB, hSb, hlk, hv, hc0, hc1, hc2, hc3, hc4, hc5, hc6⟩ := ResL.at_ HA.out hlt
   obtain ⟨d0, d1, d2, d3, d4, d5, d6⟩ := up7 (HX.out) hbB hc0 hc1 hc2 hc3 hc4 hc5 hc6
   have i1 : (0 : Int) ≤ (k : Int) := by omega
   have i2 : (k : Int) < (n : Int) := by omega
   have HL := hid hlk
   have HV := hid hv
   clear hv
   clear hc0 hc1 hc2 hc3 hc4 hc5 hc6 hlk
   obtain ⟨Av, cv, hv1, -, -, hv4, hv5, -⟩ := own_byts HO.out
   subst hv1
   have HB5 := hid hv5
   have HC4 := hid hv4
   clear hv5 hv4
   have HTk : Hid ((l.take k).flatMap f ++ f r = (l.take (k + 1)).flatMap f) := hid (by rw [take_snoc_of HL.out, List.flatMap_append]; simp)
   have HLk : Hid (((l.take (k + 1)).flatMap f).length ≤ (l.flatMap f).length) := hid (by
    have : l.flatMap f = (l.take (k + 1)).flatMap f ++ (l.drop (k + 1)).flatMap f := by rw [← List.flatMap_append, List.take_append_drop]
    rw [this, List.length_append]; omega)
   go_wp2_with fail
   rw [HF.out.1, Oper.upon_enter]
   refine (HF.out.2 Av _ cv _ r B m d B' m' d' _ (HX.out.alloc _) (ArrR.up HB5.out (Ext.new _ _)) HC4.out ?_ (HOK.out _ (List.mem_of_getElem? HL.out)) (HV.out.up (HX.out.alloc _))).mono ?_
   ·have h1 := HLEN.out
    have h2 := HLk.out
    have h3 := enc_len n
    rw [← HTk.out, List.length_append] at h2
    rw [HNN.out, List.length_append]
    omega
   rintro e w2 ⟨v2, rfl, hown2, hb2⟩
   have HO2 : Hid (w2.ownsRow w.heap.size 5 1 v2 (N + (f r).length) ((bs ++ (enc n ++ (l.take (k + 1)).flatMap f)).map byteV)) := hid (by
    have h := own_base hown2 ((HX.out.alloc _).size)
    rw [← HTk.out]
    rw [List.append_assoc, List.append_assoc] at h
    exact h)
   have HN2 : Hid (N + (f r).length = nb + (enc n ++ (l.take (k + 1)).flatMap f).length) := hid (by
    rw [HNN.out, ← HTk.out]; simp only [List.length_append]; omega)
   have HX2 := hid ((HX.out.alloc _).trans hb2)
   clear hown2 hb2
   go_wp2_with fail
   go_roundw
   case rel => exact ⟨k + 1, _, by omega, by go_num, HN2, HO2, HX2⟩
   case measure => simp [intOf]; omega
  ·have HT : Hid (l.take k = l) := hid (List.take_of_length_le (by have := HN.out; omega))
   obtain ⟨Av, cv, hv1, -, -, -, -, -⟩ := own_byts HO.out
   subst hv1
   go_wp2_with fail
   go_ret
   refine ⟨_, rfl, ?_, HX.out⟩
   have h := HO.out
   rw [HT.out] at h
   have e : nb + (enc l.length ++ l.flatMap f).length = N := by rw [HNN.out, HT.out, HN.out]
   rw [e, HN.out]
   exact h
end Go.Proofs.YtfdjbnofcniodaaGreatDoor
