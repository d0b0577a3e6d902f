/- What record's first computes at []groyne/api.Res. -/
import Derived.Test.YtfdjbnofcniodaaGreatDoorQDelA
import Derived.Test.YtfdjbnofcniodaaGreatDoorQPutAll
namespace Go.Proofs.YtfdjbnofcniodaaGreatDoor
open Lib (hid)
set_option maxHeartbeats 1000000
set_option maxRecDepth 100000
set_option linter.unusedVariables false
open Go.RowKit
theorem first1R_pred (S : Nat → Prop) (F : Nat) (may : Rs → Bool) (g : Nat) (w0 : World) (hg : g < w0.heap.size) (hc : w0.cell? ⟨g, 0, none⟩ = some (.func (.func F) #[] #[])) (hF : PredR S w0 F #[] may) :
  PredR S w0 174 #[.pointer (some ⟨g, 0, none⟩)] (fun x => !may x) := by
 refine ⟨Tryz.call174, fun r B m d B' m' d' w he hv => ?_⟩
 show Calls Tryz.prog 174 #[(rsVal r B m d B' m' d'), .pointer (some ⟨g, 0, none⟩)] w _
 have d0 : w.cell? ⟨g, 0, none⟩ = some (.func (.func F) #[] #[]) := (he.cell hg).trans hc
 have hgw : g < w.heap.size := Nat.lt_of_lt_of_le hg he.size
 have HF := hid hF
 have HE := hid he
 have HV := hid hv
 clear hF he hv hc
 go_enter Tryz.func174, Tryz.ntmps174
 go_wp2_with fail
 rw [HF.out.1, Oper.upon_enter]
 refine (HF.out.2 r B m d B' m' d' _ (HE.out.alloc _) (HV.out.up (Ext.new _ _))).mono ?_
 rintro e w1 ⟨rfl, hb1⟩
 go_wp2_with fail
 go_ret
 exact ⟨rfl, (Ext.new _ _).trans hb1⟩
theorem firstR_any (S0 : Nat → Prop) (F : Nat) (may : Rs → Bool) (A : Option Addr) (n c : Nat) (l : List Rs) (w : World) (hsl : SlW A n c) (hn : n ≤ 1000000) (hA : ArrQ S0 w 7 (RsQ S0 w) A n l) (hF : PredR (fun b => b < w.heap.size) w F #[] may) :
  Calls Tryz.prog 102 #[.slice A n c, .func (.func F) #[] #[]] w (KeepsR (fun b => b < w.heap.size) w ((l.filter may).take 64)) := by
 have hmf : ∀ (fn : Fn) (first cap : Array Value) (w : World), (Instr.makeFunc fn first cap).run Tryz.prog w = .ok (.func fn first cap) w := fun _ _ _ _ => rfl
 obtain ⟨us, hfl, hU0⟩ := hA.arr.rows (by omega)
 have HFl := hid hfl
 have HU : Hid (RowsOf (RsQ (fun b => b < w.heap.size) w) 7 us l) := hid (hU0.mono fun _ _ h => h.weak fun b hb _ => hb)
 have H1 := hid (rowsR_one HU.out)
 have HF := hid hF
 have HS := hid hsl
 clear hfl hU0 hA hF hsl
 go_enter Tryz.func102, Tryz.ntmps102
 go_wp2_with fail
 refine (cloneR_any A n c us _ (HFl.out.up (Ext.new _ _)) H1.out HS.out.2.2 hn).mono ?_
 rintro e w1 ⟨v1, rfl, hown1, hb1⟩
 have KA := hid (box1b hb1).1
 have hz1 := (box1b hb1).2
 have HO1 := hid hown1
 have E1 := hid ((Ext.new w _).trans hb1)
 have HB1 := hid hb1
 clear hb1 hown1
 go_wp2_with fail
 have hcA : (w.alloc (.cells #[.func (.func F) #[] #[]] 50)).cell? ⟨w.heap.size, 0, none⟩ = some (.func (.func F) #[] #[]) := (blk_rules (heap_alloc_new w _)).1 0
 refine (deleteR_any (fun b => b < w.heap.size) _ _ (fun x => !may x) v1 n us l (w.alloc (.cells #[.func (.func F) #[] #[]] 50)) w1 HB1.out hn HO1.out (HU.out.mono fun _ _ h => h.keep (Ext.new w _).keep) (first1R_pred _ F may w.heap.size _ (by simp) hcA ⟨HF.out.1, fun r B m d B' m' d' wx h => HF.out.2 r B m d B' m' d' wx ((Ext.new w _).trans h)⟩)).mono ?_
 rintro e w2 ⟨B, m, d, rfl, hsl2, harr2, hb2⟩
 have HK : Hid (keepP (fun x => !may x) l = l.filter may) := hid (by unfold keepP; simp)
 rw [HK.out] at harr2
 have hm2 : (l.filter may).length = m := harr2.len
 have HA2 := hid harr2
 have HS2 := hid hsl2
 have hmn : m ≤ n := by
  have h1 := List.length_filter_le may l
  have h2 := HFl.out.1
  rw [HU.out.len] at h2
  have h3 : l.length = n := Nat.eq_of_mul_eq_mul_right (by omega) h2
  omega
 have hdm : d ≤ 9223372036854775807 := by have := hsl2.2.1; unfold maxLen at this; omega
 have hmd : m ≤ d := hsl2.1
 obtain ⟨q, hq⟩ : ∃ q, q = min m 64 := ⟨_, rfl⟩
 have hqi : min (m : Int) 64 = (q : Int) := by omega
 have hqm : q ≤ m := by omega
 have hq64 : q ≤ 64 := by omega
 have HT : Hid ((l.filter may).take 64 = (l.filter may).take q) := hid (by
  rcases Nat.le_total m 64 with h | h
  ·rw [List.take_of_length_le (by omega), List.take_of_length_le (by omega)]
  ·rw [show q = 64 by omega])
 have E2 := hid ((Ext.new w _).trans hb2)
 clear harr2 hsl2 hm2 hb2 hq
 go_wp2_with fail
 go_ret
 rw [HT.out]
 have hR : ArrR w2 7 (RsQ (fun b => b < w.heap.size) (w.alloc (.cells #[.func (.func F) #[] #[]] 50))) B q ((l.filter may).take q) := ((HA2.out.q).take hqm).arr
 exact ⟨B, q, d, rfl, ⟨by omega, HS2.out.2.1, HS2.out.2.2⟩, hR.keep (fun cs x h => h.down (fun b hb => hb) (Ext.new w _)) (Nat.le_refl _) (fun _ _ _ => rfl), E2.out⟩
attribute [local go_sem ↓] run_max2 run_min2
set_option linter.unusedVariables false
open Go.RowKit
theorem first1K_pred (S : Nat → Prop) (F : Nat) (may : Ky → Bool) (g : Nat) (w0 : World) (hg : g < w0.heap.size) (hc : w0.cell? ⟨g, 0, none⟩ = some (.func (.func F) #[] #[])) (hF : PredK S w0 F #[] may) :
  PredK S w0 176 #[.pointer (some ⟨g, 0, none⟩)] (fun x => !may x) := by
 refine ⟨Tryz.call176, fun y w he hv => ?_⟩
 show Calls Tryz.prog 176 #[.agg #[.int .i64 y.kind, .string y.name], .pointer (some ⟨g, 0, none⟩)] w _
 have d0 : w.cell? ⟨g, 0, none⟩ = some (.func (.func F) #[] #[]) := (he.cell hg).trans hc
 have hgw : g < w.heap.size := Nat.lt_of_lt_of_le hg he.size
 have HF := hid hF
 have HE := hid he
 have HV := hid hv
 clear hF he hv hc
 go_enter Tryz.func176, Tryz.ntmps176
 go_wp2_with fail
 rw [HF.out.1, Oper.upon_enter]
 refine (HF.out.2 y _ (HE.out.alloc _) HV.out).mono ?_
 rintro e w1 ⟨rfl, hb1⟩
 go_wp2_with fail
 go_ret
 exact ⟨rfl, (Ext.new _ _).trans hb1⟩
theorem firstK_any (S0 : Nat → Prop) (F : Nat) (may : Ky → Bool) (A : Option Addr) (n c : Nat) (l : List Ky) (w : World) (hsl : SlW A n c) (hn : n ≤ 1000000) (hA : ArrQ S0 w 2 KyQ A n l) (hF : PredK (fun b => b < w.heap.size) w F #[] may) :
  Calls Tryz.prog 104 #[.slice A n c, .func (.func F) #[] #[]] w (KeepsK (fun b => b < w.heap.size) w ((l.filter may).take 64)) := by
 have hmf : ∀ (fn : Fn) (first cap : Array Value) (w : World), (Instr.makeFunc fn first cap).run Tryz.prog w = .ok (.func fn first cap) w := fun _ _ _ _ => rfl
 obtain ⟨us, hfl, hU0⟩ := hA.arr.rows (by omega)
 have HFl := hid hfl
 have HU : Hid (RowsOf KyQ 2 us l) := hid (hU0)
 have H1 := hid (rowsK_one HU.out)
 have HF := hid hF
 have HS := hid hsl
 clear hfl hU0 hA hF hsl
 go_enter Tryz.func104, Tryz.ntmps104
 go_wp2_with fail
 refine (cloneK_any A n c us _ (HFl.out.up (Ext.new _ _)) H1.out HS.out.2.2 hn).mono ?_
 rintro e w1 ⟨v1, rfl, hown1, hb1⟩
 have KA := hid (box1b hb1).1
 have hz1 := (box1b hb1).2
 have HO1 := hid hown1
 have E1 := hid ((Ext.new w _).trans hb1)
 have HB1 := hid hb1
 clear hb1 hown1
 go_wp2_with fail
 have hcA : (w.alloc (.cells #[.func (.func F) #[] #[]] 117)).cell? ⟨w.heap.size, 0, none⟩ = some (.func (.func F) #[] #[]) := (blk_rules (heap_alloc_new w _)).1 0
 refine (deleteK_any (fun b => b < w.heap.size) _ _ (fun x => !may x) v1 n us l (w.alloc (.cells #[.func (.func F) #[] #[]] 117)) w1 HB1.out hn HO1.out HU.out (first1K_pred _ F may w.heap.size _ (by simp) hcA ⟨HF.out.1, fun y wx h => HF.out.2 y wx ((Ext.new w _).trans h)⟩)).mono ?_
 rintro e w2 ⟨B, m, d, rfl, hsl2, harr2, hb2⟩
 have HK : Hid (keepP (fun x => !may x) l = l.filter may) := hid (by unfold keepP; simp)
 rw [HK.out] at harr2
 have hm2 : (l.filter may).length = m := harr2.len
 have HA2 := hid harr2
 have HS2 := hid hsl2
 have hmn : m ≤ n := by
  have h1 := List.length_filter_le may l
  have h2 := HFl.out.1
  rw [HU.out.len] at h2
  have h3 : l.length = n := Nat.eq_of_mul_eq_mul_right (by omega) h2
  omega
 have hdm : d ≤ 9223372036854775807 := by have := hsl2.2.1; unfold maxLen at this; omega
 have hmd : m ≤ d := hsl2.1
 obtain ⟨q, hq⟩ : ∃ q, q = min m 64 := ⟨_, rfl⟩
 have hqi : min (m : Int) 64 = (q : Int) := by omega
 have hqm : q ≤ m := by omega
 have hq64 : q ≤ 64 := by omega
 have HT : Hid ((l.filter may).take 64 = (l.filter may).take q) := hid (by
  rcases Nat.le_total m 64 with h | h
  ·rw [List.take_of_length_le (by omega), List.take_of_length_le (by omega)]
  ·rw [show q = 64 by omega])
 have E2 := hid ((Ext.new w _).trans hb2)
 clear harr2 hsl2 hm2 hb2 hq
 go_wp2_with fail
 go_ret
 rw [HT.out]
 have hR : ArrR w2 2 KyQ B q ((l.filter may).take q) := ((HA2.out.q).take hqm).arr
 exact ⟨B, q, d, rfl, ⟨by omega, HS2.out.2.1, HS2.out.2.2⟩, hR, E2.out⟩
attribute [local go_sem ↓] run_max2 run_min2
set_option linter.unusedVariables false
open Go.RowKit
theorem sane_pred (S : Nat → Prop) (w0 : World) : PredR S w0 91 #[] okR :=
 ⟨Tryz.call91, fun r B m d B' m' d' w _ hv => recSane_any S r B B' m d m' d' w hv⟩
theorem good_pred (S : Nat → Prop) (w0 : World) : PredK S w0 85 #[] goodK :=
 ⟨Tryz.call85, fun y w _ hv => good_any y w hv⟩
theorem putAll_any (S0 : Nat → Prop) (Ab : Option Addr) (nb cb : Nat) (bs : List UInt8) (A : Option Addr) (n c : Nat) (l : List Rs) (w : World) (hB : Byts w Ab nb bs) (hcb : Ab = none → cb = 0) (hnb : nb ≤ 800000000) (hsl : SlW A n c) (hn : n ≤ 1000000) (hA : ResL S0 w A n l) :
  Calls Tryz.prog 28 #[.slice Ab nb cb, .slice A n c] w (LayPost w nb bs (putAll l)) := by
 have HB := hid hB
 have HC := hid hcb
 have HA := hid hA
 have HS := hid hsl
 clear hB hcb hA hsl
 go_enter Tryz.func28, Tryz.ntmps28
 go_wp2_with fail
 refine (firstR_any S0 _ okR A n c l _ HS.out hn HA.out (sane_pred _ _)).mono ?_
 rintro e w1 ⟨B, m, d, rfl, hsl1, harr1, hb1⟩
 have HA1 := hid harr1
 have hm : m ≤ 64 := by have := harr1.len; rw [List.length_take] at this; omega
 have E1 := hid hb1
 clear hsl1 harr1 hb1
 go_wp2_with fail
 refine ((eachR_any (T := fun _ => True) (fun b => b < w.heap.size) 24 #[] (fun _ => True) putR Ab nb cb bs B m d ((l.filter okR).take 64) _ (ArrR.up HB.out E1.out) HC.out 900000000 (by omega)
  (by have h2 := flatMap_len putR 1600 ((l.filter okR).take 64) (fun x _ => putR_len x); have h3 : ((l.filter okR).take 64).length ≤ 64 := by rw [List.length_take]; omega
      have : ((l.filter okR).take 64).length * 1600 ≤ 102400 := by omega
      omega) (by omega) (fun _ _ => trivial) ((HA1.out.q).weak (fun _ _ h => h.keep E1.out.keep) (fun _ _ _ => trivial)) (put_lay _ _)).mono fun _ _ h => LayN.of h).mono ?_
 rintro e w2 ⟨C, N, f, rfl, HN, HCc, HBc, HOc, hb2⟩
 go_wp2_with fail
 go_ret
 exact LayPost.mk HN.out rfl (own_base HOc.out E1.out.size) (E1.out.trans hb2)
theorem putKeys_any (S0 : Nat → Prop) (Ab : Option Addr) (nb cb : Nat) (bs : List UInt8) (A : Option Addr) (n c : Nat) (l : List Ky) (w : World) (hB : Byts w Ab nb bs) (hcb : Ab = none → cb = 0) (hnb : nb ≤ 800000000) (hsl : SlW A n c) (hn : n ≤ 1000000) (hA : KeyL S0 w A n l) :
  Calls Tryz.prog 30 #[.slice Ab nb cb, .slice A n c] w (LayPost w nb bs (putKeys l)) := by
 have HB := hid hB
 have HC := hid hcb
 have HA := hid hA
 have HS := hid hsl
 clear hB hcb hA hsl
 go_enter Tryz.func30, Tryz.ntmps30
 go_wp2_with fail
 refine (firstK_any S0 _ goodK A n c l _ HS.out hn HA.out (good_pred _ _)).mono ?_
 rintro e w1 ⟨B, m, d, rfl, hsl1, harr1, hb1⟩
 have HA1 := hid harr1
 have hm : m ≤ 64 := by have := harr1.len; rw [List.length_take] at this; omega
 have E1 := hid hb1
 clear hsl1 harr1 hb1
 go_wp2_with fail
 refine ((eachK_any (T := fun _ => True) (fun b => b < w.heap.size) 26 #[] (fun _ => True) putK Ab nb cb bs B m d ((l.filter goodK).take 64) _ (ArrR.up HB.out E1.out) HC.out 900000000 (by omega)
  (by have h2 := flatMap_len putK 22 ((l.filter goodK).take 64) (fun x _ => putK_len x); have h3 : ((l.filter goodK).take 64).length ≤ 64 := by rw [List.length_take]; omega
      have : ((l.filter goodK).take 64).length * 22 ≤ 1408 := by omega
      omega) (by omega) (fun _ _ => trivial) ((HA1.out.q).weak (fun _ _ h => h) (fun _ _ _ => trivial)) (putKey_lay _ _)).mono fun _ _ h => LayN.of h).mono ?_
 rintro e w2 ⟨C, N, f, rfl, HN, HCc, HBc, HOc, hb2⟩
 go_wp2_with fail
 go_ret
 exact LayPost.mk HN.out rfl (own_base HOc.out E1.out.size) (E1.out.trans hb2)
end Go.Proofs.YtfdjbnofcniodaaGreatDoor
