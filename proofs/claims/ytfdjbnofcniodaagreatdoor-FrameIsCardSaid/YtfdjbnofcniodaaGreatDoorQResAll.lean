/- What package res's within, small, may, and, shaped compute. -/
import Derived.Test.YtfdjbnofcniodaaGreatDoorQIndex
import Derived.Test.YtfdjbnofcniodaaGreatDoorQGround
import Derived.Test.YtfdjbnofcniodaaGreatDoorQNames
namespace Go.Proofs.YtfdjbnofcniodaaGreatDoor
open Lib (hid)
set_option maxHeartbeats 4000000
set_option maxRecDepth 100000
set_option linter.unusedVariables false
open Go.RowKit
theorem in_ff {n m : Int} (h : ¬ 0 ≤ n) : inB n m = false := by simp [inB, h]
theorem in_tf {n m : Int} (h : 0 ≤ n) (k : ¬ n ≤ m) : inB n m = false := by simp [inB, h, k]
theorem in_tt {n m : Int} (h : 0 ≤ n) (k : n ≤ m) : inB n m = true := by simp [inB, h, k]
theorem within_any (n m : Int) (w : World) : Calls Tryz.prog 158 #[.int .i64 n, .int .i64 m] w fun e w' => e = .returned (.bool (inB n m)) ∧ w = w' := by
 by_cases h1 : 0 ≤ n
 ·by_cases h2 : n ≤ m
  ·have H := hid (in_tt h1 h2)
   go_enter Tryz.func158, Tryz.ntmps158
   go_wp2_with fail
   go_ret
   exact ⟨ret_bool H.out.symm, rfl⟩
  ·have H := hid (in_tf h1 h2)
   go_enter Tryz.func158, Tryz.ntmps158
   go_wp2_with fail
   go_ret
   exact ⟨ret_bool H.out.symm, rfl⟩
 ·have H := hid (in_ff (m := m) h1)
  go_enter Tryz.func158, Tryz.ntmps158
  go_wp2_with fail
  go_ret
  exact ⟨ret_bool H.out.symm, rfl⟩
theorem small1_pred (S : Nat → Prop) (w0 : World) : PredW S w0 199 #[] (fun q => !wOk q) := by
 refine ⟨Tryz.call199, fun s x w _ hs => ?_⟩
 show Calls Tryz.prog 199 #[.agg #[.string s, .int .i64 x]] w _
 have H : Hid ((!(inB x 100)) = (!wOk (s, x))) := hid rfl
 go_enter Tryz.func199, Tryz.ntmps199
 go_wp2_with fail
 refine (within_any _ _ _).mono ?_
 rintro e w' ⟨rfl, rfl⟩
 go_wp2_with fail
 go_ret
 exact ⟨ret_bool H.out, Ext.new _ _⟩
theorem small_ver {r : Rs} (h : inB r.ver 2147483647 = false) : smallR r = false := by unfold smallR; simp [h]
theorem small_port {r : Rs} (h : inB r.port 65535 = false) : smallR r = false := by unfold smallR; simp [h]
theorem small_rules {r : Rs} (h : 8 < r.rules.length) : smallR r = false := by
 unfold smallR; rw [show decide (r.rules.length ≤ 8) = false from decide_eq_false (by omega)]; simp
theorem small_hosts {r : Rs} (h : 8 < r.hosts.length) : smallR r = false := by
 unfold smallR; rw [show decide (r.hosts.length ≤ 8) = false from decide_eq_false (by omega)]; simp
theorem small_host {r : Rs} {k : Nat} {x : Int} (hx : r.hosts[k]? = some x) (h : inB x 2147483647 = false) : smallR r = false := by
 unfold smallR
 have : r.hosts.all (fun h => inB h 2147483647) = false := List.all_eq_false.2 ⟨x, List.mem_of_getElem? hx, by simp [h]⟩
 rw [this]; simp
theorem small_rule {r : Rs} {k : Nat} {x : Rl} (hx : r.rules[k]? = some x) (h : smallRl x = false) : smallR r = false := by
 unfold smallR
 have : r.rules.all smallRl = false := List.all_eq_false.2 ⟨x, List.mem_of_getElem? hx, by simp [h]⟩
 rw [this]; simp
theorem small_all {r : Rs} (h1 : inB r.ver 2147483647 = true) (h2 : inB r.port 65535 = true) (h3 : r.rules.length ≤ 8) (h4 : r.hosts.length ≤ 8) (h5 : r.hosts.all (fun h => inB h 2147483647) = true) (h6 : r.rules.all smallRl = true) : smallR r = true := by
 unfold smallR; simp only [h1, h2, h5, h6, Bool.and_true, Bool.true_and]; simp [h3, h4]
theorem take_all_snoc {α : Type} {p : α → Bool} {l : List α} {k : Nat} {x : α} (hx : l[k]? = some x) (h : (l.take k).all p = true) (hp : p x = true) : (l.take (k + 1)).all p = true := by
 rw [take_snoc_of hx, List.all_append, h]; simp [hp]
theorem rl_big {x : Rl} (h : 4 < x.ws.length) : smallRl x = false := by unfold smallRl; rw [show decide (x.ws.length ≤ 4) = false from decide_eq_false (by omega)]; rfl
theorem rl_any {x : Rl} (h : x.ws.length ≤ 4) : smallRl x = !(x.ws.any (fun q => !wOk q)) := by
 unfold smallRl
 rw [decide_eq_true h, Bool.true_and, List.all_eq_not_any_not]
theorem small_any (S : Nat → Prop) (r : Rs) (A A' : Option Addr) (n c n' c' : Nat) (w : World) (hV : RsV S w r A n c A' n' c') :
  Calls Tryz.prog 160 #[rsVal r A n c A' n' c'] w fun e w' => e = .returned (.bool (smallR r)) ∧ Ext w w' := by
 have hn := hV.arr.len
 have hn' := hV.arr'.len
 have hm : n ≤ 9223372036854775807 := by have h1 := hV.sl.1; have h2 := hV.sl.2.1; unfold maxLen at h2; omega
 have hm' : n' ≤ 9223372036854775807 := by have h1 := hV.sl'.1; have h2 := hV.sl'.2.1; unfold maxLen at h2; omega
 have V1 : Hid (inB r.ver 2147483647 = false → smallR r = false) := hid small_ver
 have V2 : Hid (inB r.port 65535 = false → smallR r = false) := hid small_port
 have V3 : Hid (8 < n → smallR r = false) := hid (fun h => small_rules (by omega))
 have V4 : Hid (8 < n' → smallR r = false) := hid (fun h => small_hosts (by omega))
 have V5 : Hid (∀ (k : Nat) (x : Int), r.hosts[k]? = some x → inB x 2147483647 = false → smallR r = false) := hid fun k x hx h => small_host hx h
 have V6 : Hid (∀ (k : Nat) (x : Rl), r.rules[k]? = some x → smallRl x = false → smallR r = false) := hid fun k x hx h => small_rule hx h
 have V7 : Hid (inB r.ver 2147483647 = true → inB r.port 65535 = true → n ≤ 8 → n' ≤ 8 → r.hosts.all (fun h => inB h 2147483647) = true → r.rules.all smallRl = true → smallR r = true) := hid fun h1 h2 h3 h4 h5 h6 => small_all h1 h2 (by omega) (by omega) h5 h6
 have HV := hid hV
 clear hV
 have HN := hid hn
 have HN' := hid hn'
 clear hn hn'
 unfold rsVal
 go_enter Tryz.func160, Tryz.ntmps160
 go_wp2_with fail
 refine (within_any _ _ _).mono ?_
 rintro e w' ⟨rfl, rfl⟩
 cases h1 : inB r.ver 2147483647 with
 | false =>
  go_wp2_with fail
  go_ret
  exact ⟨ret_bool (V1.out h1).symm, Ext.new _ _⟩
 | true =>
 go_wp2_with fail
 refine (within_any _ _ _).mono ?_
 rintro e w' ⟨rfl, rfl⟩
 cases h2 : inB r.port 65535 with
 | false =>
  go_wp2_with fail
  go_ret
  exact ⟨ret_bool (V2.out h2).symm, Ext.new _ _⟩
 | true =>
 by_cases h3 : 8 < n
 ·go_wp2_with fail
  go_ret
  exact ⟨ret_bool (V3.out h3).symm, Ext.new _ _⟩
 by_cases h4 : 8 < n'
 ·go_wp2_with fail
  go_ret
  exact ⟨ret_bool (V4.out h4).symm, Ext.new _ _⟩
 have H1 := hid h1
 have H2 := hid h2
 clear h1 h2
 go_wp2_with fail
 have kA := heap_alloc_new w (.cells #[.int .i64 r.kind, .string r.name, .int .i64 r.ver, .int .i64 r.port, .string r.to, .slice A n c, .slice A' n' c'] 34)
 have EW := hid (Ext.new w (.cells #[.int .i64 r.kind, .string r.name, .int .i64 r.ver, .int .i64 r.port, .string r.to, .slice A n c, .slice A' n' c'] 34))
 have hsW : w.heap.size < (w.alloc (.cells #[.int .i64 r.kind, .string r.name, .int .i64 r.ver, .int .i64 r.port, .string r.to, .slice A n c, .slice A' n' c'] 34)).heap.size := by simp
 generalize w.alloc (.cells #[.int .i64 r.kind, .string r.name, .int .i64 r.ver, .int .i64 r.port, .string r.to, .slice A n c, .slice A' n' c'] 34) = W at kA EW hsW ⊢
 have KA := hid kA
 clear kA
 go_loop [32] (fun i => ∃ k : Nat, k ≤ n' ∧ i = .int .i64 k ∧ Hid ((r.hosts.take k).all (fun h => inB h 2147483647) = true)) (fun i => n' - (intOf i).toNat)
 case atStart => exact ⟨0, Nat.zero_le _, rfl, hid (by simp)⟩
 case round =>
  obtain ⟨k, hk, rfl, HS⟩ := hrel
  by_cases hlt : k < n'
  ·obtain ⟨b, o, x, rfl, hbB, -, hlk, hc0⟩ := HostL.at_ HV.out.arr' hlt
   have d0 : W.cell? ⟨b, o + k, none⟩ = some (.int .i64 x) := (EW.out.cell hbB).trans hc0
   have i1 : (0 : Int) ≤ (k : Int) := by omega
   have i2 : (k : Int) < (n' : Int) := by omega
   have HL := hid hlk
   clear hc0 hlk
   go_wp2_with fail
   refine (within_any _ _ _).mono ?_
   rintro e w' ⟨rfl, rfl⟩
   cases hp : inB x 2147483647 with
   | false =>
    have HR := hid (V5.out k x HL.out hp)
    go_wp2_with fail
    go_ret
    exact ⟨ret_bool HR.out.symm, EW.out⟩
   | true =>
    have HS2 := hid (take_all_snoc HL.out HS.out hp)
    go_wp2_with fail
    go_round
    case rel => exact ⟨k + 1, by omega, by go_num, HS2⟩
    case measure => simp [intOf]; omega
  ·have HA : Hid (r.hosts.all (fun h => inB h 2147483647) = true) := hid (by have := HS.out; rwa [List.take_of_length_le (by have := HN'.out; omega)] at this)
   obtain ⟨q0, -⟩ := blk_rules KA.out
   go_wp2_with fail
   clear q0
   go_loopw [43] (fun i wr => ∃ k : Nat, k ≤ n ∧ i = .int .i64 k ∧ Hid ((r.rules.take k).all smallRl = true) ∧ Hid (Ext w wr)) (fun i _ => n - (intOf i).toNat)
   case atStart => exact ⟨0, Nat.zero_le _, rfl, hid (by simp), EW⟩
   case round =>
    obtain ⟨k', hk', rfl, HS', HX⟩ := hrel
    by_cases hlt' : k' < n
    ·obtain ⟨b, o, x, B, m, d, rfl, hbB, -, hlk, hv, hc0, hc1, hc2⟩ := RlL.at_ HV.out.arr hlt'
     obtain ⟨d0, d1, d2⟩ := up3 (HX.out) hbB hc0 hc1 hc2
     have i1 : (0 : Int) ≤ (k' : Int) := by omega
     have i2 : (k' : Int) < (n : Int) := by omega
     have HL := hid hlk
     have HVx := hid hv
     have HM := hid hv.arr.len
     clear hc0 hc1 hc2 hlk hv
     by_cases h4m : 4 < m
     ·have HR := hid (V6.out k' x HL.out (rl_big (by rw [HM.out]; exact h4m)))
      go_wp2_with fail
      go_ret
      exact ⟨ret_bool HR.out.symm, HX.out.alloc _⟩
     ·have HA4 := hid (rl_any (x := x) (by rw [HM.out]; omega))
      go_wp2_with fail
      refine (containsW_any S _ _ (fun q => !wOk q) B m d x.ws _ (Nat.le_trans HVx.out.sl.1 HVx.out.sl.2.1) ((HVx.out.up (HX.out.alloc _)).arr) (small1_pred S _)).mono ?_
      rintro e w1 ⟨rfl, hb1⟩
      have HX1 := hid ((HX.out.alloc _).trans hb1)
      cases hp : x.ws.any (fun q => !wOk q) with
      | true =>
       have HR := hid (V6.out k' x HL.out (by rw [HA4.out, hp]; rfl))
       go_wp2_with fail
       go_ret
       exact ⟨ret_bool HR.out.symm, HX1.out⟩
      | false =>
       have HS2 := hid (take_all_snoc HL.out HS'.out (by rw [HA4.out, hp]; rfl))
       go_wp2_with fail
       go_roundw
       case rel => exact ⟨k' + 1, by omega, by go_num, HS2, HX1⟩
       case measure => simp [intOf]; omega
    ·have HR : Hid (smallR r = true) := hid (V7.out H1.out H2.out (by omega) (by omega) HA.out (by have := HS'.out; rwa [List.take_of_length_le (by have := HN.out; omega)] at this))
     go_wp2_with fail
     go_ret
     exact ⟨ret_bool HR.out.symm, HX.out⟩
set_option linter.unusedVariables false
open Go.RowKit
def toB (k : Int) : Bool := decide (k = 0) || decide (k = 2)
def has4 (a b c d : Bool) : Value := .agg #[.bool a, .bool b, .bool c, .bool d]
def mayV (k : Int) : Value := has4 (decide (k = 0)) (toB k) (decide (k = 1)) (decide (k = 3))
theorem may0 {k : Int} (h : k = 0) : mayV k = .agg #[.bool true, .bool true, .bool false, .bool false] := by subst h; rfl
theorem may1 {k : Int} (h : k = 1) : mayV k = .agg #[.bool false, .bool false, .bool true, .bool false] := by subst h; rfl
theorem may2 {k : Int} (h : k = 2) : mayV k = .agg #[.bool false, .bool true, .bool false, .bool false] := by subst h; rfl
theorem may3 {k : Int} (h : k = 3) : mayV k = .agg #[.bool false, .bool false, .bool false, .bool true] := by subst h; rfl
theorem may4 {k : Int} (h0 : k ≠ 0) (h1 : k ≠ 1) (h2 : k ≠ 2) (h3 : k ≠ 3) : mayV k = .agg #[.bool false, .bool false, .bool false, .bool false] := by simp [mayV, has4, toB, h0, h1, h2, h3]
theorem may_any (k : Int) (w : World) : Calls Tryz.prog 201 #[.int .i64 k] w fun e w' => e = .returned (mayV k) ∧ Ext w w' := by
 by_cases h0 : k = 0
 ·rw [may0 h0]
  subst h0
  go_enter Tryz.func201, Tryz.ntmps201
  go_wp2_with fail
  exact bodyPost_ret (v := .agg #[.bool true, .bool true, .bool false, .bool false]) (by simp [results, Tryz.results201, go_sem]) rfl ⟨rfl, Ext.new _ _⟩
 by_cases h2 : k = 2
 ·rw [may2 h2]
  subst h2
  go_enter Tryz.func201, Tryz.ntmps201
  go_wp2_with fail
  exact bodyPost_ret (v := .agg #[.bool false, .bool true, .bool false, .bool false]) (by simp [results, Tryz.results201, go_sem]) rfl ⟨rfl, Ext.new _ _⟩
 by_cases h1 : k = 1
 ·rw [may1 h1]
  subst h1
  go_enter Tryz.func201, Tryz.ntmps201
  go_wp2_with fail
  exact bodyPost_ret (v := .agg #[.bool false, .bool false, .bool true, .bool false]) (by simp [results, Tryz.results201, go_sem]) rfl ⟨rfl, Ext.new _ _⟩
 by_cases h3 : k = 3
 ·rw [may3 h3]
  subst h3
  go_enter Tryz.func201, Tryz.ntmps201
  go_wp2_with fail
  exact bodyPost_ret (v := .agg #[.bool false, .bool false, .bool false, .bool true]) (by simp [results, Tryz.results201, go_sem]) rfl ⟨rfl, Ext.new _ _⟩
 ·rw [may4 h0 h1 h2 h3]
  have q0 : (k == 0) = false := by simpa using h0
  have q1 : (k == 1) = false := by simpa using h1
  have q2 : (k == 2) = false := by simpa using h2
  have q3 : (k == 3) = false := by simpa using h3
  clear h0 h1 h2 h3
  go_enter Tryz.func201, Tryz.ntmps201
  go_wp2_with fail
  exact bodyPost_ret (v := .agg #[.bool false, .bool false, .bool false, .bool false]) (by simp [results, Tryz.results201, go_sem]) rfl ⟨rfl, Ext.new _ _⟩
def andB (a b : Bool) : Bool := a && b
theorem has4_agg (a b c d : Bool) : has4 a b c d = .agg #[.bool a, .bool b, .bool c, .bool d] := rfl
theorem and_any (a b c d a' b' c' d' : Bool) (w : World) : Calls Tryz.prog 200 #[has4 a b c d, has4 a' b' c' d'] w fun e w' => e = .returned (has4 (andB a a') (andB b b') (andB c c') (andB d d')) ∧ Ext w w' := by
 unfold has4
 cases a <;> cases b <;> cases c <;> cases d
 all_goals
  go_enter Tryz.func200, Tryz.ntmps200
  go_wp2_with fail
  refine bodyPost_ret (v := .agg #[.bool (andB _ a'), .bool (andB _ b'), .bool (andB _ c'), .bool (andB _ d')]) (by simp [results, Tryz.results200, go_sem, andB] <;> rfl) rfl ⟨rfl, ((Ext.new _ _).alloc _).alloc _⟩
set_option linter.unusedVariables false
open Go.RowKit
theorem if4 {a b c d : Prop} {ia : Decidable a} {ib : Decidable b} {ic : Decidable c} {id' : Decidable d} {w : World} :
  (if a then if b then if c then if d then Result.ok (Next.value (Value.bool true)) w else Result.ok (Next.value (Value.bool false)) w else Result.ok (Next.value (Value.bool false)) w else Result.ok (Next.value (Value.bool false)) w else Result.ok (Next.value (Value.bool false)) w)
   = Result.ok (Next.value (Value.bool (decide a && decide b && decide c && decide d))) w := by
 by_cases a <;> by_cases b <;> by_cases c <;> by_cases d <;> simp [*]
theorem shaped_eq (r : Rs) : shapedR r = (decide (andB (r.port != 0) (decide (r.kind = 0)) = (r.port != 0)) && decide (andB (!r.to.toList.isEmpty) (toB r.kind) = !r.to.toList.isEmpty) && decide (andB (decide (0 < r.rules.length)) (decide (r.kind = 1)) = decide (0 < r.rules.length)) && decide (andB (decide (0 < r.hosts.length)) (decide (r.kind = 3)) = decide (0 < r.hosts.length))) := by
 have e1 : (r.port != 0) = !decide (r.port = 0) := by rw [Bool.eq_iff_iff]; simp
 have e2 : (!r.to.toList.isEmpty) = !decide (r.to.size = 0) := by
  rw [tx_toList, ← tx_len]; cases tx r.to <;> simp
 have e3 : decide (0 < r.rules.length) = !decide (r.rules.length = 0) := by rw [Bool.eq_iff_iff]; simp [List.length_pos_iff]
 have e4 : decide (0 < r.hosts.length) = !decide (r.hosts.length = 0) := by rw [Bool.eq_iff_iff]; simp [List.length_pos_iff]
 rw [e1, e2, e3, e4]
 unfold shapedR noPort noTo noRules noHosts andB toB
 cases decide (r.port = 0) <;> cases decide (r.to.size = 0) <;> cases decide (r.rules.length = 0) <;> cases decide (r.hosts.length = 0) <;> simp
theorem shaped_any (S : Nat → Prop) (r : Rs) (A A' : Option Addr) (n c n' c' : Nat) (w : World) (hV : RsV S w r A n c A' n' c') :
  Calls Tryz.prog 161 #[rsVal r A n c A' n' c'] w fun e w' => e = .returned (.bool (shapedR r)) ∧ Ext w w' := by
 have hn := hV.arr.len
 have hn' := hV.arr'.len
 have HN := hid hn
 have HN' := hid hn'
 clear hn hn'
 unfold rsVal
 go_enter Tryz.func161, Tryz.ntmps161
 go_wp2_with fail
 obtain ⟨p, hp⟩ : ∃ p, p = (r.port != 0) := ⟨_, rfl⟩
 obtain ⟨t, ht⟩ : ∃ t, t = !r.to.toList.isEmpty := ⟨_, rfl⟩
 obtain ⟨l, hl⟩ : ∃ l, l = decide (0 < n) := ⟨_, rfl⟩
 obtain ⟨h, hh⟩ : ∃ h, h = decide (0 < n') := ⟨_, rfl⟩
 rw [← hp, ← ht, ← hl, ← hh]
 have HP := hid hp
 have HT := hid ht
 have HL := hid hl
 have HH := hid hh
 clear hp ht hl hh
 obtain ⟨kA, kB⟩ := two_blocks w (.cells #[.int .i64 r.kind, .string r.name, .int .i64 r.ver, .int .i64 r.port, .string r.to, .slice A n c, .slice A' n' c'] 34) (.cells #[.bool p, .bool t, .bool l, .bool h] 197)
 have EW := hid (((Ext.refl w).alloc (.cells #[.int .i64 r.kind, .string r.name, .int .i64 r.ver, .int .i64 r.port, .string r.to, .slice A n c, .slice A' n' c'] 34)).alloc (.cells #[.bool p, .bool t, .bool l, .bool h] 197))
 have hsW : w.heap.size + 1 < ((w.alloc (.cells #[.int .i64 r.kind, .string r.name, .int .i64 r.ver, .int .i64 r.port, .string r.to, .slice A n c, .slice A' n' c'] 34)).alloc (.cells #[.bool p, .bool t, .bool l, .bool h] 197)).heap.size := by simp
 generalize (w.alloc (.cells #[.int .i64 r.kind, .string r.name, .int .i64 r.ver, .int .i64 r.port, .string r.to, .slice A n c, .slice A' n' c'] 34)).alloc (.cells #[.bool p, .bool t, .bool l, .bool h] 197) = W at kA kB EW hsW ⊢
 have t0 : ∀ w', Ext W.drew w' → w'.cell? ⟨w.heap.size, 0, none⟩ = some (.int .i64 r.kind) := fun w' hx => (blk_rules ((((Ext.refl W).drew.trans hx).block (by omega)).trans kA)).1 0
 have t1 : ∀ w', Ext W.drew w' → w'.cell? ⟨w.heap.size + 1, 0, none⟩ = some (.bool p) := fun w' hx => (blk_rules ((((Ext.refl W).drew.trans hx).block hsW).trans kB)).1 0
 have t2 : ∀ w', Ext W.drew w' → w'.cell? ⟨w.heap.size + 1, 1, none⟩ = some (.bool t) := fun w' hx => (blk_rules ((((Ext.refl W).drew.trans hx).block hsW).trans kB)).1 1
 have t3 : ∀ w', Ext W.drew w' → w'.cell? ⟨w.heap.size + 1, 2, none⟩ = some (.bool l) := fun w' hx => (blk_rules ((((Ext.refl W).drew.trans hx).block hsW).trans kB)).1 2
 have t4 : ∀ w', Ext W.drew w' → w'.cell? ⟨w.heap.size + 1, 3, none⟩ = some (.bool h) := fun w' hx => (blk_rules ((((Ext.refl W).drew.trans hx).block hsW).trans kB)).1 3
 clear kA kB
 have hSw : Ext W.drew W.drew := Ext.refl _
 refine wpS_begin (Ext W.drew) (by kernel_rfl) ?_
 refine wpS_tk 0 ?_ hSw rfl (fun w' hin => ?_) ?_; rotate_left
 ·go_simp <;> with_reducible rfl
 try simp only [lyr]
 refine wpS_tk 1 ?_ hSw rfl (fun w' hin => ?_) ?_; rotate_left
 ·go_simp <;> with_reducible rfl
 try simp only [lyr]
 refine wpS_tk 2 ?_ hSw rfl (fun w' hin => ?_) ?_; rotate_left
 ·go_simp <;> with_reducible rfl
 try simp only [lyr]
 refine wpS_tk 5 ?_ hSw rfl (fun w' hin => ?_) ?_; rotate_left
 ·go_simp <;> with_reducible rfl
 try simp only [lyr]
 refine wpS_on 3 rfl (fun K hK => ?_)
 go_simp
 refine (may_any _ _).mono ?_
 rintro e w1 ⟨rfl, hb1⟩
 simp only []
 refine hK.out _ _ (Ext W.drew) (fun _ h => h) (hb1) (fun hSw => ?_)
 clear hK K
 try simp only [lyr]
 refine wpS_on 4 rfl (fun K hK => ?_)
 go_simp
 refine (and_any p t l h _ _ _ _ _).mono ?_
 rintro e w2 ⟨rfl, hb2⟩
 simp only [has4_agg]
 refine hK.out _ _ (Ext W.drew) (fun _ h => h) (hb1.trans hb2) (fun hSw => ?_)
 clear hK K
 try simp only [lyr]
 refine wpS_tk 6 ?_ hSw rfl (fun w' hin => ?_) ?_; rotate_left
 ·(try simp only [] at hin); go_simp; exact if4
 try simp only [lyr]
 refine wpS_tk 7 ?_ hSw rfl (fun w' hin => ?_) ?_; rotate_left
 ·go_simp <;> with_reducible rfl
 try simp only [lyr]
 refine wpS_done (by kernel_rfl) ?_
 have HR : Hid (shapedR r = (decide (andB p (decide (r.kind = 0)) = p) && decide (andB t (toB r.kind) = t) && decide (andB l (decide (r.kind = 1)) = l) && decide (andB h (decide (r.kind = 3)) = h))) := hid (by
  rw [HP.out, HT.out, HL.out, HH.out, ← HN.out, ← HN'.out]
  exact shaped_eq r)
 clear t0 t1 t2 t3 t4 hSw
 go_wp2_with fail
 go_ret
 exact ⟨ret_bool HR.out.symm, EW.out.trans ((Ext.refl _).drew.trans (hb1.trans hb2))⟩
set_option linter.unusedVariables false
open Go.RowKit
theorem rule1_pred (S : Nat → Prop) (w0 : World) : PredW S w0 227 #[] (fun q => !wNm q) := by
 refine ⟨Tryz.call227, fun s x w _ hs => ?_⟩
 show Calls Tryz.prog 227 #[.agg #[.string s, .int .i64 x]] w _
 have H : Hid ((!(saneN (tx s))) = (!wNm (s, x))) := hid rfl
 go_enter Tryz.func227, Tryz.ntmps227
 go_wp2_with fail
 refine (sane_any _ _ hs).mono ?_
 rintro e w' ⟨rfl, hb⟩
 go_wp2_with fail
 go_ret
 exact ⟨ret_bool H.out, (Ext.new _ _).trans hb⟩
theorem nm_host {x : Rl} (h : hostB (tx x.host) = false) : nmRl x = false := by unfold nmRl; rw [h]; rfl
theorem nm_path {x : Rl} (h : pathB (tx x.pre) = false) : nmRl x = false := by unfold nmRl; rw [h]; simp
theorem nm_any {x : Rl} (h1 : hostB (tx x.host) = true) (h2 : pathB (tx x.pre) = true) : nmRl x = !(x.ws.any (fun q => !wNm q)) := by
 unfold nmRl; rw [h1, h2, Bool.true_and, Bool.true_and, List.all_eq_not_any_not]
theorem resRule_any (S : Nat → Prop) (x : Rl) (A : Option Addr) (n c : Nat) (w : World) (hV : RlV S w x A n c) :
  Calls Tryz.prog 204 #[.agg #[.string x.host, .string x.pre, .slice A n c]] w fun e w' => e = .returned (.bool (nmRl x)) ∧ Ext w w' := by
 have V1 : Hid (hostB (tx x.host) = false → nmRl x = false) := hid nm_host
 have V2 : Hid (pathB (tx x.pre) = false → nmRl x = false) := hid nm_path
 have V3 : Hid (hostB (tx x.host) = true → pathB (tx x.pre) = true → nmRl x = !(x.ws.any (fun q => !wNm q))) := hid nm_any
 have HV := hid hV
 clear hV
 go_enter Tryz.func204, Tryz.ntmps204
 go_wp2_with fail
 refine (host_any _ _ HV.out.h).mono ?_
 rintro e w1 ⟨rfl, hb1⟩
 have E1 := hid ((Ext.new w _).trans hb1)
 cases h1 : hostB (tx x.host) with
 | false =>
  go_wp2_with fail
  go_ret
  exact ⟨ret_bool (V1.out h1).symm, E1.out⟩
 | true =>
  obtain ⟨q0, q1, q2⟩ := box1 hb1
  have KB := hid (box1b hb1).1
  clear hb1
  go_wp2_with fail
  refine (path_any _ _ HV.out.p).mono ?_
  rintro e w2 ⟨rfl, hb2⟩
  clear q0 q1
  cases h2 : pathB (tx x.pre) with
  | false =>
   go_wp2_with fail
   go_ret
   exact ⟨ret_bool (V2.out h2).symm, E1.out.trans hb2⟩
  | true =>
   have H3 := hid (V3.out h1 h2)
   have E2 := hid (E1.out.trans hb2)
   obtain ⟨q0, -⟩ := blk_rules ((hb2.block q2).trans KB.out)
   clear hb2
   go_wp2_with fail
   refine (containsW_any S _ _ (fun q => !wNm q) A n c x.ws _ (Nat.le_trans HV.out.sl.1 HV.out.sl.2.1) ((HV.out.up E2.out).arr) (rule1_pred S _)).mono ?_
   rintro e w3 ⟨rfl, hb3⟩
   go_wp2_with fail
   go_ret
   exact ⟨ret_bool H3.out.symm, E2.out.trans hb3⟩
theorem named1_pred (S : Nat → Prop) (w0 : World) : PredL S w0 203 #[] (fun x => !nmRl x) := by
 refine ⟨Tryz.call203, fun x B m d w _ hv => ?_⟩
 show Calls Tryz.prog 203 #[.agg #[.string x.host, .string x.pre, .slice B m d]] w _
 go_enter Tryz.func203, Tryz.ntmps203
 go_wp2_with fail
 refine (resRule_any S x B m d _ (hv.up (Ext.new w _))).mono ?_
 rintro e w' ⟨rfl, hb⟩
 go_wp2_with fail
 go_ret
 exact ⟨rfl, (Ext.new _ _).trans hb⟩
theorem weighs1_pred (S : Nat → Prop) (w0 : World) : PredW S w0 228 #[] (fun q => decide (0 < q.2)) := by
 refine ⟨Tryz.call228, fun s x w _ hs => ?_⟩
 show Calls Tryz.prog 228 #[.agg #[.string s, .int .i64 x]] w _
 go_enter Tryz.func228, Tryz.ntmps228
 go_wp2_with fail
 go_ret
 exact ⟨rfl, Ext.new _ _⟩
theorem weighs_any (S : Nat → Prop) (x : Rl) (A : Option Addr) (n c : Nat) (w : World) (hV : RlV S w x A n c) :
  Calls Tryz.prog 206 #[.agg #[.string x.host, .string x.pre, .slice A n c]] w fun e w' => e = .returned (.bool (weighsB x)) ∧ Ext w w' := by
 have HV := hid hV
 clear hV
 go_enter Tryz.func206, Tryz.ntmps206
 go_wp2_with fail
 refine (containsW_any S _ _ (fun q => decide (0 < q.2)) A n c x.ws _ (Nat.le_trans HV.out.sl.1 HV.out.sl.2.1) ((HV.out.up (Ext.new w _)).arr) (weighs1_pred S _)).mono ?_
 rintro e w1 ⟨rfl, hb1⟩
 go_wp2_with fail
 go_ret
 exact ⟨rfl, (Ext.new w _).trans hb1⟩
set_option linter.unusedVariables false
open Go.RowKit
theorem hp_host {x y : Rl} (h : decide (tx x.host = tx y.host) = false) : sameHP x y = false := by unfold sameHP; rw [h]; rfl
theorem hp_pre {x y : Rl} (h : decide (tx x.host = tx y.host) = true) : sameHP x y = decide (tx x.pre = tx y.pre) := by unfold sameHP; rw [h]; rfl
theorem single1_pred (S : Nat → Prop) (x : Rl) (g : Nat) (w0 : World) (hg : g < w0.heap.size) (hc0 : w0.cell? ⟨g, 0, none⟩ = some (.string x.host)) (hc1 : w0.cell? ⟨g, 1, none⟩ = some (.string x.pre)) :
  PredL S w0 205 #[.pointer (some ⟨g, 0, none⟩)] (fun y => sameHP x y) := by
 refine ⟨Tryz.call205, fun y B m d w he hv => ?_⟩
 show Calls Tryz.prog 205 #[.agg #[.string y.host, .string y.pre, .slice B m d], .pointer (some ⟨g, 0, none⟩)] w _
 obtain ⟨d0, d1⟩ := up2 (he) hg hc0 hc1
 have hgw : g < w.heap.size := Nat.lt_of_lt_of_le hg he.size
 have T1 : Hid (decide (tx x.host = tx y.host) = false → sameHP x y = false) := hid hp_host
 have T2 : Hid (decide (tx x.host = tx y.host) = true → sameHP x y = decide (tx x.pre = tx y.pre)) := hid hp_pre
 have Q1 := hid (tx_beq x.host y.host)
 have Q2 := hid (tx_beq x.pre y.pre)
 clear hc0 hc1 hg he hv
 cases h1 : decide (tx x.host = tx y.host) with
 | false =>
  have q1 : (x.host.toList == y.host.toList) = false := by rw [Q1.out, h1]
  have HR := hid (T1.out h1)
  clear h1
  go_enter Tryz.func205, Tryz.ntmps205
  go_wp2_with fail
  go_ret
  exact ⟨ret_bool HR.out.symm, Ext.new _ _⟩
 | true =>
  have q1 : (x.host.toList == y.host.toList) = true := by rw [Q1.out, h1]
  have HR := hid (T2.out h1)
  clear h1
  go_enter Tryz.func205, Tryz.ntmps205
  go_wp2_with fail
  go_ret
  exact ⟨ret_bool (by rw [HR.out]; exact Q2.out), Ext.new _ _⟩
theorem contains_int (l : List Int) (x : Int) : decide (0 ≤ idxB (fun y => decide (x = y)) l) = l.contains x := by
 rw [idx_sign, Bool.eq_iff_iff, List.any_eq_true, List.contains_iff_mem]
 constructor
 ·rintro ⟨y, hy, h⟩; rw [of_decide_eq_true h]; exact hy
 ·intro h; exact ⟨x, h, by simp⟩
theorem indexI_any (S : Nat → Prop) (A : Option Addr) (n c : Nat) (l : List Int) (x : Int) (w : World) (hm : n ≤ maxLen) (hA : ArrQ S w 1 (IntR .i64) A n l) :
  Calls Tryz.prog 229 #[.slice A n c, .int .i64 x] w fun e w' => e = .returned (.int .i64 (idxB (fun y => decide (x = y)) l)) ∧ w = w' := by
 unfold maxLen at hm
 have HA := hid hA
 clear hA
 go_enter Tryz.func229, Tryz.ntmps229
 go_wp2_with fail
 go_loop [8] (fun i => ∃ k : Nat, k ≤ n ∧ i = .int .i64 k ∧ Hid ((l.take k).any (fun y => decide (x = y)) = false)) (fun i => n - (intOf i).toNat)
 case atStart => exact ⟨0, Nat.zero_le _, rfl, hid (by simp)⟩
 case round =>
  obtain ⟨k, hk, rfl, HS⟩ := hrel
  by_cases hlt : k < n
  ·obtain ⟨b, o, y, rfl, hbB, -, hlk, hc0⟩ := HostL.at_ HA.out hlt
   have i1 : (0 : Int) ≤ (k : Int) := by omega
   have i2 : (k : Int) < (n : Int) := by omega
   have HL := hid hlk
   clear hlk
   by_cases hp : x = y
   ·have HR := hid (idx_found (p := fun y => decide (x = y)) HL.out (decide_eq_true hp) HS.out)
    have hq : (x == y) = true := by simpa using hp
    have hq' : (y == x) = true := by simpa using hp.symm
    clear hp
    go_wp2_with fail
    go_ret
    exact ⟨ret_int HR.out.symm, rfl⟩
   ·have HS2 := hid (take_any_snoc (p := fun y => decide (x = y)) HL.out HS.out (decide_eq_false hp))
    have hq : (x == y) = false := by simpa using hp
    clear hp
    go_wp2_with fail
    go_round
    case rel => exact ⟨k + 1, by omega, by go_num, HS2⟩
    case measure => simp [intOf]; omega
  ·have HR : Hid (idxB (fun y => decide (x = y)) l = -1) := hid (idx_none (by have := HS.out; rwa [List.take_of_length_le (by have := HA.out.len; omega)] at this))
   go_wp2_with fail
   go_ret
   exact ⟨ret_int HR.out.symm, rfl⟩
theorem containsI_any (S : Nat → Prop) (A : Option Addr) (n c : Nat) (l : List Int) (x : Int) (w : World) (hm : n ≤ maxLen) (hA : ArrQ S w 1 (IntR .i64) A n l) :
  Calls Tryz.prog 207 #[.slice A n c, .int .i64 x] w fun e w' => e = .returned (.bool (l.contains x)) ∧ w = w' := by
 have HR := hid (contains_int l x)
 go_enter Tryz.func207, Tryz.ntmps207
 go_wp2_with fail
 refine (indexI_any S A n c l x _ hm hA).mono ?_
 rintro e w1 ⟨rfl, rfl⟩
 go_wp2_with fail
 go_ret
 exact ⟨ret_bool HR.out, rfl⟩
theorem single_rule {r : Rs} {k : Nat} (h : goFrom rlNew (r.rules.take k) (r.rules.drop k) = goFrom rlNew [] r.rules) {x : Rl} (hx : r.rules[k]? = some x) (hb : rlNew (r.rules.take k) x = false) : singleR r = false := by
 unfold singleR; rw [← h, goFrom_step _ hx, hb]; rfl
theorem single_host {r : Rs} {k : Nat} (h : goFrom hostNew (r.hosts.take k) (r.hosts.drop k) = goFrom hostNew [] r.hosts) {x : Int} (hx : r.hosts[k]? = some x) (hb : hostNew (r.hosts.take k) x = false) : singleR r = false := by
 unfold singleR; rw [← h, goFrom_step _ hx, hb]; simp
theorem goFrom_next {α : Type} {p : List α → α → Bool} {l : List α} {k : Nat} (h : goFrom p (l.take k) (l.drop k) = goFrom p [] l) {x : α} (hx : l[k]? = some x) (hb : p (l.take k) x = true) : goFrom p (l.take (k + 1)) (l.drop (k + 1)) = goFrom p [] l := by
 rw [← h, goFrom_step _ hx, hb, Bool.true_and]
theorem single_any (S : Nat → Prop) (r : Rs) (A A' : Option Addr) (n c n' c' : Nat) (w : World) (hV : RsV S w r A n c A' n' c') :
  Calls Tryz.prog 163 #[rsVal r A n c A' n' c'] w fun e w' => e = .returned (.bool (singleR r)) ∧ Ext w w' := by
 have hn := hV.arr.len
 have hn' := hV.arr'.len
 have hm : n ≤ 9223372036854775807 := by have h1 := hV.sl.1; have h2 := hV.sl.2.1; unfold maxLen at h2; omega
 have hm' : n' ≤ 9223372036854775807 := by have h1 := hV.sl'.1; have h2 := hV.sl'.2.1; unfold maxLen at h2; omega
 have hnc := hV.sl.1
 have hnc' := hV.sl'.1
 have hcm : c ≤ 9223372036854775807 := by have h2 := hV.sl.2.1; unfold maxLen at h2; omega
 have hcm' : c' ≤ 9223372036854775807 := by have h2 := hV.sl'.2.1; unfold maxLen at h2; omega
 have HV := hid hV
 clear hV
 have HN := hid hn
 have HN' := hid hn'
 clear hn hn'
 have hmf : ∀ (fn : Fn) (first cap : Array Value) (w : World), (Instr.makeFunc fn first cap).run Tryz.prog w = .ok (.func fn first cap) w := fun _ _ _ _ => rfl
 unfold rsVal
 go_enter Tryz.func163, Tryz.ntmps163
 go_wp2_with fail
 have kA := heap_alloc_new w (.cells #[.int .i64 r.kind, .string r.name, .int .i64 r.ver, .int .i64 r.port, .string r.to, .slice A n c, .slice A' n' c'] 34)
 have EW := hid (Ext.new w (.cells #[.int .i64 r.kind, .string r.name, .int .i64 r.ver, .int .i64 r.port, .string r.to, .slice A n c, .slice A' n' c'] 34))
 have hsW : w.heap.size < (w.alloc (.cells #[.int .i64 r.kind, .string r.name, .int .i64 r.ver, .int .i64 r.port, .string r.to, .slice A n c, .slice A' n' c'] 34)).heap.size := by simp
 generalize w.alloc (.cells #[.int .i64 r.kind, .string r.name, .int .i64 r.ver, .int .i64 r.port, .string r.to, .slice A n c, .slice A' n' c'] 34) = W at kA EW hsW ⊢
 have KA := hid kA
 clear kA
 go_loopw [11] (fun i wr => ∃ k : Nat, k ≤ n ∧ i = .int .i64 k ∧ Hid (goFrom rlNew (r.rules.take k) (r.rules.drop k) = goFrom rlNew [] r.rules) ∧ Hid (Ext W wr)) (fun i _ => n - (intOf i).toNat)
 case atStart => exact ⟨0, Nat.zero_le _, rfl, hid (by simp), hid (Ext.refl _)⟩
 case round =>
  obtain ⟨k, hk, rfl, HS, HX⟩ := hrel
  have hsr : w.heap.size < wr.heap.size := Nat.lt_of_lt_of_le hsW HX.out.size
  have KR := hid ((HX.out.block hsW).trans KA.out)
  by_cases hlt : k < n
  ·obtain ⟨b, o, x, B, m, d, rfl, hbB, -, hlk, hv, hc0, hc1, hc2⟩ := RlL.at_ HV.out.arr hlt
   have EX := hid (EW.out.trans HX.out)
   obtain ⟨d0, d1, d2⟩ := up3 (EX.out) hbB hc0 hc1 hc2
   have i1 : (0 : Int) ≤ (k : Int) := by omega
   have i2 : (k : Int) < (n : Int) := by omega
   have i3 : (k : Int) ≤ (c : Int) := by omega
   have HL := hid hlk
   have HVx := hid hv
   clear hc0 hc1 hc2 hlk hv
   go_wp2_with fail
   refine (weighs_any S x B m d _ (HVx.out.up (EX.out.alloc _))).mono ?_
   rintro e w1 ⟨rfl, hb1⟩
   obtain ⟨q0, q1, q2⟩ := box1 hb1
   have EX1 := hid ((EX.out.alloc _).trans hb1)
   have HX1 := hid ((HX.out.alloc _).trans hb1)
   have KR1 := hid ((((Ext.new wr _).trans hb1).block hsr).trans KR.out)
   obtain ⟨p0, -⟩ := blk_rules KR1.out
   clear hb1
   cases hw : weighsB x with
   | false =>
    have HR : Hid (singleR r = false) := hid (single_rule HS.out HL.out (by unfold rlNew; rw [hw]; rfl))
    go_wp2_with fail
    go_ret
    exact ⟨ret_bool HR.out.symm, EX1.out⟩
   | true =>
    have hnew : Hid (rlNew (r.rules.take k) x = !((r.rules.take k).any (fun y => sameHP x y))) := hid (by unfold rlNew; rw [hw, Bool.true_and])
    go_wp2_with fail
    refine (containsL_any S _ _ (fun y => sameHP x y) (some ⟨b, o, none⟩) k c (r.rules.take k) _ (by unfold maxLen; omega) (((HV.out.up EX1.out).arr).take hk) (single1_pred S x wr.heap.size _ q2 (q0 0) (q0 1))).mono ?_
    rintro e w2 ⟨rfl, hb2⟩
    cases ha : (r.rules.take k).any (fun y => sameHP x y) with
    | true =>
     have HR : Hid (singleR r = false) := hid (single_rule HS.out HL.out (by rw [hnew.out, ha]; rfl))
     go_wp2_with fail
     go_ret
     exact ⟨ret_bool HR.out.symm, EX1.out.trans hb2⟩
    | false =>
     have HS2 := hid (goFrom_next HS.out HL.out (by rw [hnew.out, ha]; rfl))
     have HX2 := hid (HX1.out.trans hb2)
     go_wp2_with fail
     go_roundw
     case rel => exact ⟨k + 1, by omega, by go_num, HS2, HX2⟩
     case measure => simp [intOf]; omega
  ·have HA : Hid (goFrom rlNew [] r.rules = true) := hid (by rw [← HS.out]; exact goFrom_end _ (by have := HN.out; omega))
   have EX := hid (EW.out.trans HX.out)
   obtain ⟨p0, -⟩ := blk_rules KR.out
   go_wp2_with fail
   go_loop [32] (fun i => ∃ k : Nat, k ≤ n' ∧ i = .int .i64 k ∧ Hid (goFrom hostNew (r.hosts.take k) (r.hosts.drop k) = goFrom hostNew [] r.hosts)) (fun i => n' - (intOf i).toNat)
   case atStart => exact ⟨0, Nat.zero_le _, rfl, hid (by simp)⟩
   case round =>
    obtain ⟨k', hk', rfl, HS'⟩ := hrel
    by_cases hlt' : k' < n'
    ·obtain ⟨b, o, x, rfl, hbB, -, hlk, hc0⟩ := HostL.at_ HV.out.arr' hlt'
     have d0 : wr.cell? ⟨b, o + k', none⟩ = some (.int .i64 x) := (EX.out.cell hbB).trans hc0
     have i1 : (0 : Int) ≤ (k' : Int) := by omega
     have i2 : (k' : Int) < (n' : Int) := by omega
     have i3 : (k' : Int) ≤ (c' : Int) := by omega
     have HL := hid hlk
     clear hc0 hlk
     go_wp2_with fail
     refine (containsI_any S (some ⟨b, o, none⟩) k' c' (r.hosts.take k') x _ (by unfold maxLen; omega) (((HV.out.up EX.out).arr').take hk')).mono ?_
     rintro e w2 ⟨rfl, rfl⟩
     cases ha : (r.hosts.take k').contains x with
     | true =>
      have HR : Hid (singleR r = false) := hid (single_host HS'.out HL.out (by unfold hostNew; rw [ha]; rfl))
      go_wp2_with fail
      go_ret
      exact ⟨ret_bool HR.out.symm, EX.out⟩
     | false =>
      have HS2 := hid (goFrom_next HS'.out HL.out (by unfold hostNew; rw [ha]; rfl))
      go_wp2_with fail
      go_round
      case rel => exact ⟨k' + 1, by omega, by go_num, HS2⟩
      case measure => simp [intOf]; omega
    ·have HR : Hid (singleR r = true) := hid (by unfold singleR; rw [HA.out, ← HS'.out, goFrom_end _ (by have := HN'.out; omega)]; rfl)
     go_wp2_with fail
     go_ret
     exact ⟨ret_bool HR.out.symm, EX.out⟩
set_option linter.unusedVariables false
open Go.RowKit
theorem mayV_agg (k : Int) : mayV k = .agg #[.bool (decide (k = 0)), .bool (toB k), .bool (decide (k = 1)), .bool (decide (k = 3))] := rfl
theorem nmd_to {r : Rs} (h : toB r.kind = true) (h2 : saneN (tx r.to) = false) : namedR r = false := by unfold namedR; unfold toB at h; rw [h, h2]; rfl
theorem nmd_ok {r : Rs} (h : toB r.kind = false ∨ saneN (tx r.to) = true) : namedR r = !(r.rules.any (fun x => !nmRl x)) := by
 unfold namedR
 rw [List.all_eq_not_any_not]
 rcases h with h | h
 ·unfold toB at h; rw [h]; simp
 ·rw [h]; simp
theorem named_any (S : Nat → Prop) (r : Rs) (A A' : Option Addr) (n c n' c' : Nat) (w : World) (hV : RsV S w r A n c A' n' c') :
  Calls Tryz.prog 162 #[rsVal r A n c A' n' c'] w fun e w' => e = .returned (.bool (namedR r)) ∧ Ext w w' := by
 have T1 : Hid (toB r.kind = true → saneN (tx r.to) = false → namedR r = false) := hid nmd_to
 have T2 : Hid (toB r.kind = false ∨ saneN (tx r.to) = true → namedR r = !(r.rules.any (fun x => !nmRl x))) := hid nmd_ok
 have HV := hid hV
 clear hV
 have hfl : ∀ (a b c d : Bool) (w : World), (Instr.field 197 (.agg #[.bool a, .bool b, .bool c, .bool d]) 1).run Tryz.prog w = .ok (.bool b) w := fun a b c d w => rfl
 unfold rsVal
 go_enter Tryz.func162, Tryz.ntmps162
 go_wp2_with fail
 refine (may_any _ _).mono ?_
 rintro e w1 ⟨rfl, hb1⟩
 obtain ⟨q0, q1, q2⟩ := box1 hb1
 have KB := hid (box1b hb1).1
 have E1 := hid ((Ext.new w _).trans hb1)
 clear hb1
 rw [mayV_agg]
 cases hk : toB r.kind with
 | false =>
  have HR := hid (T2.out (.inl hk))
  go_wp2_with fail
  refine (containsL_any S _ _ (fun x => !nmRl x) A n c r.rules _ (Nat.le_trans HV.out.sl.1 HV.out.sl.2.1) ((HV.out.up E1.out).arr) (named1_pred S _)).mono ?_
  rintro e w2 ⟨rfl, hb2⟩
  go_wp2_with fail
  go_ret
  exact ⟨ret_bool HR.out.symm, E1.out.trans hb2⟩
 | true =>
  go_wp2_with fail
  refine (sane_any _ _ HV.out.to).mono ?_
  rintro e w2 ⟨rfl, hb2⟩
  clear q0 q1
  obtain ⟨q0, -⟩ := blk_rules ((hb2.block q2).trans KB.out)
  have E2 := hid (E1.out.trans hb2)
  clear hb2
  cases hs : saneN (tx r.to) with
  | false =>
   have HR := hid (T1.out hk hs)
   go_wp2_with fail
   go_ret
   exact ⟨ret_bool HR.out.symm, E2.out⟩
  | true =>
   have HR := hid (T2.out (.inr hs))
   go_wp2_with fail
   refine (containsL_any S _ _ (fun x => !nmRl x) A n c r.rules _ (Nat.le_trans HV.out.sl.1 HV.out.sl.2.1) ((HV.out.up E2.out).arr) (named1_pred S _)).mono ?_
   rintro e w3 ⟨rfl, hb3⟩
   go_wp2_with fail
   go_ret
   exact ⟨ret_bool HR.out.symm, E2.out.trans hb3⟩
theorem sn1 {r : Rs} (h : inB r.kind 3 = false) : saneR r = 4 := by unfold saneR; rw [if_pos h]
theorem sn2 {r : Rs} (h : inB r.kind 3 = true) (h2 : saneN (tx r.name) = false) : saneR r = 5 := by unfold saneR; rw [if_neg (by rw [h]; decide), if_pos h2]
theorem sn3 {r : Rs} (h : inB r.kind 3 = true) (h2 : saneN (tx r.name) = true) (h3 : smallR r = false) : saneR r = 3 := by unfold saneR; rw [if_neg (by rw [h]; decide), if_neg (by rw [h2]; decide), if_pos h3]
theorem sn4 {r : Rs} (h : inB r.kind 3 = true) (h2 : saneN (tx r.name) = true) (h3 : smallR r = true) (h4 : shapedR r = false) : saneR r = 2 := by unfold saneR; rw [if_neg (by rw [h]; decide), if_neg (by rw [h2]; decide), if_neg (by rw [h3]; decide), if_pos h4]
theorem sn5 {r : Rs} (h : inB r.kind 3 = true) (h2 : saneN (tx r.name) = true) (h3 : smallR r = true) (h4 : shapedR r = true) (h5 : namedR r = false) : saneR r = 5 := by unfold saneR; rw [if_neg (by rw [h]; decide), if_neg (by rw [h2]; decide), if_neg (by rw [h3]; decide), if_neg (by rw [h4]; decide), if_pos h5]
theorem sn6 {r : Rs} (h : inB r.kind 3 = true) (h2 : saneN (tx r.name) = true) (h3 : smallR r = true) (h4 : shapedR r = true) (h5 : namedR r = true) (h6 : singleR r = false) : saneR r = 2 := by unfold saneR; rw [if_neg (by rw [h]; decide), if_neg (by rw [h2]; decide), if_neg (by rw [h3]; decide), if_neg (by rw [h4]; decide), if_neg (by rw [h5]; decide), if_pos h6]
theorem sn7 {r : Rs} (h : inB r.kind 3 = true) (h2 : saneN (tx r.name) = true) (h3 : smallR r = true) (h4 : shapedR r = true) (h5 : namedR r = true) (h6 : singleR r = true) : saneR r = 0 := by unfold saneR; rw [if_neg (by rw [h]; decide), if_neg (by rw [h2]; decide), if_neg (by rw [h3]; decide), if_neg (by rw [h4]; decide), if_neg (by rw [h5]; decide), if_neg (by rw [h6]; decide)]
theorem resSane_any (S : Nat → Prop) (r : Rs) (A A' : Option Addr) (n c n' c' : Nat) (w : World) (hV : RsV S w r A n c A' n' c') :
  Calls Tryz.prog 82 #[rsVal r A n c A' n' c'] w fun e w' => e = .returned (.int .i64 (saneR r)) ∧ Ext w w' := by
 have HV := hid hV
 clear hV
 obtain ⟨v, hv⟩ : ∃ v, v = saneR r := ⟨_, rfl⟩
 rw [← hv]
 have HR := hid hv
 clear hv
 unfold rsVal
 go_enter Tryz.func82, Tryz.ntmps82
 go_wp2_with fail
 refine (within_any _ _ _).mono ?_
 rintro e w0 ⟨rfl, rfl⟩
 cases h1 : inB r.kind 3 with
 | false =>
  go_wp2_with fail
  go_ret
  exact ⟨ret_int (by rw [HR.out, sn1 h1]), Ext.new _ _⟩
 | true =>
 have H1 := hid h1
 clear h1
 go_wp2_with fail
 refine (sane_any _ _ HV.out.nm).mono ?_
 rintro e w1 ⟨rfl, hb1⟩
 obtain ⟨q0, -, q2⟩ := box1 hb1
 have K1 := hid (box1b hb1).1
 have E1 := hid ((Ext.new w _).trans hb1)
 clear hb1
 cases h2 : saneN (tx r.name) with
 | false =>
  go_wp2_with fail
  go_ret
  exact ⟨ret_int (by rw [HR.out, sn2 H1.out h2]), E1.out⟩
 | true =>
 have H2 := hid h2
 clear h2
 go_wp2_with fail
 refine (small_any S r A A' n c n' c' _ (HV.out.up E1.out)).mono ?_
 rintro e w2 ⟨rfl, hb2⟩
 have E2 := hid (E1.out.trans hb2)
 have K2 := hid ((hb2.block q2).trans K1.out)
 have z2 := Nat.lt_of_lt_of_le q2 hb2.size
 clear q0 hb2
 obtain ⟨q0, -⟩ := blk_rules K2.out
 cases h3 : smallR r with
 | false =>
  go_wp2_with fail
  go_ret
  exact ⟨ret_int (by rw [HR.out, sn3 H1.out H2.out h3]), E2.out⟩
 | true =>
 have H3 := hid h3
 clear h3
 go_wp2_with fail
 refine (shaped_any S r A A' n c n' c' _ (HV.out.up E2.out)).mono ?_
 rintro e w3 ⟨rfl, hb3⟩
 have E3 := hid (E2.out.trans hb3)
 have K3 := hid ((hb3.block z2).trans K2.out)
 have z3 := Nat.lt_of_lt_of_le z2 hb3.size
 clear q0 hb3
 obtain ⟨q0, -⟩ := blk_rules K3.out
 cases h4 : shapedR r with
 | false =>
  go_wp2_with fail
  go_ret
  exact ⟨ret_int (by rw [HR.out, sn4 H1.out H2.out H3.out h4]), E3.out⟩
 | true =>
 have H4 := hid h4
 clear h4
 go_wp2_with fail
 refine (named_any S r A A' n c n' c' _ (HV.out.up E3.out)).mono ?_
 rintro e w4 ⟨rfl, hb4⟩
 have E4 := hid (E3.out.trans hb4)
 have K4 := hid ((hb4.block z3).trans K3.out)
 have z4 := Nat.lt_of_lt_of_le z3 hb4.size
 clear q0 hb4
 obtain ⟨q0, -⟩ := blk_rules K4.out
 cases h5 : namedR r with
 | false =>
  go_wp2_with fail
  go_ret
  exact ⟨ret_int (by rw [HR.out, sn5 H1.out H2.out H3.out H4.out h5]), E4.out⟩
 | true =>
 have H5 := hid h5
 clear h5
 go_wp2_with fail
 refine (single_any S r A A' n c n' c' _ (HV.out.up E4.out)).mono ?_
 rintro e w5 ⟨rfl, hb5⟩
 have E5 := hid (E4.out.trans hb5)
 cases h6 : singleR r with
 | false =>
  go_wp2_with fail
  go_ret
  exact ⟨ret_int (by rw [HR.out, sn6 H1.out H2.out H3.out H4.out H5.out h6]), E5.out⟩
 | true =>
  go_wp2_with fail
  go_ret
  exact ⟨ret_int (by rw [HR.out, sn7 H1.out H2.out H3.out H4.out H5.out h6]), E5.out⟩
end Go.Proofs.YtfdjbnofcniodaaGreatDoor
