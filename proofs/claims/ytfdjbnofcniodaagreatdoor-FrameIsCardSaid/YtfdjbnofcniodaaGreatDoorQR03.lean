/- What the document's Sane of layer 3 computes: saneR. -/
import Derived.Test.YtfdjbnofcniodaaGreatDoorQRef01
import Derived.Test.YtfdjbnofcniodaaGreatDoorQIndex
namespace Go.Proofs.YtfdjbnofcniodaaGreatDoor
open Lib (hid)
set_option maxHeartbeats 8000000
set_option maxRecDepth 100000
set_option linter.unusedVariables false
open Go.RowKit
structure SmallR (r : Rs) : Prop where
 ver : 0 ≤ r.ver ∧ r.ver ≤ 2147483647
 port : 0 ≤ r.port ∧ r.port ≤ 65535
 rules : r.rules.length ≤ 8
 hosts : r.hosts.length ≤ 8
 each : ∀ h ∈ r.hosts, 0 ≤ h ∧ h ≤ 2147483647
 rl : ∀ x ∈ r.rules, smallRl x = true
theorem small_iff (r : Rs) : smallR r = true ↔ SmallR r := by
 unfold smallR inB
 simp only [Bool.and_eq_true, decide_eq_true_eq, List.all_eq_true]
 exact ⟨fun ⟨⟨⟨⟨h1, h2⟩, h3⟩, h4⟩, h5, h6⟩ => ⟨h1, h2, h3, h4, h5, h6⟩, fun h => ⟨⟨⟨⟨h.ver, h.port⟩, h.rules⟩, h.hosts⟩, h.each, h.rl⟩⟩
theorem small_not {r : Rs} (h : SmallR r → False) : (!smallR r) = true := by
 cases hs : smallR r with
 | false => rfl
 | true => exact (h ((small_iff r).1 hs)).elim
def Upto {α : Type} (P : α → Prop) (l : List α) (k : Nat) : Prop := ∀ (j : Nat) (x : α), j < k → l[j]? = some x → P x
theorem Upto.nil {α : Type} {P : α → Prop} {l : List α} : Upto P l 0 := fun j x h => absurd h (by omega)
theorem Upto.step {α : Type} {P : α → Prop} {l : List α} {k : Nat} (h : Upto P l k) {x : α} (hx : l[k]? = some x) (hp : P x) : Upto P l (k + 1) := fun j y hj hy => by
 rcases Nat.lt_or_ge j k with h1 | h1
 ·exact h j y h1 hy
 ·obtain rfl : j = k := by omega
  rw [hx] at hy; injection hy with hy; subst hy; exact hp
theorem Upto.all {α : Type} {P : α → Prop} {l : List α} {k : Nat} (h : Upto P l k) (hk : l.length ≤ k) : ∀ x ∈ l, P x := fun x hx => by
 obtain ⟨j, hj⟩ := List.mem_iff_getElem?.1 hx
 exact h j x (Nat.lt_of_lt_of_le (List.getElem?_eq_some_iff.1 hj).1 hk) hj
theorem smallRl_iff (x : Rl) : smallRl x = true ↔ x.ws.length ≤ 4 ∧ ∀ p ∈ x.ws, 0 ≤ p.2 ∧ p.2 ≤ 100 := by
 unfold smallRl wOk inB
 simp only [Bool.and_eq_true, decide_eq_true_eq, List.all_eq_true]
theorem refBig_any (S : Nat → Prop) (r : Rs) (A A' : Option Addr) (n c n' c' : Nat) (w : World) (hV : RsV S w r A n c A' n' c') :
  Calls Tryz.prog 166 #[rsVal r A n c A' n' c'] w fun e w' => e = .returned (.bool (!smallR r)) ∧ Ext w w' := by
 have hm : n ≤ 9223372036854775807 := by have h1 := hV.sl.1; have h2 := hV.sl.2.1; unfold maxLen at h2; omega
 have hm' : n' ≤ 9223372036854775807 := by have h1 := hV.sl'.1; have h2 := hV.sl'.2.1; unfold maxLen at h2; omega
 have hL : r.rules.length = n := hV.arr.len
 have hL' : r.hosts.length = n' := hV.arr'.len
 have HV := hid hV
 clear hV
 unfold rsVal
 go_enter Tryz.func166, Tryz.ntmps166
 have EW0 := hid (Ext.new w (.cells #[.int .i64 r.kind, .string r.name, .int .i64 r.ver, .int .i64 r.port, .string r.to, .slice A n c, .slice A' n' c'] 34))
 by_cases g : r.ver < 0
 ·have H : Hid ((!smallR r) = true) := hid (small_not fun h => by have := h.ver; omega)
  go_wp2_with fail
  go_ret
  exact ⟨by rw [H.out]; first | rfl | (simp; done) | (simp; omega), EW0.out⟩
 by_cases g : 2147483647 < r.ver
 ·have H : Hid ((!smallR r) = true) := hid (small_not fun h => by have := h.ver; omega)
  go_wp2_with fail
  go_ret
  exact ⟨by rw [H.out]; first | rfl | (simp; done) | (simp; omega), EW0.out⟩
 by_cases g : r.port < 0
 ·have H : Hid ((!smallR r) = true) := hid (small_not fun h => by have := h.port; omega)
  go_wp2_with fail
  go_ret
  exact ⟨by rw [H.out]; first | rfl | (simp; done) | (simp; omega), EW0.out⟩
 by_cases g : 65535 < r.port
 ·have H : Hid ((!smallR r) = true) := hid (small_not fun h => by have := h.port; omega)
  go_wp2_with fail
  go_ret
  exact ⟨by rw [H.out]; first | rfl | (simp; done) | (simp; omega), EW0.out⟩
 by_cases g : 8 < n
 ·have H : Hid ((!smallR r) = true) := hid (small_not fun h => by have := h.rules; omega)
  go_wp2_with fail
  go_ret
  exact ⟨by rw [H.out]; first | rfl | (simp; done) | (simp; omega), EW0.out⟩
 by_cases g : 8 < n'
 ·have H : Hid ((!smallR r) = true) := hid (small_not fun h => by have := h.hosts; omega)
  go_wp2_with fail
  go_ret
  exact ⟨by rw [H.out]; first | rfl | (simp; done) | (simp; omega), EW0.out⟩
 go_wp2_with fail
 have kA := heap_alloc_new w (.cells #[.int .i64 r.kind, .string r.name, .int .i64 r.ver, .int .i64 r.port, .string r.to, .slice A n c, .slice A' n' c'] 34)
 have EW := hid (Ext.new w (.cells #[.int .i64 r.kind, .string r.name, .int .i64 r.ver, .int .i64 r.port, .string r.to, .slice A n c, .slice A' n' c'] 34))
 generalize w.alloc (.cells #[.int .i64 r.kind, .string r.name, .int .i64 r.ver, .int .i64 r.port, .string r.to, .slice A n c, .slice A' n' c'] 34) = W at kA EW ⊢
 obtain ⟨q, -⟩ := blk_rules kA
 have q5 := q 5
 have q6 := q 6
 clear q kA
 go_loop [3] (fun i => ∃ k : Nat, k ≤ n' ∧ i = .int .i64 k ∧ Hid (Upto (fun h : Int => 0 ≤ h ∧ h ≤ 2147483647) r.hosts k)) (fun i => n' - (intOf i).toNat)
 case atStart => exact ⟨0, Nat.zero_le _, by go_num, hid Upto.nil⟩
 case round =>
  obtain ⟨k, hk, rfl, HU⟩ := hrel
  by_cases hlt : k < n'
  ·obtain ⟨b, ob, x, rfl, hbB, -, hlk, hc⟩ := HostL.at_ HV.out.arr' hlt
   have d0 : W.cell? ⟨b, ob + k, none⟩ = some (.int .i64 x) := (EW.out.cell hbB).trans hc
   have i1 : (0 : Int) ≤ (k : Int) := by omega
   have i2 : (k : Int) < (n' : Int) := by omega
   have HX := hid hlk
   clear hc hlk
   by_cases g : x < 0
   ·have H : Hid ((!smallR r) = true) := hid (small_not fun h => by have := h.each x (List.mem_of_getElem? HX.out); omega)
    go_wp2_with fail
    go_ret
    exact ⟨by rw [H.out]; first | rfl | (simp; done) | (simp; omega), EW.out⟩
   by_cases g' : 2147483647 < x
   ·have H : Hid ((!smallR r) = true) := hid (small_not fun h => by have := h.each x (List.mem_of_getElem? HX.out); omega)
    go_wp2_with fail
    go_ret
    exact ⟨by rw [H.out]; first | rfl | (simp; done) | (simp; omega), EW.out⟩
   have HU2 := hid (HU.out.step HX.out (show 0 ≤ x ∧ x ≤ 2147483647 by omega))
   go_wp2_with fail
   go_round
   case rel => exact ⟨k + 1, by omega, by go_num, HU2⟩
   case measure => simp [intOf]; omega
  ·have HH := hid (HU.out.all (by omega))
   clear HU
   go_wp2_with fail
   go_loop [4] (fun i => ∃ k : Nat, k ≤ n ∧ i = .int .i64 k ∧ Hid (Upto (fun x : Rl => smallRl x = true) r.rules k)) (fun i => n - (intOf i).toNat)
   case atStart => exact ⟨0, Nat.zero_le _, by go_num, hid Upto.nil⟩
   case round =>
    clear hlt
    obtain ⟨k2, hk2, rfl, HU⟩ := hrel
    by_cases hlt : k2 < n
    ·obtain ⟨b, ob, x, B, m, d, rfl, hbB, -, hlk, hv, hc0, hc1, hc2⟩ := RlL.at_ HV.out.arr hlt
     have d2 : W.cell? ⟨b, ob + k2 * 3 + 2, none⟩ = some (.slice B m d) := (EW.out.cell hbB).trans hc2
     have i1 : (0 : Int) ≤ (k2 : Int) := by omega
     have i2 : (k2 : Int) < (n : Int) := by omega
     have HX := hid hlk
     have HVx := hid hv
     have hlw : x.ws.length = m := hv.arr.len
     clear hc0 hc1 hc2 hlk hv
     by_cases g : 4 < m
     ·have H : Hid ((!smallR r) = true) := hid (small_not fun h => by have := ((smallRl_iff x).1 (h.rl x (List.mem_of_getElem? HX.out))).1; omega)
      go_wp2_with fail
      go_ret
      exact ⟨by rw [H.out]; first | rfl | (simp; done) | (simp; omega), EW.out⟩
     go_wp2_with fail
     go_loop [5] (fun i => ∃ q : Nat, q ≤ m ∧ i = .int .i64 q ∧ Hid (Upto (fun p : ByteArray × Int => 0 ≤ p.2 ∧ p.2 ≤ 100) x.ws q)) (fun i => m - (intOf i).toNat)
     case atStart => exact ⟨0, Nat.zero_le _, by go_num, hid Upto.nil⟩
     case round =>
      obtain ⟨q, hq, rfl, HQ⟩ := hrel
      by_cases hlq : q < m
      ·obtain ⟨b1, o1, s, y, rfl, hbB1, -, hl1, -, hd0, hd1⟩ := WtL.at_ HVx.out.arr hlq
       have f1 : W.cell? ⟨b1, o1 + q * 2 + 1, none⟩ = some (.int .i64 y) := (EW.out.cell hbB1).trans hd1
       have j1 : (0 : Int) ≤ (q : Int) := by omega
       have j2 : (q : Int) < (m : Int) := by omega
       have HL1 := hid hl1
       clear hd0 hd1 hl1
       by_cases g1 : y < 0
       ·have H : Hid ((!smallR r) = true) := hid (small_not fun h => by have := ((smallRl_iff x).1 (h.rl x (List.mem_of_getElem? HX.out))).2 (s, y) (List.mem_of_getElem? HL1.out); omega)
        go_wp2_with fail
        go_ret
        exact ⟨by rw [H.out]; first | rfl | (simp; done) | (simp; omega), EW.out⟩
       by_cases g2 : 100 < y
       ·have H : Hid ((!smallR r) = true) := hid (small_not fun h => by have := ((smallRl_iff x).1 (h.rl x (List.mem_of_getElem? HX.out))).2 (s, y) (List.mem_of_getElem? HL1.out); omega)
        go_wp2_with fail
        go_ret
        exact ⟨by rw [H.out]; first | rfl | (simp; done) | (simp; omega), EW.out⟩
       have HQ2 := hid (HQ.out.step HL1.out (show 0 ≤ y ∧ y ≤ 100 by omega))
       go_wp2_with fail
       go_round
       case rel => exact ⟨q + 1, by omega, by go_num, HQ2⟩
       case measure => simp [intOf]; omega
      ·have HU2 := hid (HU.out.step HX.out ((smallRl_iff x).2 ⟨by omega, HQ.out.all (by omega)⟩))
       go_wp2_with fail
       go_round
       case rel => exact ⟨k2 + 1, by omega, by go_num, HU2⟩
       case measure => simp [intOf]; omega
    ·have H : Hid ((!smallR r) = false) := hid (by rw [(small_iff r).2 ⟨by omega, by omega, by omega, by omega, HH.out, HU.out.all (by omega)⟩]; rfl)
     go_wp2_with fail
     go_ret
     exact ⟨by rw [H.out]; first | rfl | (simp; done) | (simp; omega), EW.out⟩
theorem kinds4 {r : Rs} (h : 0 ≤ r.kind ∧ r.kind ≤ 3) : r.kind = 0 ∨ r.kind = 1 ∨ r.kind = 2 ∨ r.kind = 3 := by omega
theorem named_even {r : Rs} (h : r.kind = 0 ∨ r.kind = 2) : namedR r = (saneN (tx r.to) && r.rules.all nmRl) := by
 unfold namedR; rcases h with h | h <;> simp [h]
theorem named_odd {r : Rs} (h : r.kind = 1 ∨ r.kind = 3) : namedR r = r.rules.all nmRl := by
 unfold namedR; rcases h with h | h <;> simp [h]
theorem all_not {l : List Rl} {x : Rl} (hx : x ∈ l) (h : nmRl x = false) : l.all nmRl = false := by
 rw [List.all_eq_false]; exact ⟨x, hx, by rw [h]; simp⟩
theorem nm3_host {x : Rl} (h : hostB (tx x.host) = false) : nmRl x = false := by unfold nmRl; rw [h]; rfl
theorem nm3_path {x : Rl} (h : pathB (tx x.pre) = false) : nmRl x = false := by unfold nmRl; rw [h]; simp
theorem nm_ws {x : Rl} {p : ByteArray × Int} (hp : p ∈ x.ws) (h : saneN (tx p.1) = false) : nmRl x = false := by
 unfold nmRl
 rw [show x.ws.all wNm = false from by rw [List.all_eq_false]; exact ⟨p, hp, by unfold wNm; rw [h]; simp⟩]; simp
theorem nm_good {x : Rl} (h1 : hostB (tx x.host) = true) (h2 : pathB (tx x.pre) = true) (h3 : ∀ p ∈ x.ws, saneN (tx p.1) = true) : nmRl x = true := by
 unfold nmRl
 rw [h1, h2, List.all_eq_true.2 (fun p hp => by unfold wNm; exact h3 p hp)]; rfl
theorem refNames_any (S : Nat → Prop) (r : Rs) (A A' : Option Addr) (n c n' c' : Nat) (w : World) (hV : RsV S w r A n c A' n' c') (hkd : 0 ≤ r.kind ∧ r.kind ≤ 3) :
  Calls Tryz.prog 167 #[rsVal r A n c A' n' c'] w fun e w' => e = .returned (.bool (namedR r)) ∧ Ext w w' := by
 have hm : n ≤ 9223372036854775807 := by have h1 := hV.sl.1; have h2 := hV.sl.2.1; unfold maxLen at h2; omega
 have hm' : n' ≤ 9223372036854775807 := by have h1 := hV.sl'.1; have h2 := hV.sl'.2.1; unfold maxLen at h2; omega
 have hL : r.rules.length = n := hV.arr.len
 have hL' : r.hosts.length = n' := hV.arr'.len
 have HV := hid hV
 clear hV
 have HK := hid (kinds4 hkd)
 clear hkd
 unfold rsVal
 go_enter Tryz.func167, Tryz.ntmps167
 rcases HK.out with hk | hk | hk | hk
 ·have HNM0 := hid (named_even (.inl hk))
  go_wp2_with fail
  have kA := heap_alloc_new w (.cells #[.int .i64 0, .string r.name, .int .i64 r.ver, .int .i64 r.port, .string r.to, .slice A n c, .slice A' n' c'] 34)
  have EW := hid (Ext.new w (.cells #[.int .i64 0, .string r.name, .int .i64 r.ver, .int .i64 r.port, .string r.to, .slice A n c, .slice A' n' c'] 34))
  generalize w.alloc (.cells #[.int .i64 0, .string r.name, .int .i64 r.ver, .int .i64 r.port, .string r.to, .slice A n c, .slice A' n' c'] 34) = W at kA EW ⊢
  obtain ⟨q, -⟩ := blk_rules kA
  have q5 := q 5
  clear q kA hk
  refine (refSaneN_any r.to _ HV.out.to).mono ?_
  rintro e w' ⟨rfl, rfl⟩
  cases h1 : saneN (tx r.to) with
  | false =>
   have H : Hid (namedR r = false) := hid (by rw [HNM0.out, h1]; rfl)
   clear h1
   go_wp2_with fail
   go_ret
   exact ⟨by rw [H.out]; first | rfl | (simp; done) | (simp; omega), EW.out⟩
  | true =>
  have HNM : Hid (namedR r = r.rules.all nmRl) := hid (by rw [HNM0.out, h1, Bool.true_and])
  clear h1
  go_wp2_with fail
  go_loop [3] (fun i => ∃ k : Nat, k ≤ n ∧ i = .int .i64 k ∧ Hid (Upto (fun x : Rl => nmRl x = true) r.rules k)) (fun i => n - (intOf i).toNat)
  case atStart => exact ⟨0, Nat.zero_le _, by go_num, hid Upto.nil⟩
  case round =>
   obtain ⟨k, hk, rfl, HU⟩ := hrel
   by_cases hlt : k < n
   ·obtain ⟨b, ob, x, B, m, d, rfl, hbB, -, hlk, hv, hc0, hc1, hc2⟩ := RlL.at_ HV.out.arr hlt
    obtain ⟨d0, d1, d2⟩ := up3 (EW.out) hbB hc0 hc1 hc2
    have i1 : (0 : Int) ≤ (k : Int) := by omega
    have i2 : (k : Int) < (n : Int) := by omega
    have hmm : m ≤ 9223372036854775807 := by have h1 := hv.sl.1; have h2 := hv.sl.2.1; unfold maxLen at h2; omega
    have HX := hid hlk
    have HVx := hid hv
    have hlw : x.ws.length = m := hv.arr.len
    have HBD : Hid (nmRl x = false → namedR r = false) := hid fun h => by rw [HNM.out, all_not (List.mem_of_getElem? hlk) h]
    clear hc0 hc1 hc2 hlk hv
    go_wp2_with fail
    refine (refHost_any x.host _ HVx.out.h).mono ?_
    rintro e w' ⟨rfl, rfl⟩
    cases h1 : hostB (tx x.host) with
    | false =>
     have H : Hid (namedR r = false) := hid (HBD.out (nm3_host h1))
     clear h1
     go_wp2_with fail
     go_ret
     exact ⟨by rw [H.out]; first | rfl | (simp; done) | (simp; omega), EW.out⟩
    | true =>
    have H1 := hid h1
    clear h1
    go_wp2_with fail
    refine (refPath_any x.pre _ HVx.out.p).mono ?_
    rintro e w' ⟨rfl, rfl⟩
    cases h1 : pathB (tx x.pre) with
    | false =>
     have H : Hid (namedR r = false) := hid (HBD.out (nm3_path h1))
     clear h1
     go_wp2_with fail
     go_ret
     exact ⟨by rw [H.out]; first | rfl | (simp; done) | (simp; omega), EW.out⟩
    | true =>
    have H2 := hid h1
    clear h1
    go_wp2_with fail
    go_loop [4] (fun i => ∃ q : Nat, q ≤ m ∧ i = .int .i64 q ∧ Hid (Upto (fun p : ByteArray × Int => saneN (tx p.1) = true) x.ws q)) (fun i => m - (intOf i).toNat)
    case atStart => exact ⟨0, Nat.zero_le _, by go_num, hid Upto.nil⟩
    case round =>
     obtain ⟨q, hq, rfl, HQ⟩ := hrel
     by_cases hlq : q < m
     ·obtain ⟨b1, o1, s, y, rfl, hbB1, -, hl1, hsz, hd0, hd1⟩ := WtL.at_ HVx.out.arr hlq
      have f0 : W.cell? ⟨b1, o1 + q * 2, none⟩ = some (.string s) := (EW.out.cell hbB1).trans hd0
      have j1 : (0 : Int) ≤ (q : Int) := by omega
      have j2 : (q : Int) < (m : Int) := by omega
      have HL1 := hid hl1
      have HSZ := hid hsz
      clear hd0 hd1 hl1 hsz
      go_wp2_with fail
      refine (refSaneN_any s _ HSZ.out).mono ?_
      rintro e w' ⟨rfl, rfl⟩
      cases h1 : saneN (tx s) with
      | false =>
       have H : Hid (namedR r = false) := hid (HBD.out (nm_ws (List.mem_of_getElem? HL1.out) h1))
       clear h1
       go_wp2_with fail
       go_ret
       exact ⟨by rw [H.out]; first | rfl | (simp; done) | (simp; omega), EW.out⟩
      | true =>
      have HQ2 := hid (HQ.out.step HL1.out h1)
      clear h1
      go_wp2_with fail
      go_round
      case rel => exact ⟨q + 1, by omega, by go_num, HQ2⟩
      case measure => simp [intOf]; omega
     ·have HU2 := hid (HU.out.step HX.out (nm_good H1.out H2.out (HQ.out.all (by omega))))
      go_wp2_with fail
      go_round
      case rel => exact ⟨k + 1, by omega, by go_num, HU2⟩
      case measure => simp [intOf]; omega
   ·have H : Hid (namedR r = true) := hid (by rw [HNM.out]; exact List.all_eq_true.2 (HU.out.all (by omega)))
    go_wp2_with fail
    go_ret
    exact ⟨by rw [H.out]; first | rfl | (simp; done) | (simp; omega), EW.out⟩
 ·have HNM0 := hid (named_odd (.inl hk))
  go_wp2_with fail
  have kA := heap_alloc_new w (.cells #[.int .i64 1, .string r.name, .int .i64 r.ver, .int .i64 r.port, .string r.to, .slice A n c, .slice A' n' c'] 34)
  have EW := hid (Ext.new w (.cells #[.int .i64 1, .string r.name, .int .i64 r.ver, .int .i64 r.port, .string r.to, .slice A n c, .slice A' n' c'] 34))
  generalize w.alloc (.cells #[.int .i64 1, .string r.name, .int .i64 r.ver, .int .i64 r.port, .string r.to, .slice A n c, .slice A' n' c'] 34) = W at kA EW ⊢
  obtain ⟨q, -⟩ := blk_rules kA
  have q5 := q 5
  clear q kA hk
  have HNM := HNM0
  go_loop [3] (fun i => ∃ k : Nat, k ≤ n ∧ i = .int .i64 k ∧ Hid (Upto (fun x : Rl => nmRl x = true) r.rules k)) (fun i => n - (intOf i).toNat)
  case atStart => exact ⟨0, Nat.zero_le _, by go_num, hid Upto.nil⟩
  case round =>
   obtain ⟨k, hk, rfl, HU⟩ := hrel
   by_cases hlt : k < n
   ·obtain ⟨b, ob, x, B, m, d, rfl, hbB, -, hlk, hv, hc0, hc1, hc2⟩ := RlL.at_ HV.out.arr hlt
    obtain ⟨d0, d1, d2⟩ := up3 (EW.out) hbB hc0 hc1 hc2
    have i1 : (0 : Int) ≤ (k : Int) := by omega
    have i2 : (k : Int) < (n : Int) := by omega
    have hmm : m ≤ 9223372036854775807 := by have h1 := hv.sl.1; have h2 := hv.sl.2.1; unfold maxLen at h2; omega
    have HX := hid hlk
    have HVx := hid hv
    have hlw : x.ws.length = m := hv.arr.len
    have HBD : Hid (nmRl x = false → namedR r = false) := hid fun h => by rw [HNM.out, all_not (List.mem_of_getElem? hlk) h]
    clear hc0 hc1 hc2 hlk hv
    go_wp2_with fail
    refine (refHost_any x.host _ HVx.out.h).mono ?_
    rintro e w' ⟨rfl, rfl⟩
    cases h1 : hostB (tx x.host) with
    | false =>
     have H : Hid (namedR r = false) := hid (HBD.out (nm3_host h1))
     clear h1
     go_wp2_with fail
     go_ret
     exact ⟨by rw [H.out]; first | rfl | (simp; done) | (simp; omega), EW.out⟩
    | true =>
    have H1 := hid h1
    clear h1
    go_wp2_with fail
    refine (refPath_any x.pre _ HVx.out.p).mono ?_
    rintro e w' ⟨rfl, rfl⟩
    cases h1 : pathB (tx x.pre) with
    | false =>
     have H : Hid (namedR r = false) := hid (HBD.out (nm3_path h1))
     clear h1
     go_wp2_with fail
     go_ret
     exact ⟨by rw [H.out]; first | rfl | (simp; done) | (simp; omega), EW.out⟩
    | true =>
    have H2 := hid h1
    clear h1
    go_wp2_with fail
    go_loop [4] (fun i => ∃ q : Nat, q ≤ m ∧ i = .int .i64 q ∧ Hid (Upto (fun p : ByteArray × Int => saneN (tx p.1) = true) x.ws q)) (fun i => m - (intOf i).toNat)
    case atStart => exact ⟨0, Nat.zero_le _, by go_num, hid Upto.nil⟩
    case round =>
     obtain ⟨q, hq, rfl, HQ⟩ := hrel
     by_cases hlq : q < m
     ·obtain ⟨b1, o1, s, y, rfl, hbB1, -, hl1, hsz, hd0, hd1⟩ := WtL.at_ HVx.out.arr hlq
      have f0 : W.cell? ⟨b1, o1 + q * 2, none⟩ = some (.string s) := (EW.out.cell hbB1).trans hd0
      have j1 : (0 : Int) ≤ (q : Int) := by omega
      have j2 : (q : Int) < (m : Int) := by omega
      have HL1 := hid hl1
      have HSZ := hid hsz
      clear hd0 hd1 hl1 hsz
      go_wp2_with fail
      refine (refSaneN_any s _ HSZ.out).mono ?_
      rintro e w' ⟨rfl, rfl⟩
      cases h1 : saneN (tx s) with
      | false =>
       have H : Hid (namedR r = false) := hid (HBD.out (nm_ws (List.mem_of_getElem? HL1.out) h1))
       clear h1
       go_wp2_with fail
       go_ret
       exact ⟨by rw [H.out]; first | rfl | (simp; done) | (simp; omega), EW.out⟩
      | true =>
      have HQ2 := hid (HQ.out.step HL1.out h1)
      clear h1
      go_wp2_with fail
      go_round
      case rel => exact ⟨q + 1, by omega, by go_num, HQ2⟩
      case measure => simp [intOf]; omega
     ·have HU2 := hid (HU.out.step HX.out (nm_good H1.out H2.out (HQ.out.all (by omega))))
      go_wp2_with fail
      go_round
      case rel => exact ⟨k + 1, by omega, by go_num, HU2⟩
      case measure => simp [intOf]; omega
   ·have H : Hid (namedR r = true) := hid (by rw [HNM.out]; exact List.all_eq_true.2 (HU.out.all (by omega)))
    go_wp2_with fail
    go_ret
    exact ⟨by rw [H.out]; first | rfl | (simp; done) | (simp; omega), EW.out⟩
 ·have HNM0 := hid (named_even (.inr hk))
  go_wp2_with fail
  have kA := heap_alloc_new w (.cells #[.int .i64 2, .string r.name, .int .i64 r.ver, .int .i64 r.port, .string r.to, .slice A n c, .slice A' n' c'] 34)
  have EW := hid (Ext.new w (.cells #[.int .i64 2, .string r.name, .int .i64 r.ver, .int .i64 r.port, .string r.to, .slice A n c, .slice A' n' c'] 34))
  generalize w.alloc (.cells #[.int .i64 2, .string r.name, .int .i64 r.ver, .int .i64 r.port, .string r.to, .slice A n c, .slice A' n' c'] 34) = W at kA EW ⊢
  obtain ⟨q, -⟩ := blk_rules kA
  have q5 := q 5
  clear q kA hk
  refine (refSaneN_any r.to _ HV.out.to).mono ?_
  rintro e w' ⟨rfl, rfl⟩
  cases h1 : saneN (tx r.to) with
  | false =>
   have H : Hid (namedR r = false) := hid (by rw [HNM0.out, h1]; rfl)
   clear h1
   go_wp2_with fail
   go_ret
   exact ⟨by rw [H.out]; first | rfl | (simp; done) | (simp; omega), EW.out⟩
  | true =>
  have HNM : Hid (namedR r = r.rules.all nmRl) := hid (by rw [HNM0.out, h1, Bool.true_and])
  clear h1
  go_wp2_with fail
  go_loop [3] (fun i => ∃ k : Nat, k ≤ n ∧ i = .int .i64 k ∧ Hid (Upto (fun x : Rl => nmRl x = true) r.rules k)) (fun i => n - (intOf i).toNat)
  case atStart => exact ⟨0, Nat.zero_le _, by go_num, hid Upto.nil⟩
  case round =>
   obtain ⟨k, hk, rfl, HU⟩ := hrel
   by_cases hlt : k < n
   ·obtain ⟨b, ob, x, B, m, d, rfl, hbB, -, hlk, hv, hc0, hc1, hc2⟩ := RlL.at_ HV.out.arr hlt
    obtain ⟨d0, d1, d2⟩ := up3 (EW.out) hbB hc0 hc1 hc2
    have i1 : (0 : Int) ≤ (k : Int) := by omega
    have i2 : (k : Int) < (n : Int) := by omega
    have hmm : m ≤ 9223372036854775807 := by have h1 := hv.sl.1; have h2 := hv.sl.2.1; unfold maxLen at h2; omega
    have HX := hid hlk
    have HVx := hid hv
    have hlw : x.ws.length = m := hv.arr.len
    have HBD : Hid (nmRl x = false → namedR r = false) := hid fun h => by rw [HNM.out, all_not (List.mem_of_getElem? hlk) h]
    clear hc0 hc1 hc2 hlk hv
    go_wp2_with fail
    refine (refHost_any x.host _ HVx.out.h).mono ?_
    rintro e w' ⟨rfl, rfl⟩
    cases h1 : hostB (tx x.host) with
    | false =>
     have H : Hid (namedR r = false) := hid (HBD.out (nm3_host h1))
     clear h1
     go_wp2_with fail
     go_ret
     exact ⟨by rw [H.out]; first | rfl | (simp; done) | (simp; omega), EW.out⟩
    | true =>
    have H1 := hid h1
    clear h1
    go_wp2_with fail
    refine (refPath_any x.pre _ HVx.out.p).mono ?_
    rintro e w' ⟨rfl, rfl⟩
    cases h1 : pathB (tx x.pre) with
    | false =>
     have H : Hid (namedR r = false) := hid (HBD.out (nm3_path h1))
     clear h1
     go_wp2_with fail
     go_ret
     exact ⟨by rw [H.out]; first | rfl | (simp; done) | (simp; omega), EW.out⟩
    | true =>
    have H2 := hid h1
    clear h1
    go_wp2_with fail
    go_loop [4] (fun i => ∃ q : Nat, q ≤ m ∧ i = .int .i64 q ∧ Hid (Upto (fun p : ByteArray × Int => saneN (tx p.1) = true) x.ws q)) (fun i => m - (intOf i).toNat)
    case atStart => exact ⟨0, Nat.zero_le _, by go_num, hid Upto.nil⟩
    case round =>
     obtain ⟨q, hq, rfl, HQ⟩ := hrel
     by_cases hlq : q < m
     ·obtain ⟨b1, o1, s, y, rfl, hbB1, -, hl1, hsz, hd0, hd1⟩ := WtL.at_ HVx.out.arr hlq
      have f0 : W.cell? ⟨b1, o1 + q * 2, none⟩ = some (.string s) := (EW.out.cell hbB1).trans hd0
      have j1 : (0 : Int) ≤ (q : Int) := by omega
      have j2 : (q : Int) < (m : Int) := by omega
      have HL1 := hid hl1
      have HSZ := hid hsz
      clear hd0 hd1 hl1 hsz
      go_wp2_with fail
      refine (refSaneN_any s _ HSZ.out).mono ?_
      rintro e w' ⟨rfl, rfl⟩
      cases h1 : saneN (tx s) with
      | false =>
       have H : Hid (namedR r = false) := hid (HBD.out (nm_ws (List.mem_of_getElem? HL1.out) h1))
       clear h1
       go_wp2_with fail
       go_ret
       exact ⟨by rw [H.out]; first | rfl | (simp; done) | (simp; omega), EW.out⟩
      | true =>
      have HQ2 := hid (HQ.out.step HL1.out h1)
      clear h1
      go_wp2_with fail
      go_round
      case rel => exact ⟨q + 1, by omega, by go_num, HQ2⟩
      case measure => simp [intOf]; omega
     ·have HU2 := hid (HU.out.step HX.out (nm_good H1.out H2.out (HQ.out.all (by omega))))
      go_wp2_with fail
      go_round
      case rel => exact ⟨k + 1, by omega, by go_num, HU2⟩
      case measure => simp [intOf]; omega
   ·have H : Hid (namedR r = true) := hid (by rw [HNM.out]; exact List.all_eq_true.2 (HU.out.all (by omega)))
    go_wp2_with fail
    go_ret
    exact ⟨by rw [H.out]; first | rfl | (simp; done) | (simp; omega), EW.out⟩
 ·have HNM0 := hid (named_odd (.inr hk))
  go_wp2_with fail
  have kA := heap_alloc_new w (.cells #[.int .i64 3, .string r.name, .int .i64 r.ver, .int .i64 r.port, .string r.to, .slice A n c, .slice A' n' c'] 34)
  have EW := hid (Ext.new w (.cells #[.int .i64 3, .string r.name, .int .i64 r.ver, .int .i64 r.port, .string r.to, .slice A n c, .slice A' n' c'] 34))
  generalize w.alloc (.cells #[.int .i64 3, .string r.name, .int .i64 r.ver, .int .i64 r.port, .string r.to, .slice A n c, .slice A' n' c'] 34) = W at kA EW ⊢
  obtain ⟨q, -⟩ := blk_rules kA
  have q5 := q 5
  clear q kA hk
  have HNM := HNM0
  go_loop [3] (fun i => ∃ k : Nat, k ≤ n ∧ i = .int .i64 k ∧ Hid (Upto (fun x : Rl => nmRl x = true) r.rules k)) (fun i => n - (intOf i).toNat)
  case atStart => exact ⟨0, Nat.zero_le _, by go_num, hid Upto.nil⟩
  case round =>
   obtain ⟨k, hk, rfl, HU⟩ := hrel
   by_cases hlt : k < n
   ·obtain ⟨b, ob, x, B, m, d, rfl, hbB, -, hlk, hv, hc0, hc1, hc2⟩ := RlL.at_ HV.out.arr hlt
    obtain ⟨d0, d1, d2⟩ := up3 (EW.out) hbB hc0 hc1 hc2
    have i1 : (0 : Int) ≤ (k : Int) := by omega
    have i2 : (k : Int) < (n : Int) := by omega
    have hmm : m ≤ 9223372036854775807 := by have h1 := hv.sl.1; have h2 := hv.sl.2.1; unfold maxLen at h2; omega
    have HX := hid hlk
    have HVx := hid hv
    have hlw : x.ws.length = m := hv.arr.len
    have HBD : Hid (nmRl x = false → namedR r = false) := hid fun h => by rw [HNM.out, all_not (List.mem_of_getElem? hlk) h]
    clear hc0 hc1 hc2 hlk hv
    go_wp2_with fail
    refine (refHost_any x.host _ HVx.out.h).mono ?_
    rintro e w' ⟨rfl, rfl⟩
    cases h1 : hostB (tx x.host) with
    | false =>
     have H : Hid (namedR r = false) := hid (HBD.out (nm3_host h1))
     clear h1
     go_wp2_with fail
     go_ret
     exact ⟨by rw [H.out]; first | rfl | (simp; done) | (simp; omega), EW.out⟩
    | true =>
    have H1 := hid h1
    clear h1
    go_wp2_with fail
    refine (refPath_any x.pre _ HVx.out.p).mono ?_
    rintro e w' ⟨rfl, rfl⟩
    cases h1 : pathB (tx x.pre) with
    | false =>
     have H : Hid (namedR r = false) := hid (HBD.out (nm3_path h1))
     clear h1
     go_wp2_with fail
     go_ret
     exact ⟨by rw [H.out]; first | rfl | (simp; done) | (simp; omega), EW.out⟩
    | true =>
    have H2 := hid h1
    clear h1
    go_wp2_with fail
    go_loop [4] (fun i => ∃ q : Nat, q ≤ m ∧ i = .int .i64 q ∧ Hid (Upto (fun p : ByteArray × Int => saneN (tx p.1) = true) x.ws q)) (fun i => m - (intOf i).toNat)
    case atStart => exact ⟨0, Nat.zero_le _, by go_num, hid Upto.nil⟩
    case round =>
     obtain ⟨q, hq, rfl, HQ⟩ := hrel
     by_cases hlq : q < m
     ·obtain ⟨b1, o1, s, y, rfl, hbB1, -, hl1, hsz, hd0, hd1⟩ := WtL.at_ HVx.out.arr hlq
      have f0 : W.cell? ⟨b1, o1 + q * 2, none⟩ = some (.string s) := (EW.out.cell hbB1).trans hd0
      have j1 : (0 : Int) ≤ (q : Int) := by omega
      have j2 : (q : Int) < (m : Int) := by omega
      have HL1 := hid hl1
      have HSZ := hid hsz
      clear hd0 hd1 hl1 hsz
      go_wp2_with fail
      refine (refSaneN_any s _ HSZ.out).mono ?_
      rintro e w' ⟨rfl, rfl⟩
      cases h1 : saneN (tx s) with
      | false =>
       have H : Hid (namedR r = false) := hid (HBD.out (nm_ws (List.mem_of_getElem? HL1.out) h1))
       clear h1
       go_wp2_with fail
       go_ret
       exact ⟨by rw [H.out]; first | rfl | (simp; done) | (simp; omega), EW.out⟩
      | true =>
      have HQ2 := hid (HQ.out.step HL1.out h1)
      clear h1
      go_wp2_with fail
      go_round
      case rel => exact ⟨q + 1, by omega, by go_num, HQ2⟩
      case measure => simp [intOf]; omega
     ·have HU2 := hid (HU.out.step HX.out (nm_good H1.out H2.out (HQ.out.all (by omega))))
      go_wp2_with fail
      go_round
      case rel => exact ⟨k + 1, by omega, by go_num, HU2⟩
      case measure => simp [intOf]; omega
   ·have H : Hid (namedR r = true) := hid (by rw [HNM.out]; exact List.all_eq_true.2 (HU.out.all (by omega)))
    go_wp2_with fail
    go_ret
    exact ⟨by rw [H.out]; first | rfl | (simp; done) | (simp; omega), EW.out⟩
set_option linter.unusedVariables false
open Go.RowKit
theorem single_rl {r : Rs} {k : Nat} {x : Rl} (hx : r.rules[k]? = some x) (hg : goFrom rlNew [] r.rules = goFrom rlNew (r.rules.take k) (r.rules.drop k)) (h : rlNew (r.rules.take k) x = false) : (!singleR r) = true := by
 unfold singleR
 rw [hg, goFrom_step rlNew hx, h]; rfl
theorem single3_host {r : Rs} {k : Nat} {x : Int} (hx : r.hosts[k]? = some x) (hg : goFrom hostNew [] r.hosts = goFrom hostNew (r.hosts.take k) (r.hosts.drop k)) (h : hostNew (r.hosts.take k) x = false) : (!singleR r) = true := by
 unfold singleR
 rw [hg, goFrom_step hostNew hx, h]; simp
theorem single_end {r : Rs} (h1 : goFrom rlNew [] r.rules = true) (h2 : goFrom hostNew [] r.hosts = true) : (!singleR r) = false := by
 unfold singleR; rw [h1, h2]; rfl
theorem weigh_no {x : Rl} (h : ∀ p ∈ x.ws, ¬ 0 < p.2) (pre : List Rl) : rlNew pre x = false := by
 unfold rlNew weighsB
 rw [show x.ws.any (fun p => decide (0 < p.2)) = false from by rw [List.any_eq_false]; intro p hp; simpa using h p hp]; rfl
theorem weigh_yes {x : Rl} (h : ¬ ∀ p ∈ x.ws, ¬ 0 < p.2) : weighsB x = true := by
 cases hw : weighsB x with
 | true => rfl
 | false =>
  refine (h fun p hp => ?_).elim
  unfold weighsB at hw
  rw [List.any_eq_false] at hw
  simpa using hw p hp
theorem new_same {l : List Rl} {x y : Rl} {k p : Nat} (hp : p < k) (hy : l[p]? = some y) (h : sameHP x y = true) : rlNew (l.take k) x = false := by
 unfold rlNew
 rw [show (l.take k).any (fun z => sameHP x z) = true from List.any_eq_true.2 ⟨y, List.mem_of_getElem? (i := p) (by rw [List.getElem?_take, if_pos hp]; exact hy), h⟩]; simp
theorem upto_take {α : Type} {P : α → Prop} {l : List α} {k : Nat} (h : Upto P l k) : ∀ x ∈ l.take k, P x := fun x hx => by
 obtain ⟨j, hj⟩ := List.mem_iff_getElem?.1 hx
 rw [List.getElem?_take] at hj
 split at hj
 ·rename_i h1; exact h j x h1 hj
 ·cases hj
theorem new_good {l : List Rl} {x : Rl} {k : Nat} (hw : weighsB x = true) (h : Upto (fun y => sameHP x y = false) l k) : rlNew (l.take k) x = true := by
 unfold rlNew
 rw [hw, show (l.take k).any (fun z => sameHP x z) = false from by rw [List.any_eq_false]; intro y hy; rw [upto_take h y hy]; simp]; rfl
theorem host_same {l : List Int} {x : Int} {k p : Nat} (hp : p < k) (hy : l[p]? = some x) : hostNew (l.take k) x = false := by
 unfold hostNew
 rw [show (l.take k).contains x = true from List.contains_iff_mem.2 (List.mem_of_getElem? (i := p) (by rw [List.getElem?_take, if_pos hp]; exact hy))]; rfl
theorem host_good {l : List Int} {x : Int} {k : Nat} (h : Upto (fun y => ¬ x = y) l k) : hostNew (l.take k) x = true := by
 unfold hostNew
 rw [show (l.take k).contains x = false from by rw [Bool.eq_false_iff]; intro hc; exact upto_take h x (List.contains_iff_mem.1 hc) rfl]; rfl
theorem hp_of {x y : Rl} (h1 : tx x.host = tx y.host) (h2 : tx x.pre = tx y.pre) : sameHP x y = true := by unfold sameHP; rw [decide_eq_true h1, decide_eq_true h2]; rfl
theorem hp_no1 {x y : Rl} (h1 : ¬ tx x.host = tx y.host) : sameHP x y = false := by unfold sameHP; rw [decide_eq_false h1]; rfl
theorem hp_no2 {x y : Rl} (h2 : ¬ tx x.pre = tx y.pre) : sameHP x y = false := by unfold sameHP; rw [decide_eq_false h2]; simp
theorem refTwice_any (S : Nat → Prop) (r : Rs) (A A' : Option Addr) (n c n' c' : Nat) (w : World) (hV : RsV S w r A n c A' n' c') (hsm : SmallR r) :
  Calls Tryz.prog 168 #[rsVal r A n c A' n' c'] w fun e w' => e = .returned (.bool (!singleR r)) ∧ Ext w w' := by
 have hm : n ≤ 9223372036854775807 := by have h1 := hV.sl.1; have h2 := hV.sl.2.1; unfold maxLen at h2; omega
 have hm' : n' ≤ 9223372036854775807 := by have h1 := hV.sl'.1; have h2 := hV.sl'.2.1; unfold maxLen at h2; omega
 have hL : r.rules.length = n := hV.arr.len
 have hL' : r.hosts.length = n' := hV.arr'.len
 have HV := hid hV
 clear hV
 have HSM := hid hsm
 have hn8 : n ≤ 8 := by have := hsm.rules; omega
 have hn8' : n' ≤ 8 := by have := hsm.hosts; omega
 clear hsm
 unfold rsVal
 go_enter Tryz.func168, Tryz.ntmps168
 go_wp2_with fail
 have kA := heap_alloc_new w (.cells #[.int .i64 r.kind, .string r.name, .int .i64 r.ver, .int .i64 r.port, .string r.to, .slice A n c, .slice A' n' c'] 34)
 have EW := hid (Ext.new w (.cells #[.int .i64 r.kind, .string r.name, .int .i64 r.ver, .int .i64 r.port, .string r.to, .slice A n c, .slice A' n' c'] 34))
 generalize w.alloc (.cells #[.int .i64 r.kind, .string r.name, .int .i64 r.ver, .int .i64 r.port, .string r.to, .slice A n c, .slice A' n' c'] 34) = W at kA EW ⊢
 have hzW : w.heap.size < W.heap.size := (Array.getElem?_eq_some_iff.1 kA).1
 obtain ⟨q, -⟩ := blk_rules kA
 have q5 := q 5
 have q6 := q 6
 clear q kA
 go_loopw [3] (fun i wr => ∃ k : Nat, k ≤ n ∧ i = .int .i64 k ∧ Hid (Ext W wr) ∧ Hid (goFrom rlNew [] r.rules = goFrom rlNew (r.rules.take k) (r.rules.drop k))) (fun i _ => n - (intOf i).toNat)
 case atStart => exact ⟨0, Nat.zero_le _, by go_num, hid (Ext.refl _), hid rfl⟩
 case round =>
  obtain ⟨k, hk, rfl, HE, HG⟩ := hrel
  have r5 : wr.cell? ⟨w.heap.size, 5, none⟩ = some (.slice A n c) := (HE.out.cell hzW).trans q5
  by_cases hlt : k < n
  ·obtain ⟨b, ob, x, B, m, d, rfl, hbB, -, hlk, hv, hc0, hc1, hc2⟩ := RlL.at_ HV.out.arr hlt
   have d2 : wr.cell? ⟨b, ob + k * 3 + 2, none⟩ = some (.slice B m d) := ((EW.out.trans HE.out).cell hbB).trans hc2
   have i1 : (0 : Int) ≤ (k : Int) := by omega
   have i2 : (k : Int) < (n : Int) := by omega
   have HX := hid hlk
   have HVx := hid hv
   have HC0 := hid hc0
   have HC1 := hid hc1
   have hlw : x.ws.length = m := hv.arr.len
   have hsx := (smallRl_iff x).1 (HSM.out.rl x (List.mem_of_getElem? hlk))
   have HSX := hid hsx
   have hm4 : m ≤ 4 := by have := hsx.1; omega
   clear hc0 hc1 hc2 hlk hv hsx
   go_wp2_with fail
   go_loop [4, 5] (fun s j => ∃ (q : Nat) (t : Int), q ≤ m ∧ s = .int .i64 t ∧ j = .int .i64 q ∧ 0 ≤ t ∧ t ≤ 100 * q ∧ Hid (t = 0 ↔ Upto (fun p : ByteArray × Int => ¬ 0 < p.2) x.ws q)) (fun _ j => m - (intOf j).toNat)
   case atStart => exact ⟨0, 0, Nat.zero_le _, by go_num, by go_num, by omega, by omega, hid ⟨fun _ => Upto.nil, fun _ => rfl⟩⟩
   case round =>
    obtain ⟨q, t, hq, rfl, rfl, ht0, ht1, HT⟩ := hrel
    by_cases hlq : q < m
    ·obtain ⟨b1, o1, s, y, rfl, hbB1, -, hl1, -, hd0, hd1⟩ := WtL.at_ HVx.out.arr hlq
     have f1 : wr.cell? ⟨b1, o1 + q * 2 + 1, none⟩ = some (.int .i64 y) := ((EW.out.trans HE.out).cell hbB1).trans hd1
     have j1 : (0 : Int) ≤ (q : Int) := by omega
     have j2 : (q : Int) < (m : Int) := by omega
     have hy := HSX.out.2 (s, y) (List.mem_of_getElem? hl1)
     have hy0 : 0 ≤ y := hy.1
     have hy1 : y ≤ 100 := hy.2
     have hwr : IntKind.i64.wrap (t + y) = t + y := by rw [IntKind.wrap_i64]; omega
     have HT2 : Hid (t + y = 0 ↔ Upto (fun p : ByteArray × Int => ¬ 0 < p.2) x.ws (q + 1)) := hid (by
      constructor
      ·intro h0
       exact Upto.step (HT.out.1 (by omega)) hl1 (by show ¬ 0 < y; omega)
      ·intro hu
       have h1 : t = 0 := HT.out.2 (fun j z hj hz => hu j z (by omega) hz)
       have h2 : ¬ 0 < y := hu q (s, y) (by omega) hl1
       omega)
     clear hd0 hd1 hl1 hy HT
     go_wp2_with fail
     go_round
     case rel => exact ⟨q + 1, t + y, by omega, by go_num, by go_num, by omega, by push_cast; omega, HT2⟩
     case measure => simp [intOf]; omega
    ·obtain rfl : q = m := by omega
     by_cases hz : t = 0
     ·have H : Hid ((!singleR r) = true) := hid (single_rl HX.out HG.out (weigh_no ((HT.out.1 hz).all (by omega)) _))
      subst hz
      go_wp2_with fail
      go_ret
      exact ⟨by rw [H.out]; first | rfl | (simp; done) | (simp; omega), EW.out.trans HE.out⟩
     have HWE := hid (weigh_yes (x := x) (fun h => hz (HT.out.2 (fun j z hj hz => h z (List.mem_of_getElem? hz)))))
     have hz1 : (t == 0) = false := by rw [beq_eq_false_iff_ne]; exact hz
     clear HT
     go_wp2_with fail
     clear r5 d2
     go_loopw [6] (fun i wv => ∃ p : Nat, p ≤ k ∧ i = .int .i64 p ∧ Hid (Ext W wv) ∧ Hid (Upto (fun y => sameHP x y = false) r.rules p)) (fun i _ => k - (intOf i).toNat)
     case atStart => exact ⟨0, Nat.zero_le _, by go_num, HE, hid Upto.nil⟩
     case round =>
      clear HE
      obtain ⟨p, hp, rfl, HE, HU⟩ := hrel
      have r5 : wr.cell? ⟨w.heap.size, 5, none⟩ = some (.slice (some ⟨b, ob, none⟩) n c) := (HE.out.cell hzW).trans q5
      by_cases hlp : p < k
      ·obtain ⟨b', ob', y, B', m', d', hAe, -, -, hly, -, he0, he1, -⟩ := RlL.at_ HV.out.arr (show p < n by omega)
       injection hAe with hAe
       injection hAe with z1 z2
       subst z1 z2
       have d0 : wr.cell? ⟨b, ob + k * 3, none⟩ = some (.string x.host) := ((EW.out.trans HE.out).cell hbB).trans HC0.out
       have d1 : wr.cell? ⟨b, ob + k * 3 + 1, none⟩ = some (.string x.pre) := ((EW.out.trans HE.out).cell hbB).trans HC1.out
       obtain ⟨e0, e1⟩ := up2 ((EW.out.trans HE.out)) hbB he0 he1
       have j1 : (0 : Int) ≤ (p : Int) := by omega
       have j2 : (p : Int) < (n : Int) := by omega
       have j3 : (p : Int) < (k : Int) := by omega
       have HLY := hid hly
       clear he0 he1 hly
       by_cases h1 : tx x.host = tx y.host
       ·have hq1 := beq_of h1
        by_cases h2 : tx x.pre = tx y.pre
        ·have hq2 := beq_of h2
         have H : Hid ((!singleR r) = true) := hid (single_rl HX.out HG.out (new_same hlp HLY.out (hp_of h1 h2)))
         clear h1 h2
         go_wp2_with fail
         go_region
         go_wp2_with fail
         go_ret
         exact ⟨by rw [H.out]; first | rfl | (simp; done) | (simp; omega), (EW.out.trans HE.out).drew⟩
        ·have hq2 := beq_not h2
         have HU2 := hid (HU.out.step HLY.out (hp_no2 h2))
         clear h1 h2
         go_wp2_with fail
         go_region
         go_wp2_with fail
         go_roundw
         case rel => exact ⟨p + 1, by omega, by go_num, hid HE.out.drew, HU2⟩
         case measure => simp [intOf]; omega
       ·have hq1 := beq_not h1
        have HU2 := hid (HU.out.step HLY.out (hp_no1 h1))
        clear h1
        go_wp2_with fail
        go_region
        go_wp2_with fail
        go_roundw
        case rel => exact ⟨p + 1, by omega, by go_num, hid HE.out.drew, HU2⟩
        case measure => simp [intOf]; omega
      ·obtain rfl : p = k := by omega
       have HG2 : Hid (goFrom rlNew [] r.rules = goFrom rlNew (r.rules.take (p + 1)) (r.rules.drop (p + 1))) := hid (by rw [HG.out, goFrom_step rlNew HX.out, new_good HWE.out HU.out, Bool.true_and])
       go_wp2_with fail
       go_roundw
       case rel => exact ⟨p + 1, by omega, by go_num, HE, HG2⟩
       case measure => simp [intOf]; omega
  ·have HGR : Hid (goFrom rlNew [] r.rules = true) := hid (by rw [HG.out, goFrom_end rlNew (by omega)])
   go_wp2_with fail
   clear r5 HG
   go_loopw [7] (fun i wv => ∃ k : Nat, k ≤ n' ∧ i = .int .i64 k ∧ Hid (Ext W wv) ∧ Hid (goFrom hostNew [] r.hosts = goFrom hostNew (r.hosts.take k) (r.hosts.drop k))) (fun i _ => n' - (intOf i).toNat)
   case atStart => exact ⟨0, Nat.zero_le _, by go_num, HE, hid rfl⟩
   case round =>
    clear HE hlt hk
    obtain ⟨k2, hk, rfl, HE, HG⟩ := hrel
    have r6 : wr.cell? ⟨w.heap.size, 6, none⟩ = some (.slice A' n' c') := (HE.out.cell hzW).trans q6
    by_cases hlt : k2 < n'
    ·obtain ⟨b, ob, x, rfl, hbB, -, hlk, hc0⟩ := HostL.at_ HV.out.arr' hlt
     have i1 : (0 : Int) ≤ (k2 : Int) := by omega
     have i2 : (k2 : Int) < (n' : Int) := by omega
     have HX := hid hlk
     have HC0 := hid hc0
     clear hc0 hlk
     go_wp2_with fail
     clear r6
     go_loopw [8] (fun i wv => ∃ p : Nat, p ≤ k2 ∧ i = .int .i64 p ∧ Hid (Ext W wv) ∧ Hid (Upto (fun y => ¬ x = y) r.hosts p)) (fun i _ => k2 - (intOf i).toNat)
     case atStart => exact ⟨0, Nat.zero_le _, by go_num, HE, hid Upto.nil⟩
     case round =>
      clear HE
      obtain ⟨p, hp, rfl, HE, HU⟩ := hrel
      have r6 : wr.cell? ⟨w.heap.size, 6, none⟩ = some (.slice (some ⟨b, ob, none⟩) n' c') := (HE.out.cell hzW).trans q6
      by_cases hlp : p < k2
      ·obtain ⟨b', ob', y, hAe, -, -, hly, he0⟩ := HostL.at_ HV.out.arr' (show p < n' by omega)
       injection hAe with hAe
       injection hAe with z1 z2
       subst z1 z2
       have d0 : wr.cell? ⟨b, ob + k2, none⟩ = some (.int .i64 x) := ((EW.out.trans HE.out).cell hbB).trans HC0.out
       have e0 : wr.cell? ⟨b, ob + p, none⟩ = some (.int .i64 y) := ((EW.out.trans HE.out).cell hbB).trans he0
       have j1 : (0 : Int) ≤ (p : Int) := by omega
       have j2 : (p : Int) < (n' : Int) := by omega
       have j3 : (p : Int) < (k2 : Int) := by omega
       have HLY := hid hly
       clear he0 hly
       by_cases h1 : x = y
       ·have H : Hid ((!singleR r) = true) := hid (single3_host HX.out HG.out (host_same hlp (h1 ▸ HLY.out)))
        have hq1 : (x == y) = true := by rw [h1]; simp
        clear h1
        go_wp2_with fail
        go_region
        go_wp2_with fail
        go_ret
        exact ⟨by rw [H.out]; first | rfl | (simp; done) | (simp; omega), (EW.out.trans HE.out).drew⟩
       ·have hq1 : (x == y) = false := by rw [beq_eq_false_iff_ne]; exact h1
        have HU2 := hid (HU.out.step HLY.out h1)
        clear h1
        go_wp2_with fail
        go_region
        go_wp2_with fail
        go_roundw
        case rel => exact ⟨p + 1, by omega, by go_num, hid HE.out.drew, HU2⟩
        case measure => simp [intOf]; omega
      ·obtain rfl : p = k2 := by omega
       have HG2 : Hid (goFrom hostNew [] r.hosts = goFrom hostNew (r.hosts.take (p + 1)) (r.hosts.drop (p + 1))) := hid (by rw [HG.out, goFrom_step hostNew HX.out, host_good HU.out, Bool.true_and])
       go_wp2_with fail
       go_roundw
       case rel => exact ⟨p + 1, by omega, by go_num, HE, HG2⟩
       case measure => simp [intOf]; omega
    ·have H : Hid ((!singleR r) = false) := hid (single_end HGR.out (by rw [HG.out, goFrom_end hostNew (by omega)]))
     go_wp2_with fail
     go_ret
     exact ⟨by rw [H.out]; first | rfl | (simp; done) | (simp; omega), EW.out.trans HE.out⟩
set_option linter.unusedVariables false
open Go.RowKit
theorem emp_of {s : ByteArray} (h : s.size = 0) : s.toList.isEmpty = true ∧ s.toList = [] := by
 have e : s.toList = [] := by rw [tx_toList]; exact List.eq_nil_of_length_eq_zero (by rw [tx_len]; exact h)
 exact ⟨by rw [e]; rfl, e⟩
theorem emp_not {s : ByteArray} (h : ¬ s.size = 0) : s.toList.isEmpty = false ∧ ¬ s.toList = [] := by
 have e : ¬ s.toList = [] := by rw [tx_toList]; intro e; rw [← tx_len, e] at h; exact h rfl
 exact ⟨by rw [List.isEmpty_eq_false_iff]; exact e, e⟩
theorem refSane_any (S : Nat → Prop) (r : Rs) (A A' : Option Addr) (n c n' c' : Nat) (w : World) (hV : RsV S w r A n c A' n' c') :
  Calls Tryz.prog 84 #[rsVal r A n c A' n' c'] w fun e w' => e = .returned (.int .i64 (saneR r)) ∧ Ext w w' := by
 obtain ⟨kd, nm, vr, pt, to_, rl, hs⟩ := r
 have hm : n ≤ 9223372036854775807 := by have h1 := hV.sl.1; have h2 := hV.sl.2.1; unfold maxLen at h2; omega
 have hm' : n' ≤ 9223372036854775807 := by have h1 := hV.sl'.1; have h2 := hV.sl'.2.1; unfold maxLen at h2; omega
 have hL : rl.length = n := hV.arr.len
 have hL' : hs.length = n' := hV.arr'.len
 have HV := hid hV
 clear hV
 unfold rsVal
 try simp only []
 by_cases g : kd < 0
 ·have H : Hid (saneR ⟨kd, nm, vr, pt, to_, rl, hs⟩ = 4) := hid (by
   have hi : inB (⟨kd, nm, vr, pt, to_, rl, hs⟩ : Rs).kind 3 = false := by unfold inB; simp; omega
   unfold saneR; rw [hi]; rfl)
  have EW := hid (Ext.new w (.cells #[.int .i64 kd, .string nm, .int .i64 vr, .int .i64 pt, .string to_, .slice A n c, .slice A' n' c'] 34))
  go_enter Tryz.func84, Tryz.ntmps84
  go_wp2_with fail
  go_ret
  exact ⟨by rw [H.out]; first | rfl | (simp; done), EW.out⟩
 by_cases g : 3 < kd
 ·have H : Hid (saneR ⟨kd, nm, vr, pt, to_, rl, hs⟩ = 4) := hid (by
   have hi : inB (⟨kd, nm, vr, pt, to_, rl, hs⟩ : Rs).kind 3 = false := by unfold inB; simp; omega
   unfold saneR; rw [hi]; rfl)
  have EW := hid (Ext.new w (.cells #[.int .i64 kd, .string nm, .int .i64 vr, .int .i64 pt, .string to_, .slice A n c, .slice A' n' c'] 34))
  go_enter Tryz.func84, Tryz.ntmps84
  go_wp2_with fail
  go_ret
  exact ⟨by rw [H.out]; first | rfl | (simp; done), EW.out⟩
 rcases (show kd = 0 ∨ kd = 1 ∨ kd = 2 ∨ kd = 3 by omega) with rfl | rfl | rfl | rfl
 ·have HI : Hid (inB (⟨0, nm, vr, pt, to_, rl, hs⟩ : Rs).kind 3 = true) := hid (by simp [inB])
  go_enter Tryz.func84, Tryz.ntmps84
  go_wp2_with fail
  have kA := heap_alloc_new w (.cells #[.int .i64 0, .string nm, .int .i64 vr, .int .i64 pt, .string to_, .slice A n c, .slice A' n' c'] 34)
  have EW := hid (Ext.new w (.cells #[.int .i64 0, .string nm, .int .i64 vr, .int .i64 pt, .string to_, .slice A n c, .slice A' n' c'] 34))
  have hzW : w.heap.size < (w.alloc (.cells #[.int .i64 0, .string nm, .int .i64 vr, .int .i64 pt, .string to_, .slice A n c, .slice A' n' c'] 34)).heap.size := by simp
  generalize w.alloc (.cells #[.int .i64 0, .string nm, .int .i64 vr, .int .i64 pt, .string to_, .slice A n c, .slice A' n' c'] 34) = W at kA EW hzW ⊢
  have Q := hid (blk_rules kA).1
  clear kA
  have r0 : W.cell? ⟨w.heap.size, 0, none⟩ = some (.int .i64 0) := Q.out 0
  have r1 : W.cell? ⟨w.heap.size, 1, none⟩ = some (.string nm) := Q.out 1
  have r2 : W.cell? ⟨w.heap.size, 2, none⟩ = some (.int .i64 vr) := Q.out 2
  have r3 : W.cell? ⟨w.heap.size, 3, none⟩ = some (.int .i64 pt) := Q.out 3
  have r4 : W.cell? ⟨w.heap.size, 4, none⟩ = some (.string to_) := Q.out 4
  have r5 : W.cell? ⟨w.heap.size, 5, none⟩ = some (.slice A n c) := Q.out 5
  have r6 : W.cell? ⟨w.heap.size, 6, none⟩ = some (.slice A' n' c') := Q.out 6
  refine (refSaneN_any nm _ HV.out.nm).mono ?_
  rintro e w' ⟨rfl, rfl⟩
  cases h1 : saneN (tx nm) with
  | false =>
   have H : Hid (saneR ⟨0, nm, vr, pt, to_, rl, hs⟩ = 5) := hid (by unfold saneR; simp [HI.out, h1])
   go_wp2_with fail
   go_ret
   exact ⟨by rw [H.out]; first | rfl | (simp; done), EW.out⟩
  | true =>
  have H1 := hid h1
  clear h1
  go_wp2_with fail
  refine (refBig_any S ⟨0, nm, vr, pt, to_, rl, hs⟩ A A' n c n' c' _ (HV.out.up EW.out)).mono ?_
  rintro e w2 ⟨rfl, hb⟩
  have G2 := hid hb
  clear hb
  clear r0 r1 r2 r3 r4 r5 r6
  have r0 : w2.cell? ⟨w.heap.size, 0, none⟩ = some (.int .i64 0) := (G2.out.cell hzW).trans (Q.out 0)
  have r1 : w2.cell? ⟨w.heap.size, 1, none⟩ = some (.string nm) := (G2.out.cell hzW).trans (Q.out 1)
  have r2 : w2.cell? ⟨w.heap.size, 2, none⟩ = some (.int .i64 vr) := (G2.out.cell hzW).trans (Q.out 2)
  have r3 : w2.cell? ⟨w.heap.size, 3, none⟩ = some (.int .i64 pt) := (G2.out.cell hzW).trans (Q.out 3)
  have r4 : w2.cell? ⟨w.heap.size, 4, none⟩ = some (.string to_) := (G2.out.cell hzW).trans (Q.out 4)
  have r5 : w2.cell? ⟨w.heap.size, 5, none⟩ = some (.slice A n c) := (G2.out.cell hzW).trans (Q.out 5)
  have r6 : w2.cell? ⟨w.heap.size, 6, none⟩ = some (.slice A' n' c') := (G2.out.cell hzW).trans (Q.out 6)
  cases h2 : smallR ⟨0, nm, vr, pt, to_, rl, hs⟩ with
  | false =>
   have H : Hid (saneR ⟨0, nm, vr, pt, to_, rl, hs⟩ = 3) := hid (by unfold saneR; simp [HI.out, H1.out, h2])
   go_wp2_with fail
   go_ret
   exact ⟨by rw [H.out]; first | rfl | (simp; done), EW.out.trans G2.out⟩
  | true =>
  have H2 := hid h2
  clear h2
  simp only [Bool.not_true]
  by_cases g : n = 0; rotate_left
  ·have hl0 : ¬ rl = [] := by intro e; rw [e] at hL; exact g hL.symm
   have HSH : Hid (shapedR ⟨0, nm, vr, pt, to_, rl, hs⟩ = false) := hid (by simp [shapedR, noPort, noTo, noRules, noHosts, hl0])
   have hn0 : (0 : Int) < (n : Int) := by omega
   clear g
   have H : Hid (saneR ⟨0, nm, vr, pt, to_, rl, hs⟩ = 2) := hid (by unfold saneR; simp [HI.out, H1.out, H2.out, HSH.out])
   go_wp2_with fail
   go_ret
   exact ⟨by rw [H.out]; first | rfl | (simp; done), EW.out.trans G2.out⟩
  obtain rfl : n = 0 := g
  by_cases g : n' = 0; rotate_left
  ·have hl0' : ¬ hs = [] := by intro e; rw [e] at hL'; exact g hL'.symm
   have HSH : Hid (shapedR ⟨0, nm, vr, pt, to_, rl, hs⟩ = false) := hid (by simp [shapedR, noPort, noTo, noRules, noHosts, hl0'])
   have hn0' : (0 : Int) < (n' : Int) := by omega
   clear g
   have H : Hid (saneR ⟨0, nm, vr, pt, to_, rl, hs⟩ = 2) := hid (by unfold saneR; simp [HI.out, H1.out, H2.out, HSH.out])
   go_wp2_with fail
   go_ret
   exact ⟨by rw [H.out]; first | rfl | (simp; done), EW.out.trans G2.out⟩
  obtain rfl : n' = 0 := g
  have HSH : Hid (shapedR ⟨0, nm, vr, pt, to_, rl, hs⟩ = true) := hid (by
   have hl0 : rl = [] := List.eq_nil_of_length_eq_zero (hL)
   have hl1 : hs = [] := List.eq_nil_of_length_eq_zero (hL')
   simp [shapedR, noPort, noTo, noRules, noHosts, hl0, hl1])
  go_wp2_with fail
  refine (refNames_any S ⟨0, nm, vr, pt, to_, rl, hs⟩ A A' 0 c 0 c' _ (HV.out.up (EW.out.trans G2.out)) (by constructor <;> simp)).mono ?_
  rintro e w3 ⟨rfl, hb⟩
  have G3 := hid (G2.out.trans hb)
  clear hb
  clear r0 r1 r2 r3 r4 r5 r6
  have r0 : w3.cell? ⟨w.heap.size, 0, none⟩ = some (.int .i64 0) := (G3.out.cell hzW).trans (Q.out 0)
  have r1 : w3.cell? ⟨w.heap.size, 1, none⟩ = some (.string nm) := (G3.out.cell hzW).trans (Q.out 1)
  have r2 : w3.cell? ⟨w.heap.size, 2, none⟩ = some (.int .i64 vr) := (G3.out.cell hzW).trans (Q.out 2)
  have r3 : w3.cell? ⟨w.heap.size, 3, none⟩ = some (.int .i64 pt) := (G3.out.cell hzW).trans (Q.out 3)
  have r4 : w3.cell? ⟨w.heap.size, 4, none⟩ = some (.string to_) := (G3.out.cell hzW).trans (Q.out 4)
  have r5 : w3.cell? ⟨w.heap.size, 5, none⟩ = some (.slice A 0 c) := (G3.out.cell hzW).trans (Q.out 5)
  have r6 : w3.cell? ⟨w.heap.size, 6, none⟩ = some (.slice A' 0 c') := (G3.out.cell hzW).trans (Q.out 6)
  cases h4 : namedR ⟨0, nm, vr, pt, to_, rl, hs⟩ with
  | false =>
   have H : Hid (saneR ⟨0, nm, vr, pt, to_, rl, hs⟩ = 5) := hid (by unfold saneR; simp [HI.out, H1.out, H2.out, HSH.out, h4])
   go_wp2_with fail
   go_ret
   exact ⟨by rw [H.out]; first | rfl | (simp; done), EW.out.trans G3.out⟩
  | true =>
  have H4 := hid h4
  clear h4
  go_wp2_with fail
  refine (refTwice_any S ⟨0, nm, vr, pt, to_, rl, hs⟩ A A' 0 c 0 c' _ (HV.out.up (EW.out.trans G3.out)) ((small_iff _).1 H2.out)).mono ?_
  rintro e w4 ⟨rfl, hb⟩
  have G4 := hid (G3.out.trans hb)
  clear hb
  clear r0 r1 r2 r3 r4 r5 r6
  cases h5 : singleR ⟨0, nm, vr, pt, to_, rl, hs⟩ with
  | false =>
   have H : Hid (saneR ⟨0, nm, vr, pt, to_, rl, hs⟩ = 2) := hid (by unfold saneR; simp [HI.out, H1.out, H2.out, HSH.out, H4.out, h5])
   go_wp2_with fail
   go_ret
   exact ⟨by rw [H.out]; first | rfl | (simp; done), EW.out.trans G4.out⟩
  | true =>
  simp only [Bool.not_true]
  have H : Hid (saneR ⟨0, nm, vr, pt, to_, rl, hs⟩ = 0) := hid (by unfold saneR; simp [HI.out, H1.out, H2.out, HSH.out, H4.out, h5])
  go_wp2_with fail
  go_ret
  exact ⟨by rw [H.out]; first | rfl | (simp; done), EW.out.trans G4.out⟩
 ·have HI : Hid (inB (⟨1, nm, vr, pt, to_, rl, hs⟩ : Rs).kind 3 = true) := hid (by simp [inB])
  go_enter Tryz.func84, Tryz.ntmps84
  go_wp2_with fail
  have kA := heap_alloc_new w (.cells #[.int .i64 1, .string nm, .int .i64 vr, .int .i64 pt, .string to_, .slice A n c, .slice A' n' c'] 34)
  have EW := hid (Ext.new w (.cells #[.int .i64 1, .string nm, .int .i64 vr, .int .i64 pt, .string to_, .slice A n c, .slice A' n' c'] 34))
  have hzW : w.heap.size < (w.alloc (.cells #[.int .i64 1, .string nm, .int .i64 vr, .int .i64 pt, .string to_, .slice A n c, .slice A' n' c'] 34)).heap.size := by simp
  generalize w.alloc (.cells #[.int .i64 1, .string nm, .int .i64 vr, .int .i64 pt, .string to_, .slice A n c, .slice A' n' c'] 34) = W at kA EW hzW ⊢
  have Q := hid (blk_rules kA).1
  clear kA
  have r0 : W.cell? ⟨w.heap.size, 0, none⟩ = some (.int .i64 1) := Q.out 0
  have r1 : W.cell? ⟨w.heap.size, 1, none⟩ = some (.string nm) := Q.out 1
  have r2 : W.cell? ⟨w.heap.size, 2, none⟩ = some (.int .i64 vr) := Q.out 2
  have r3 : W.cell? ⟨w.heap.size, 3, none⟩ = some (.int .i64 pt) := Q.out 3
  have r4 : W.cell? ⟨w.heap.size, 4, none⟩ = some (.string to_) := Q.out 4
  have r5 : W.cell? ⟨w.heap.size, 5, none⟩ = some (.slice A n c) := Q.out 5
  have r6 : W.cell? ⟨w.heap.size, 6, none⟩ = some (.slice A' n' c') := Q.out 6
  refine (refSaneN_any nm _ HV.out.nm).mono ?_
  rintro e w' ⟨rfl, rfl⟩
  cases h1 : saneN (tx nm) with
  | false =>
   have H : Hid (saneR ⟨1, nm, vr, pt, to_, rl, hs⟩ = 5) := hid (by unfold saneR; simp [HI.out, h1])
   go_wp2_with fail
   go_ret
   exact ⟨by rw [H.out]; first | rfl | (simp; done), EW.out⟩
  | true =>
  have H1 := hid h1
  clear h1
  go_wp2_with fail
  refine (refBig_any S ⟨1, nm, vr, pt, to_, rl, hs⟩ A A' n c n' c' _ (HV.out.up EW.out)).mono ?_
  rintro e w2 ⟨rfl, hb⟩
  have G2 := hid hb
  clear hb
  clear r0 r1 r2 r3 r4 r5 r6
  have r0 : w2.cell? ⟨w.heap.size, 0, none⟩ = some (.int .i64 1) := (G2.out.cell hzW).trans (Q.out 0)
  have r1 : w2.cell? ⟨w.heap.size, 1, none⟩ = some (.string nm) := (G2.out.cell hzW).trans (Q.out 1)
  have r2 : w2.cell? ⟨w.heap.size, 2, none⟩ = some (.int .i64 vr) := (G2.out.cell hzW).trans (Q.out 2)
  have r3 : w2.cell? ⟨w.heap.size, 3, none⟩ = some (.int .i64 pt) := (G2.out.cell hzW).trans (Q.out 3)
  have r4 : w2.cell? ⟨w.heap.size, 4, none⟩ = some (.string to_) := (G2.out.cell hzW).trans (Q.out 4)
  have r5 : w2.cell? ⟨w.heap.size, 5, none⟩ = some (.slice A n c) := (G2.out.cell hzW).trans (Q.out 5)
  have r6 : w2.cell? ⟨w.heap.size, 6, none⟩ = some (.slice A' n' c') := (G2.out.cell hzW).trans (Q.out 6)
  cases h2 : smallR ⟨1, nm, vr, pt, to_, rl, hs⟩ with
  | false =>
   have H : Hid (saneR ⟨1, nm, vr, pt, to_, rl, hs⟩ = 3) := hid (by unfold saneR; simp [HI.out, H1.out, h2])
   go_wp2_with fail
   go_ret
   exact ⟨by rw [H.out]; first | rfl | (simp; done), EW.out.trans G2.out⟩
  | true =>
  have H2 := hid h2
  clear h2
  simp only [Bool.not_true]
  by_cases g : pt = 0; rotate_left
  ·have HSH : Hid (shapedR ⟨1, nm, vr, pt, to_, rl, hs⟩ = false) := hid (by simp [shapedR, noPort, noTo, noRules, noHosts, g])
   have hp1 : (pt != 0) = true := by rw [bne_iff_ne]; exact g
   clear g
   have H : Hid (saneR ⟨1, nm, vr, pt, to_, rl, hs⟩ = 2) := hid (by unfold saneR; simp [HI.out, H1.out, H2.out, HSH.out])
   go_wp2_with fail
   go_ret
   exact ⟨by rw [H.out]; first | rfl | (simp; done), EW.out.trans G2.out⟩
  have g0 := hid g
  have hp1 : (pt != 0) = false := by rw [g]; rfl
  clear g
  by_cases g : to_.size = 0; rotate_left
  ·have HSH : Hid (shapedR ⟨1, nm, vr, pt, to_, rl, hs⟩ = false) := hid (by simp [shapedR, noPort, noTo, noRules, noHosts, g])
   obtain ⟨ht1, ht2⟩ := emp_not g
   clear g
   have H : Hid (saneR ⟨1, nm, vr, pt, to_, rl, hs⟩ = 2) := hid (by unfold saneR; simp [HI.out, H1.out, H2.out, HSH.out])
   go_wp2_with fail
   go_ret
   exact ⟨by rw [H.out]; first | rfl | (simp; done), EW.out.trans G2.out⟩
  have g1 := hid g
  obtain ⟨ht1, ht2⟩ := emp_of g
  clear g
  by_cases g : n' = 0; rotate_left
  ·have hl0' : ¬ hs = [] := by intro e; rw [e] at hL'; exact g hL'.symm
   have HSH : Hid (shapedR ⟨1, nm, vr, pt, to_, rl, hs⟩ = false) := hid (by simp [shapedR, noPort, noTo, noRules, noHosts, hl0'])
   have hn0' : (0 : Int) < (n' : Int) := by omega
   clear g
   have H : Hid (saneR ⟨1, nm, vr, pt, to_, rl, hs⟩ = 2) := hid (by unfold saneR; simp [HI.out, H1.out, H2.out, HSH.out])
   go_wp2_with fail
   go_ret
   exact ⟨by rw [H.out]; first | rfl | (simp; done), EW.out.trans G2.out⟩
  obtain rfl : n' = 0 := g
  have HSH : Hid (shapedR ⟨1, nm, vr, pt, to_, rl, hs⟩ = true) := hid (by
   have hl2 : hs = [] := List.eq_nil_of_length_eq_zero (hL')
   simp [shapedR, noPort, noTo, noRules, noHosts, g0.out, g1.out, hl2])
  go_wp2_with fail
  refine (refNames_any S ⟨1, nm, vr, pt, to_, rl, hs⟩ A A' n c 0 c' _ (HV.out.up (EW.out.trans G2.out)) (by constructor <;> simp)).mono ?_
  rintro e w3 ⟨rfl, hb⟩
  have G3 := hid (G2.out.trans hb)
  clear hb
  clear r0 r1 r2 r3 r4 r5 r6
  have r0 : w3.cell? ⟨w.heap.size, 0, none⟩ = some (.int .i64 1) := (G3.out.cell hzW).trans (Q.out 0)
  have r1 : w3.cell? ⟨w.heap.size, 1, none⟩ = some (.string nm) := (G3.out.cell hzW).trans (Q.out 1)
  have r2 : w3.cell? ⟨w.heap.size, 2, none⟩ = some (.int .i64 vr) := (G3.out.cell hzW).trans (Q.out 2)
  have r3 : w3.cell? ⟨w.heap.size, 3, none⟩ = some (.int .i64 pt) := (G3.out.cell hzW).trans (Q.out 3)
  have r4 : w3.cell? ⟨w.heap.size, 4, none⟩ = some (.string to_) := (G3.out.cell hzW).trans (Q.out 4)
  have r5 : w3.cell? ⟨w.heap.size, 5, none⟩ = some (.slice A n c) := (G3.out.cell hzW).trans (Q.out 5)
  have r6 : w3.cell? ⟨w.heap.size, 6, none⟩ = some (.slice A' 0 c') := (G3.out.cell hzW).trans (Q.out 6)
  cases h4 : namedR ⟨1, nm, vr, pt, to_, rl, hs⟩ with
  | false =>
   have H : Hid (saneR ⟨1, nm, vr, pt, to_, rl, hs⟩ = 5) := hid (by unfold saneR; simp [HI.out, H1.out, H2.out, HSH.out, h4])
   go_wp2_with fail
   go_ret
   exact ⟨by rw [H.out]; first | rfl | (simp; done), EW.out.trans G3.out⟩
  | true =>
  have H4 := hid h4
  clear h4
  go_wp2_with fail
  refine (refTwice_any S ⟨1, nm, vr, pt, to_, rl, hs⟩ A A' n c 0 c' _ (HV.out.up (EW.out.trans G3.out)) ((small_iff _).1 H2.out)).mono ?_
  rintro e w4 ⟨rfl, hb⟩
  have G4 := hid (G3.out.trans hb)
  clear hb
  clear r0 r1 r2 r3 r4 r5 r6
  cases h5 : singleR ⟨1, nm, vr, pt, to_, rl, hs⟩ with
  | false =>
   have H : Hid (saneR ⟨1, nm, vr, pt, to_, rl, hs⟩ = 2) := hid (by unfold saneR; simp [HI.out, H1.out, H2.out, HSH.out, H4.out, h5])
   go_wp2_with fail
   go_ret
   exact ⟨by rw [H.out]; first | rfl | (simp; done), EW.out.trans G4.out⟩
  | true =>
  simp only [Bool.not_true]
  have H : Hid (saneR ⟨1, nm, vr, pt, to_, rl, hs⟩ = 0) := hid (by unfold saneR; simp [HI.out, H1.out, H2.out, HSH.out, H4.out, h5])
  go_wp2_with fail
  go_ret
  exact ⟨by rw [H.out]; first | rfl | (simp; done), EW.out.trans G4.out⟩
 ·have HI : Hid (inB (⟨2, nm, vr, pt, to_, rl, hs⟩ : Rs).kind 3 = true) := hid (by simp [inB])
  go_enter Tryz.func84, Tryz.ntmps84
  go_wp2_with fail
  have kA := heap_alloc_new w (.cells #[.int .i64 2, .string nm, .int .i64 vr, .int .i64 pt, .string to_, .slice A n c, .slice A' n' c'] 34)
  have EW := hid (Ext.new w (.cells #[.int .i64 2, .string nm, .int .i64 vr, .int .i64 pt, .string to_, .slice A n c, .slice A' n' c'] 34))
  have hzW : w.heap.size < (w.alloc (.cells #[.int .i64 2, .string nm, .int .i64 vr, .int .i64 pt, .string to_, .slice A n c, .slice A' n' c'] 34)).heap.size := by simp
  generalize w.alloc (.cells #[.int .i64 2, .string nm, .int .i64 vr, .int .i64 pt, .string to_, .slice A n c, .slice A' n' c'] 34) = W at kA EW hzW ⊢
  have Q := hid (blk_rules kA).1
  clear kA
  have r0 : W.cell? ⟨w.heap.size, 0, none⟩ = some (.int .i64 2) := Q.out 0
  have r1 : W.cell? ⟨w.heap.size, 1, none⟩ = some (.string nm) := Q.out 1
  have r2 : W.cell? ⟨w.heap.size, 2, none⟩ = some (.int .i64 vr) := Q.out 2
  have r3 : W.cell? ⟨w.heap.size, 3, none⟩ = some (.int .i64 pt) := Q.out 3
  have r4 : W.cell? ⟨w.heap.size, 4, none⟩ = some (.string to_) := Q.out 4
  have r5 : W.cell? ⟨w.heap.size, 5, none⟩ = some (.slice A n c) := Q.out 5
  have r6 : W.cell? ⟨w.heap.size, 6, none⟩ = some (.slice A' n' c') := Q.out 6
  refine (refSaneN_any nm _ HV.out.nm).mono ?_
  rintro e w' ⟨rfl, rfl⟩
  cases h1 : saneN (tx nm) with
  | false =>
   have H : Hid (saneR ⟨2, nm, vr, pt, to_, rl, hs⟩ = 5) := hid (by unfold saneR; simp [HI.out, h1])
   go_wp2_with fail
   go_ret
   exact ⟨by rw [H.out]; first | rfl | (simp; done), EW.out⟩
  | true =>
  have H1 := hid h1
  clear h1
  go_wp2_with fail
  refine (refBig_any S ⟨2, nm, vr, pt, to_, rl, hs⟩ A A' n c n' c' _ (HV.out.up EW.out)).mono ?_
  rintro e w2 ⟨rfl, hb⟩
  have G2 := hid hb
  clear hb
  clear r0 r1 r2 r3 r4 r5 r6
  have r0 : w2.cell? ⟨w.heap.size, 0, none⟩ = some (.int .i64 2) := (G2.out.cell hzW).trans (Q.out 0)
  have r1 : w2.cell? ⟨w.heap.size, 1, none⟩ = some (.string nm) := (G2.out.cell hzW).trans (Q.out 1)
  have r2 : w2.cell? ⟨w.heap.size, 2, none⟩ = some (.int .i64 vr) := (G2.out.cell hzW).trans (Q.out 2)
  have r3 : w2.cell? ⟨w.heap.size, 3, none⟩ = some (.int .i64 pt) := (G2.out.cell hzW).trans (Q.out 3)
  have r4 : w2.cell? ⟨w.heap.size, 4, none⟩ = some (.string to_) := (G2.out.cell hzW).trans (Q.out 4)
  have r5 : w2.cell? ⟨w.heap.size, 5, none⟩ = some (.slice A n c) := (G2.out.cell hzW).trans (Q.out 5)
  have r6 : w2.cell? ⟨w.heap.size, 6, none⟩ = some (.slice A' n' c') := (G2.out.cell hzW).trans (Q.out 6)
  cases h2 : smallR ⟨2, nm, vr, pt, to_, rl, hs⟩ with
  | false =>
   have H : Hid (saneR ⟨2, nm, vr, pt, to_, rl, hs⟩ = 3) := hid (by unfold saneR; simp [HI.out, H1.out, h2])
   go_wp2_with fail
   go_ret
   exact ⟨by rw [H.out]; first | rfl | (simp; done), EW.out.trans G2.out⟩
  | true =>
  have H2 := hid h2
  clear h2
  simp only [Bool.not_true]
  by_cases g : pt = 0; rotate_left
  ·have HSH : Hid (shapedR ⟨2, nm, vr, pt, to_, rl, hs⟩ = false) := hid (by simp [shapedR, noPort, noTo, noRules, noHosts, g])
   have hp1 : (pt != 0) = true := by rw [bne_iff_ne]; exact g
   clear g
   have H : Hid (saneR ⟨2, nm, vr, pt, to_, rl, hs⟩ = 2) := hid (by unfold saneR; simp [HI.out, H1.out, H2.out, HSH.out])
   go_wp2_with fail
   go_ret
   exact ⟨by rw [H.out]; first | rfl | (simp; done), EW.out.trans G2.out⟩
  have g0 := hid g
  have hp1 : (pt != 0) = false := by rw [g]; rfl
  clear g
  by_cases g : n = 0; rotate_left
  ·have hl0 : ¬ rl = [] := by intro e; rw [e] at hL; exact g hL.symm
   have HSH : Hid (shapedR ⟨2, nm, vr, pt, to_, rl, hs⟩ = false) := hid (by simp [shapedR, noPort, noTo, noRules, noHosts, hl0])
   have hn0 : (0 : Int) < (n : Int) := by omega
   clear g
   have H : Hid (saneR ⟨2, nm, vr, pt, to_, rl, hs⟩ = 2) := hid (by unfold saneR; simp [HI.out, H1.out, H2.out, HSH.out])
   go_wp2_with fail
   go_ret
   exact ⟨by rw [H.out]; first | rfl | (simp; done), EW.out.trans G2.out⟩
  obtain rfl : n = 0 := g
  by_cases g : n' = 0; rotate_left
  ·have hl0' : ¬ hs = [] := by intro e; rw [e] at hL'; exact g hL'.symm
   have HSH : Hid (shapedR ⟨2, nm, vr, pt, to_, rl, hs⟩ = false) := hid (by simp [shapedR, noPort, noTo, noRules, noHosts, hl0'])
   have hn0' : (0 : Int) < (n' : Int) := by omega
   clear g
   have H : Hid (saneR ⟨2, nm, vr, pt, to_, rl, hs⟩ = 2) := hid (by unfold saneR; simp [HI.out, H1.out, H2.out, HSH.out])
   go_wp2_with fail
   go_ret
   exact ⟨by rw [H.out]; first | rfl | (simp; done), EW.out.trans G2.out⟩
  obtain rfl : n' = 0 := g
  have HSH : Hid (shapedR ⟨2, nm, vr, pt, to_, rl, hs⟩ = true) := hid (by
   have hl1 : rl = [] := List.eq_nil_of_length_eq_zero (hL)
   have hl2 : hs = [] := List.eq_nil_of_length_eq_zero (hL')
   simp [shapedR, noPort, noTo, noRules, noHosts, g0.out, hl1, hl2])
  go_wp2_with fail
  refine (refNames_any S ⟨2, nm, vr, pt, to_, rl, hs⟩ A A' 0 c 0 c' _ (HV.out.up (EW.out.trans G2.out)) (by constructor <;> simp)).mono ?_
  rintro e w3 ⟨rfl, hb⟩
  have G3 := hid (G2.out.trans hb)
  clear hb
  clear r0 r1 r2 r3 r4 r5 r6
  have r0 : w3.cell? ⟨w.heap.size, 0, none⟩ = some (.int .i64 2) := (G3.out.cell hzW).trans (Q.out 0)
  have r1 : w3.cell? ⟨w.heap.size, 1, none⟩ = some (.string nm) := (G3.out.cell hzW).trans (Q.out 1)
  have r2 : w3.cell? ⟨w.heap.size, 2, none⟩ = some (.int .i64 vr) := (G3.out.cell hzW).trans (Q.out 2)
  have r3 : w3.cell? ⟨w.heap.size, 3, none⟩ = some (.int .i64 pt) := (G3.out.cell hzW).trans (Q.out 3)
  have r4 : w3.cell? ⟨w.heap.size, 4, none⟩ = some (.string to_) := (G3.out.cell hzW).trans (Q.out 4)
  have r5 : w3.cell? ⟨w.heap.size, 5, none⟩ = some (.slice A 0 c) := (G3.out.cell hzW).trans (Q.out 5)
  have r6 : w3.cell? ⟨w.heap.size, 6, none⟩ = some (.slice A' 0 c') := (G3.out.cell hzW).trans (Q.out 6)
  cases h4 : namedR ⟨2, nm, vr, pt, to_, rl, hs⟩ with
  | false =>
   have H : Hid (saneR ⟨2, nm, vr, pt, to_, rl, hs⟩ = 5) := hid (by unfold saneR; simp [HI.out, H1.out, H2.out, HSH.out, h4])
   go_wp2_with fail
   go_ret
   exact ⟨by rw [H.out]; first | rfl | (simp; done), EW.out.trans G3.out⟩
  | true =>
  have H4 := hid h4
  clear h4
  go_wp2_with fail
  refine (refTwice_any S ⟨2, nm, vr, pt, to_, rl, hs⟩ A A' 0 c 0 c' _ (HV.out.up (EW.out.trans G3.out)) ((small_iff _).1 H2.out)).mono ?_
  rintro e w4 ⟨rfl, hb⟩
  have G4 := hid (G3.out.trans hb)
  clear hb
  clear r0 r1 r2 r3 r4 r5 r6
  cases h5 : singleR ⟨2, nm, vr, pt, to_, rl, hs⟩ with
  | false =>
   have H : Hid (saneR ⟨2, nm, vr, pt, to_, rl, hs⟩ = 2) := hid (by unfold saneR; simp [HI.out, H1.out, H2.out, HSH.out, H4.out, h5])
   go_wp2_with fail
   go_ret
   exact ⟨by rw [H.out]; first | rfl | (simp; done), EW.out.trans G4.out⟩
  | true =>
  simp only [Bool.not_true]
  have H : Hid (saneR ⟨2, nm, vr, pt, to_, rl, hs⟩ = 0) := hid (by unfold saneR; simp [HI.out, H1.out, H2.out, HSH.out, H4.out, h5])
  go_wp2_with fail
  go_ret
  exact ⟨by rw [H.out]; first | rfl | (simp; done), EW.out.trans G4.out⟩
 ·have HI : Hid (inB (⟨3, nm, vr, pt, to_, rl, hs⟩ : Rs).kind 3 = true) := hid (by simp [inB])
  go_enter Tryz.func84, Tryz.ntmps84
  go_wp2_with fail
  have kA := heap_alloc_new w (.cells #[.int .i64 3, .string nm, .int .i64 vr, .int .i64 pt, .string to_, .slice A n c, .slice A' n' c'] 34)
  have EW := hid (Ext.new w (.cells #[.int .i64 3, .string nm, .int .i64 vr, .int .i64 pt, .string to_, .slice A n c, .slice A' n' c'] 34))
  have hzW : w.heap.size < (w.alloc (.cells #[.int .i64 3, .string nm, .int .i64 vr, .int .i64 pt, .string to_, .slice A n c, .slice A' n' c'] 34)).heap.size := by simp
  generalize w.alloc (.cells #[.int .i64 3, .string nm, .int .i64 vr, .int .i64 pt, .string to_, .slice A n c, .slice A' n' c'] 34) = W at kA EW hzW ⊢
  have Q := hid (blk_rules kA).1
  clear kA
  have r0 : W.cell? ⟨w.heap.size, 0, none⟩ = some (.int .i64 3) := Q.out 0
  have r1 : W.cell? ⟨w.heap.size, 1, none⟩ = some (.string nm) := Q.out 1
  have r2 : W.cell? ⟨w.heap.size, 2, none⟩ = some (.int .i64 vr) := Q.out 2
  have r3 : W.cell? ⟨w.heap.size, 3, none⟩ = some (.int .i64 pt) := Q.out 3
  have r4 : W.cell? ⟨w.heap.size, 4, none⟩ = some (.string to_) := Q.out 4
  have r5 : W.cell? ⟨w.heap.size, 5, none⟩ = some (.slice A n c) := Q.out 5
  have r6 : W.cell? ⟨w.heap.size, 6, none⟩ = some (.slice A' n' c') := Q.out 6
  refine (refSaneN_any nm _ HV.out.nm).mono ?_
  rintro e w' ⟨rfl, rfl⟩
  cases h1 : saneN (tx nm) with
  | false =>
   have H : Hid (saneR ⟨3, nm, vr, pt, to_, rl, hs⟩ = 5) := hid (by unfold saneR; simp [HI.out, h1])
   go_wp2_with fail
   go_ret
   exact ⟨by rw [H.out]; first | rfl | (simp; done), EW.out⟩
  | true =>
  have H1 := hid h1
  clear h1
  go_wp2_with fail
  refine (refBig_any S ⟨3, nm, vr, pt, to_, rl, hs⟩ A A' n c n' c' _ (HV.out.up EW.out)).mono ?_
  rintro e w2 ⟨rfl, hb⟩
  have G2 := hid hb
  clear hb
  clear r0 r1 r2 r3 r4 r5 r6
  have r0 : w2.cell? ⟨w.heap.size, 0, none⟩ = some (.int .i64 3) := (G2.out.cell hzW).trans (Q.out 0)
  have r1 : w2.cell? ⟨w.heap.size, 1, none⟩ = some (.string nm) := (G2.out.cell hzW).trans (Q.out 1)
  have r2 : w2.cell? ⟨w.heap.size, 2, none⟩ = some (.int .i64 vr) := (G2.out.cell hzW).trans (Q.out 2)
  have r3 : w2.cell? ⟨w.heap.size, 3, none⟩ = some (.int .i64 pt) := (G2.out.cell hzW).trans (Q.out 3)
  have r4 : w2.cell? ⟨w.heap.size, 4, none⟩ = some (.string to_) := (G2.out.cell hzW).trans (Q.out 4)
  have r5 : w2.cell? ⟨w.heap.size, 5, none⟩ = some (.slice A n c) := (G2.out.cell hzW).trans (Q.out 5)
  have r6 : w2.cell? ⟨w.heap.size, 6, none⟩ = some (.slice A' n' c') := (G2.out.cell hzW).trans (Q.out 6)
  cases h2 : smallR ⟨3, nm, vr, pt, to_, rl, hs⟩ with
  | false =>
   have H : Hid (saneR ⟨3, nm, vr, pt, to_, rl, hs⟩ = 3) := hid (by unfold saneR; simp [HI.out, H1.out, h2])
   go_wp2_with fail
   go_ret
   exact ⟨by rw [H.out]; first | rfl | (simp; done), EW.out.trans G2.out⟩
  | true =>
  have H2 := hid h2
  clear h2
  simp only [Bool.not_true]
  by_cases g : pt = 0; rotate_left
  ·have HSH : Hid (shapedR ⟨3, nm, vr, pt, to_, rl, hs⟩ = false) := hid (by simp [shapedR, noPort, noTo, noRules, noHosts, g])
   have hp1 : (pt != 0) = true := by rw [bne_iff_ne]; exact g
   clear g
   have H : Hid (saneR ⟨3, nm, vr, pt, to_, rl, hs⟩ = 2) := hid (by unfold saneR; simp [HI.out, H1.out, H2.out, HSH.out])
   go_wp2_with fail
   go_ret
   exact ⟨by rw [H.out]; first | rfl | (simp; done), EW.out.trans G2.out⟩
  have g0 := hid g
  have hp1 : (pt != 0) = false := by rw [g]; rfl
  clear g
  by_cases g : to_.size = 0; rotate_left
  ·have HSH : Hid (shapedR ⟨3, nm, vr, pt, to_, rl, hs⟩ = false) := hid (by simp [shapedR, noPort, noTo, noRules, noHosts, g])
   obtain ⟨ht1, ht2⟩ := emp_not g
   clear g
   have H : Hid (saneR ⟨3, nm, vr, pt, to_, rl, hs⟩ = 2) := hid (by unfold saneR; simp [HI.out, H1.out, H2.out, HSH.out])
   go_wp2_with fail
   go_ret
   exact ⟨by rw [H.out]; first | rfl | (simp; done), EW.out.trans G2.out⟩
  have g1 := hid g
  obtain ⟨ht1, ht2⟩ := emp_of g
  clear g
  by_cases g : n = 0; rotate_left
  ·have hl0 : ¬ rl = [] := by intro e; rw [e] at hL; exact g hL.symm
   have HSH : Hid (shapedR ⟨3, nm, vr, pt, to_, rl, hs⟩ = false) := hid (by simp [shapedR, noPort, noTo, noRules, noHosts, hl0])
   have hn0 : (0 : Int) < (n : Int) := by omega
   clear g
   have H : Hid (saneR ⟨3, nm, vr, pt, to_, rl, hs⟩ = 2) := hid (by unfold saneR; simp [HI.out, H1.out, H2.out, HSH.out])
   go_wp2_with fail
   go_ret
   exact ⟨by rw [H.out]; first | rfl | (simp; done), EW.out.trans G2.out⟩
  obtain rfl : n = 0 := g
  have HSH : Hid (shapedR ⟨3, nm, vr, pt, to_, rl, hs⟩ = true) := hid (by
   have hl2 : rl = [] := List.eq_nil_of_length_eq_zero (hL)
   simp [shapedR, noPort, noTo, noRules, noHosts, g0.out, g1.out, hl2])
  go_wp2_with fail
  refine (refNames_any S ⟨3, nm, vr, pt, to_, rl, hs⟩ A A' 0 c n' c' _ (HV.out.up (EW.out.trans G2.out)) (by constructor <;> simp)).mono ?_
  rintro e w3 ⟨rfl, hb⟩
  have G3 := hid (G2.out.trans hb)
  clear hb
  clear r0 r1 r2 r3 r4 r5 r6
  have r0 : w3.cell? ⟨w.heap.size, 0, none⟩ = some (.int .i64 3) := (G3.out.cell hzW).trans (Q.out 0)
  have r1 : w3.cell? ⟨w.heap.size, 1, none⟩ = some (.string nm) := (G3.out.cell hzW).trans (Q.out 1)
  have r2 : w3.cell? ⟨w.heap.size, 2, none⟩ = some (.int .i64 vr) := (G3.out.cell hzW).trans (Q.out 2)
  have r3 : w3.cell? ⟨w.heap.size, 3, none⟩ = some (.int .i64 pt) := (G3.out.cell hzW).trans (Q.out 3)
  have r4 : w3.cell? ⟨w.heap.size, 4, none⟩ = some (.string to_) := (G3.out.cell hzW).trans (Q.out 4)
  have r5 : w3.cell? ⟨w.heap.size, 5, none⟩ = some (.slice A 0 c) := (G3.out.cell hzW).trans (Q.out 5)
  have r6 : w3.cell? ⟨w.heap.size, 6, none⟩ = some (.slice A' n' c') := (G3.out.cell hzW).trans (Q.out 6)
  cases h4 : namedR ⟨3, nm, vr, pt, to_, rl, hs⟩ with
  | false =>
   have H : Hid (saneR ⟨3, nm, vr, pt, to_, rl, hs⟩ = 5) := hid (by unfold saneR; simp [HI.out, H1.out, H2.out, HSH.out, h4])
   go_wp2_with fail
   go_ret
   exact ⟨by rw [H.out]; first | rfl | (simp; done), EW.out.trans G3.out⟩
  | true =>
  have H4 := hid h4
  clear h4
  go_wp2_with fail
  refine (refTwice_any S ⟨3, nm, vr, pt, to_, rl, hs⟩ A A' 0 c n' c' _ (HV.out.up (EW.out.trans G3.out)) ((small_iff _).1 H2.out)).mono ?_
  rintro e w4 ⟨rfl, hb⟩
  have G4 := hid (G3.out.trans hb)
  clear hb
  clear r0 r1 r2 r3 r4 r5 r6
  cases h5 : singleR ⟨3, nm, vr, pt, to_, rl, hs⟩ with
  | false =>
   have H : Hid (saneR ⟨3, nm, vr, pt, to_, rl, hs⟩ = 2) := hid (by unfold saneR; simp [HI.out, H1.out, H2.out, HSH.out, H4.out, h5])
   go_wp2_with fail
   go_ret
   exact ⟨by rw [H.out]; first | rfl | (simp; done), EW.out.trans G4.out⟩
  | true =>
  simp only [Bool.not_true]
  have H : Hid (saneR ⟨3, nm, vr, pt, to_, rl, hs⟩ = 0) := hid (by unfold saneR; simp [HI.out, H1.out, H2.out, HSH.out, H4.out, h5])
  go_wp2_with fail
  go_ret
  exact ⟨by rw [H.out]; first | rfl | (simp; done), EW.out.trans G4.out⟩
end Go.Proofs.YtfdjbnofcniodaaGreatDoor
