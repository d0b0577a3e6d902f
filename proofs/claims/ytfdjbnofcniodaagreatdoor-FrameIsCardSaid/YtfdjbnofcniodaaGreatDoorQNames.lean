/- What the library's small functions on strings compute. -/
import Derived.Test.YtfdjbnofcniodaaGreatDoorRows
import Derived.Test.YtfdjbnofcniodaaGreatDoorQGround
import Derived.Lib.Strings
import Derived.Lib.IndexBytes
import Derived.Laws.RangeAny
import Derived.Lib.Bytealg
import Derived.Lib.IndexLaws
import Derived.RangeFuncNested
import Derived.RangeFuncBound
import Derived.RangeFuncCalls
import Derived.RangeFuncLeaves
import Derived.RangeFuncRecord
import Derived.OwnWalkIn
import Derived.TacticsInMore
import Derived.Shelf.Abstract
import Derived.Shelf.RegionOpen
import Derived.LoopNIn
import Derived.LoopIn
import Derived.Lib.Walk
import Derived.Outline
namespace Go.Proofs.YtfdjbnofcniodaaGreatDoor
open Lib (hid)
set_option maxHeartbeats 4000000
set_option maxRecDepth 100000
set_option linter.unusedVariables false
open Go.RowKit
def tx (s : ByteArray) : List UInt8 := s.data.toList
theorem tx_toList (s : ByteArray) : s.toList = tx s := Lib.toList_data s
theorem tx_len (s : ByteArray) : (tx s).length = s.size := by unfold tx; rw [Array.length_toList]; rfl
theorem tx_extract (s : ByteArray) (a b : Nat) : tx (s.extract a b) = ((tx s).take b).drop a := by
 unfold tx; rw [ByteArray.data_extract, Array.toList_extract, List.extract_eq_drop_take']
theorem tx_inj {s t : ByteArray} (h : tx s = tx t) : s = t := ByteArray.ext (Array.toList_inj.1 h)
theorem tx_beq (s t : ByteArray) : (s.toList == t.toList) = decide (tx s = tx t) := by
 rw [tx_toList, tx_toList, Bool.eq_iff_iff]; simp
def mkS (l : List UInt8) : ByteArray := ⟨l.toArray⟩
def preB (s p : ByteArray) : Bool := decide (tx p <+: tx s)
def sufB (s p : ByteArray) : Bool := decide (tx p <:+ tx s)
def cutS (s p : ByteArray) : ByteArray := if tx p <+: tx s then s.extract p.size s.size else s
theorem slHasPrefix_any (s p : ByteArray) (w : World) (hs : s.size ≤ maxLen) (hp : p.size ≤ maxLen) :
  Calls Tryz.prog 239 #[.string s, .string p] w fun e w' => e = .returned (.bool (preB s p)) ∧ w = w' := by
 unfold maxLen at hs hp
 by_cases h : p.size ≤ s.size
 ·have H : Hid (((s.extract 0 p.size).toList == p.toList) = preB s p) := hid (by
   unfold preB; rw [tx_beq, tx_extract, List.drop_zero, ← tx_len p, Bool.eq_iff_iff]
   simp only [decide_eq_true_eq]
   rw [List.prefix_iff_eq_take]; exact ⟨fun h => h.symm, fun h => h.symm⟩)
  go_enter Tryz.func239, Tryz.ntmps239
  go_wp2_with fail
  go_ret
  exact ⟨ret_bool H.out, rfl⟩
 ·have H : Hid (false = preB s p) := hid (by
   symm; rw [preB, decide_eq_false_iff_not]; intro h'; have := h'.length_le; rw [tx_len, tx_len] at this; omega)
  go_enter Tryz.func239, Tryz.ntmps239
  go_wp2_with fail
  go_ret
  exact ⟨ret_bool H.out, rfl⟩
theorem hasPrefix_any (s p : ByteArray) (w : World) (hs : s.size ≤ maxLen) (hp : p.size ≤ maxLen) :
  Calls Tryz.prog 235 #[.string s, .string p] w fun e w' => e = .returned (.bool (preB s p)) ∧ w = w' := by
 go_enter Tryz.func235, Tryz.ntmps235
 go_wp2_with fail
 refine (slHasPrefix_any s p _ hs hp).mono ?_
 rintro e w' ⟨rfl, rfl⟩
 go_wp2_with fail
 go_ret
 exact ⟨rfl, rfl⟩
theorem trimPrefix_any (s p : ByteArray) (w : World) (hs : s.size ≤ maxLen) (hp : p.size ≤ maxLen) :
  Calls Tryz.prog 234 #[.string s, .string p] w fun e w' => e = .returned (.string (cutS s p)) ∧ w = w' := by
 have K : Calls Tryz.prog 238 #[.string s, .string p] w fun e w' => e = .returned (.string (cutS s p)) ∧ w = w' := by
  by_cases h : tx p <+: tx s
  ·have hl : p.size ≤ s.size := by have := h.length_le; rw [tx_len, tx_len] at this; exact this
   have H : Hid ((cutS s p) = s.extract p.size s.size) := hid (by unfold cutS; exact if_pos h)
   have hd : Hid (preB s p = true) := hid (by unfold preB; exact decide_eq_true h)
   clear h
   go_enter Tryz.func238, Tryz.ntmps238
   go_wp2_with fail
   refine (slHasPrefix_any s p _ hs hp).mono ?_
   rintro e w' ⟨rfl, rfl⟩
   rw [hd.out]
   unfold maxLen at hs hp
   go_wp2_with fail
   go_ret
   exact ⟨by rw [H.out]; rfl, rfl⟩
  ·have H : Hid ((cutS s p) = s) := hid (by unfold cutS; exact if_neg h)
   have hd : Hid (preB s p = false) := hid (by unfold preB; exact decide_eq_false h)
   clear h
   go_enter Tryz.func238, Tryz.ntmps238
   go_wp2_with fail
   refine (slHasPrefix_any s p _ hs hp).mono ?_
   rintro e w' ⟨rfl, rfl⟩
   rw [hd.out]
   go_wp2_with fail
   go_ret
   exact ⟨by rw [H.out]; rfl, rfl⟩
 go_enter Tryz.func234, Tryz.ntmps234
 go_wp2_with fail
 refine K.mono ?_
 rintro e w' ⟨rfl, rfl⟩
 go_wp2_with fail
 go_ret
 exact ⟨rfl, rfl⟩
set_option linter.unusedVariables false
open Go.RowKit
def lowI (c : Int) : Bool := decide (97 ≤ c) && decide (c ≤ 122)
def plainI (c : Int) : Bool := lowI c || (decide (48 ≤ c) && decide (c ≤ 57)) || decide (c = 45)
theorem lowI_of (u : UInt8) : lowI (u.toNat : Int) = lowB u := by
 unfold lowI lowB; rw [Bool.eq_iff_iff]; simp only [Bool.and_eq_true, decide_eq_true_eq]; omega
theorem plainI_of (u : UInt8) : plainI (u.toNat : Int) = partB u := by
 unfold plainI partB; rw [lowI_of, Bool.eq_iff_iff]
 cases lowB u <;> simp only [Bool.and_eq_true, Bool.or_eq_true, decide_eq_true_eq, Bool.false_eq_true, false_or, true_or] <;> omega
theorem plainI_high {c : Int} (h : 128 ≤ c) : plainI c = false := by
 unfold plainI lowI; rw [Bool.eq_false_iff]; simp only [ne_eq, Bool.and_eq_true, Bool.or_eq_true, decide_eq_true_eq]; omega
theorem low_any (c : Int) (w : World) : Calls Tryz.prog 197 #[.int .i32 c] w fun e w' => e = .returned (.bool (lowI c)) ∧ w = w' := by
 by_cases h1 : 97 ≤ c <;> by_cases h2 : c ≤ 122
 ·have H : Hid (lowI c = true) := hid (by simp [lowI, h1, h2])
  go_enter Tryz.func197, Tryz.ntmps197
  go_wp2_with fail
  go_ret
  exact ⟨by rw [H.out]; rfl, rfl⟩
 all_goals
  have H : Hid (lowI c = false) := hid (by simp [lowI, h1, h2])
  go_enter Tryz.func197, Tryz.ntmps197
  go_wp2_with fail
  go_ret
  exact ⟨by rw [H.out]; rfl, rfl⟩
theorem plain_any (c : Int) (w : World) : Calls Tryz.prog 196 #[.int .i32 c] w fun e w' => e = .returned (.bool (plainI c)) ∧ w = w' := by
 cases h0 : lowI c with
 | true =>
  have H : Hid (plainI c = true) := hid (by simp [plainI, h0])
  go_enter Tryz.func196, Tryz.ntmps196
  go_wp2_with fail
  refine (low_any _ _).mono ?_
  rintro e w' ⟨rfl, rfl⟩
  rw [h0]
  go_wp2_with fail
  go_ret
  exact ⟨by rw [H.out]; rfl, rfl⟩
 | false =>
  have HP : Hid (plainI c = ((decide (48 ≤ c) && decide (c ≤ 57)) || decide (c = 45))) := hid (by simp [plainI, h0])
  rcases (show (48 ≤ c ∧ c ≤ 57) ∨ 57 < c ∨ c < 48 by omega) with ⟨h1, h2⟩ | h1 | h1
  ·have H : Hid (plainI c = true) := hid (by rw [HP.out, Bool.eq_iff_iff]; simp; omega)
   go_enter Tryz.func196, Tryz.ntmps196
   go_wp2_with fail
   refine (low_any _ _).mono ?_
   rintro e w' ⟨rfl, rfl⟩
   rw [h0]
   go_wp2_with fail
   go_ret
   exact ⟨by rw [H.out]; rfl, rfl⟩
  ·have H : Hid (plainI c = (c == 45)) := hid (by rw [HP.out, Bool.eq_iff_iff]; simp; omega)
   have hd : decide (c ≤ 57) = false := decide_eq_false (by omega)
   go_enter Tryz.func196, Tryz.ntmps196
   go_wp2_with fail
   refine (low_any _ _).mono ?_
   rintro e w' ⟨rfl, rfl⟩
   rw [h0]
   go_wp2_with fail
   go_ret
   exact ⟨by rw [H.out]; rfl, rfl⟩
  ·have H : Hid (plainI c = (c == 45)) := hid (by rw [HP.out, Bool.eq_iff_iff]; simp; omega)
   go_enter Tryz.func196, Tryz.ntmps196
   go_wp2_with fail
   refine (low_any _ _).mono ?_
   rintro e w' ⟨rfl, rfl⟩
   rw [h0]
   go_wp2_with fail
   go_ret
   exact ⟨by rw [H.out]; rfl, rfl⟩
theorem byte_at {s : ByteArray} {k : Nat} (hk : k < s.size) : (tx s)[k]? = some s[k] := by
 unfold tx; rw [List.getElem?_eq_getElem (by rw [Array.length_toList]; exact hk)]; rfl
theorem sane_long {s : ByteArray} (h : 12 < s.size) : saneN (tx s) = false := by
 unfold saneN; rw [tx_len, decide_eq_false (by omega)]; rfl
theorem sane_bad {s : ByteArray} {k : Nat} {u : UInt8} (h : (tx s)[k]? = some u) (hp : partB u = false) : saneN (tx s) = false := by
 rw [Bool.eq_false_iff]; intro hs
 rw [sane_part hs u (List.mem_of_getElem? h)] at hp; cases hp
theorem sane_badlow {s : ByteArray} {u : UInt8} (h : (tx s)[0]? = some u) (hp : lowB u = false) : saneN (tx s) = false := by
 rw [Bool.eq_false_iff]; intro hs
 obtain ⟨c, r, e, hc⟩ := sane_cons hs
 rw [e] at h; simp at h; subst h; rw [hc] at hp; cases hp
theorem sane_good {s : ByteArray} (hl : s.size ≤ 12) (h0 : 0 < s.size) (hp : ∀ (k : Nat) (u : UInt8), (tx s)[k]? = some u → partB u = true) (hh : ∀ u : UInt8, (tx s)[0]? = some u → lowB u = true) : saneN (tx s) = true := by
 unfold saneN
 rw [tx_len, decide_eq_true hl, List.all_eq_true.2 (fun u hu => by obtain ⟨k, hk⟩ := List.mem_iff_getElem?.1 hu; exact hp k u hk)]
 rw [List.head?_eq_getElem?]
 have := byte_at h0
 rw [this]
 exact hh _ this
theorem partB_lt {u : UInt8} (h : partB u = true) : u.toNat < 128 := by
 rw [← plainI_of] at h
 rcases Nat.lt_or_ge u.toNat 128 with h1 | h1
 ·exact h1
 ·rw [plainI_high (by omega)] at h; cases h
theorem sane_any (s : ByteArray) (w : World) (hm : s.size ≤ maxLen) : Calls Tryz.prog 159 #[.string s] w fun e w' => e = .returned (.bool (saneN (tx s))) ∧ Ext w w' := by
 unfold maxLen at hm
 by_cases hl : 12 < s.size
 ·have H : Hid (saneN (tx s) = false) := hid (sane_long hl)
  go_enter Tryz.func159, Tryz.ntmps159
  go_wp2_with fail
  go_ret
  exact ⟨by rw [H.out]; rfl, Ext.refl _⟩
 ·go_enter Tryz.func159, Tryz.ntmps159
  go_wp2_with fail
  go_loopw [3] (fun _ wr => ∃ j : Nat, j ≤ s.size ∧ wr = w.iter s j ∧ Hid (∀ k u, k < j → (tx s)[k]? = some u → partB u = true) ∧ Hid (∀ u, 0 < j → (tx s)[0]? = some u → lowB u = true)) (fun _ wr => s.size - wr.iterPos w.heap.size)
  case atStart => exact ⟨0, Nat.zero_le _, rfl, hid fun k u hk => absurd hk (by omega), hid fun u h0 => absurd h0 (by omega)⟩
  case round =>
   obtain ⟨j, hj, rfl, HP, HL⟩ := hrel
   by_cases hlt : j < s.size
   ·have hb := byte_at hlt
    obtain ⟨u, hu⟩ : ∃ u, u = s[j] := ⟨_, rfl⟩
    rw [← hu] at hb
    have HB := hid hb
    clear hb
    cases hpu : partB u with
    | true =>
     have ha : u.toNat < 128 := partB_lt hpu
     have hnx := fun ty => run_next_ascii (P := Tryz.prog) w s j ty hlt (by rw [← hu]; exact ha)
     rw [← hu] at hnx
     have HU := hid hu
     have hpi : plainI (u.toNat : Int) = true := by rw [plainI_of]; exact hpu
     clear hu hpu
     by_cases h0 : j = 0
     ·subst h0
      cases hlu : lowB u with
      | true =>
       have hli : lowI (u.toNat : Int) = true := by rw [lowI_of]; exact hlu
       have HN : Hid (∀ k v, k < 0 + 1 → (tx s)[k]? = some v → partB v = true) := hid fun k v hk hv => by
        obtain rfl : k = 0 := by omega
        rw [HB.out] at hv; injection hv with hv; subst hv; rw [← plainI_of]; exact hpi
       have HM : Hid (∀ v, 0 < 0 + 1 → (tx s)[0]? = some v → lowB v = true) := hid fun v _ hv => by
        rw [HB.out] at hv; injection hv with hv; subst hv; exact hlu
       clear hlu
       go_wp2_with fail
       refine (plain_any _ _).mono ?_
       rintro e w' ⟨rfl, rfl⟩
       rw [hpi]
       go_wp2_with fail
       refine (low_any _ _).mono ?_
       rintro e w' ⟨rfl, rfl⟩
       rw [hli]
       go_wp2_with fail
       go_roundw
       case rel => exact ⟨0 + 1, by omega, rfl, HN, HM⟩
       case measure => simp; omega
      | false =>
       have hli : lowI (u.toNat : Int) = false := by rw [lowI_of]; exact hlu
       have H : Hid (saneN (tx s) = false) := hid (sane_badlow HB.out hlu)
       clear hlu
       go_wp2_with fail
       refine (plain_any _ _).mono ?_
       rintro e w' ⟨rfl, rfl⟩
       rw [hpi]
       go_wp2_with fail
       refine (low_any _ _).mono ?_
       rintro e w' ⟨rfl, rfl⟩
       rw [hli]
       go_wp2_with fail
       go_ret
       exact ⟨by rw [H.out]; rfl, Ext.new _ _⟩
     ·have HN : Hid (∀ k v, k < j + 1 → (tx s)[k]? = some v → partB v = true) := hid fun k v hk hv => by
       rcases Nat.lt_or_ge k j with h | h
       ·exact HP.out k v h hv
       ·obtain rfl : k = j := by omega
        rw [HB.out] at hv; injection hv with hv; subst hv; rw [← plainI_of]; exact hpi
      have HM : Hid (∀ v, 0 < j + 1 → (tx s)[0]? = some v → lowB v = true) := hid fun v _ hv => HL.out v (by omega) hv
      have hj0 : ((j : Int) == 0) = false := by rw [beq_eq_false_iff_ne]; omega
      go_wp2_with fail
      refine (plain_any _ _).mono ?_
      rintro e w' ⟨rfl, rfl⟩
      rw [hpi]
      go_wp2_with fail
      go_roundw
      case rel => exact ⟨j + 1, by omega, rfl, HN, HM⟩
      case measure => simp; omega
    | false =>
     have H : Hid (saneN (tx s) = false) := hid (sane_bad HB.out hpu)
     by_cases ha : u.toNat < 128
     ·have hnx := fun ty => run_next_ascii (P := Tryz.prog) w s j ty hlt (by rw [← hu]; exact ha)
      rw [← hu] at hnx
      have hpi : plainI (u.toNat : Int) = false := by rw [plainI_of]; exact hpu
      clear hu hpu
      go_wp2_with fail
      refine (plain_any _ _).mono ?_
      rintro e w' ⟨rfl, rfl⟩
      rw [hpi]
      go_wp2_with fail
      go_ret
      exact ⟨by rw [H.out]; rfl, Ext.new _ _⟩
     ·have hnx := fun ty => run_next_any (P := Tryz.prog) w s j ty hlt
      have hhi := (decode_high s j hlt (by rw [← hu]; omega)).1
      obtain ⟨c, hc⟩ : ∃ c : Nat, c = (Utf8.decode s j).1 := ⟨_, rfl⟩
      rw [← hc] at hnx hhi
      have hpi : plainI (c : Int) = false := plainI_high (by omega)
      clear hu hpu hc
      go_wp2_with fail
      refine (plain_any _ _).mono ?_
      rintro e w' ⟨rfl, rfl⟩
      rw [hpi]
      go_wp2_with fail
      go_ret
      exact ⟨by rw [H.out]; rfl, Ext.new _ _⟩
   ·have hje : j = s.size := by omega
    have hnx := fun ty => run_next_end (P := Tryz.prog) w s j ty hlt
    by_cases h0 : s.size = 0
    ·have H : Hid (saneN (tx s) = false) := hid (by
      rw [List.eq_nil_of_length_eq_zero (show (tx s).length = 0 by rw [tx_len]; exact h0)]; rfl)
     have hemp : s.toList.isEmpty = true := by rw [tx_toList, List.isEmpty_iff]; exact List.eq_nil_of_length_eq_zero (by rw [tx_len]; exact h0)
     clear hje h0
     go_wp2_with fail
     go_ret
     exact ⟨by rw [H.out]; rfl, Ext.new _ _⟩
    ·have H : Hid (saneN (tx s) = true) := hid (sane_good (by omega) (by omega) (fun k u hu => HP.out k u (by rw [hje, ← tx_len]; exact (List.getElem?_eq_some_iff.1 hu).1) hu) (fun u hu => HL.out u (by omega) hu))
     have hemp : s.toList.isEmpty = false := by rw [tx_toList, List.isEmpty_eq_false_iff]; intro e; rw [← tx_len, e] at h0; exact h0 rfl
     clear hje h0
     go_wp2_with fail
     go_ret
     exact ⟨by rw [H.out]; rfl, Ext.new _ _⟩
set_option linter.unusedVariables false
open Go.RowKit
theorem pre_one (s : ByteArray) (c : UInt8) : preB s ⟨#[c]⟩ = decide ((tx s).head? = some c) := by
 unfold preB
 rw [show tx ⟨#[c]⟩ = [c] from rfl, Bool.eq_iff_iff]
 simp only [decide_eq_true_eq]
 cases tx s with
 | nil => simp
 | cons d r => simp [List.cons_prefix_cons, eq_comm]
theorem pre_two (s : ByteArray) (c d : UInt8) : preB s ⟨#[c, d]⟩ = decide ((tx s).take 2 = [c, d]) := by
 unfold preB
 rw [show tx ⟨#[c, d]⟩ = [c, d] from rfl, Bool.eq_iff_iff]
 simp only [decide_eq_true_eq]
 rw [List.prefix_iff_eq_take]; exact ⟨fun h => h.symm, fun h => h.symm⟩
theorem path_bad {s : ByteArray} {k : Nat} {u : UInt8} (h : (tx s)[k]? = some u) (hp : pathC u = false) : pathB (tx s) = false := by
 unfold pathB
 rw [show (tx s).all pathC = false from by rw [List.all_eq_false]; exact ⟨u, List.mem_of_getElem? h, by rw [hp]; decide⟩]; rfl
theorem path_any (s : ByteArray) (w : World) (hm : s.size ≤ maxLen) : Calls Tryz.prog 226 #[.string s] w fun e w' => e = .returned (.bool (pathB (tx s))) ∧ Ext w w' := by
 have hm' := hm
 unfold maxLen at hm
 go_enter Tryz.func226, Tryz.ntmps226
 go_wp2_with fail
 go_loopw [4] (fun _ wr => ∃ j : Nat, j ≤ s.size ∧ wr = w.iter s j ∧ Hid (∀ (k : Nat) (u : UInt8), k < j → (tx s)[k]? = some u → pathC u = true)) (fun _ wr => s.size - wr.iterPos w.heap.size)
 case atStart => exact ⟨0, Nat.zero_le _, rfl, hid fun k u hk => absurd hk (by omega)⟩
 case round =>
  obtain ⟨j, hj, rfl, HP⟩ := hrel
  by_cases hlt : j < s.size
  ·have hb := byte_at hlt
   obtain ⟨u, hu⟩ : ∃ u, u = s[j] := ⟨_, rfl⟩
   rw [← hu] at hb
   have HB := hid hb
   clear hb
   cases hpu : pathC u with
   | true =>
    have HN : Hid (∀ (k : Nat) (v : UInt8), k < j + 1 → (tx s)[k]? = some v → pathC v = true) := hid fun k v hk hv => by
     rcases Nat.lt_or_ge k j with h | h
     ·exact HP.out k v h hv
     ·obtain rfl : k = j := by omega
      rw [HB.out] at hv; injection hv with hv; subst hv; exact hpu
    have ha : u.toNat < 128 := by
     unfold pathC at hpu
     rw [Bool.or_eq_true] at hpu
     rcases hpu with h | h
     ·exact partB_lt h
     ·simp at h; omega
    have hnx := fun ty => run_next_ascii (P := Tryz.prog) w s j ty hlt (by rw [← hu]; exact ha)
    rw [← hu] at hnx
    cases hp : partB u with
    | true =>
     have hpi : plainI (u.toNat : Int) = true := by rw [plainI_of]; exact hp
     clear hu hpu hp
     go_wp2_with fail
     refine (plain_any _ _).mono ?_
     rintro e w' ⟨rfl, rfl⟩
     rw [hpi]
     go_wp2_with fail
     go_roundw
     case rel => exact ⟨j + 1, by omega, rfl, HN⟩
     case measure => simp; omega
    | false =>
     have hpi : plainI 47 = false := by decide
     have h47 : u.toNat = 47 := by unfold pathC at hpu; rw [hp] at hpu; simpa using hpu
     rw [h47] at hnx
     clear hu hpu hp h47
     go_wp2_with fail
     refine (plain_any _ _).mono ?_
     rintro e w' ⟨rfl, rfl⟩
     rw [hpi]
     go_wp2_with fail
     go_roundw
     case rel => exact ⟨j + 1, by omega, rfl, HN⟩
     case measure => simp; omega
   | false =>
    have H : Hid (pathB (tx s) = false) := hid (path_bad HB.out hpu)
    have hp : partB u = false := by unfold pathC at hpu; rw [Bool.or_eq_false_iff] at hpu; exact hpu.1
    have h47 : u.toNat ≠ 47 := by unfold pathC at hpu; rw [Bool.or_eq_false_iff] at hpu; simpa using hpu.2
    by_cases ha : u.toNat < 128
    ·have hnx := fun ty => run_next_ascii (P := Tryz.prog) w s j ty hlt (by rw [← hu]; exact ha)
     rw [← hu] at hnx
     have hpi : plainI (u.toNat : Int) = false := by rw [plainI_of]; exact hp
     have hne : ((u.toNat : Int) != 47) = true := by rw [bne_iff_ne]; omega
     clear hu hpu hp h47
     go_wp2_with fail
     refine (plain_any _ _).mono ?_
     rintro e w' ⟨rfl, rfl⟩
     rw [hpi]
     go_wp2_with fail
     go_ret
     exact ⟨by rw [H.out]; rfl, Ext.new _ _⟩
    ·have hnx := fun ty => run_next_any (P := Tryz.prog) w s j ty hlt
     have hhi := (decode_high s j hlt (by rw [← hu]; omega)).1
     obtain ⟨c, hc⟩ : ∃ c : Nat, c = (Utf8.decode s j).1 := ⟨_, rfl⟩
     rw [← hc] at hnx hhi
     have hpi : plainI (c : Int) = false := plainI_high (by omega)
     have hne : ((c : Int) != 47) = true := by rw [bne_iff_ne]; omega
     clear hu hpu hp h47 hc
     go_wp2_with fail
     refine (plain_any _ _).mono ?_
     rintro e w' ⟨rfl, rfl⟩
     rw [hpi]
     go_wp2_with fail
     go_ret
     exact ⟨by rw [H.out]; rfl, Ext.new _ _⟩
  ·have hje : j = s.size := by omega
   have hnx := fun ty => run_next_end (P := Tryz.prog) w s j ty hlt
   have hall : (tx s).all pathC = true := List.all_eq_true.2 fun u hu => by
    obtain ⟨k, hk⟩ := List.mem_iff_getElem?.1 hu
    exact HP.out k u (by rw [hje, ← tx_len]; exact (List.getElem?_eq_some_iff.1 hk).1) hk
   by_cases hl : s.size ≤ 40
   ·have H : Hid (pathB (tx s) = preB s ⟨#[47]⟩) := hid (by unfold pathB; rw [hall, tx_len, decide_eq_true hl, pre_one]; simp)
    clear hje hall
    go_wp2_with fail
    refine (hasPrefix_any s ⟨#[47]⟩ _ hm' (by simp [maxLen, ByteArray.size])).mono ?_
    rintro e w' ⟨rfl, rfl⟩
    go_wp2_with fail
    go_ret
    exact ⟨by rw [H.out]; rfl, Ext.new _ _⟩
   ·have H : Hid (pathB (tx s) = false) := hid (by unfold pathB; rw [hall, tx_len, decide_eq_false hl]; simp)
    clear hje hall
    go_wp2_with fail
    go_ret
    exact ⟨by rw [H.out]; rfl, Ext.new _ _⟩
set_option linter.unusedVariables false
open Go.RowKit
structure SameCells (W W' : World) : Prop where
 size : W.heap.size ≤ W'.heap.size
 same : ∀ (k : Nat) (cs : Array Value) (t : TypeId) (m : Nat × Nat), W.heap[k]? = some (.cells cs t m) → W'.heap[k]? = some (.cells cs t m)
theorem SameCells.putObj {W : World} {l : Nat} {o : Obj} (hl : W.heap[l]? = some o) (ho : o.isCells = false) (o' : Obj) : SameCells W (W.putObj l o') :=
 ⟨by simp, fun k cs t m hk => (World.putObj_heap_other (fun e => by rw [e, hl] at hk; injection hk with hk; rw [hk] at ho; cases ho)).trans hk⟩
theorem SameCells.cell {W W' : World} (h : SameCells W W') {a : Addr} {v : Value} (hc : W.cell? a = some v) : W'.cell? a = some v := by
 obtain ⟨o, ho, hcs⟩ := cells_of_cell hc
 cases o with
 | cells cs t m => exact (World.cell?_of_block ((h.same _ _ _ _ ho).trans ho.symm)).trans hc
 | _ => cases hcs
section
variable {W W' : World} {A : Option Addr} {n size : Nat}
theorem ArrR.same {α : Type} {R : List Value → α → Prop} {xs : List α} (h : ArrR W size R A n xs) (k : SameCells W W') : ArrR W' size R A n xs :=
 ⟨h.1, fun hn => by
  obtain ⟨b, o, e, hb, hc⟩ := h.2 hn
  refine ⟨b, o, e, Nat.lt_of_lt_of_le hb k.size, fun i x hx => ?_⟩
  obtain ⟨cs, hl, hr, hcs⟩ := hc i x hx
  exact ⟨cs, hl, hr, fun j u hu => k.cell (hcs j u hu)⟩⟩
theorem Flat.same {xs : List Value} (h : Flat W size A n xs) (k : SameCells W W') : Flat W' size A n xs :=
 ⟨h.1, fun hn => by
  obtain ⟨b, o, e, hb, hc⟩ := h.2 hn
  exact ⟨b, o, e, Nat.lt_of_lt_of_le hb k.size, fun j u hu => k.cell (hc j u hu)⟩⟩
theorem Ext.putObj {w : World} (h : Ext w W) {l : Nat} (hl : w.heap.size ≤ l) (o : Obj) : Ext w (W.putObj l o) :=
 Below.grown h (grownBy_putObj' W l o) h.size fun _ e => by injection e with e; omega
end
def Stab (B : Nat) (J : World → Prop) : Prop := ∀ (W : World) (l : Nat) (o o' : Obj), J W → B ≤ l → W.heap[l]? = some o → o.isCells = false → J (W.putObj l o')
def leftBy (J1 : World → Prop) (Jx : Code → World → Prop) (W : World) : Exit → Act → World → Prop
 | .normal, _, W' => KeepsOthers W W' ∧ J1 W'
 | .ret, _, W' => KeepsOthers W W' ∧ Jx .ret W'
 | .exit id, _, W' => KeepsOthers W W' ∧ Jx (.exit id) W'
 | _, _, _ => False
def Iterates {α : Type} (P : Program) (n : Nat) (gf : Nat) (lb : Array Value) (encs : α → Array Value) (B : Nat) (J0 : World → Prop) (Jy J1 : α → World → Prop) (Jd : World → Prop) : Prop :=
 ∀ (l : Nat) (K X : World → Prop) (W : World), (∀ W1 W2, K W1 → KeepsOthers W1 W2 → K W2) →
  (∀ x W1, Jy x W1 → K W1 → YieldAt Fence.wide (n - 1) P l (encs x) W1 fun e W' => (e = .returned (.bool true) ∧ J1 x W' ∧ K W') ∨ (e = .returned (.bool false) ∧ X W')) →
  J0 W → K W → B ≤ W.heap.size → CallsIn Fence.wide n P gf (#[.func (.yield l) #[] #[]] ++ lb) W fun e W' => (∃ v, e = .returned v) ∧ ((Jd W' ∧ K W') ∨ X W')
theorem range_law {α : Type} {P : Program} {n : Nat} {g : Operand} {ps : Array Tmp} {assign body : Code} {Q : Exit → Act → World → Prop} {a : Act} {w : World} {gf : Nat} {lb : Array Value}
  (hg : a.eval g = .func (.func gf) #[] lb) (eg : ∀ args w, (callFunc gf args).run P w = .ok (.enter gf args) w)
  (encs : α → Array Value) (hps : ∀ x, (encs x).size = ps.size) (J0 : World → Prop) (Jy J1 : α → World → Prop) (Jd : World → Prop) (Jx : Code → World → Prop)
  (s0 : Stab w.heap.size J0) (sy : ∀ x, Stab w.heap.size (Jy x)) (s1 : ∀ x, Stab w.heap.size (J1 x)) (sd : Stab w.heap.size Jd) (sx : ∀ c, Stab w.heap.size (Jx c))
  (a₁ : α → Act) (h0 : ∀ W, Ext w W → W.heap.size = w.heap.size + 2 → J0 W)
  (hassign : ∀ (l : Nat) (x : α) (W : World) (K : Act → World → Prop), K (a₁ x) W →
   assign.wpIn (Fence.wide.inRound l) (n - 1) P (Exit.then K (fun _ _ _ => False)) { tmps := (ps.zip (encs x)).foldl (fun t (p, v) => t.setIfInBounds p v) a.tmps, defers := [] } W)
  (hbody : ∀ (l : Nat) (x : α) (W : World), Jy x W → body.wpIn (Fence.wide.inRound l) (n - 1) P (leftBy (J1 x) Jx W) (a₁ x) W)
  (hiter : Iterates P n gf lb encs w.heap.size J0 Jy J1 Jd)
  (hdone : ∀ (W : World), Jd W → W.heap[w.heap.size]? = some (.deferred (some [])) → Q .normal { a with defers := { target := .collected w.heap.size, args := #[] } :: a.defers } W)
  (hstop : ∀ (c : Code) (W : World), Jx c W → W.heap[w.heap.size]? = some (.deferred (some [])) → c.wpIn Fence.wide (n + 1) P Q { a with defers := { target := .collected w.heap.size, args := #[] } :: a.defers } W) :
  (Code.rangeFunc g ps assign body).wpIn Fence.wide (n + 1) P Q a w := by
 refine wpIn_rangeFunc fun fn hfn => ?_
 let rec_ : LoopState → Option Code → Loop := fun st pe => { state := st, pending := pe, fn, tmps := a.tmps, params := ps, assign, body, defers := w.heap.size }
 obtain ⟨W1, hW1⟩ : ∃ W1, (w.alloc (.deferred (some []))).alloc (.loop (rec_ .ready none)) = W1 := ⟨_, rfl⟩
 have hsz : W1.heap.size = w.heap.size + 2 := by rw [← hW1]; simp
 have hx1 : Ext w W1 := by rw [← hW1]; exact (Ext.new w _).alloc _
 have hL1 : W1.heap[w.heap.size + 1]? = some (.loop (rec_ .ready none)) := by
  rw [← hW1]
  have := World.alloc_heap_new (w.alloc (.deferred (some []))) (.loop (rec_ .ready none))
  rwa [World.size_alloc] at this
 have hD1 : W1.heap[w.heap.size]? = some (.deferred (some [])) := by
  rw [← hW1]; exact (Below.heap_alloc _ _ _ (by simp)).trans (World.alloc_heap_new w _)
 refine ⟨w.heap.size + 1, [{ target := .collected w.heap.size, args := #[] }], W1, { target := .fn (.func gf) lb, args := #[.func (.yield (w.heap.size + 1)) #[] #[]] }, W1, gf,
  #[.func (.yield (w.heap.size + 1)) #[] #[]] ++ lb, W1, ?_, ?_, fun _ _ => trivial, ?_, fun h => by simp [Fence.wide] at h, ?_⟩
 ·rw [← hW1]; exact run_enterLoop_outer _ _ _ _ _
 ·simp only [resolve, hg]
  simp [go_sem]
 ·simp [invoke, go_sem, eg]
 ·refine (hiter (w.heap.size + 1) (fun W => W.heap[w.heap.size + 1]? = some (.loop (rec_ .ready none)) ∧ W.heap[w.heap.size]? = some (.deferred (some [])))
   (fun W => ∃ c, Jx c W ∧ W.heap[w.heap.size + 1]? = some (.loop (rec_ .done (some c))) ∧ W.heap[w.heap.size]? = some (.deferred (some []))) W1
   (fun A B h k => ⟨k.same _ _ h.1 rfl, k.same _ _ h.2 rfl⟩) ?_ (h0 W1 hx1 hsz) ⟨hL1, hD1⟩ (by omega)).mono ?_
  ·rintro x W hJ ⟨hl, hd⟩
   have hlt : w.heap.size + 1 < W.heap.size := (Array.getElem?_eq_some_iff.1 hl).1
   refine ⟨fn, _, assign, body, run_yield (P := P) (args := encs x) hl (hps x), roundIn_of_wpIn hfn (hassign _ x W _ ⟨_, run_beginRound hl rfl, ?_⟩)⟩
   have hl2 : (W.putObj (w.heap.size + 1) (.loop { rec_ .ready none with state := .busy })).heap[w.heap.size + 1]? = some (.loop { rec_ .ready none with state := .busy }) := World.putObj_heap_same hlt
   have hd2 : (W.putObj (w.heap.size + 1) (.loop { rec_ .ready none with state := .busy })).heap[w.heap.size]? = some (.deferred (some [])) := (World.putObj_heap_other (by omega)).trans hd
   refine wpIn_mono (hbody _ x _ (sy x W _ _ _ hJ (by omega) hl rfl)) ?_
   have fin : ∀ (jump : Option Code) (W3 : World), KeepsOthers (W.putObj (w.heap.size + 1) (.loop { rec_ .ready none with state := .busy })) W3 →
     W3.heap[w.heap.size + 1]? = some (.loop { rec_ .ready none with state := .busy }) ∧
     (Instr.endRound (w.heap.size + 1) jump).run P W3 = .ok (.bool jump.isNone) (W3.putObj (w.heap.size + 1) (.loop (rec_ (if jump.isNone then .ready else .done) jump))) ∧
     (W3.putObj (w.heap.size + 1) (.loop (rec_ (if jump.isNone then .ready else .done) jump))).heap[w.heap.size + 1]? = some (.loop (rec_ (if jump.isNone then .ready else .done) jump)) ∧
     (W3.putObj (w.heap.size + 1) (.loop (rec_ (if jump.isNone then .ready else .done) jump))).heap[w.heap.size]? = some (.deferred (some [])) := fun jump W3 hk => by
    have hl3 := hk.same _ _ hl2 rfl
    exact ⟨hl3, run_endRound (P := P) jump hl3, World.putObj_heap_same (Array.getElem?_eq_some_iff.1 hl3).1, (World.putObj_heap_other (by omega)).trans (hk.same _ _ hd2 rfl)⟩
   rintro e a3 W3 hp
   cases e with
   | normal =>
    obtain ⟨hk, hj⟩ := hp
    obtain ⟨hl3, hr, hl4, hd4⟩ := fin none W3 hk
    exact ⟨_, _, hr, .inl ⟨rfl, s1 x _ _ _ _ hj (by omega) hl3 rfl, hl4, hd4⟩⟩
   | ret =>
    obtain ⟨hk, hj⟩ := hp
    obtain ⟨hl3, hr, hl4, hd4⟩ := fin (some .ret) W3 hk
    exact ⟨_, _, hr, .inr ⟨rfl, .ret, sx _ _ _ _ _ hj (by omega) hl3 rfl, hl4, hd4⟩⟩
   | exit id =>
    obtain ⟨hk, hj⟩ := hp
    obtain ⟨hl3, hr, hl4, hd4⟩ := fin (some (.exit id)) W3 hk
    exact ⟨_, _, hr, .inr ⟨rfl, .exit id, sx _ _ _ _ _ hj (by omega) hl3 rfl, hl4, hd4⟩⟩
   | goto t => exact hp.elim
   | panic ch => exact hp.elim
   | outgrown => exact hp.elim
  ·rintro e W2 ⟨⟨v, rfl⟩, (⟨hj, hl, hd⟩ | ⟨c, hj, hl, hd⟩)⟩
   ·exact ⟨none, _, run_endLoop (P := P) hl (fun h => by cases h), hdone _ (sd _ _ _ _ hj (by omega) hl rfl) ((World.putObj_heap_other (by omega)).trans hd)⟩
   ·exact ⟨some c, _, run_endLoop (P := P) hl (fun h => by cases h), hstop c _ (sx _ _ _ _ _ hj (by omega) hl rfl) ((World.putObj_heap_other (by omega)).trans hd)⟩
set_option linter.unusedVariables false
set_option linter.unusedVariables false
open Go.RowKit Go.Shelf
theorem index_dot (s : ByteArray) (w : World) : Calls Tryz.prog 243 #[.string s, .string ⟨#[46]⟩] w fun e w' => e = .returned (.int .i64 (Lib.indexByte (tx s) 46)) ∧ w = w' := by
 have K1 : Calls Tryz.prog 246 #[.string s, .int .u8 46] w fun e w' => e = .returned (.int .i64 (Lib.indexByte (tx s) 46)) ∧ w = w' := by
  go_enter Tryz.func246, Tryz.ntmps246
  go_wp2
  rw [run_callFunc_extern Tryz.func250 (by kernel_rfl) (by kernel_rfl) (by kernel_rfl) (e := Extern.BytealgIndexByte.indexByte) (by kernel_rfl), Lib.run_indexByteString]
  simp only [Result.andThen]
  rw [Oper.upon_value]
  go_wp2
  go_ret
  exact ⟨rfl, rfl⟩
 have K2 : Calls Tryz.prog 245 #[.string s, .string ⟨#[46]⟩] w fun e w' => e = .returned (.int .i64 (Lib.indexByte (tx s) 46)) ∧ w = w' := by
  go_enter Tryz.func245, Tryz.ntmps245
  go_wp2_with (go_at_call 246; refine K1.mono ?_; rintro e w' ⟨rfl, rfl⟩)
  ·have h : ([46] == s.toList) = true := by assumption
   go_ret
   refine ⟨?_, rfl⟩
   have e : tx s = [46] := by rw [← tx_toList]; exact (beq_iff_eq.1 h).symm
   rw [e]
   simp [Lib.indexByte]
  ·go_ret
   exact ⟨rfl, rfl⟩
 go_enter Tryz.func243, Tryz.ntmps243
 go_wp2_with (go_at_call 245; refine K2.mono ?_; rintro e w' ⟨rfl, rfl⟩)
 go_ret
 exact ⟨rfl, rfl⟩
theorem splitSeq_any (s : ByteArray) (w : World) :
  Calls Tryz.prog 237 #[.string s, .string ⟨#[46]⟩] w fun e w' => e = .returned (.func (.func 241) #[] #[.pointer (some ⟨w.heap.size + 1, 0, none⟩), .pointer (some ⟨w.heap.size, 0, none⟩), .pointer (some ⟨w.heap.size + 1 + 1, 0, none⟩)]) ∧
   w' = ((w.alloc (.cells #[.string s] 9)).alloc (.cells #[.string ⟨#[46]⟩] 9)).alloc (.cells #[.int .i64 0] 3) := by
 have hmf : ∀ (fn : Fn) (first cap : Array Value) (w : World), (Instr.makeFunc fn first cap).run Tryz.prog w = .ok (.func fn first cap) w := fun _ _ _ _ => rfl
 have K : Calls Tryz.prog 240 #[.string s, .string ⟨#[46]⟩, .int .i64 0] w fun e w' => e = .returned (.func (.func 241) #[] #[.pointer (some ⟨w.heap.size + 1, 0, none⟩), .pointer (some ⟨w.heap.size, 0, none⟩), .pointer (some ⟨w.heap.size + 1 + 1, 0, none⟩)]) ∧
   w' = ((w.alloc (.cells #[.string s] 9)).alloc (.cells #[.string ⟨#[46]⟩] 9)).alloc (.cells #[.int .i64 0] 3) := by
  go_enter Tryz.func240, Tryz.ntmps240
  go_wp2_with fail
  go_ret
  exact ⟨rfl, rfl⟩
 go_enter Tryz.func237, Tryz.ntmps237
 go_wp2_with fail
 refine K.mono ?_
 rintro e w1 ⟨rfl, hw⟩
 have HW := hid hw
 clear hw
 go_wp2_with fail
 go_ret
 exact ⟨rfl, HW.out⟩
theorem split_none {l : List UInt8} (h : Lib.indexByte l 46 = -1) : splitD l = [l] :=
 splitD_one fun c hc e => by
  subst e
  obtain ⟨k, hk⟩ := List.mem_iff_getElem?.1 hc
  exact Lib.indexByte_none h k hk
theorem split_some {l : List UInt8} {i : Nat} (h : Lib.indexByte l 46 = i) : i < l.length ∧ splitD l = l.take i :: splitD (l.drop (i + 1)) := by
 obtain ⟨h1, h2⟩ := Lib.indexByte_some h
 have hlt := (List.getElem?_eq_some_iff.1 h1).1
 refine ⟨hlt, ?_⟩
 have e : l = l.take i ++ 46 :: l.drop (i + 1) := by
  conv => lhs; rw [← List.take_append_drop i l, List.drop_eq_getElem_cons hlt, (List.getElem?_eq_some_iff.1 h1).2]
 conv => lhs; rw [e]
 refine splitD_app (fun c hc e => ?_) _
 subst e
 obtain ⟨k, hk⟩ := List.mem_iff_getElem?.1 hc
 rw [List.getElem?_take] at hk
 split at hk
 ·rename_i hki; exact h2 k hki hk
 ·cases hk
theorem split_ne (l : List UInt8) : ∃ x r, splitD l = x :: r := by
 cases l with
 | nil => exact ⟨_, _, rfl⟩
 | cons c r => unfold splitD; split <;> exact ⟨_, _, rfl⟩
structure SB where
 gs : Nat
 gp : Nat
 gv : Nat
 gr : Nat
structure SB.Ok (B : SB) : Prop where
 n1 : B.gs ≠ B.gp
 n2 : B.gs ≠ B.gv
 n3 : B.gs ≠ B.gr
structure SI (w0 : World) (B : SB) (r : ByteArray) (W : World) : Prop where
 bs : W.heap[B.gs]? = some (.cells #[.string r] 9 (0, 0))
 bp : W.heap[B.gp]? = some (.cells #[.string ⟨#[46]⟩] 9 (0, 0))
 bv : W.heap[B.gv]? = some (.cells #[.int .i64 0] 3 (0, 0))
 br : W.heap[B.gr]? = some (.cells #[.bool false] 4 (0, 0))
 ext : Ext w0 W
 len : r.size ≤ maxLen
section
variable {w0 W W' : World} {B : SB} {r : ByteArray}
theorem SI.up (h : SI w0 B r W) (hx : Ext W W') : SI w0 B r W' := by
 have lt : ∀ {g : Nat} {o : Obj}, W.heap[g]? = some o → W'.heap[g]? = some o := fun hg => (hx.block (Array.getElem?_eq_some_iff.1 hg).1).trans hg
 exact ⟨lt h.bs, lt h.bp, lt h.bv, lt h.br, h.ext.trans hx, h.len⟩
theorem SI.stab {b : Nat} (hb : w0.heap.size ≤ b) : Stab b (SI w0 B r) := fun W l o o' h hl ho hc => by
 have k := SameCells.putObj ho hc o'
 exact ⟨k.same _ _ _ _ h.bs, k.same _ _ _ _ h.bp, k.same _ _ _ _ h.bv, k.same _ _ _ _ h.br, h.ext.putObj (by omega) o', h.len⟩
theorem SI.cut (h : SI w0 B r W) (hB : B.Ok) (hw : w0.heap.size ≤ B.gs) (t : ByteArray) (ht : t.size ≤ maxLen) : SI w0 B t (W.setCell ⟨B.gs, 0, none⟩ (.string t)) := by
 have far : ∀ {g : Nat} {o : Obj}, B.gs ≠ g → W.heap[g]? = some o → (W.setCell ⟨B.gs, 0, none⟩ (.string t)).heap[g]? = some o := fun hne hg => (blk_far (Ne.symm hne) _).trans hg
 exact ⟨blk_set h.bs _, far hB.n1 h.bp, far hB.n2 h.bv, far hB.n3 h.br, h.ext.set hw _, ht⟩
end
def SP (s r : ByteArray) : Prop := ∃ pre, splitD (tx s) = pre ++ splitD (tx r) ∧ pre.all saneN = true
structure Pt where
 p : ByteArray
 r : ByteArray
def Pt.enc (a : Pt) : Array Value := #[.string a.p]
def Pt.Is (a : Pt) : Prop := (splitD (tx a.r)).head? = some (tx a.p) ∧ a.p.size ≤ maxLen
def SJ0 (w0 : World) (B : SB) (s : ByteArray) (W : World) : Prop := SI w0 B s W
def SJy (w0 : World) (B : SB) (s : ByteArray) (a : Pt) (W : World) : Prop := SI w0 B a.r W ∧ SP s a.r ∧ a.Is
def SJ1 (w0 : World) (B : SB) (s : ByteArray) (a : Pt) (W : World) : Prop := SI w0 B a.r W ∧ SP s a.r ∧ a.Is ∧ saneN (tx a.p) = true
def SJd (w0 : World) (B : SB) (s : ByteArray) (W : World) : Prop := (∃ r, SI w0 B r W) ∧ namesB (tx s) = true
def SJx (w0 : World) (B : SB) (s : ByteArray) (c : Code) (W : World) : Prop := c = .ret ∧ W.heap[B.gr]? = some (.cells #[.bool false] 4 (0, 0)) ∧ Ext w0 W ∧ namesB (tx s) = false
def strLen : Option Value → Nat
 | some (.string s) => s.size
 | _ => 0
def SLoop (w0 : World) (B : SB) (s : ByteArray) (K : World → Prop) (W : World) : Prop := ∃ r, SI w0 B r W ∧ SP s r ∧ K W
theorem sp_bad {s : ByteArray} {a : Pt} (h : SP s a.r) (hi : a.Is) (hb : saneN (tx a.p) = false) : namesB (tx s) = false := by
 obtain ⟨pre, e, _⟩ := h
 obtain ⟨x, t, ex⟩ := split_ne (tx a.r)
 have := hi.1
 rw [ex] at this e
 simp at this
 subst this
 unfold namesB; rw [e]; simp [hb]
theorem sp_last {s : ByteArray} {a : Pt} (h : SP s a.r) (hn : splitD (tx a.r) = [tx a.p]) (hb : saneN (tx a.p) = true) : namesB (tx s) = true := by
 obtain ⟨pre, e, hp⟩ := h
 unfold namesB; rw [e, hn]; simp [hb]; simpa using hp
theorem sp_next {s r t : ByteArray} {p : List UInt8} (h : SP s r) (hn : splitD (tx r) = p :: splitD (tx t)) (hb : saneN p = true) : SP s t := by
 obtain ⟨pre, e, hp⟩ := h
 exact ⟨pre ++ [p], by rw [e, hn]; simp, by rw [List.all_append, hp]; simp [hb]⟩
theorem keeps_ext {W W' : World} (h : Ext W W') : KeepsOthers W W' := ⟨h.size, fun _ _ hk _ => (h.block (Array.getElem?_eq_some_iff.1 hk).1).trans hk⟩
attribute [local go_sem] Oper.semAt_some
theorem split_iter (n : Nat) (w0 : World) (B : SB) (b : Nat) (s : ByteArray) (hB : B.Ok) (hw : w0.heap.size ≤ B.gs) :
  Iterates Tryz.prog n 241 #[.pointer (some ⟨B.gp, 0, none⟩), .pointer (some ⟨B.gs, 0, none⟩), .pointer (some ⟨B.gv, 0, none⟩)] Pt.enc b (SJ0 w0 B s) (SJy w0 B s) (SJ1 w0 B s) (SJd w0 B s) := by
 intro l K X W hKk hY h0 hK hBs
 have HKk := hid hKk
 have HY := hid hY
 have H0 : Hid (SLoop w0 B s K W) := hid ⟨s, h0, ⟨[], rfl, rfl⟩, hK⟩
 have hp0 := (blk_rules (show SI w0 B s W from h0).bp).1 0
 clear hKk hY h0 hK
 have noDepth : Fence.wide.depth.isSome = true → 1 ≤ n := fun h => by simp [Fence.wide] at h
 refine callsIn_of_wp Tryz.func241 rfl trivial ?_ rfl
 simp only [Tryz.ntmps241, List.size_toArray, List.length_cons, List.length_nil, Nat.reduceAdd, Nat.reduceSub, Array.replicate_succ, Array.replicate_zero, List.push_toArray, List.append_toArray, List.nil_append, List.cons_append]
 gi_wp2
 gi_loopw [7] (fun _ wr => SLoop w0 B s K wr) (fun _ wr => strLen (wr.cell? ⟨B.gs, 0, none⟩))
 case atStart => exact H0.out
 case round =>
  obtain ⟨r, hI, hP, hK⟩ := hrel
  have hb := hI.bs
  obtain ⟨g0, g1⟩ := blk_rules hI.bs
  obtain ⟨p0, -⟩ := blk_rules hI.bp
  obtain ⟨v0, -⟩ := blk_rules hI.bv
  have HI := hid hI
  have HP := hid hP
  have HK := hid hK
  have hlen := hI.len
  clear hI hP hK hb hp0
  gi_wp2
  refine ⟨trivial, noDepth, ?_⟩
  refine (callsIn_wide.2 (index_dot r _)).mono ?_
  rintro e w2 ⟨rfl, rfl⟩
  have hge := Lib.indexByte_ge (tx r) 46
  obtain ⟨ix, hix⟩ : ∃ ix, ix = Lib.indexByte (tx r) 46 := ⟨_, rfl⟩
  rw [← hix] at hge ⊢
  rcases (show ix = -1 ∨ ∃ i : Nat, ix = i by
   rcases Int.lt_or_le ix 0 with h | h
   ·exact .inl (by omega)
   ·exact .inr ⟨ix.toNat, by omega⟩) with rfl | ⟨i, rfl⟩
  ·have HS : Hid (splitD (tx r) = [tx r]) := hid (split_none hix.symm)
   clear hix hge
   obtain ⟨fn, tmps, assign, body, hy, hR⟩ := HY.out ⟨r, r⟩ wr ⟨HI.out, HP.out, by rw [HS.out]; rfl, hlen⟩ HK.out
   dsimp only [Pt.enc] at hy
   gi_wp2
   refine ⟨noDepth, hR.mono ?_⟩
   rintro e W3 (⟨rfl, ⟨hI3, hP3, hi3, hs3⟩, hK3⟩ | ⟨rfl, hX3⟩)
   ·have HF : Hid (SJd w0 B s W3) := hid ⟨⟨r, hI3⟩, sp_last hP3 HS.out hs3⟩
    have HK3 := hid hK3
    clear hI3 hP3 hi3 hs3 hK3 hy hR
    gi_wp2
    refine bodyPost_end (results_none rfl _ _ _) rfl ?_
    exact ⟨⟨_, rfl⟩, .inl ⟨HF.out, HK3.out⟩⟩
   ·have HX := hid hX3
    clear hX3 hy hR
    gi_wp2
    refine bodyPost_end (results_none rfl _ _ _) rfl ?_
    exact ⟨⟨_, rfl⟩, .inr HX.out⟩
  ·obtain ⟨hlt, hsp⟩ := split_some hix.symm
   rw [tx_len] at hlt
   have e1 : tx (r.extract 0 i) = (tx r).take i := by rw [tx_extract]; rfl
   have e2 : tx (r.extract (i + 1) r.size) = (tx r).drop (i + 1) := by rw [tx_extract, List.take_of_length_le (by rw [tx_len]; exact Nat.le_refl _)]
   have z1 : (r.extract 0 i).size ≤ maxLen := by rw [← tx_len, e1, List.length_take, tx_len]; omega
   have z2 : (r.extract (i + 1) r.size).size = r.size - (i + 1) := by rw [← tx_len, e2, List.length_drop, tx_len]
   have HS : Hid (splitD (tx r) = tx (r.extract 0 i) :: splitD (tx (r.extract (i + 1) r.size))) := hid (by rw [e1, e2]; exact hsp)
   have HZ2 := hid z2
   clear hix hge hsp e1 e2 z2
   unfold maxLen at hlen
   obtain ⟨fn, tmps, assign, body, hy, hR⟩ := HY.out ⟨r.extract 0 i, r⟩ wr ⟨HI.out, HP.out, by rw [HS.out]; rfl, z1⟩ HK.out
   dsimp only [Pt.enc] at hy
   gi_wp2
   refine ⟨noDepth, hR.mono ?_⟩
   rintro e W3 (⟨rfl, ⟨hI3, hP3, hi3, hs3⟩, hK3⟩ | ⟨rfl, hX3⟩)
   ·obtain ⟨q0, q1⟩ := blk_rules hI3.bs
    obtain ⟨q2, -⟩ := blk_rules hI3.bp
    have HI3 := hid hI3
    have HP3 : Hid (SP s (r.extract (i + 1) r.size)) := hid (sp_next hP3 HS.out hs3)
    have HK3 := hid hK3
    clear hI3 hP3 hi3 hs3 hK3 hy hR
    gi_wp2
    go_roundw
    case rel => exact ⟨_, HI3.out.cut hB hw _ (by rw [HZ2.out]; unfold maxLen; omega), HP3.out, HKk.out _ _ HK3.out (KeepsOthers.setCell _ _ _)⟩
    case measure =>
     rw [World.cell?_setCell_same' _ _ _ (by rw [q0 0]; rfl)]
     simp [strLen, g0, HZ2.out]; omega
   ·have HX := hid hX3
    clear hX3 hy hR
    gi_wp2
    refine bodyPost_ret (results_none rfl _ _ _) rfl ?_
    exact ⟨⟨_, rfl⟩, .inr HX.out⟩
theorem four_blocks (w : World) (o1 o2 o3 o4 : Obj) : ((((w.alloc o1).alloc o2).alloc o3).alloc o4).heap[w.heap.size]? = some o1 ∧ ((((w.alloc o1).alloc o2).alloc o3).alloc o4).heap[w.heap.size + 1]? = some o2 ∧
  ((((w.alloc o1).alloc o2).alloc o3).alloc o4).heap[w.heap.size + 1 + 1]? = some o3 ∧ ((((w.alloc o1).alloc o2).alloc o3).alloc o4).heap[w.heap.size + 1 + 1 + 1]? = some o4 ∧ ((((w.alloc o1).alloc o2).alloc o3).alloc o4).heap.size = w.heap.size + 4 := by
 have h2 := heap_alloc_new (w.alloc o1) o2
 have h3 := heap_alloc_new ((w.alloc o1).alloc o2) o3
 have h4 := heap_alloc_new (((w.alloc o1).alloc o2).alloc o3) o4
 simp only [World.size_alloc] at h2 h3 h4
 refine ⟨?_, ?_, ?_, h4, by simp only [World.size_alloc]⟩
 ·rw [Below.heap_alloc _ _ _ (by simp only [World.size_alloc]; omega), Below.heap_alloc _ _ _ (by simp only [World.size_alloc]; omega), Below.heap_alloc _ _ _ (by simp only [World.size_alloc]; omega)]; exact heap_alloc_new w o1
 ·rw [Below.heap_alloc _ _ _ (by simp only [World.size_alloc]; omega), Below.heap_alloc _ _ _ (by simp only [World.size_alloc]; omega)]; exact h2
 ·rw [Below.heap_alloc _ _ _ (by simp only [World.size_alloc]; omega)]; exact h3
def NamesPost (w : World) (s : ByteArray) (e : Ending) (w' : World) : Prop := e = .returned (.bool (namesB (tx s))) ∧ Ext w w'
theorem names_any (s : ByteArray) (w : World) (hm : s.size ≤ maxLen) : Calls Tryz.prog 233 #[.string s] w (NamesPost w s) := by
 refine (callsIn_wide (n := 5)).1 ?_
 refine callsIn_of_wp_marks Tryz.func233 rfl trivial ?_ rfl
 simp only [Tryz.ntmps233, List.size_toArray, List.length_cons, List.length_nil, Nat.reduceAdd, Nat.reduceSub, Array.replicate_succ, Array.replicate_zero, List.push_toArray, List.append_toArray, List.nil_append, List.cons_append]
 gi_wp2
 refine ⟨trivial, ?_⟩
 refine (callsIn_wide.2 (splitSeq_any s _)).mono ?_
 rintro e w4 ⟨rfl, hw4⟩
 have hs : (w.alloc (.cells #[.bool false] 4)).heap.size = w.heap.size + 1 := by simp
 rw [hs]
 have E4 : Ext w w4 := by rw [hw4]; exact (((Ext.new _ _).alloc _).alloc _).alloc _
 have k4 : w4.heap[w.heap.size]? = some (.cells #[.bool false] 4 (0, 0)) ∧ w4.heap[w.heap.size + 1]? = some (.cells #[.string s] 9 (0, 0)) ∧ w4.heap[w.heap.size + 1 + 1]? = some (.cells #[.string ⟨#[46]⟩] 9 (0, 0)) ∧ w4.heap[w.heap.size + 1 + 1 + 1]? = some (.cells #[.int .i64 0] 3 (0, 0)) ∧ w4.heap.size = w.heap.size + 4 := by
  rw [hw4]
  exact four_blocks w _ _ _ _
 have HI : Hid (SI w ⟨w.heap.size + 1, w.heap.size + 1 + 1, w.heap.size + 1 + 1 + 1, w.heap.size⟩ s w4) := hid ⟨k4.2.1, k4.2.2.1, k4.2.2.2.1, k4.1, E4, hm⟩
 obtain ⟨B, hB⟩ : ∃ B : SB, B = ⟨w.heap.size + 1, w.heap.size + 1 + 1, w.heap.size + 1 + 1 + 1, w.heap.size⟩ := ⟨_, rfl⟩
 have hOk : B.Ok := by rw [hB]; exact ⟨by simp, by simp, by simp⟩
 have Hgs : Hid (w.heap.size + 1 = B.gs) := hid (by rw [hB])
 have Hgp : Hid (w.heap.size + 1 + 1 = B.gp) := hid (by rw [hB])
 have Hgv : Hid (w.heap.size + 1 + 1 + 1 = B.gv) := hid (by rw [hB])
 have Hgr : Hid (w.heap.size = B.gr) := hid (by rw [hB])
 have HS4 : Hid (w4.heap.size = w.heap.size + 4) := hid k4.2.2.2.2
 rw [← hB] at HI
 clear hw4 hs E4 k4 hB
 gi_wp2
 refine range_law (α := Pt) (n := 4) (gf := 241) (lb := #[.pointer (some ⟨w.heap.size + 1 + 1, 0, none⟩), .pointer (some ⟨w.heap.size + 1, 0, none⟩), .pointer (some ⟨w.heap.size + 1 + 1 + 1, 0, none⟩)]) rfl (enters_of Tryz.func241 (by kernel_rfl) rfl) Pt.enc (fun _ => rfl)
  (SJ0 w B s) (SJy w B s) (SJ1 w B s) (SJd w B s) (SJx w B s)
  ?s0 ?sy ?s1 ?sd ?sx ?a1 ?h0 ?assign ?body ?iter ?done ?stop
 case assign =>
  intro l y W K hK
  dsimp only [Pt.enc]
  gi_wp2
  exact hK
 case s0 => exact SI.stab (by have := HS4.out; omega)
 case sy =>
  rintro y W l o o' ⟨hI, hP⟩ hl ho hc
  exact ⟨SI.stab (by have := HS4.out; omega) W l o o' hI hl ho hc, hP⟩
 case s1 =>
  rintro y W l o o' ⟨hI, hP⟩ hl ho hc
  exact ⟨SI.stab (by have := HS4.out; omega) W l o o' hI hl ho hc, hP⟩
 case sd =>
  rintro W l o o' ⟨⟨r, hI⟩, hP⟩ hl ho hc
  exact ⟨⟨r, SI.stab (by have := HS4.out; omega) W l o o' hI hl ho hc⟩, hP⟩
 case sx =>
  rintro c W l o o' ⟨h1, h2, h3, h4⟩ hl ho hc
  exact ⟨h1, (SameCells.putObj ho hc o').same _ _ _ _ h2, h3.putObj (by have := HS4.out; omega) o', h4⟩
 case h0 => exact fun W hx _ => HI.out.up hx
 case iter =>
  have h := split_iter 4 w B w4.heap.size s hOk (by rw [← Hgs.out]; omega)
  rw [← Hgs.out, ← Hgp.out, ← Hgv.out] at h
  exact h
 case body =>
  rintro l y W ⟨hI, hP, hi⟩
  have hps := hi.2
  have HIh := hid hI
  have HPh := hid hP
  have Hih := hid hi
  clear hI hP hi
  gi_wp2
  refine ⟨trivial, ?_⟩
  refine (callsIn_wide.2 (sane_any y.p _ hps)).mono ?_
  rintro e w5 ⟨rfl, hx5⟩
  have HX5 := hid hx5
  clear hx5
  cases hsn : saneN (tx y.p) with
  | true =>
   gi_wp2
   exact ⟨keeps_ext HX5.out, HIh.out.up HX5.out, HPh.out, Hih.out, hsn⟩
  | false =>
   have HBad : Hid (namesB (tx s) = false) := hid (sp_bad HPh.out Hih.out hsn)
   have r5 := (HIh.out.up HX5.out).br
   rw [← Hgr.out] at r5
   have R5 := hid r5
   obtain ⟨r0, r1⟩ := blk_rules r5
   clear r5
   gi_wp2
   exact ⟨(keeps_ext HX5.out).trans (KeepsOthers.setCell _ _ _), rfl, by rw [← Hgr.out]; exact blk_set R5.out _, ((HIh.out.ext).trans HX5.out).set (Nat.le_refl _) _, HBad.out⟩
 case done =>
  rintro W ⟨⟨r, hI⟩, hN⟩ hK
  have r5 := hI.br
  rw [← Hgr.out] at r5
  obtain ⟨r0, r1⟩ := blk_rules r5
  have HIh := hid hI
  have HR5 := hid r5
  have HN := hid hN
  have HKD := hid hK
  clear hI hN hK r5
  gi_wp2
  have g6 : (W.setCell ⟨w.heap.size, 0, none⟩ (.bool true)).heap[w.heap.size]? = some (.cells #[.bool true] 4 (0, 0)) := blk_set HR5.out _
  have x6 : Ext w (W.setCell ⟨w.heap.size, 0, none⟩ (.bool true)) := (HIh.out.ext).set (Nat.le_refl _) _
  have hK6 := (KeepsOthers.setCell W ⟨w.heap.size, 0, none⟩ (.bool true)).same _ _ HKD.out rfl
  generalize W.setCell ⟨w.heap.size, 0, none⟩ (.bool true) = W6 at *
  have s6 := SameCells.putObj hK6 rfl (.deferred none)
  refine ⟨by simp, .inl ⟨_, _, rfl, run_takeDeferred hK6, ?_⟩⟩
  have q7 := (blk_rules (s6.same _ _ _ _ g6)).1 0
  refine ⟨_, show (results _ _).run _ _ = .ok (.bool true) _ from (by simp [results, Tryz.results233, go_sem, q7]), ?_⟩
  exact ⟨by rw [HN.out], x6.putObj (by have := HS4.out; omega) _⟩
 case stop =>
  rintro c W ⟨rfl, hR, hE, hN⟩ hK
  rw [← Hgr.out] at hR
  gi_wp2
  have s6 := SameCells.putObj hK rfl (.deferred none)
  refine ⟨by simp, .inl ⟨_, _, rfl, run_takeDeferred hK, ?_⟩⟩
  have q7 := (blk_rules (s6.same _ _ _ _ hR)).1 0
  refine ⟨_, show (results _ _).run _ _ = .ok (.bool false) _ from (by simp [results, Tryz.results233, go_sem, q7]), ?_⟩
  exact ⟨by rw [hN], hE.putObj (by have := HS4.out; omega) _⟩
set_option linter.unusedVariables false
open Go.RowKit
theorem tx_trim (s : ByteArray) : tx (cutS s ⟨#[42, 46]⟩) = trimStar (tx s) := by
 have h := pre_two s 42 46
 unfold preB at h
 unfold cutS trimStar
 by_cases hp : tx ⟨#[42, 46]⟩ <+: tx s
 ·rw [decide_eq_true hp] at h
  rw [if_pos hp, if_pos (by simpa using h.symm), tx_extract, List.take_of_length_le (by rw [tx_len]; exact Nat.le_refl _)]
  rfl
 ·rw [decide_eq_false hp] at h
  rw [if_neg hp, if_neg (by simpa using h.symm)]
theorem cut_size (s p : ByteArray) : (cutS s p).size ≤ s.size := by
 unfold cutS
 split
 ·rw [← tx_len, tx_extract, List.length_drop, List.length_take, tx_len]; omega
 ·exact Nat.le_refl _
theorem beq_of {s t : ByteArray} (h : tx s = tx t) : (s.toList == t.toList) = true := by rw [tx_beq]; exact decide_eq_true h
theorem beq_not {s t : ByteArray} (h : tx s ≠ tx t) : (s.toList == t.toList) = false := by rw [tx_beq]; exact decide_eq_false h
theorem beq_lit {s : ByteArray} {l : List UInt8} (h : tx s = l) : (s.toList == l) = true := by rw [tx_toList, h]; simp
theorem bne_lit {s : ByteArray} {l : List UInt8} (h : tx s ≠ l) : (s.toList == l) = false := by rw [tx_toList]; simpa using h
theorem host_any (s : ByteArray) (w : World) (hm : s.size ≤ maxLen) : Calls Tryz.prog 225 #[.string s] w fun e w' => e = .returned (.bool (hostB (tx s))) ∧ Ext w w' := by
 have hm' := hm
 unfold maxLen at hm'
 by_cases hl : s.size ≤ 40
 ·by_cases hq : tx s = [42]
  ·have H : Hid (hostB (tx s) = true) := hid (by rw [hq]; rfl)
   have hb := beq_lit hq
   clear hq
   go_enter Tryz.func225, Tryz.ntmps225
   go_wp2_with fail
   go_ret
   exact ⟨by rw [H.out]; rfl, Ext.refl _⟩
  ·have H : Hid (hostB (tx s) = namesB (tx (cutS s ⟨#[42, 46]⟩))) := hid (by unfold hostB; rw [tx_len, decide_eq_true hl, decide_eq_false hq, tx_trim]; simp)
   have hb := bne_lit hq
   clear hq
   go_enter Tryz.func225, Tryz.ntmps225
   go_wp2_with fail
   refine (trimPrefix_any s ⟨#[42, 46]⟩ _ hm (by simp [maxLen, ByteArray.size])).mono ?_
   rintro e w' ⟨rfl, rfl⟩
   go_wp2_with fail
   refine (names_any _ _ (Nat.le_trans (cut_size _ _) hm)).mono ?_
   rintro e w' ⟨rfl, hx⟩
   go_wp2_with fail
   go_ret
   exact ⟨by rw [H.out]; rfl, hx⟩
 ·have H : Hid (hostB (tx s) = false) := hid (by unfold hostB; rw [tx_len, decide_eq_false hl]; rfl)
  go_enter Tryz.func225, Tryz.ntmps225
  go_wp2_with fail
  go_ret
  exact ⟨by rw [H.out]; rfl, Ext.refl _⟩
end Go.Proofs.YtfdjbnofcniodaaGreatDoor
