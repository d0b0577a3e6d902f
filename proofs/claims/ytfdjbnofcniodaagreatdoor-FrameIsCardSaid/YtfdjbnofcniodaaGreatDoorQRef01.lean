/- What the document's low, part, Sane, names, Host, Path of layer 1 compute. -/
import Derived.Test.YtfdjbnofcniodaaGreatDoorQNames
import Derived.Test.YtfdjbnofcniodaaGreatDoorQPlain
namespace Go.Proofs.YtfdjbnofcniodaaGreatDoor
open Lib (hid)
set_option maxHeartbeats 1600000
set_option maxRecDepth 10000
set_option linter.unusedVariables false
open Go.RowKit
theorem refLow_any (u : UInt8) (w : World) : Calls Tryz.prog 208 #[.int .u8 (u.toNat : Int)] w fun e w' => e = .returned (.bool (lowB u)) ∧ w = w' := by
 by_cases h1 : 97 ≤ u.toNat <;> by_cases h2 : u.toNat ≤ 122
 ·have H : Hid (lowB u = true) := hid (by simp [lowB, h1, h2])
  go_enter Tryz.func208, Tryz.ntmps208
  go_wp2_with fail
  go_ret
  exact ⟨by rw [H.out]; first | rfl | (simp; done) | (simp; omega), rfl⟩
 ·have H : Hid (lowB u = false) := hid (by simp [lowB, h1, h2])
  go_enter Tryz.func208, Tryz.ntmps208
  go_wp2_with fail
  go_ret
  exact ⟨by rw [H.out]; first | rfl | (simp; done) | (simp; omega), rfl⟩
 ·have H : Hid (lowB u = false) := hid (by simp [lowB, h1, h2])
  go_enter Tryz.func208, Tryz.ntmps208
  go_wp2_with fail
  go_ret
  exact ⟨by rw [H.out]; first | rfl | (simp; done) | (simp; omega), rfl⟩
 ·omega
theorem refPart_any (u : UInt8) (w : World) : Calls Tryz.prog 209 #[.int .u8 (u.toNat : Int)] w fun e w' => e = .returned (.bool (partB u)) ∧ w = w' := by
 cases h0 : lowB u with
 | true =>
  have H : Hid (partB u = true) := hid (by simp [partB, h0])
  go_enter Tryz.func209, Tryz.ntmps209
  go_wp2_with fail
  refine (refLow_any _ _).mono ?_
  rintro e w' ⟨rfl, rfl⟩
  rw [h0]
  go_wp2_with fail
  go_ret
  exact ⟨by rw [H.out]; first | rfl | (simp; done) | (simp; omega), rfl⟩
 | false =>
  have HP : Hid (partB u = ((decide (48 ≤ u.toNat) && decide (u.toNat ≤ 57)) || decide (u.toNat = 45))) := hid (by simp [partB, h0])
  rcases (show (48 ≤ u.toNat ∧ u.toNat ≤ 57) ∨ 57 < u.toNat ∨ u.toNat < 48 by omega) with ⟨h1, h2⟩ | h1 | h1
  ·have H : Hid (partB u = true) := hid (by rw [HP.out, Bool.eq_iff_iff]; simp; omega)
   go_enter Tryz.func209, Tryz.ntmps209
   go_wp2_with fail
   refine (refLow_any _ _).mono ?_
   rintro e w' ⟨rfl, rfl⟩
   rw [h0]
   go_wp2_with fail
   go_ret
   exact ⟨by rw [H.out]; first | rfl | (simp; done) | (simp; omega), rfl⟩
  all_goals
   by_cases h4 : u.toNat = 45
   ·have H : Hid (partB u = true) := hid (by rw [HP.out, Bool.eq_iff_iff]; simp; omega)
    have h5 : (((u.toNat : Nat) : Int) == 45) = true := by rw [h4]; rfl
    clear h4
    go_enter Tryz.func209, Tryz.ntmps209
    go_wp2_with fail
    refine (refLow_any _ _).mono ?_
    rintro e w' ⟨rfl, rfl⟩
    rw [h0]
    go_wp2_with fail
    go_ret
    exact ⟨by rw [H.out]; first | rfl | (simp; done) | (simp; omega), rfl⟩
   ·have H : Hid (partB u = false) := hid (by rw [HP.out, Bool.eq_false_iff]; simp; omega)
    have h5 : (((u.toNat : Nat) : Int) == 45) = false := by rw [beq_eq_false_iff_ne]; omega
    clear h4
    go_enter Tryz.func209, Tryz.ntmps209
    go_wp2_with fail
    refine (refLow_any _ _).mono ?_
    rintro e w' ⟨rfl, rfl⟩
    rw [h0]
    go_wp2_with fail
    go_ret
    exact ⟨by rw [H.out]; first | rfl | (simp; done) | (simp; omega), rfl⟩
theorem refSaneN_any (s : ByteArray) (w : World) (hm : s.size ≤ maxLen) : Calls Tryz.prog 165 #[.string s] w fun e w' => e = .returned (.bool (saneN (tx s))) ∧ w = w' := by
 unfold maxLen at hm
 by_cases h0 : s.size < 1
 ·have H : Hid (saneN (tx s) = false) := hid (by rw [List.eq_nil_of_length_eq_zero (show (tx s).length = 0 by rw [tx_len]; omega)]; rfl)
  go_enter Tryz.func165, Tryz.ntmps165
  go_wp2_with fail
  go_ret
  exact ⟨by rw [H.out]; first | rfl | (simp; done) | (simp; omega), rfl⟩
 by_cases hl : 12 < s.size
 ·have H : Hid (saneN (tx s) = false) := hid (sane_long hl)
  go_enter Tryz.func165, Tryz.ntmps165
  go_wp2_with fail
  go_ret
  exact ⟨by rw [H.out]; first | rfl | (simp; done) | (simp; omega), rfl⟩
 have hp0 : 0 < s.size := by omega
 go_enter Tryz.func165, Tryz.ntmps165
 go_wp2_with fail
 refine (refLow_any _ _).mono ?_
 rintro e w' ⟨rfl, rfl⟩
 have hb0 := byte_at hp0
 cases hlu : lowB s[0] with
 | false =>
  have H : Hid (saneN (tx s) = false) := hid (sane_badlow hb0 hlu)
  go_wp2_with fail
  go_ret
  exact ⟨by rw [H.out]; first | rfl | (simp; done) | (simp; omega), rfl⟩
 | true =>
 have HB0 := hid hb0
 have HL0 := hid hlu
 clear hb0 hlu
 go_wp2_with fail
 go_loopw [3] (fun i wr => ∃ k : Nat, k ≤ s.size ∧ i = .int .i64 k ∧ w = wr ∧ Hid (∀ (j : Nat) (u : UInt8), j < k → (tx s)[j]? = some u → partB u = true)) (fun i _ => s.size - (intOf i).toNat)
 case atStart => exact ⟨0, Nat.zero_le _, by go_num, rfl, hid fun j u hj => absurd hj (by omega)⟩
 case round =>
  obtain ⟨k, hk, rfl, rfl, HP⟩ := hrel
  by_cases hlt : k < s.size
  ·have hb := byte_at hlt
   have i1 : (0 : Int) ≤ (k : Int) := by omega
   have i2 : (k : Int) < (s.size : Int) := by omega
   go_wp2_with fail
   refine (refPart_any _ _).mono ?_
   rintro e w' ⟨rfl, rfl⟩
   cases hpu : partB s[k] with
   | false =>
    have H : Hid (saneN (tx s) = false) := hid (sane_bad hb hpu)
    go_wp2_with fail
    go_ret
    exact ⟨by rw [H.out]; first | rfl | (simp; done) | (simp; omega), rfl⟩
   | true =>
    have HN : Hid (∀ (j : Nat) (u : UInt8), j < k + 1 → (tx s)[j]? = some u → partB u = true) := hid fun j v hj hv => by
     rcases Nat.lt_or_ge j k with h | h
     ·exact HP.out j v h hv
     ·obtain rfl : j = k := by omega
      rw [hb] at hv; injection hv with hv; subst hv; exact hpu
    clear hb hpu
    go_wp2_with fail
    go_roundw
    case rel => exact ⟨k + 1, by omega, by go_num, by first | trivial | rfl, HN⟩
    case measure => simp [intOf]; omega
  ·obtain rfl : k = s.size := by omega
   have H : Hid (saneN (tx s) = true) := hid (sane_good (by omega) hp0 (fun j u hj => HP.out j u (by rw [← tx_len]; exact (List.getElem?_eq_some_iff.1 hj).1) hj) (fun u hu => by rw [HB0.out] at hu; injection hu with hu; subst hu; exact HL0.out))
   go_wp2_with fail
   go_ret
   exact ⟨by rw [H.out]; first | rfl | (simp; done) | (simp; omega), rfl⟩
theorem refStar_any (s : ByteArray) (w : World) (hm : s.size ≤ maxLen) : Calls Tryz.prog 230 #[.string s] w fun e w' => e = .returned (.bool (decide ((tx s).take 2 = [42, 46]))) ∧ w = w' := by
 unfold maxLen at hm
 by_cases h2 : 2 ≤ s.size
 ·go_enter Tryz.func230, Tryz.ntmps230
  go_wp2_with fail
  go_ret
  exact ⟨ret_bool (by rw [tx_toList, tx_extract, List.drop_zero, Bool.eq_iff_iff]; simp), rfl⟩
 ·have H : Hid (decide ((tx s).take 2 = [42, 46]) = false) := hid (decide_eq_false fun e => by have := congrArg List.length e; rw [List.length_take, tx_len] at this; simp at this; omega)
  go_enter Tryz.func230, Tryz.ntmps230
  go_wp2_with fail
  go_ret
  exact ⟨by rw [H.out]; first | rfl | (simp; done) | (simp; omega), rfl⟩
theorem names_piece {p h : List UInt8} (hp : ∀ c ∈ p, c ≠ 46) : namesB (p ++ 46 :: h) = (saneN p && namesB h) := by
 unfold namesB; rw [splitD_app hp]; rfl
theorem names_last {p : List UInt8} (hp : ∀ c ∈ p, c ≠ 46) : namesB p = saneN p := by
 unfold namesB; rw [splitD_one hp]; simp
structure NmAt (l : List UInt8) (a i : Nat) : Prop where
 le : i ≤ l.length → a ≤ i
 rest : i ≤ l.length → namesB l = namesB (l.drop a)
 bare : ∀ j, a ≤ j → j < i → l[j]? ≠ some 46
 done : l.length < i → namesB l = true
theorem piece_bare {l : List UInt8} {a i : Nat} (h : NmAt l a i) : ∀ c ∈ (l.take i).drop a, c ≠ 46 := by
 intro c hc
 obtain ⟨j, hj⟩ := List.mem_iff_getElem?.1 hc
 rw [List.getElem?_drop, List.getElem?_take] at hj
 split at hj
 ·rename_i hlt
  intro e
  rw [e] at hj
  exact h.bare (a + j) (by omega) hlt hj
 ·cases hj
theorem NmAt.nil (l : List UInt8) : NmAt l 0 0 := ⟨fun _ => Nat.le_refl _, fun _ => rfl, fun j _ h => absurd h (by omega), fun h => absurd h (by omega)⟩
theorem NmAt.step {l : List UInt8} {a i : Nat} (h : NmAt l a i) (hi : i < l.length) (hc : l[i]? ≠ some 46) : NmAt l a (i + 1) := by
 refine ⟨fun _ => by have := h.le (by omega); omega, fun _ => h.rest (by omega), fun j h1 h2 => ?_, fun h2 => by omega⟩
 rcases Nat.lt_or_ge j i with h3 | h3
 ·exact h.bare j h1 h3
 ·obtain rfl : j = i := by omega
  exact hc
theorem drop_at {l : List UInt8} {a i : Nat} (ha : a ≤ i) (hi : l[i]? = some 46) : l.drop a = (l.take i).drop a ++ 46 :: l.drop (i + 1) := by
 obtain ⟨hlt, he⟩ := List.getElem?_eq_some_iff.1 hi
 have h1 : l = l.take i ++ 46 :: l.drop (i + 1) := by
  rw [← he, ← List.drop_eq_getElem_cons hlt, List.take_append_drop]
 have h2 : (l.take i).length = i := by rw [List.length_take]; omega
 conv => lhs; rw [h1]
 rw [List.drop_append_of_le_length (by rw [h2]; exact ha)]
theorem NmAt.dot {l : List UInt8} {a i : Nat} (h : NmAt l a i) (hi : l[i]? = some 46) : namesB l = (saneN ((l.take i).drop a) && namesB (l.drop (i + 1))) := by
 have hlt := (List.getElem?_eq_some_iff.1 hi).1
 rw [h.rest (by omega), drop_at (h.le (by omega)) hi, names_piece (piece_bare h)]
theorem NmAt.ends {l : List UInt8} {a : Nat} (h : NmAt l a l.length) : namesB l = saneN ((l.take l.length).drop a) := by
 have h1 := piece_bare h
 rw [h.rest (Nat.le_refl _)]
 rw [List.take_length] at h1 ⊢
 exact names_last h1
theorem NmAt.next {l : List UInt8} {a i : Nat} (h : NmAt l a i) (hi : l[i]? = some 46) (hs : saneN ((l.take i).drop a) = true) : NmAt l (i + 1) (i + 1) := by
 have hlt := (List.getElem?_eq_some_iff.1 hi).1
 refine ⟨fun _ => Nat.le_refl _, fun _ => ?_, fun j h1 h2 => by omega, fun h2 => by omega⟩
 rw [h.dot hi, hs]; rfl
theorem NmAt.last {l : List UInt8} {a i : Nat} (hi : l.length = i) (h : NmAt l a i) (hs : saneN ((l.take i).drop a) = true) : NmAt l (i + 1) (i + 1) := by
 subst hi
 exact ⟨fun h2 => by omega, fun h2 => by omega, fun j h1 h2 => by omega, fun _ => by rw [h.ends, hs]⟩
theorem refNamesN_any (s : ByteArray) (w : World) (hm : s.size ≤ 1000) : Calls Tryz.prog 231 #[.string s] w fun e w' => e = .returned (.bool (namesB (tx s))) ∧ w = w' := by
 go_enter Tryz.func231, Tryz.ntmps231
 go_wp2_with fail
 go_loopw [3, 4] (fun f i wr => ∃ a k : Nat, k ≤ s.size + 1 ∧ f = .int .i64 a ∧ i = .int .i64 k ∧ w = wr ∧ Hid (NmAt (tx s) a k)) (fun _ i _ => s.size + 1 - (intOf i).toNat)
 case atStart => exact ⟨0, 0, Nat.zero_le _, by go_num, by go_num, rfl, hid (NmAt.nil _)⟩
 case round =>
  obtain ⟨a, k, hk, rfl, rfl, rfl, HN⟩ := hrel
  by_cases hlt : k < s.size
  ·have hb := byte_at hlt
   have i1 : (0 : Int) ≤ (k : Int) := by omega
   have i2 : (k : Int) < (s.size : Int) := by omega
   have i3 : ((k : Int) == (s.size : Int)) = false := by rw [beq_eq_false_iff_ne]; omega
   by_cases hd : s[k] = 46
   ·have hd1 : ((s[k].toNat : Int) == 46) = true := by rw [hd]; rfl
    rw [hd] at hb
    have ha : a ≤ k := HN.out.le (by rw [tx_len]; omega)
    have hka : (a : Int) ≤ (k : Int) := by omega
    have HB := hid hb
    clear hb hd
    go_wp2_with fail
    refine (refSaneN_any (s.extract a k) _ (by rw [ByteArray.size_extract]; unfold maxLen; omega)).mono ?_
    rintro e w' ⟨rfl, rfl⟩
    have hte : tx (s.extract a k) = ((tx s).take k).drop a := tx_extract s a k
    cases hsn : saneN (tx (s.extract a k)) with
    | false =>
     have H : Hid (namesB (tx s) = false) := hid (by rw [HN.out.dot HB.out, ← hte, hsn]; rfl)
     go_wp2_with fail
     go_ret
     exact ⟨by rw [H.out]; first | rfl | (simp; done) | (simp; omega), rfl⟩
    | true =>
     have HN2 := hid (HN.out.next HB.out (hte ▸ hsn))
     clear hte hsn hka
     go_wp2_with fail
     go_roundw
     case rel => exact ⟨k + 1, k + 1, by omega, by go_num, by go_num, by first | trivial | rfl, HN2⟩
     case measure => simp [intOf]; omega
   ·have hd1 : ((s[k].toNat : Int) == 46) = false := by rw [beq_eq_false_iff_ne]; intro e; exact hd (UInt8.toNat_inj.1 (by show s[k].toNat = 46; omega))
    have HN2 := hid (HN.out.step (by rw [tx_len]; exact hlt) (by rw [hb]; intro e; injection e with e; exact hd e))
    clear hb hd
    go_wp2_with fail
    go_roundw
    case rel => exact ⟨a, k + 1, by omega, by go_num, by go_num, by first | trivial | rfl, HN2⟩
    case measure => simp [intOf]; omega
  ·by_cases hke : k = s.size
   ·have i3 : ((k : Int) == (s.size : Int)) = true := by rw [hke]; simp
    have hlen : (tx s).length = k := by rw [tx_len]; exact hke.symm
    have ha : a ≤ k := HN.out.le (by omega)
    have hka : (a : Int) ≤ (k : Int) := by omega
    have HLEN := hid hlen
    have HKE := hid hke
    have hk1 : k ≤ s.size := by omega
    clear hlen hke
    go_wp2_with fail
    refine (refSaneN_any (s.extract a k) _ (by rw [ByteArray.size_extract]; unfold maxLen; omega)).mono ?_
    rintro e w' ⟨rfl, rfl⟩
    have hte : tx (s.extract a k) = ((tx s).take k).drop a := tx_extract s a k
    cases hsn : saneN (tx (s.extract a k)) with
    | false =>
     have H : Hid (namesB (tx s) = false) := hid (by
      have h1 := HN.out
      have h2 := HLEN.out
      rw [← h2] at h1
      rw [h1.ends, h2, ← hte, hsn])
     go_wp2_with fail
     go_ret
     exact ⟨by rw [H.out]; first | rfl | (simp; done) | (simp; omega), rfl⟩
    | true =>
     have HN2 := hid (NmAt.last HLEN.out HN.out (hte ▸ hsn))
     clear hte hsn hka
     go_wp2_with fail
     go_roundw
     case rel => exact ⟨k + 1, k + 1, by omega, by go_num, by go_num, by first | trivial | rfl, HN2⟩
     case measure => simp [intOf]; omega
   ·have H : Hid (namesB (tx s) = true) := hid (HN.out.done (by rw [tx_len]; omega))
    have i3 : ¬ (k : Int) ≤ (s.size : Int) := by omega
    go_wp2_with fail
    go_ret
    exact ⟨by rw [H.out]; first | rfl | (simp; done) | (simp; omega), rfl⟩
theorem star_names {l : List UInt8} (h : l.take 2 = [42, 46]) : namesB l = false := by
 rw [Bool.eq_false_iff]
 intro hn
 obtain ⟨c, r, e, hc⟩ := names_cons hn
 have h1 := take2_form h
 rw [e] at h1
 injection h1 with h1 _
 subst h1
 revert hc; decide
theorem refHost_any (s : ByteArray) (w : World) (hm : s.size ≤ maxLen) : Calls Tryz.prog 210 #[.string s] w fun e w' => e = .returned (.bool (hostB (tx s))) ∧ w = w' := by
 have hmm := hm
 unfold maxLen at hm
 by_cases h40 : 40 < s.size
 ·have H : Hid (hostB (tx s) = false) := hid (by unfold hostB; rw [tx_len, decide_eq_false (by omega)]; rfl)
  go_enter Tryz.func210, Tryz.ntmps210
  go_wp2_with fail
  go_ret
  exact ⟨by rw [H.out]; first | rfl | (simp; done) | (simp; omega), rfl⟩
 have HH : Hid (hostB (tx s) = (decide (tx s = [42]) || namesB (trimStar (tx s)))) := hid (by unfold hostB; rw [tx_len, decide_eq_true (by omega)]; rfl)
 by_cases h1 : tx s = [42]
 ·have H : Hid (hostB (tx s) = true) := hid (by rw [HH.out, decide_eq_true h1]; rfl)
  have hq := beq_lit h1
  clear h1
  go_enter Tryz.func210, Tryz.ntmps210
  go_wp2_with fail
  go_ret
  exact ⟨by rw [H.out]; first | rfl | (simp; done) | (simp; omega), rfl⟩
 have hq := bne_lit h1
 go_enter Tryz.func210, Tryz.ntmps210
 go_wp2_with fail
 refine (refStar_any s _ hmm).mono ?_
 rintro e w' ⟨rfl, rfl⟩
 by_cases hst : (tx s).take 2 = [42, 46]
 ·rw [decide_eq_true hst]
  have h2 : 2 ≤ s.size := by have := congrArg List.length hst; rw [List.length_take, tx_len] at this; simp at this; omega
  have hte : tx (s.extract 2 s.size) = trimStar (tx s) := by rw [tx_extract, ← tx_len, List.take_length]; unfold trimStar; rw [if_pos hst]
  have H : Hid (hostB (tx s) = namesB (tx (s.extract 2 s.size))) := hid (by rw [HH.out, decide_eq_false h1, hte]; rfl)
  have HNO := hid (star_names hst)
  clear h1 hst hte
  go_wp2_with fail
  refine (refNamesN_any (s.extract 2 s.size) _ (by rw [ByteArray.size_extract]; omega)).mono ?_
  rintro e w' ⟨rfl, rfl⟩
  cases hn : namesB (tx (s.extract 2 s.size)) with
  | true =>
   have H2 := hid (H.out.trans hn)
   clear hn
   go_wp2_with fail
   go_ret
   exact ⟨by rw [H2.out]; first | rfl | (simp; done) | (simp; omega), rfl⟩
  | false =>
   have H2 := hid (H.out.trans hn)
   clear hn
   go_wp2_with fail
   refine (refNamesN_any s _ (by omega)).mono ?_
   rintro e w' ⟨rfl, rfl⟩
   rw [HNO.out]
   go_wp2_with fail
   go_ret
   exact ⟨by rw [H2.out]; first | rfl | (simp; done) | (simp; omega), rfl⟩
 ·rw [decide_eq_false hst]
  have H : Hid (hostB (tx s) = namesB (tx s)) := hid (by rw [HH.out, decide_eq_false h1]; unfold trimStar; rw [if_neg hst]; rfl)
  clear h1 hst
  go_wp2_with fail
  refine (refNamesN_any s _ (by omega)).mono ?_
  rintro e w' ⟨rfl, rfl⟩
  go_wp2_with fail
  go_ret
  exact ⟨by rw [H.out]; first | rfl | (simp; done) | (simp; omega), rfl⟩
theorem path_long {s : ByteArray} (h : 40 < s.size) : pathB (tx s) = false := by
 unfold pathB; rw [tx_len, decide_eq_false (show ¬ s.size ≤ 40 by omega)]; simp
theorem path_head {s : ByteArray} {u : UInt8} (h : (tx s)[0]? = some u) (hu : u.toNat ≠ 47) : pathB (tx s) = false := by
 unfold pathB
 rw [List.head?_eq_getElem?, h, decide_eq_false (show ¬ some u = some 47 from fun e => hu (by injection e with e; rw [e]; rfl))]; simp
theorem path_good {s : ByteArray} {u : UInt8} (hl : s.size ≤ 40) (h : (tx s)[0]? = some u) (hu : u.toNat = 47) (hp : ∀ (k : Nat) (u : UInt8), (tx s)[k]? = some u → pathC u = true) : pathB (tx s) = true := by
 unfold pathB
 rw [List.head?_eq_getElem?, h, tx_len, decide_eq_true hl, decide_eq_true (show some u = some 47 from by rw [UInt8.toNat_inj.1 (show u.toNat = (47 : UInt8).toNat from hu)]), List.all_eq_true.2 (fun u hu => by obtain ⟨k, hk⟩ := List.mem_iff_getElem?.1 hu; exact hp k u hk)]; rfl
theorem refPath_any (s : ByteArray) (w : World) (hm : s.size ≤ maxLen) : Calls Tryz.prog 211 #[.string s] w fun e w' => e = .returned (.bool (pathB (tx s))) ∧ w = w' := by
 have hmm := hm
 unfold maxLen at hm
 by_cases h0 : s.size < 1
 ·have H : Hid (pathB (tx s) = false) := hid (by rw [List.eq_nil_of_length_eq_zero (show (tx s).length = 0 by rw [tx_len]; omega)]; rfl)
  go_enter Tryz.func211, Tryz.ntmps211
  go_wp2_with fail
  go_ret
  exact ⟨by rw [H.out]; first | rfl | (simp; done) | (simp; omega), rfl⟩
 by_cases hl : 40 < s.size
 ·have H : Hid (pathB (tx s) = false) := hid (path_long hl)
  go_enter Tryz.func211, Tryz.ntmps211
  go_wp2_with fail
  go_ret
  exact ⟨by rw [H.out]; first | rfl | (simp; done) | (simp; omega), rfl⟩
 have hp0 : 0 < s.size := by omega
 have hb0 := byte_at hp0
 by_cases h47 : s[0].toNat = 47; rotate_left
 ·have H : Hid (pathB (tx s) = false) := hid (path_head hb0 h47)
  have hq : ((s[0].toNat : Int) != 47) = true := by rw [bne_iff_ne]; omega
  clear h47 hb0
  go_enter Tryz.func211, Tryz.ntmps211
  go_wp2_with fail
  go_ret
  exact ⟨by rw [H.out]; first | rfl | (simp; done) | (simp; omega), rfl⟩
 have hq : ((s[0].toNat : Int) != 47) = false := by rw [h47]; rfl
 have HB0 := hid hb0
 have H47 := hid h47
 clear hb0 h47
 go_enter Tryz.func211, Tryz.ntmps211
 go_wp2_with fail
 go_loopw [3] (fun i wr => ∃ k : Nat, k ≤ s.size ∧ i = .int .i64 k ∧ w = wr ∧ Hid (∀ (j : Nat) (u : UInt8), j < k → (tx s)[j]? = some u → pathC u = true)) (fun i _ => s.size - (intOf i).toNat)
 case atStart => exact ⟨0, Nat.zero_le _, by go_num, rfl, hid fun j u hj => absurd hj (by omega)⟩
 case round =>
  obtain ⟨k, hk, rfl, rfl, HP⟩ := hrel
  by_cases hlt : k < s.size
  ·have hb := byte_at hlt
   have i1 : (0 : Int) ≤ (k : Int) := by omega
   have i2 : (k : Int) < (s.size : Int) := by omega
   clear hq
   have HN : pathC s[k] = true → Hid (∀ (j : Nat) (u : UInt8), j < k + 1 → (tx s)[j]? = some u → pathC u = true) := fun hpu => hid fun j v hj hv => by
    rcases Nat.lt_or_ge j k with h | h
    ·exact HP.out j v h hv
    ·obtain rfl : j = k := by omega
     rw [hb] at hv; injection hv with hv; subst hv; exact hpu
   have HBD : pathC s[k] = false → Hid (pathB (tx s) = false) := fun h => hid (path_bad hb h)
   have HN' := hid HN
   have HBD' := hid HBD
   clear hb HN HBD
   cases hpu : partB s[k] with
   | true =>
    go_wp2_with fail
    refine (refPart_any _ _).mono ?_
    rintro e w' ⟨rfl, rfl⟩
    rw [hpu]
    have HN2 := HN'.out (by unfold pathC; rw [hpu]; rfl)
    go_wp2_with fail
    go_roundw
    case rel => exact ⟨k + 1, by omega, by go_num, by first | trivial | rfl, HN2⟩
    case measure => simp [intOf]; omega
   | false =>
    by_cases h7 : s[k].toNat = 47
    ·have hq7 : ((s[k].toNat : Int) != 47) = false := by rw [h7]; rfl
     have HN2 := HN'.out (by unfold pathC; rw [hpu, decide_eq_true h7]; rfl)
     clear h7
     go_wp2_with fail
     refine (refPart_any _ _).mono ?_
     rintro e w' ⟨rfl, rfl⟩
     rw [hpu]
     go_wp2_with fail
     go_roundw
     case rel => exact ⟨k + 1, by omega, by go_num, by first | trivial | rfl, HN2⟩
     case measure => simp [intOf]; omega
    ·have hq7 : ((s[k].toNat : Int) != 47) = true := by rw [bne_iff_ne]; omega
     have H := HBD'.out (by unfold pathC; rw [hpu, decide_eq_false h7]; rfl)
     clear h7
     go_wp2_with fail
     refine (refPart_any _ _).mono ?_
     rintro e w' ⟨rfl, rfl⟩
     rw [hpu]
     go_wp2_with fail
     go_ret
     exact ⟨by rw [H.out]; first | rfl | (simp; done) | (simp; omega), rfl⟩
  ·obtain rfl : k = s.size := by omega
   have H : Hid (pathB (tx s) = true) := hid (path_good (by omega) HB0.out H47.out (fun j u hj => HP.out j u (by rw [← tx_len]; exact (List.getElem?_eq_some_iff.1 hj).1) hj))
   clear hq
   go_wp2_with fail
   go_ret
   exact ⟨by rw [H.out]; first | rfl | (simp; done) | (simp; omega), rfl⟩
end Go.Proofs.YtfdjbnofcniodaaGreatDoor
