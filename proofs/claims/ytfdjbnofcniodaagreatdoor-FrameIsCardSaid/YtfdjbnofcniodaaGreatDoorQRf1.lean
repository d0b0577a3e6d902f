/- What the document's in, names, big, form of layer 10 compute. -/
import Derived.Test.YtfdjbnofcniodaaGreatDoorQFrA
import Derived.Test.YtfdjbnofcniodaaGreatDoorQRef01
namespace Go.Proofs.YtfdjbnofcniodaaGreatDoor
open Lib (hid)
set_option maxHeartbeats 16000000
set_option maxRecDepth 100000
set_option linter.unusedVariables false
open Go.RowKit
theorem refIn10_any (n m : Int) (w : World) : Calls Tryz.prog 146 #[.int .i64 n, .int .i64 m] w fun e w' => e = .returned (.bool (inB n m)) ∧ w = w' := by
 by_cases h1 : 0 ≤ n
 ·by_cases h2 : n ≤ m
  ·have H : Hid (inB n m = true) := hid (by unfold inB; simp [h1, h2])
   go_enter Tryz.func146, Tryz.ntmps146
   go_wp2_with fail
   go_ret
   exact ⟨ret_bool H.out.symm, rfl⟩
  ·have H : Hid (inB n m = false) := hid (by unfold inB; simp [h2])
   go_enter Tryz.func146, Tryz.ntmps146
   go_wp2_with fail
   go_ret
   exact ⟨ret_bool H.out.symm, rfl⟩
 ·have H : Hid (inB n m = false) := hid (by unfold inB; simp [h1])
  go_enter Tryz.func146, Tryz.ntmps146
  go_wp2_with fail
  go_ret
  exact ⟨ret_bool H.out.symm, rfl⟩
theorem all_prefix {α : Type} {p : α → Bool} {l : List α} {k : Nat} {x : α} (hl : l[k]? = some x) (h : (l.take k).all p = true) (hx : p x = true) : (l.take (k + 1)).all p = true := by
 rw [take_snoc_of hl, List.all_append, h]; simp [hx]
theorem all_fails {α : Type} {p : α → Bool} {l : List α} {k : Nat} {x : α} (hl : l[k]? = some x) (hx : p x = false) : l.all p = false := by
 cases h : l.all p with
 | false => rfl
 | true => rw [List.all_eq_true.1 h x (List.mem_of_getElem? hl)] at hx; cases hx
theorem all_endL {α : Type} {p : α → Bool} {l : List α} {k : Nat} (h : (l.take k).all p = true) (hk : l.length ≤ k) : l.all p = true := by rwa [List.take_of_length_le hk] at h
theorem refNames10_any (S : Nat → Prop) (A : Option Addr) (n c : Nat) (l : List Ky) (w : World) (hm : n ≤ maxLen) (hA : KeyL S w A n l) :
  Calls Tryz.prog 149 #[.slice A n c] w fun e w' => e = .returned (.bool (l.all goodK)) ∧ w = w' := by
 have HA := hid hA
 unfold maxLen at hm
 clear hA
 go_enter Tryz.func149, Tryz.ntmps149
 go_wp2_with fail
 go_loopw [3] (fun i wr => ∃ k : Nat, k ≤ n ∧ i = .int .i64 k ∧ w = wr ∧ Hid ((l.take k).all goodK = true)) (fun i _ => n - (intOf i).toNat)
 case atStart => exact ⟨0, Nat.zero_le _, by go_num, rfl, hid rfl⟩
 case round =>
  obtain ⟨k, hk, rfl, rfl, HU⟩ := hrel
  by_cases hlt : k < n
  ·obtain ⟨b, o, y, rfl, hbB, -, hlk, hsz, hc0, hc1⟩ := KeyL.at_ HA.out hlt
   have HLK := hid hlk
   have HSZ := hid hsz
   have i1 : (0 : Int) ≤ (k : Int) := by omega
   have i2 : (k : Int) < (n : Int) := by omega
   clear hlk hsz
   go_wp2_with fail
   refine (refIn10_any _ _ _).mono ?_
   rintro e w1 ⟨rfl, rfl⟩
   cases h : inB y.kind 3 with
   | false =>
    have HR : Hid (l.all goodK = false) := hid (all_fails HLK.out (by unfold goodK; rw [h]; rfl))
    clear h
    go_wp2_with fail
    go_ret
    exact ⟨ret_bool HR.out.symm, rfl⟩
   | true =>
   have HG : Hid (goodK y = saneN (tx y.name)) := hid (by unfold goodK; rw [h]; rfl)
   clear h
   go_wp2_with fail
   refine (refSaneN_any y.name _ HSZ.out).mono ?_
   rintro e w1 ⟨rfl, rfl⟩
   cases h : saneN (tx y.name) with
   | false =>
    have HR : Hid (l.all goodK = false) := hid (all_fails HLK.out (by rw [HG.out, h]))
    clear h
    go_wp2_with fail
    go_ret
    exact ⟨ret_bool HR.out.symm, rfl⟩
   | true =>
   have HU2 := hid (all_prefix HLK.out HU.out (by rw [HG.out, h]))
   clear h
   go_wp2_with fail
   go_roundw
   case rel => exact ⟨k + 1, by omega, by go_num, (by first | trivial | rfl), HU2⟩
   case measure => simp [intOf]; omega
  ·have HR : Hid (l.all goodK = true) := hid (all_endL HU.out (by have := HA.out.len; omega))
   have i2 : ¬ (k : Int) < (n : Int) := by omega
   go_wp2_with fail
   go_ret
   exact ⟨ret_bool HR.out.symm, rfl⟩
def lensF (f : Fr) : Bool := decide (f.adds.length ≤ 64) && decide (f.gone.length ≤ 64) && decide (f.hav.length ≤ 64) && decide (f.held.length ≤ 64)
theorem smallF_not {f : Fr} (h : f.hav.all mOk = false ∨ inB f.epoch 2147483647 = false ∨ inB f.nonce 2147483647 = false ∨ inB f.turn 2147483647 = false ∨ inB f.err 15 = false ∨ lensF f = false) : smallF f = false := by
 unfold smallF
 unfold lensF at h
 rcases h with h | h | h | h | h | h <;> rw [h] <;> simp
theorem smallF_yes {f : Fr} (h1 : f.hav.all mOk = true) (h2 : inB f.epoch 2147483647 = true) (h3 : inB f.nonce 2147483647 = true) (h4 : inB f.turn 2147483647 = true) (h5 : inB f.err 15 = true) (h6 : lensF f = true) : smallF f = true := by
 unfold smallF
 unfold lensF at h6
 rw [h1, h2, h3, h4, h5, h6]; rfl
theorem lens_no {f : Fr} (h : 64 < f.adds.length ∨ 64 < f.gone.length ∨ 64 < f.hav.length ∨ 64 < f.held.length) : lensF f = false := by
 unfold lensF
 cases hh : (decide (f.adds.length ≤ 64) && decide (f.gone.length ≤ 64) && decide (f.hav.length ≤ 64) && decide (f.held.length ≤ 64)) with
 | false => rfl
 | true =>
  simp only [Bool.and_eq_true, decide_eq_true_eq] at hh
  omega
theorem lens_yes {f : Fr} (h1 : f.adds.length ≤ 64) (h2 : f.gone.length ≤ 64) (h3 : f.hav.length ≤ 64) (h4 : f.held.length ≤ 64) : lensF f = true := by
 unfold lensF; simp [h1, h2, h3, h4]
theorem refBig10_any (S : Nat → Prop) (f : Fr) (s : FrS) (w : World) (hV : FrV S w f s) :
  Calls Tryz.prog 147 #[frVal f s] w fun e w' => e = .returned (.bool (!smallF f)) ∧ Ext w w' := by
 have HV := hid hV
 obtain ⟨⟨A1, n1, c1⟩, ⟨A2, n2, c2⟩, ⟨A3, n3, c3⟩, ⟨A4, n4, c4⟩⟩ := s
 have h1m : n1 ≤ 9223372036854775807 := by have := hV.sa.len; unfold maxLen at this; exact this
 have h2m : n2 ≤ 9223372036854775807 := by have := hV.sg.len; unfold maxLen at this; exact this
 have h3m : n3 ≤ 9223372036854775807 := by have := hV.sh.len; unfold maxLen at this; exact this
 have h4m : n4 ≤ 9223372036854775807 := by have := hV.sk.len; unfold maxLen at this; exact this
 have l1 : f.adds.length = n1 := hV.adds.len
 have l2 : f.gone.length = n2 := hV.gone.len
 have l3 : f.hav.length = n3 := hV.hav.len
 have l4 : f.held.length = n4 := hV.held.len
 clear hV
 rw [show frVal f ⟨⟨A1, n1, c1⟩, ⟨A2, n2, c2⟩, ⟨A3, n3, c3⟩, ⟨A4, n4, c4⟩⟩ = .agg #[.int .i64 f.typ, .int .i64 f.epoch, .int .i64 f.kind, .int .i64 f.nonce, .int .i64 f.turn, .slice A1 n1 c1, .slice A2 n2 c2, .int .i64 f.err, .slice A3 n3 c3, .slice A4 n4 c4] from rfl]
 go_enter Tryz.func147, Tryz.ntmps147
 go_wp2_with fail
 have KF := hid (heap_alloc_new w (.cells #[.int .i64 f.typ, .int .i64 f.epoch, .int .i64 f.kind, .int .i64 f.nonce, .int .i64 f.turn, .slice A1 n1 c1, .slice A2 n2 c2, .int .i64 f.err, .slice A3 n3 c3, .slice A4 n4 c4] 87))
 have E0 := hid (Ext.new w (.cells #[.int .i64 f.typ, .int .i64 f.epoch, .int .i64 f.kind, .int .i64 f.nonce, .int .i64 f.turn, .slice A1 n1 c1, .slice A2 n2 c2, .int .i64 f.err, .slice A3 n3 c3, .slice A4 n4 c4] 87))
 generalize w.alloc (.cells #[.int .i64 f.typ, .int .i64 f.epoch, .int .i64 f.kind, .int .i64 f.nonce, .int .i64 f.turn, .slice A1 n1 c1, .slice A2 n2 c2, .int .i64 f.err, .slice A3 n3 c3, .slice A4 n4 c4] 87) = W at KF E0 ⊢
 obtain ⟨q, qf⟩ := blk_rules KF.out
 go_loopw [3] (fun i wr => ∃ k : Nat, k ≤ n3 ∧ i = .int .i64 k ∧ W = wr ∧ Hid ((f.hav.take k).all mOk = true)) (fun i _ => n3 - (intOf i).toNat)
 case atStart => exact ⟨0, Nat.zero_le _, by go_num, rfl, hid rfl⟩
 case round =>
  obtain ⟨k, hk, rfl, rfl, HU⟩ := hrel
  by_cases hlt : k < n3
  ·obtain ⟨b, o, y, v3, rfl, hbB, -, hlk, hsz, hc0, hc1, hc2⟩ := MkL.at_ HV.out.hav hlt
   have d2 : W.cell? ⟨b, o + k * 3 + 2, none⟩ = some (.int .i64 v3) := (E0.out.cell hbB).trans hc2
   have HLK := hid hlk
   have i1 : (0 : Int) ≤ (k : Int) := by omega
   have i2 : (k : Int) < (n3 : Int) := by omega
   clear hlk hsz hc0 hc1 hc2
   go_wp2_with fail
   refine (refIn10_any _ _ _).mono ?_
   rintro e w1 ⟨rfl, rfl⟩
   cases h : inB v3 2147483647 with
   | false =>
    have HR : Hid (smallF f = false) := hid (smallF_not (.inl (all_fails HLK.out h)))
    clear h
    go_wp2_with fail
    go_ret
    exact ⟨by rw [HR.out]; rfl, E0.out⟩
   | true =>
   have HU2 := hid (all_prefix HLK.out HU.out (show mOk (y, v3) = true from h))
   clear h
   go_wp2_with fail
   go_roundw
   case rel => exact ⟨k + 1, by omega, by go_num, (by first | trivial | rfl), HU2⟩
   case measure => simp [intOf]; omega
  ·have HH := hid (all_endL HU.out (by omega))
   have i2 : ¬ (k : Int) < (n3 : Int) := by omega
   clear HU
   go_wp2_with fail
   refine (refIn10_any _ _ _).mono ?_
   rintro e w1 ⟨rfl, rfl⟩
   cases h : inB f.epoch 2147483647 with
   | false =>
    have HR : Hid (smallF f = false) := hid (smallF_not (.inr (.inl h)))
    clear h
    go_wp2_with fail
    go_ret
    exact ⟨by rw [HR.out]; rfl, E0.out⟩
   | true =>
   have H0 := hid h
   clear h
   go_wp2_with fail
   refine (refIn10_any _ _ _).mono ?_
   rintro e w1 ⟨rfl, rfl⟩
   cases h : inB f.nonce 2147483647 with
   | false =>
    have HR : Hid (smallF f = false) := hid (smallF_not (.inr (.inr (.inl h))))
    clear h
    go_wp2_with fail
    go_ret
    exact ⟨by rw [HR.out]; rfl, E0.out⟩
   | true =>
   have H1 := hid h
   clear h
   go_wp2_with fail
   refine (refIn10_any _ _ _).mono ?_
   rintro e w1 ⟨rfl, rfl⟩
   cases h : inB f.turn 2147483647 with
   | false =>
    have HR : Hid (smallF f = false) := hid (smallF_not (.inr (.inr (.inr (.inl h)))))
    clear h
    go_wp2_with fail
    go_ret
    exact ⟨by rw [HR.out]; rfl, E0.out⟩
   | true =>
   have H2 := hid h
   clear h
   go_wp2_with fail
   refine (refIn10_any _ _ _).mono ?_
   rintro e w1 ⟨rfl, rfl⟩
   cases h : inB f.err 15 with
   | false =>
    have HR : Hid (smallF f = false) := hid (smallF_not (.inr (.inr (.inr (.inr (.inl h))))))
    clear h
    go_wp2_with fail
    go_ret
    exact ⟨by rw [HR.out]; rfl, E0.out⟩
   | true =>
   have H3 := hid h
   clear h
   by_cases g0 : 64 < n1
   ·have HR : Hid (smallF f = false) := hid (smallF_not (.inr (.inr (.inr (.inr (.inr (lens_no (.inl (by omega)))))))))
    have j : (64 : Int) < (n1 : Int) := by omega
    go_wp2_with fail
    go_ret
    exact ⟨by rw [HR.out]; rfl, E0.out⟩
   have j0 : ¬ (64 : Int) < (n1 : Int) := by omega
   by_cases g1 : 64 < n2
   ·have HR : Hid (smallF f = false) := hid (smallF_not (.inr (.inr (.inr (.inr (.inr (lens_no (.inr (.inl (by omega))))))))))
    have j : (64 : Int) < (n2 : Int) := by omega
    go_wp2_with fail
    go_ret
    exact ⟨by rw [HR.out]; rfl, E0.out⟩
   have j1 : ¬ (64 : Int) < (n2 : Int) := by omega
   by_cases g2 : 64 < n3
   ·have HR : Hid (smallF f = false) := hid (smallF_not (.inr (.inr (.inr (.inr (.inr (lens_no (.inr (.inr (.inl (by omega)))))))))))
    have j : (64 : Int) < (n3 : Int) := by omega
    go_wp2_with fail
    go_ret
    exact ⟨by rw [HR.out]; rfl, E0.out⟩
   have j2 : ¬ (64 : Int) < (n3 : Int) := by omega
   by_cases g3 : 64 < n4
   ·have HR : Hid (smallF f = false) := hid (smallF_not (.inr (.inr (.inr (.inr (.inr (lens_no (.inr (.inr (.inr (by omega)))))))))))
    have j : (64 : Int) < (n4 : Int) := by omega
    go_wp2_with fail
    go_ret
    exact ⟨by rw [HR.out]; rfl, E0.out⟩
   have j3 : ¬ (64 : Int) < (n4 : Int) := by omega
   have HR : Hid (smallF f = true) := hid (smallF_yes HH.out H0.out H1.out H2.out H3.out (lens_yes (by omega) (by omega) (by omega) (by omega)))
   go_wp2_with fail
   go_ret
   exact ⟨ret_bool (by rw [HR.out]; first | rfl | (simp [j0, j1, j2, j3]; done) | (simp; omega)), E0.out⟩
theorem nil_of0 {α : Type} {l : List α} {n : Nat} (h : l.length = n) (h0 : ¬ 0 < n) : l = [] := List.eq_nil_of_length_eq_zero (by omega)
theorem ne_of0 {α : Type} {l : List α} {n : Nat} (h : l.length = n) (h0 : 0 < n) : l ≠ [] := fun e => by rw [e] at h; simp at h; omega
theorem shaped0 (f : Fr) (h : f.typ = 0) : shapedF f = true ↔ f.kind = 0 ∧ f.nonce = 0 ∧ f.turn = 0 ∧ f.adds = [] ∧ f.gone = [] ∧ f.err = 0 ∧ f.held = [] := by
 unfold shapedF bareF; rw [if_pos h, decide_eq_true_eq]; simp
theorem shaped1 (f : Fr) (h : f.typ = 1) : shapedF f = true ↔ f.turn = 0 ∧ f.err = 0 ∧ f.hav = [] ∧ f.held = [] := by
 unfold shapedF bareF; rw [if_neg (by rw [h]; decide), if_pos h, decide_eq_true_eq]; simp
theorem shaped2 (f : Fr) (h : f.typ = 2) : shapedF f = true ↔ f.adds = [] ∧ f.gone = [] ∧ f.hav = [] := by
 unfold shapedF bareF; rw [if_neg (by rw [h]; decide), if_neg (by rw [h]; decide), if_pos h, decide_eq_true_eq]; simp
theorem shaped3 (f : Fr) (h : f.typ = 3) : shapedF f = true ↔ f.kind = 0 ∧ f.nonce = 0 ∧ f.adds = [] ∧ f.gone = [] ∧ f.err = 0 ∧ f.hav = [] := by
 unfold shapedF bareF; rw [if_neg (by rw [h]; decide), if_neg (by rw [h]; decide), if_neg (by rw [h]; decide), if_pos h, decide_eq_true_eq]; simp
theorem shaped_bad {f : Fr} {p : Prop} (h : shapedF f = true ↔ p) (hn : ¬ p) : shapedF f = false := by
 cases e : shapedF f with
 | false => rfl
 | true => exact absurd (h.1 e) hn
theorem refForm10_any (S : Nat → Prop) (f : Fr) (s : FrS) (w : World) (hV : FrV S w f s) (ht : 0 ≤ f.typ ∧ f.typ ≤ 3) :
  Calls Tryz.prog 148 #[frVal f s] w fun e w' => e = .returned (.bool (!shapedF f)) ∧ Ext w w' := by
 have HV := hid hV
 obtain ⟨⟨A1, n1, c1⟩, ⟨A2, n2, c2⟩, ⟨A3, n3, c3⟩, ⟨A4, n4, c4⟩⟩ := s
 have h1m : n1 ≤ 9223372036854775807 := by have := hV.sa.len; unfold maxLen at this; exact this
 have h2m : n2 ≤ 9223372036854775807 := by have := hV.sg.len; unfold maxLen at this; exact this
 have h3m : n3 ≤ 9223372036854775807 := by have := hV.sh.len; unfold maxLen at this; exact this
 have h4m : n4 ≤ 9223372036854775807 := by have := hV.sk.len; unfold maxLen at this; exact this
 have l1 : f.adds.length = n1 := hV.adds.len
 have l2 : f.gone.length = n2 := hV.gone.len
 have l3 : f.hav.length = n3 := hV.hav.len
 have l4 : f.held.length = n4 := hV.held.len
 clear hV
 rw [show frVal f ⟨⟨A1, n1, c1⟩, ⟨A2, n2, c2⟩, ⟨A3, n3, c3⟩, ⟨A4, n4, c4⟩⟩ = .agg #[.int .i64 f.typ, .int .i64 f.epoch, .int .i64 f.kind, .int .i64 f.nonce, .int .i64 f.turn, .slice A1 n1 c1, .slice A2 n2 c2, .int .i64 f.err, .slice A3 n3 c3, .slice A4 n4 c4] from rfl]
 have hc4 : f.typ = 0 ∨ f.typ = 1 ∨ f.typ = 2 ∨ f.typ = 3 := by omega
 clear ht
 rcases hc4 with ht | ht | ht | ht
 ·have HSH := hid (shaped0 f ht)
  have HT : Hid (f.typ = 0) := hid ht
  rw [ht]
  clear ht
  by_cases ga : 0 < n1
  ·have HR : Hid (shapedF f = false) := hid (shaped_bad HSH.out (fun hh => ne_of0 l1 ga hh.2.2.2.1))
   have j : (0 : Int) < (n1 : Int) := by omega
   go_enter Tryz.func148, Tryz.ntmps148
   go_wp2_with fail
   go_ret
   exact ⟨by rw [HR.out]; rfl, Ext.new _ _⟩
  have ja : ¬ (0 : Int) < (n1 : Int) := by omega
  by_cases gg : 0 < n2
  ·have HR : Hid (shapedF f = false) := hid (shaped_bad HSH.out (fun hh => ne_of0 l2 gg hh.2.2.2.2.1))
   have j : (0 : Int) < (n2 : Int) := by omega
   go_enter Tryz.func148, Tryz.ntmps148
   go_wp2_with fail
   go_ret
   exact ⟨by rw [HR.out]; rfl, Ext.new _ _⟩
  have jg : ¬ (0 : Int) < (n2 : Int) := by omega
  by_cases ge : f.err ≠ 0
  ·have HR : Hid (shapedF f = false) := hid (shaped_bad HSH.out (fun hh => ge hh.2.2.2.2.2.1))
   have j : (f.err != 0) = true := by simpa using ge
   go_enter Tryz.func148, Tryz.ntmps148
   go_wp2_with fail
   go_ret
   exact ⟨by rw [HR.out]; rfl, Ext.new _ _⟩
  have je : (f.err != 0) = false := by simpa using ge
  by_cases gK : f.kind ≠ 0
  ·have HR : Hid (shapedF f = false) := hid (shaped_bad HSH.out (fun hh => gK hh.1))
   have j : (f.kind != 0) = true := by simpa using gK
   go_enter Tryz.func148, Tryz.ntmps148
   go_wp2_with fail
   go_ret
   exact ⟨by rw [HR.out]; rfl, Ext.new _ _⟩
  have jK : (f.kind != 0) = false := by simpa using gK
  by_cases gn : f.nonce ≠ 0
  ·have HR : Hid (shapedF f = false) := hid (shaped_bad HSH.out (fun hh => gn hh.2.1))
   have j : (f.nonce != 0) = true := by simpa using gn
   go_enter Tryz.func148, Tryz.ntmps148
   go_wp2_with fail
   go_ret
   exact ⟨by rw [HR.out]; rfl, Ext.new _ _⟩
  have jn : (f.nonce != 0) = false := by simpa using gn
  by_cases gt : f.turn ≠ 0
  ·have HR : Hid (shapedF f = false) := hid (shaped_bad HSH.out (fun hh => gt hh.2.2.1))
   have j : (f.turn != 0) = true := by simpa using gt
   go_enter Tryz.func148, Tryz.ntmps148
   go_wp2_with fail
   go_ret
   exact ⟨by rw [HR.out]; rfl, Ext.new _ _⟩
  have jt : (f.turn != 0) = false := by simpa using gt
  by_cases gk : 0 < n4
  ·have HR : Hid (shapedF f = false) := hid (shaped_bad HSH.out (fun hh => ne_of0 l4 gk hh.2.2.2.2.2.2))
   have j : (0 : Int) < (n4 : Int) := by omega
   go_enter Tryz.func148, Tryz.ntmps148
   go_wp2_with fail
   go_ret
   exact ⟨by rw [HR.out]; rfl, Ext.new _ _⟩
  have jk : ¬ (0 : Int) < (n4 : Int) := by omega
  have HR : Hid (shapedF f = true) := hid (HSH.out.2 ⟨Classical.not_not.1 gK, Classical.not_not.1 gn, Classical.not_not.1 gt, nil_of0 l1 ga, nil_of0 l2 gg, Classical.not_not.1 ge, nil_of0 l4 gk⟩)
  go_enter Tryz.func148, Tryz.ntmps148
  go_wp2_with fail
  go_ret
  exact ⟨by rw [HR.out]; rfl, Ext.new _ _⟩
 ·have HSH := hid (shaped1 f ht)
  have HT : Hid (f.typ = 1) := hid ht
  rw [ht]
  clear ht
  by_cases gh : 0 < n3
  ·have HR : Hid (shapedF f = false) := hid (shaped_bad HSH.out (fun hh => ne_of0 l3 gh hh.2.2.1))
   have j : (0 : Int) < (n3 : Int) := by omega
   go_enter Tryz.func148, Tryz.ntmps148
   go_wp2_with fail
   go_ret
   exact ⟨by rw [HR.out]; rfl, Ext.new _ _⟩
  have jh : ¬ (0 : Int) < (n3 : Int) := by omega
  by_cases ge : f.err ≠ 0
  ·have HR : Hid (shapedF f = false) := hid (shaped_bad HSH.out (fun hh => ge hh.2.1))
   have j : (f.err != 0) = true := by simpa using ge
   go_enter Tryz.func148, Tryz.ntmps148
   go_wp2_with fail
   go_ret
   exact ⟨by rw [HR.out]; rfl, Ext.new _ _⟩
  have je : (f.err != 0) = false := by simpa using ge
  by_cases gt : f.turn ≠ 0
  ·have HR : Hid (shapedF f = false) := hid (shaped_bad HSH.out (fun hh => gt hh.1))
   have j : (f.turn != 0) = true := by simpa using gt
   go_enter Tryz.func148, Tryz.ntmps148
   go_wp2_with fail
   go_ret
   exact ⟨by rw [HR.out]; rfl, Ext.new _ _⟩
  have jt : (f.turn != 0) = false := by simpa using gt
  by_cases gk : 0 < n4
  ·have HR : Hid (shapedF f = false) := hid (shaped_bad HSH.out (fun hh => ne_of0 l4 gk hh.2.2.2))
   have j : (0 : Int) < (n4 : Int) := by omega
   go_enter Tryz.func148, Tryz.ntmps148
   go_wp2_with fail
   go_ret
   exact ⟨by rw [HR.out]; rfl, Ext.new _ _⟩
  have jk : ¬ (0 : Int) < (n4 : Int) := by omega
  have HR : Hid (shapedF f = true) := hid (HSH.out.2 ⟨Classical.not_not.1 gt, Classical.not_not.1 ge, nil_of0 l3 gh, nil_of0 l4 gk⟩)
  go_enter Tryz.func148, Tryz.ntmps148
  go_wp2_with fail
  go_ret
  exact ⟨by rw [HR.out]; rfl, Ext.new _ _⟩
 ·have HSH := hid (shaped2 f ht)
  have HT : Hid (f.typ = 2) := hid ht
  rw [ht]
  clear ht
  by_cases gh : 0 < n3
  ·have HR : Hid (shapedF f = false) := hid (shaped_bad HSH.out (fun hh => ne_of0 l3 gh hh.2.2))
   have j : (0 : Int) < (n3 : Int) := by omega
   go_enter Tryz.func148, Tryz.ntmps148
   go_wp2_with fail
   go_ret
   exact ⟨by rw [HR.out]; rfl, Ext.new _ _⟩
  have jh : ¬ (0 : Int) < (n3 : Int) := by omega
  by_cases ga : 0 < n1
  ·have HR : Hid (shapedF f = false) := hid (shaped_bad HSH.out (fun hh => ne_of0 l1 ga hh.1))
   have j : (0 : Int) < (n1 : Int) := by omega
   go_enter Tryz.func148, Tryz.ntmps148
   go_wp2_with fail
   go_ret
   exact ⟨by rw [HR.out]; rfl, Ext.new _ _⟩
  have ja : ¬ (0 : Int) < (n1 : Int) := by omega
  by_cases gg : 0 < n2
  ·have HR : Hid (shapedF f = false) := hid (shaped_bad HSH.out (fun hh => ne_of0 l2 gg hh.2.1))
   have j : (0 : Int) < (n2 : Int) := by omega
   go_enter Tryz.func148, Tryz.ntmps148
   go_wp2_with fail
   go_ret
   exact ⟨by rw [HR.out]; rfl, Ext.new _ _⟩
  have jg : ¬ (0 : Int) < (n2 : Int) := by omega
  have HR : Hid (shapedF f = true) := hid (HSH.out.2 ⟨nil_of0 l1 ga, nil_of0 l2 gg, nil_of0 l3 gh⟩)
  go_enter Tryz.func148, Tryz.ntmps148
  go_wp2_with fail
  go_ret
  exact ⟨by rw [HR.out]; rfl, Ext.new _ _⟩
 ·have HSH := hid (shaped3 f ht)
  have HT : Hid (f.typ = 3) := hid ht
  rw [ht]
  clear ht
  by_cases gh : 0 < n3
  ·have HR : Hid (shapedF f = false) := hid (shaped_bad HSH.out (fun hh => ne_of0 l3 gh hh.2.2.2.2.2))
   have j : (0 : Int) < (n3 : Int) := by omega
   go_enter Tryz.func148, Tryz.ntmps148
   go_wp2_with fail
   go_ret
   exact ⟨by rw [HR.out]; rfl, Ext.new _ _⟩
  have jh : ¬ (0 : Int) < (n3 : Int) := by omega
  by_cases ga : 0 < n1
  ·have HR : Hid (shapedF f = false) := hid (shaped_bad HSH.out (fun hh => ne_of0 l1 ga hh.2.2.1))
   have j : (0 : Int) < (n1 : Int) := by omega
   go_enter Tryz.func148, Tryz.ntmps148
   go_wp2_with fail
   go_ret
   exact ⟨by rw [HR.out]; rfl, Ext.new _ _⟩
  have ja : ¬ (0 : Int) < (n1 : Int) := by omega
  by_cases gg : 0 < n2
  ·have HR : Hid (shapedF f = false) := hid (shaped_bad HSH.out (fun hh => ne_of0 l2 gg hh.2.2.2.1))
   have j : (0 : Int) < (n2 : Int) := by omega
   go_enter Tryz.func148, Tryz.ntmps148
   go_wp2_with fail
   go_ret
   exact ⟨by rw [HR.out]; rfl, Ext.new _ _⟩
  have jg : ¬ (0 : Int) < (n2 : Int) := by omega
  by_cases ge : f.err ≠ 0
  ·have HR : Hid (shapedF f = false) := hid (shaped_bad HSH.out (fun hh => ge hh.2.2.2.2.1))
   have j : (f.err != 0) = true := by simpa using ge
   go_enter Tryz.func148, Tryz.ntmps148
   go_wp2_with fail
   go_ret
   exact ⟨by rw [HR.out]; rfl, Ext.new _ _⟩
  have je : (f.err != 0) = false := by simpa using ge
  by_cases gK : f.kind ≠ 0
  ·have HR : Hid (shapedF f = false) := hid (shaped_bad HSH.out (fun hh => gK hh.1))
   have j : (f.kind != 0) = true := by simpa using gK
   go_enter Tryz.func148, Tryz.ntmps148
   go_wp2_with fail
   go_ret
   exact ⟨by rw [HR.out]; rfl, Ext.new _ _⟩
  have jK : (f.kind != 0) = false := by simpa using gK
  by_cases gn : f.nonce ≠ 0
  ·have HR : Hid (shapedF f = false) := hid (shaped_bad HSH.out (fun hh => gn hh.2.1))
   have j : (f.nonce != 0) = true := by simpa using gn
   go_enter Tryz.func148, Tryz.ntmps148
   go_wp2_with fail
   go_ret
   exact ⟨by rw [HR.out]; rfl, Ext.new _ _⟩
  have jn : (f.nonce != 0) = false := by simpa using gn
  have HR : Hid (shapedF f = true) := hid (HSH.out.2 ⟨Classical.not_not.1 gK, Classical.not_not.1 gn, nil_of0 l1 ga, nil_of0 l2 gg, Classical.not_not.1 ge, nil_of0 l3 gh⟩)
  go_enter Tryz.func148, Tryz.ntmps148
  go_wp2_with fail
  go_ret
  exact ⟨by rw [HR.out]; rfl, Ext.new _ _⟩
end Go.Proofs.YtfdjbnofcniodaaGreatDoor
