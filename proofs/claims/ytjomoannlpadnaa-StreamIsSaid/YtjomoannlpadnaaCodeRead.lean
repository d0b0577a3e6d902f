/- What the methods of package code's Reader compute. -/
import Derived.Test.YtjomoannlpadnaaCode
import Derived.Outline
namespace Go.Proofs.Ytjomoannlpadnaa
open Go.RowKit
attribute [local go_sem ↓] run_max2 run_min2

/-- a reader in memory, in a block of its own -/
def OffG (g : Nat) (A : Option Addr) (n : Nat) : Prop := 0 < n → ∀ b o, A = some ⟨b, o, none⟩ → b ≠ g
def RdAt (w : World) (g : Nat) (r : Rd) : Prop := ∃ A n c, w.heap[g]? = some (.cells #[.slice A n c, .int .i64 r.e] 62 (0, 0)) ∧ (A = none → c = 0) ∧ n ≤ c ∧ c ≤ 9223372036854775807 ∧ Byts w A n r.b ∧ OffG g A n

set_option maxRecDepth 100000 in
set_option maxHeartbeats 400000 in
theorem parse_any (g : Nat) (r : Rd) (w : World) (h : RdAt w g r) :
    Calls Try.prog 72 #[.pointer (some ⟨g, 0, none⟩)] w fun e w' => e = .returned (.tuple #[.int .i64 ((parse r.b).1 : Nat), .int .i64 ((parse r.b).2.1 : Nat), .int .i64 (parse r.b).2.2]) ∧ ∃ nq, w' = w.drewN nq := by
  obtain ⟨A, n, c, hg, hA, hnc, hcm, hB, -⟩ := h
  obtain ⟨g0, -⟩ := blk_rules hg
  have HB := Lib.hid hB
  clear hg
  obtain ⟨M, hM⟩ : ∃ M : Nat, min (n : Int) 5 = (M : Int) := ⟨min n 5, by omega⟩
  have hM0 : max (M : Int) 0 = (M : Int) := by omega
  have hMn : M ≤ n := by omega
  have hM5 : M ≤ 5 := by omega
  have HM : Hid (M = n ∨ M = 5) := Lib.hid (by omega)
  have HL := Lib.hid hB.len
  clear hB
  go_enter Try.func72, Try.ntmps72
  go_wp2_with fail
  go_quiet (fail)
  go_wp2_with fail
  clear hM hM0
  go_loop [5, 20] (fun t i => ∃ (j x : Nat), j ≤ M ∧ i = .int .i64 j ∧ t = .int .i64 x ∧ Hid (parseF (5 - j) j x (r.b.drop j) = parse r.b) ∧ Hid (x < 128 ^ j)) (fun _ i => M - (intOf i).toNat)
  case atStart => exact ⟨0, 0, Nat.zero_le _, rfl, rfl, Lib.hid rfl, Lib.hid (by decide)⟩
  case round =>
    obtain ⟨j, x, hj, rfl, rfl, HP, HX⟩ := hrel
    by_cases hlt : j < M
    · obtain ⟨b, o, u, rfl, hb0, hu, hcell⟩ := Byts.at_ HB.out (k := j) (by omega)
      obtain ⟨y, hy⟩ : ∃ y, y = x + u.toNat % 128 * 128 ^ j := ⟨_, rfl⟩
      have hbit := parse_bits u (show j < 5 by omega) HX.out
      have hst := HP.out
      rw [parseF_step (by omega) hu] at hst
      have hylt := step_lt u HX.out
      rw [← hy] at hbit hst hylt
      have HS := Lib.hid hst
      have HYL := Lib.hid hylt
      clear hu hst hy hylt
      by_cases h1 : 128 ≤ u.toNat
      · go_wp2_with fail
        go_round
        case rel => exact ⟨j + 1, y, by omega, by go_num, rfl, Lib.hid (by rw [← HS.out, if_pos h1]), HYL⟩
        case measure => simp [intOf]; omega
      · by_cases h2 : u.toNat = 0 ∧ 0 < j
        · have HR : Hid (parse r.b = (0, 0, 2)) := Lib.hid (by rw [← HS.out, if_neg h1, if_pos h2])
          obtain ⟨h2, h3⟩ := h2
          go_wp2_with fail
          go_ret3
          exact ⟨by rw [HR.out]; rfl, _, rfl⟩
        · have HR : Hid (parse r.b = (y, j + 1, 0)) := Lib.hid (by rw [← HS.out, if_neg h1, if_neg h2])
          have H2 := Lib.hid h2
          clear h2
          go_wp2_with fail
          all_goals first
            | exact absurd ⟨by assumption, by assumption⟩ H2.out
            | (go_ret3
               exact ⟨by rw [HR.out]; rfl, _, rfl⟩)
    · have HR : Hid (parse r.b = (0, 0, if n < 5 then 1 else 2)) := Lib.hid (by
        obtain rfl : j = M := by omega
        have h1 := HP.out
        by_cases hn : n < 5
        · have := HM.out
          have hl := HL.out
          rw [if_pos hn, ← h1, List.drop_eq_nil_of_le (by omega), show 5 - j = (5 - j - 1) + 1 by omega]
          rfl
        · have := HM.out
          obtain rfl : j = 5 := by omega
          rw [if_neg hn, ← h1]
          rfl)
      by_cases hn : n < 5
      · go_wp2_with fail
        go_ret3
        exact ⟨by rw [HR.out, if_pos hn]; rfl, _, rfl⟩
      · go_wp2_with fail
        go_ret3
        exact ⟨by rw [HR.out, if_neg hn]; rfl, _, rfl⟩

/-- only block g, and what is new, has turned -/
abbrev Only (g : Nat) (w w' : World) : Prop := w.grownBy w' (some g)
section
variable {a b w w' : World} {g : Nat}
theorem Only.refl (g : Nat) (w : World) : Only g w w := World.grownBy.refl w _
theorem Only.drewN (h : Only g a w) (n : Nat) : Only g a (w.drewN n) := ⟨h.os, h.tape, h.output, h.size, h.block⟩
theorem Only.drew (h : Only g a w) : Only g a w.drew := ⟨h.os, h.tape, h.output, h.size, h.block⟩
theorem Only.set (h : Only g a w) (i : Nat) (u : Value) : Only g a (w.setCell ⟨g, i, none⟩ u) :=
  ⟨h.os, h.tape, h.output, by simpa [World.setCell] using h.size, fun k hk hne => (Below.heap_setCell w ⟨g, i, none⟩ u k (fun e => hne (by rw [e]))).trans (h.block k hk hne)⟩
theorem Only.trans (h : Only g a b) (k : Only g b w) : Only g a w :=
  ⟨k.os.trans h.os, k.tape.trans h.tape, k.output.trans h.output, Nat.le_trans h.size k.size, fun i hi hne => (k.block i (Nat.lt_of_lt_of_le hi h.size) hne).trans (h.block i hi hne)⟩
theorem Only.of_ext (h : Ext a w) : Only g a w := ⟨h.os, h.tape, h.output, h.size, fun _ hi _ => h.block hi⟩
theorem Only.ext (h : Ext a b) (k : Only g b w) (hg : a.heap.size ≤ g) : Ext a w := Below.grown h k h.size fun _ e => by injection e with e; omega
theorem Only.cell (h : Only g a w) {b o : Nat} (hb : b < a.heap.size) (hne : b ≠ g) : w.cell? ⟨b, o, none⟩ = a.cell? ⟨b, o, none⟩ := World.cell?_of_block (h.block b hb (fun e => hne (by injection e)))
end
theorem Byts.only {w w' : World} {g n : Nat} {A : Option Addr} {bs : List UInt8} (h : Byts w A n bs) (ho : OffG g A n) (hk : Only g w w') : Byts w' A n bs :=
  ⟨h.1, fun hn => by
    obtain ⟨b, o, e, hb, hc⟩ := h.2 hn
    refine ⟨b, o, e, Nat.lt_of_lt_of_le hb hk.size, fun k x hx => ?_⟩
    obtain ⟨cs, hl, hr, hcs⟩ := hc k x hx
    exact ⟨cs, hl, hr, fun j u hu => (hk.cell hb (ho hn b o e)).trans (hcs j u hu)⟩⟩
theorem RdAt.drewN {w : World} {g : Nat} {r : Rd} (h : RdAt w g r) (n : Nat) : RdAt (w.drewN n) g r := by
  obtain ⟨A, m, c, hg, h1, h2, h3, hB, ho⟩ := h
  exact ⟨A, m, c, hg, h1, h2, h3, ArrR.up hB ((Ext.refl w).drewN n), ho⟩
theorem RdAt.up {w w' : World} {g : Nat} {r : Rd} (h : RdAt w g r) (hx : Ext w w') : RdAt w' g r := by
  obtain ⟨A, m, c, hg, h1, h2, h3, hB, ho⟩ := h
  exact ⟨A, m, c, (hx.block (Array.getElem?_eq_some_iff.1 hg).1).trans hg, h1, h2, h3, ArrR.up hB hx, ho⟩
theorem RdAt.lt {w : World} {g : Nat} {r : Rd} (h : RdAt w g r) : g < w.heap.size := by
  obtain ⟨A, m, c, hg, _⟩ := h
  exact (Array.getElem?_eq_some_iff.1 hg).1
/-- the error is set -/
theorem RdAt.setE {w : World} {g : Nat} {r : Rd} (h : RdAt w g r) (e : Int) : RdAt (w.setCell ⟨g, 1, none⟩ (.int .i64 e)) g ⟨r.b, e⟩ := by
  obtain ⟨A, m, c, hg, h1, h2, h3, hB, ho⟩ := h
  exact ⟨A, m, c, blk_set hg _, h1, h2, h3, hB.only ho ((Only.refl g w).set _ _), ho⟩
theorem byts_drop {w : World} {b o n : Nat} {bs : List UInt8} (h : Byts w (some ⟨b, o, none⟩) n bs) (k : Nat) : Byts w (some ⟨b, o + k, none⟩) (n - k) (bs.drop k) := by
  refine ⟨by rw [List.length_drop, h.1], fun hp => ?_⟩
  obtain ⟨b', o', e, hb, hc⟩ := h.2 (by omega)
  injection e with e
  injection e with e1 e2
  subst e1 e2
  refine ⟨b, o + k, rfl, hb, fun i x hx => ?_⟩
  rw [List.getElem?_drop] at hx
  obtain ⟨cs, hl, hr, hcs⟩ := hc _ x hx
  refine ⟨cs, hl, hr, fun j u hu => ?_⟩
  have := hcs j u hu
  rw [show o + k + i * 1 + j = o + (k + i) * 1 + j by omega]
  exact this
theorem byts_take {w : World} {A : Option Addr} {n k : Nat} {bs : List UInt8} (h : Byts w A n bs) (hk : k ≤ n) : Byts w A k (bs.take k) := by
  refine ⟨by rw [List.length_take, h.1]; omega, fun hp => ?_⟩
  obtain ⟨b, o, e, hb, hc⟩ := h.2 (by omega)
  refine ⟨b, o, e, hb, fun i x hx => ?_⟩
  have hi : i < k := by have := (List.getElem?_eq_some_iff.1 hx).1; rw [List.length_take] at this; omega
  rw [List.getElem?_take_of_lt hi] at hx
  exact hc i x hx
/-- the head is taken off -/
theorem RdAt.setB {w : World} {g : Nat} {r : Rd} {b o n c : Nat} (hg : w.heap[g]? = some (.cells #[.slice (some ⟨b, o, none⟩) n c, .int .i64 r.e] 62 (0, 0))) (hnc : n ≤ c) (hcm : c ≤ 9223372036854775807) (hB : Byts w (some ⟨b, o, none⟩) n r.b) (ho : OffG g (some ⟨b, o, none⟩) n) {k : Nat} (hk : k ≤ n) :
    RdAt (w.setCell ⟨g, 0, none⟩ (.slice (some ⟨b, o + k, none⟩) (n - k) (c - k))) g ⟨r.b.drop k, r.e⟩ := by
  refine ⟨_, _, _, blk_set hg _, (fun h => by cases h), by omega, by omega, (byts_drop hB k).only ?_ ((Only.refl g w).set _ _), ?_⟩ <;>
  · intro hn b' o' e
    injection e with e
    injection e with e1 e2
    subst e1
    exact ho (by omega) b o rfl
theorem RdAt.setB0 {w : World} {g : Nat} {r : Rd} {A : Option Addr} {n c : Nat} (hg : w.heap[g]? = some (.cells #[.slice A n c, .int .i64 r.e] 62 (0, 0))) (hB : Byts w A n r.b) :
    RdAt (w.setCell ⟨g, 0, none⟩ (.slice A 0 0)) g ⟨r.b.drop n, r.e⟩ := by
  refine ⟨_, _, _, blk_set hg _, fun _ => rfl, Nat.le_refl _, by omega, ?_, fun h => absurd h (by omega)⟩
  rw [List.drop_eq_nil_of_le (by rw [hB.1]; exact Nat.le_refl _)]
  exact ArrR.nil_

def RdPost (w : World) (g : Nat) (r : Rd) (v : Value) (e : Ending) (w' : World) : Prop := e = .returned v ∧ RdAt w' g r ∧ Only g w w'

set_option maxRecDepth 100000 in
set_option maxHeartbeats 400000 in
theorem fail_any (g : Nat) (r : Rd) (en : Int) (w : World) (h : RdAt w g r) :
    Calls Try.prog 73 #[.pointer (some ⟨g, 0, none⟩), .int .i64 en] w (RdPost w g ⟨r.b, if r.e = 0 then en else r.e⟩ (.tuple #[])) := by
  have H := Lib.hid h
  obtain ⟨A, n, c, hg, -⟩ := h
  obtain ⟨g0, g1⟩ := blk_rules hg
  clear hg
  by_cases he : r.e = 0
  · have hb : (r.e == 0) = true := by simpa using he
    have HE := Lib.hid he
    clear he
    go_enter Try.func73, Try.ntmps73
    go_wp2_with fail
    go_end0
    exact ⟨rfl, H.out.setE en, (Only.refl g w).set _ _⟩
  · have hb : (r.e == 0) = false := by simpa using he
    have HE := Lib.hid he
    clear he
    go_enter Try.func73, Try.ntmps73
    go_wp2_with fail
    go_end0
    exact ⟨rfl, H.out, Only.refl g w⟩

theorem parse_take {bs : List UInt8} (h : (parse bs).2.2 = 0) : (parse bs).2.1 ≤ bs.length :=
  (parse_once (bs := bs) (v := (parse bs).1) (j := (parse bs).2.1) (by rw [← h])).2.2.1

set_option maxRecDepth 100000 in
set_option maxHeartbeats 400000 in
theorem num_nil (i : Int) (w : World) : Calls Try.prog 44 #[.pointer none, .int .i64 i] w fun e w' => e = .returned (.int .i64 0) ∧ w = w' := by
  go_enter Try.func44, Try.ntmps44
  go_wp2_with fail
  go_ret
  exact ⟨rfl, rfl⟩

set_option maxRecDepth 100000 in
set_option maxHeartbeats 800000 in
theorem num_any (g : Nat) (r : Rd) (i : Int) (w : World) (h : RdAt w g r) :
    Calls Try.prog 44 #[.pointer (some ⟨g, 0, none⟩), .int .i64 i] w (RdPost w g (r.num i).1 (.int .i64 ((r.num i).2 : Nat))) := by
  have H := Lib.hid h
  obtain ⟨A, n, c, hg, hA, hnc, hcm, hB, ho⟩ := h
  obtain ⟨g0, g1⟩ := blk_rules hg
  have HG := Lib.hid hg
  have HB := Lib.hid hB
  have HO := Lib.hid ho
  clear hg hB ho
  by_cases he : r.e = 0
  · have hb : (r.e != 0) = false := by simpa using he
    by_cases hp : (parse r.b).2.2 = 0
    · by_cases hl : bnd i < (parse r.b).1
      · have HR := Lib.hid (Rd.num_big he hp hl)
        have HE := Lib.hid he
        obtain ⟨x, y, z, hxyz⟩ : ∃ x y z, parse r.b = (x, y, z) := ⟨_, _, _, rfl⟩
        obtain rfl : z = 0 := by rw [hxyz] at hp; exact hp
        rw [hxyz] at hl
        simp only [] at hl
        have HX := Lib.hid hxyz
        clear he hp hxyz
        go_enter Try.func44, Try.ntmps44
        go_wp2_with fail
        refine (parse_any g r _ H.out).mono ?_
        rintro e w1 ⟨rfl, nq, rfl⟩
        rw [HX.out]
        go_wp2_with fail
        refine (bounded_any _ _).mono ?_
        rintro e w3 ⟨rfl, rfl⟩
        go_wp2_with fail
        refine (fail_any g r 3 _ (H.out.drewN nq)).mono ?_
        rintro e w2 ⟨rfl, hr2, ho2⟩
        go_wp2_with fail
        go_ret
        exact ⟨by rw [HR.out]; rfl, by rw [HR.out]; rw [if_pos HE.out] at hr2; exact hr2, ((Only.refl g w).drewN nq).trans ho2⟩
      · have HR := Lib.hid (Rd.num_ok he hp hl)
        have HE := Lib.hid he
        have hk := parse_take hp
        obtain ⟨x, y, z, hxyz⟩ : ∃ x y z, parse r.b = (x, y, z) := ⟨_, _, _, rfl⟩
        obtain rfl : z = 0 := by rw [hxyz] at hp; exact hp
        have hpos := (parse_once hxyz).1
        rw [hxyz] at hl hk
        simp only [] at hl hk
        rw [HB.out.len] at hk
        have HX := Lib.hid hxyz
        clear he hp hxyz
        obtain ⟨b, o, u, rfl, -, -, -⟩ := Byts.at_ HB.out (k := 0) (by omega)
        go_enter Try.func44, Try.ntmps44
        by_cases hcap : c = y
        · subst hcap
          obtain rfl : n = c := by omega
          have HR' : Hid (r.b.drop n = (⟨r.b.drop n, r.e⟩ : Rd).b) := Lib.hid rfl
          go_wp2_with fail
          refine (parse_any g r _ H.out).mono ?_
          rintro e w1 ⟨rfl, nq, rfl⟩
          rw [HX.out]
          go_wp2_with fail
          refine (bounded_any _ _).mono ?_
          rintro e w3 ⟨rfl, rfl⟩
          go_wp2_with fail
          go_ret
          refine ⟨by rw [HR.out, HX.out]; rfl, ?_, ((Only.refl g w).drewN nq).set _ _⟩
          rw [HR.out, HX.out]
          have := RdAt.setB0 (w := w.drewN nq) (r := r) HG.out (ArrR.up HB.out ((Ext.refl w).drewN nq))
          rw [HE.out] at this
          exact this
        · go_wp2_with fail
          refine (parse_any g r _ H.out).mono ?_
          rintro e w1 ⟨rfl, nq, rfl⟩
          rw [HX.out]
          go_wp2_with fail
          refine (bounded_any _ _).mono ?_
          rintro e w3 ⟨rfl, rfl⟩
          go_wp2_with fail
          go_ret
          refine ⟨by rw [HR.out, HX.out]; rfl, ?_, ((Only.refl g w).drewN nq).set _ _⟩
          rw [HR.out, HX.out]
          have := RdAt.setB (w := w.drewN nq) (r := r) HG.out hnc hcm (ArrR.up HB.out ((Ext.refl w).drewN nq)) HO.out hk
          rw [HE.out] at this
          exact this
    · have HR := Lib.hid (Rd.num_bad he i hp)
      have HE := Lib.hid he
      obtain ⟨x, y, z, hxyz⟩ : ∃ x y z, parse r.b = (x, y, z) := ⟨_, _, _, rfl⟩
      have hz : (z != 0) = true := by rw [hxyz] at hp; simpa using hp
      have hz' : (z == 0) = false := by rw [hxyz] at hp; simpa using hp
      have HX := Lib.hid hxyz
      clear he hp hxyz
      go_enter Try.func44, Try.ntmps44
      go_wp2_with fail
      refine (parse_any g r _ H.out).mono ?_
      rintro e w1 ⟨rfl, nq, rfl⟩
      rw [HX.out]
      go_wp2_with fail
      refine (fail_any g r z _ (H.out.drewN nq)).mono ?_
      rintro e w2 ⟨rfl, hr2, ho2⟩
      go_wp2_with fail
      go_ret
      exact ⟨by rw [HR.out]; rfl, by rw [HR.out, HX.out]; rw [if_pos HE.out] at hr2; exact hr2, ((Only.refl g w).drewN nq).trans ho2⟩
  · have HR := Lib.hid (Rd.num_err he i)
    have hb : (r.e != 0) = true := by simpa using he
    clear he
    go_enter Try.func44, Try.ntmps44
    go_wp2_with fail
    go_ret
    exact ⟨by rw [HR.out]; rfl, by rw [HR.out]; exact H.out, Only.refl g w⟩

set_option maxRecDepth 100000 in
set_option maxHeartbeats 400000 in
theorem txt_nil (i : Int) (w : World) : Calls Try.prog 45 #[.pointer none, .int .i64 i] w fun e w' => e = .returned (.string (bstr [])) ∧ w = w' := by
  have hmf : ∀ (fn : Fn) (first cap : Array Value) (w : World), (Instr.makeFunc fn first cap).run Try.prog w = .ok (.func fn first cap) w := fun _ _ _ _ => rfl
  go_enter Try.func45, Try.ntmps45
  go_wp2_with fail
  refine (num_nil _ _).mono ?_
  rintro e w1 ⟨rfl, rfl⟩
  go_wp2_with fail
  go_ret
  exact ⟨rfl, rfl⟩

set_option maxRecDepth 100000 in
set_option maxHeartbeats 800000 in
theorem txt_any (g : Nat) (r : Rd) (i : Int) (w : World) (h : RdAt w g r) :
    Calls Try.prog 45 #[.pointer (some ⟨g, 0, none⟩), .int .i64 i] w (RdPost w g (r.txt i).1 (.string (bstr (r.txt i).2))) := by
  have hmf : ∀ (fn : Fn) (first cap : Array Value) (w : World), (Instr.makeFunc fn first cap).run Try.prog w = .ok (.func fn first cap) w := fun _ _ _ _ => rfl
  go_enter Try.func45, Try.ntmps45
  go_wp2_with fail
  refine (num_any g r i _ h).mono ?_
  rintro e w1 ⟨rfl, hr1, ho1⟩
  have hle := Rd.num_le r i
  have hbl := bnd_le i
  have HT := Lib.hid (show r.txt i = if (r.num i).1.e ≠ 0 then ((r.num i).1, []) else if (r.num i).1.b.length < (r.num i).2 then (⟨(r.num i).1.b, 1⟩, []) else (⟨(r.num i).1.b.drop (r.num i).2, 0⟩, (r.num i).1.b.take (r.num i).2) from rfl)
  obtain ⟨r1, m, h1⟩ : ∃ r1 m, r.num i = (r1, m) := ⟨_, _, rfl⟩
  rw [h1] at hr1 hle ⊢
  have HT' : Hid (r.txt i = if r1.e ≠ 0 then (r1, []) else if r1.b.length < m then (⟨r1.b, 1⟩, []) else (⟨r1.b.drop m, 0⟩, r1.b.take m)) := Lib.hid (by rw [HT.out, h1])
  simp only [] at hr1 hle ⊢
  have H1 := Lib.hid hr1
  have HO1 := Lib.hid ho1
  clear h1 HT h ho1
  obtain ⟨A, n, c, hg, hA, hnc, hcm, hB, ho⟩ := hr1
  obtain ⟨g0, g1⟩ := blk_rules hg
  have HG := Lib.hid hg
  have HB := Lib.hid hB
  have HO := Lib.hid ho
  clear hg hB ho
  by_cases he : r1.e = 0
  · have hb : (r1.e != 0) = false := by simpa using he
    have HE := Lib.hid he
    clear he
    by_cases hl : n < m
    · have HR : Hid (r.txt i = (⟨r1.b, 1⟩, [])) := Lib.hid (by rw [HT'.out, if_neg (by simpa using HE.out), if_pos (by rw [HB.out.len]; exact hl)])
      go_wp2_with fail
      refine (fail_any g r1 1 _ H1.out).mono ?_
      rintro e w2 ⟨rfl, hr2, ho2⟩
      go_wp2_with fail
      go_ret
      exact ⟨by rw [HR.out]; rfl, by rw [HR.out]; rw [if_pos HE.out] at hr2; exact hr2, HO1.out.trans ho2⟩
    · have HR : Hid (r.txt i = (⟨r1.b.drop m, 0⟩, r1.b.take m)) := Lib.hid (by rw [HT'.out, if_neg (by simpa using HE.out), if_neg (by rw [HB.out.len]; exact hl)])
      have hmn : m ≤ n := by omega
      have kc := run_conv (P := Try.prog) Try.underlying42 Try.underlying5 Try.underlying9 (byts_take HB.out hmn) c
      cases A with
      | none =>
        obtain rfl := hA rfl
        obtain rfl : n = 0 := by omega
        obtain rfl : m = 0 := by omega
        go_wp2_with fail
        go_ret
        refine ⟨by rw [HR.out]; rfl, ?_, HO1.out.set _ _⟩
        rw [HR.out]
        have := RdAt.setB0 (w := w1) (r := r1) HG.out HB.out
        rw [HE.out] at this
        exact this
      | some a =>
        have hmc : (m : Int) ≤ (c : Int) := by omega
        rcases Nat.eq_zero_or_pos n with h0 | hpos
        · subst h0
          obtain rfl : m = 0 := by omega
          have HZ : Hid (r1.b = []) := Lib.hid (List.eq_nil_of_length_eq_zero HB.out.len)
          by_cases hc0 : c = 0
          · subst hc0
            go_wp2_with fail
            go_ret
            refine ⟨by rw [HR.out]; rfl, ?_, HO1.out.set _ _⟩
            rw [HR.out, HZ.out]
            have hg := HG.out
            rw [HE.out] at hg
            exact ⟨_, _, _, blk_set hg _, (fun h => by cases h), Nat.le_refl _, by omega, ArrR.nil_, fun h => absurd h (by omega)⟩
          · go_wp2_with fail
            go_ret
            refine ⟨by rw [HR.out]; rfl, ?_, HO1.out.set _ _⟩
            rw [HR.out, HZ.out]
            have hg := HG.out
            rw [HE.out] at hg
            exact ⟨_, _, _, blk_set hg _, (fun h => by cases h), hnc, hcm, ArrR.nil_, fun h => absurd h (by omega)⟩
        · obtain ⟨b, o, u, e, -, -, -⟩ := Byts.at_ HB.out (k := 0) hpos
          injection e with e
          subst e
          by_cases hcap : c = m
          · subst hcap
            obtain rfl : n = c := by omega
            go_wp2_with fail
            go_ret
            refine ⟨by rw [HR.out]; rfl, ?_, HO1.out.set _ _⟩
            rw [HR.out]
            have := RdAt.setB0 (w := w1) (r := r1) HG.out HB.out
            rw [HE.out] at this
            exact this
          · go_wp2_with fail
            go_ret
            refine ⟨by rw [HR.out]; rfl, ?_, HO1.out.set _ _⟩
            rw [HR.out]
            have := RdAt.setB (w := w1) (r := r1) HG.out hnc hcm HB.out HO.out hmn
            rw [HE.out] at this
            exact this
  · have HR : Hid (r.txt i = (r1, [])) := Lib.hid (by rw [HT'.out, if_pos he])
    have hb : (r1.e != 0) = true := by simpa using he
    clear he
    go_wp2_with fail
    go_ret
    exact ⟨by rw [HR.out]; rfl, by rw [HR.out]; exact H1.out, HO1.out⟩

set_option maxRecDepth 100000 in
set_option maxHeartbeats 400000 in
theorem done_nil (w : World) : Calls Try.prog 46 #[.pointer none] w fun e w' => e = .returned (.int .i64 1) ∧ w = w' := by
  go_enter Try.func46, Try.ntmps46
  go_wp2_with fail
  go_ret
  exact ⟨rfl, rfl⟩
set_option maxRecDepth 100000 in
set_option maxHeartbeats 400000 in
theorem done_any (g : Nat) (r : Rd) (w : World) (h : RdAt w g r) :
    Calls Try.prog 46 #[.pointer (some ⟨g, 0, none⟩)] w (RdPost w g ⟨r.b, r.done⟩ (.int .i64 r.done)) := by
  have H := Lib.hid h
  obtain ⟨A, n, c, hg, hA, hnc, hcm, hB, ho⟩ := h
  obtain ⟨g0, g1⟩ := blk_rules hg
  have HL := Lib.hid hB.len
  clear hg hB ho
  by_cases hn : 0 < n
  · have HR : Hid (r.done = if r.e = 0 then 2 else r.e) := Lib.hid (by
      unfold Rd.done
      by_cases he : r.e = 0
      · rw [if_pos ⟨by rw [HL.out]; exact hn, he⟩, if_pos he]
      · rw [if_neg (fun h => he h.2), if_neg he])
    go_enter Try.func46, Try.ntmps46
    go_wp2_with fail
    refine (fail_any g r 2 _ H.out).mono ?_
    rintro e w2 ⟨rfl, hr2, ho2⟩
    rw [← HR.out] at hr2
    have H2 := Lib.hid hr2
    obtain ⟨A2, n2, c2, hg2, -⟩ := hr2
    obtain ⟨k0, k1⟩ := blk_rules hg2
    clear hg2
    go_wp2_with fail
    go_ret
    exact ⟨rfl, H2.out, ho2⟩
  · have HR : Hid (r.done = r.e) := Lib.hid (by unfold Rd.done; rw [if_neg (fun h => hn (by rw [← HL.out]; exact h.1))])
    go_enter Try.func46, Try.ntmps46
    go_wp2_with fail
    go_ret
    exact ⟨by rw [HR.out]; rfl, by rw [HR.out]; exact H.out, Only.refl g w⟩
end Go.Proofs.Ytjomoannlpadnaa
