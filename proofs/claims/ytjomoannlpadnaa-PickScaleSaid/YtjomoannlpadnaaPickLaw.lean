/- The laws PickFair, PickHost, PickScale: their walks. -/
import Derived.Test.YtjomoannlpadnaaPickPlain
namespace Go.Proofs.Ytjomoannlpadnaa
open Go.RowKit
attribute [local go_sem ↓] run_max2 run_min2

theorem two_weights (w : World) (t : TypeId) (s r : ByteArray) (x y : Int) : ArrR (w.alloc (.cells #[.string s, .int .i64 x, .string r, .int .i64 y] t)) 2 WtR (some ⟨w.heap.size, 0, none⟩) 2 [(s, x), (r, y)] := by
  refine ArrR.of_block (heap_alloc_new w _) rfl fun k p hp => ?_
  match k, hp with
  | 0, hp => cases hp; exact ⟨_, rfl, rfl, fun j u hu => by match j, hu with | 0, hu => exact hu | 1, hu => exact hu⟩
  | 1, hp => cases hp; exact ⟨_, rfl, rfl, fun j u hu => by match j, hu with | 0, hu => exact hu | 1, hu => exact hu⟩
theorem two_ints (w : World) (t : TypeId) (x y : Int) : ArrR (w.alloc (.cells #[.int .i64 x, .int .i64 y] t)) 1 (IntR .i64) (some ⟨w.heap.size, 0, none⟩) 2 [x, y] := by
  refine ArrR.of_block (heap_alloc_new w _) rfl fun k p hp => ?_
  match k, hp with
  | 0, hp => cases hp; exact ⟨_, rfl, rfl, fun j u hu => by match j, hu with | 0, hu => exact hu⟩
  | 1, hp => cases hp; exact ⟨_, rfl, rfl, fun j u hu => by match j, hu with | 0, hu => exact hu⟩

set_option maxHeartbeats 400000 in
theorem awake07 (w : World) : Calls Try.prog 23 #[] w fun e w' => e = .returned (.bool true) ∧ Ext w w' := by
  go_enter Try.func23, Try.ntmps23
  go_wp2_with fail
  have h0 := two_weights w 26 ⟨#[97]⟩ ⟨#[98]⟩ 1 3
  refine (cluster_any _ _ _ [(⟨#[97]⟩, 1), (⟨#[98]⟩, 3)] _ _ (by omega) h0).mono ?_
  rintro e w1 ⟨rfl, hb1⟩
  rw [show cluS [(⟨#[97]⟩, 1), (⟨#[98]⟩, 3)] 0 = ⟨#[97]⟩ from rfl, show cluB [(⟨#[97]⟩, 1), (⟨#[98]⟩, 3)] 0 = true from rfl]
  replace h0 := h0.up hb1
  replace hb1 := (Ext.new w _).trans hb1
  go_wp2_with fail
  refine (cluster_any _ _ _ [(⟨#[97]⟩, 1), (⟨#[98]⟩, 3)] _ _ (by omega) h0).mono ?_
  rintro e w2 ⟨rfl, hb2⟩
  rw [show cluS [(⟨#[97]⟩, 1), (⟨#[98]⟩, 3)] 1 = ⟨#[98]⟩ from rfl, show cluB [(⟨#[97]⟩, 1), (⟨#[98]⟩, 3)] 1 = true from rfl]
  replace h0 := h0.up hb2
  replace hb2 := hb1.trans hb2
  go_wp2_with fail
  refine (host_any _ _ _ [5, 6] _ _ (by omega) (two_ints _ _ _ _)).mono ?_
  rintro e w3 ⟨rfl, rfl⟩
  rw [show hostN [5, 6] 3 = 6 from rfl]
  go_wp2_with fail
  refine (total_any _ _ _ [(⟨#[97]⟩, 1), (⟨#[98]⟩, 3)] _ (by omega) (h0.up (Ext.new _ _))).mono ?_
  rintro e w4 ⟨rfl, hb4⟩
  rw [show tot [(⟨#[97]⟩, 1), (⟨#[98]⟩, 3)] = 4 from rfl]
  go_wp2_with fail
  go_ret
  exact ⟨rfl, (hb2.alloc _).trans hb4⟩

set_option maxHeartbeats 400000 in
theorem pickHost_none (A : Option Addr) (c : Nat) (draw : Int) (w : World) :
    Calls Try.prog 4 #[.slice A 0 c, .int .i64 draw] w fun e w' => e = .returned (.bool true) ∧ Ext w w' := by
  go_enter Try.func4, Try.ntmps4
  go_wp2_with (first
    | (go_at_call 23; refine (awake07 _).mono ?_; rintro e w1 ⟨rfl, hb1⟩)
    | (go_at_call 26; refine (host_none _ _ _ _).mono ?_; rintro e w2 ⟨rfl, rfl⟩))
  go_ret
  exact ⟨rfl, hb1⟩

theorem hostN_of {l : List Int} {n : Nat} {d : Int} {q : Nat} {x : Int} (hn : l.length = n) (hd : 0 ≤ d) (hq : d % (n : Int) = (q : Int)) (hx : l[q]? = some x) : hostN l d = x := by
  unfold hostN
  rw [hn, Int.max_eq_right hd, hq, Int.toNat_natCast, hx]; rfl

set_option maxHeartbeats 400000 in
theorem pickHost_some (A : Option Addr) (n c : Nat) (l : List Int) (draw : Int) (w : World) (hn : 0 < n) (hA : ArrR w 1 (IntR .i64) A n l) (hm : n ≤ 1000000000000000) :
    Calls Try.prog 4 #[.slice A n c, .int .i64 draw] w fun e w' => e = .returned (.bool true) ∧ Ext w w' := by
  have hz : ((n : Int) == 0) = false := by simp; omega
  obtain ⟨m, hm1, hm2⟩ := and_mask draw 16777215 (by omega)
  have hm3 : bits .and .i64 draw 16777215 = (m : Int) := hm2
  clear hm2
  obtain ⟨q1, hq1⟩ : ∃ q : Nat, (m : Int) % n = (q : Int) := ⟨((m : Int) % n).toNat, (Int.toNat_of_nonneg (Int.emod_nonneg _ (by omega))).symm⟩
  obtain ⟨q2, hq2⟩ : ∃ q : Nat, ((m : Int) + 1) % n = (q : Int) := ⟨(((m : Int) + 1) % n).toNat, (Int.toNat_of_nonneg (Int.emod_nonneg _ (by omega))).symm⟩
  have hl1 : (q1 : Int) < n := by rw [← hq1]; exact Int.emod_lt_of_pos _ (by omega)
  have hl2 : (q2 : Int) < n := by rw [← hq2]; exact Int.emod_lt_of_pos _ (by omega)
  obtain ⟨b, o, x1, hA1, hb, hx1, hc1⟩ := IntR.at_ hA (i := q1) (by omega)
  obtain ⟨b', o', x2, hA2, -, hx2, hc2⟩ := IntR.at_ hA (i := q2) (by omega)
  subst hA1
  obtain ⟨rfl, rfl⟩ : b = b' ∧ o = o' := by simpa using hA2
  clear hA2
  have e1 : hostN l (m : Int) = x1 := hostN_of hA.1 (by omega) hq1 hx1
  have e2 : hostN l ((m : Int) + n) = x1 := hostN_of hA.1 (by omega) (by rw [Int.add_emod_right]; exact hq1) hx1
  have e3 : hostN l ((m : Int) + 1) = x2 := hostN_of hA.1 (by omega) hq2 hx2
  clear hx1 hx2
  go_enter Try.func4, Try.ntmps4
  go_wp2_with ((go_at_call 23; refine (awake07 _).mono ?_; rintro e w1 ⟨rfl, hb1⟩))
  have hA' := hA.up hb1
  have hd1 : w1.cell? ⟨b, o + q1, none⟩ = some (.int .i64 x1) := (hb1.cell hb).trans hc1
  have hd2 : w1.cell? ⟨b, o + q2, none⟩ = some (.int .i64 x2) := (hb1.cell hb).trans hc2
  clear hc1 hc2 hA
  refine (host_any _ _ _ l _ _ hn hA').mono ?_
  rintro e w2 ⟨rfl, rfl⟩
  go_wp2_with fail
  refine (host_any _ _ _ l _ _ hn hA').mono ?_
  rintro e w2 ⟨rfl, rfl⟩
  go_wp2_with fail
  refine (host_any _ _ _ l _ _ hn hA').mono ?_
  rintro e w2 ⟨rfl, rfl⟩
  go_wp2_with fail
  go_ret
  exact ⟨rfl, hb1⟩

set_option maxHeartbeats 400000 in
theorem pickFair_far (A : Option Addr) (n c : Nat) (s : ByteArray) (fr : Int) (w : World) (hn : 20 < n) :
    Calls Try.prog 3 #[.slice A n c, .string s, .int .i64 fr] w fun e w' => e = .returned (.bool true) ∧ Ext w w' := by
  go_enter Try.func3, Try.ntmps3
  go_wp2_with ((go_at_call 23; refine (awake07 _).mono ?_; rintro e w1 ⟨rfl, hb1⟩))
  go_ret
  exact ⟨rfl, hb1⟩

set_option maxHeartbeats 1000000 in
theorem pickFair_near (A : Option Addr) (n c : Nat) (l : List (ByteArray × Int)) (s : ByteArray) (fr : Int) (w : World) (hA : ArrR w 2 WtR A n l) (hm : n ≤ 20) :
    Calls Try.prog 3 #[.slice A n c, .string s, .int .i64 fr] w fun e w' => e = .returned (.bool true) ∧ Ext w w' := by
  have hl := hA.1
  have hq := tot_bd l
  obtain ⟨m, hm1, hm2⟩ := and_mask fr 65535 (by omega)
  have hm3 : bits .and .i64 fr 65535 = (m : Int) := hm2
  clear hm2
  obtain ⟨N, hN⟩ : ∃ N : Nat, tot l = N := ⟨(tot l).toNat, by omega⟩
  have hN2 : N ≤ 2000 := by omega
  have HN := Lib.hid hN
  have Hl := Lib.hid hl
  clear hl hq hN
  go_enter Try.func3, Try.ntmps3
  go_wp2_with ((go_at_call 23; refine (awake07 _).mono ?_; rintro e w1 ⟨rfl, hb1⟩; have hA1 := hA.up hb1; clear hA))
  refine (total_any _ _ _ _ _ (by omega) hA1).mono ?_
  rintro e w2 ⟨rfl, hb2⟩
  have hA2 := hA1.up hb2
  clear hA1
  rw [HN.out]
  go_wp2_with fail
  go_loop [9, 10] (fun t i => ∃ k : Nat, k ≤ n ∧ i = .int .i64 k ∧ t = .int .i64 (wantS (l.take k) s)) (fun _ i => n - (intOf i).toNat)
  case atStart => exact ⟨0, Nat.zero_le _, rfl, rfl⟩
  case round =>
    obtain ⟨k, hk, rfl, rfl⟩ := hrel
    by_cases hlt : k < n
    · obtain ⟨b, o, s1, x, rfl, hbB, hlk, hc1, hc2⟩ := WtR.at_ hA2 hlt
      have hq := wantS_bd (l.take k) s
      have hq2 := wt_bd x
      have hqq : (l.take k).length ≤ k := List.length_take_le _ _
      have HS : Hid (wantS (l.take (k + 1)) s = wantS (l.take k) s + if (s1.toList == s.toList) = true then wt x else 0) := Lib.hid (by rw [take_snoc_of hlk]; exact wantS_snoc _ _ _)
      clear hlk
      go_wp2_with fail
      all_goals
        go_round
        case rel => exact ⟨k + 1, by omega, by go_num, by rw [HS.out]; first | (rw [if_pos ‹_›]; rfl) | (rw [if_neg (by simp [*])]; go_num)⟩
        case measure => simp [intOf]; omega
    · have Hw : Hid (wantS (l.take k) s = wantS l s) := Lib.hid (by rw [List.take_of_length_le (by have := Hl.out; omega)])
      rw [Hw.out]
      clear Hw
      by_cases h0 : N = 0
      · have hB := cluB_false (l := l) (by rw [HN.out]; omega) fr
        have hz : ((N : Int) == 0) = true := by simp [h0]
        clear h0
        go_wp2_with fail
        refine (cluster_any _ _ _ l _ _ (by omega) hA2).mono ?_
        rintro e w3 ⟨rfl, hb3⟩
        rw [hB]
        go_wp2_with fail
        go_ret
        exact ⟨rfl, (hb1.trans hb2).trans hb3⟩
      · have hz : ((N : Int) == 0) = false := by simp [h0]
        have Hall : Hid (cntS l s m N = wantS l s) := Lib.hid (cnt_all s m HN.out (by omega))
        have HB : Hid (∀ d, cluB l d = true) := Lib.hid (fun d => cluB_true (by rw [HN.out]; omega) d)
        clear h0
        go_wp2_with fail
        go_loopw [13, 14] (fun t i wr => ∃ k : Nat, k ≤ N ∧ i = .int .i64 k ∧ t = .int .i64 (cntS l s m k) ∧ Ext w2 wr) (fun _ i _ => N - (intOf i).toNat)
        case atStart => exact ⟨0, Nat.zero_le _, rfl, rfl, Ext.refl _⟩
        case round =>
          obtain ⟨j, hj, rfl, rfl, hb⟩ := hrel
          by_cases hlt2 : j < N
          · have hq := cntS_bd l s m j
            have HS : Hid (cntS l s m (j + 1) = cntS l s m j + if ((cluS l ((m : Int) + (j : Int))).toList == s.toList) = true then 1 else 0) := Lib.hid (cntS_succ l s m j)
            have hA3 := hA2.up hb
            go_wp2_with fail
            refine (cluster_any _ _ _ l _ _ (by omega) hA3).mono ?_
            rintro e w3 ⟨rfl, hb3⟩
            rw [HB.out]
            go_wp2_with fail
            all_goals
              go_roundw
              case rel => exact ⟨j + 1, by omega, by go_num, by rw [HS.out]; first | (rw [if_pos (show ((cluS l ((m : Int) + (j : Int))).toList == s.toList) = true by assumption)]; done) | (rw [if_neg (by simp [*])]; go_num), hb.trans hb3⟩
              case measure => simp [intOf]; omega
          · obtain rfl : j = N := by omega
            have hfin : cntS l s m j = wantS l s := Hall.out
            go_wp2_with fail
            go_ret
            exact ⟨rfl, (hb1.trans hb2).trans hb⟩
end Go.Proofs.Ytjomoannlpadnaa
