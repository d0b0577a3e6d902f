/- The law PickScale: its walk. -/
import Derived.Test.YtjomoannlpadnaaPickLaw
namespace Go.Proofs.Ytjomoannlpadnaa
open Go.RowKit
attribute [local go_sem ↓] run_max2 run_min2

set_option maxHeartbeats 400000 in
theorem pickScale_far (A : Option Addr) (n c : Nat) (draw : Int) (w : World) (hn : 60 < n) :
    Calls Try.prog 5 #[.slice A n c, .int .i64 draw] w fun e w' => e = .returned (.bool true) ∧ Ext w w' := by
  go_enter Try.func5, Try.ntmps5
  go_wp2_with ((go_at_call 23; refine (awake07 _).mono ?_; rintro e w1 ⟨rfl, hb1⟩))
  go_ret
  exact ⟨rfl, hb1⟩

set_option maxHeartbeats 400000 in
theorem pickScale_none (A : Option Addr) (n c : Nat) (l : List (ByteArray × Int)) (draw : Int) (w : World) (hA : ArrR w 2 WtR A n l) (hm : n ≤ 60) (h0 : tot l = 0) :
    Calls Try.prog 5 #[.slice A n c, .int .i64 draw] w fun e w' => e = .returned (.bool true) ∧ Ext w w' := by
  have H0 := Lib.hid h0
  clear h0
  go_enter Try.func5, Try.ntmps5
  go_wp2_with ((go_at_call 23; refine (awake07 _).mono ?_; rintro e w1 ⟨rfl, hb1⟩; have hA1 := hA.up hb1; clear hA))
  refine (total_any _ _ _ _ _ (by omega) hA1).mono ?_
  rintro e w2 ⟨rfl, hb2⟩
  rw [H0.out]
  go_wp2_with fail
  go_ret
  exact ⟨rfl, hb1.trans hb2⟩

set_option maxHeartbeats 1000000 in
theorem pickScale_some (A : Option Addr) (n c : Nat) (l : List (ByteArray × Int)) (draw : Int) (w : World) (hA : ArrR w 2 WtR A n l) (hm : n ≤ 60) (h0 : 0 < tot l) :
    Calls Try.prog 5 #[.slice A n c, .int .i64 draw] w fun e w' => e = .returned (.bool true) ∧ Ext w w' := by
  have hl := hA.1
  have hq := tot_bd l
  obtain ⟨L, hL⟩ : ∃ L : Nat, (max 0 draw) % tot l = L := ⟨((max 0 draw) % tot l).toNat, (Int.toNat_of_nonneg (Int.emod_nonneg _ (by omega))).symm⟩
  have hL2 : (L : Int) < tot l := by rw [← hL]; exact Int.emod_lt_of_pos _ h0
  obtain ⟨N, hN⟩ : ∃ N : Nat, tot l = N := ⟨(tot l).toNat, by omega⟩
  have hC : clu l draw = pickC l L := by rw [clu_pos (by omega), hL]
  have HC : Hid (cluS l draw = (pickC l L).getD ⟨#[]⟩) := Lib.hid (by unfold cluS; rw [hC])
  have hB := cluB_true h0 draw
  rw [hN] at hL hL2 h0 hq
  have HN := Lib.hid hN
  have Hl := Lib.hid hl
  clear hl hN hC
  go_enter Try.func5, Try.ntmps5
  go_wp2_with ((go_at_call 23; refine (awake07 _).mono ?_; rintro e w1 ⟨rfl, hb1⟩; have hA1 := hA.up hb1; clear hA))
  refine (total_any _ _ _ _ _ (by omega) hA1).mono ?_
  rintro e w2 ⟨rfl, hb2⟩
  have hA2 := hA1.up hb2
  rw [HN.out]
  go_wp2_with fail
  refine (cluster_any _ _ _ l _ _ (by omega) hA2).mono ?_
  rintro e w3 ⟨rfl, hb3⟩
  have hA3 := hA2.up hb3
  clear hA2 hA1
  rw [hB]
  go_wp2_with fail
  go_loop [10, 11] (fun t i => ∃ k : Nat, k ≤ n ∧ i = .int .i64 k ∧ t = .int .i64 (tot (l.take k)) ∧ tot (l.take k) ≤ L ∧ Hid (pickC l L = pickC (l.drop k) (L - tot (l.take k)))) (fun _ i => n - (intOf i).toNat)
  case atStart => exact ⟨0, Nat.zero_le _, rfl, rfl, by simp [tot_nil], Lib.hid (by simp [tot_nil])⟩
  case round =>
    obtain ⟨k, hk, rfl, rfl, hat, HP⟩ := hrel
    by_cases hlt : k < n
    · obtain ⟨b, o, s, x, rfl, hbB, hlk, hc1, hc2⟩ := WtR.at_ hA3 hlt
      have hq1 := tot_bd (l.take k)
      have hq2 := wt_bd x
      have hqq : (l.take k).length ≤ k := List.length_take_le _ _
      have HS : Hid (tot (l.take (k + 1)) = tot (l.take k) + wt x) := by rw [take_snoc_of hlk]; exact tot_snoc _ _
      have HT : Hid (pickC l L = if L - tot (l.take k) - wt x < 0 then some s else pickC (l.drop (k + 1)) (L - tot (l.take k) - wt x)) := Lib.hid (HP.out.trans (by rw [drop_of hlk]; rfl))
      clear hlk HP
      by_cases hin : (L : Int) < tot (l.take k) + max 0 (min x 100)
      · have e1 : cluS l draw = s := by rw [HC.out, HT.out, if_pos (by unfold wt; omega)]; rfl
        go_wp2_with fail
        go_ret
        exact ⟨rfl, (hb1.trans hb2).trans hb3⟩
      · have HE : Hid (pickC l L = pickC (l.drop (k + 1)) (L - tot (l.take (k + 1)))) := Lib.hid (by rw [HT.out, if_neg (by unfold wt; omega), HS.out]; congr 1; omega)
        have hat2 : tot (l.take (k + 1)) ≤ L := by rw [HS.out]; unfold wt; omega
        go_wp2_with fail
        go_round
        case rel => exact ⟨k + 1, by omega, by go_num, by rw [HS.out]; rfl, hat2, HE⟩
        case measure => simp [intOf]; omega
    · exfalso
      have : tot (l.take k) = tot l := by rw [List.take_of_length_le (by have := Hl.out; omega)]
      have := HN.out
      omega
end Go.Proofs.Ytjomoannlpadnaa
