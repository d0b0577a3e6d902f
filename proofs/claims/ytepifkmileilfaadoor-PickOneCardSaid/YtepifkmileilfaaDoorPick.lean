/- What the functions Total, Cluster, Host of package pick compute. -/
import Derived.Test.YtepifkmileilfaaDoorRows
import Derived.Test.YtepifkmileilfaaDoorGround
namespace Go.Proofs.YtepifkmileilfaaDoor
open Go.RowKit
attribute [local go_sem ↓] run_max2 run_min2

/-! ### Plain functions -/
def WtR (cs : List Value) (p : ByteArray × Int) : Prop := cs = [.string p.1, .int .i64 p.2]
def wt (x : Int) : Int := max 0 (min x 100)
theorem wt_bd (x : Int) : 0 ≤ wt x ∧ wt x ≤ 100 := by unfold wt; omega
def tot (l : List (ByteArray × Int)) : Int := (l.map fun p => wt p.2).sum
theorem tot_nil : tot [] = 0 := rfl
theorem tot_cons (p : ByteArray × Int) (l : List (ByteArray × Int)) : tot (p :: l) = wt p.2 + tot l := by simp [tot]
theorem tot_append (l r : List (ByteArray × Int)) : tot (l ++ r) = tot l + tot r := by simp [tot]
theorem tot_snoc (l : List (ByteArray × Int)) (p : ByteArray × Int) : tot (l ++ [p]) = tot l + wt p.2 := by simp [tot]
theorem tot_bd (l : List (ByteArray × Int)) : 0 ≤ tot l ∧ tot l ≤ l.length * 100 := by
  induction l with
  | nil => simp [tot]
  | cons p l ih => have := wt_bd p.2; rw [tot_cons]; simp; omega
/-- which one a number less than the sum falls on -/
def pickC : List (ByteArray × Int) → Int → Option ByteArray
  | [], _ => none
  | p :: l, d => if d - wt p.2 < 0 then some p.1 else pickC l (d - wt p.2)
def clu (l : List (ByteArray × Int)) (draw : Int) : Option ByteArray := if tot l = 0 then none else pickC l (max 0 draw % tot l)
def cluS (l : List (ByteArray × Int)) (draw : Int) : ByteArray := (clu l draw).getD ⟨#[]⟩
def cluB (l : List (ByteArray × Int)) (draw : Int) : Bool := (clu l draw).isSome

theorem WtR.at_ {w : World} {A : Option Addr} {n k : Nat} {l : List (ByteArray × Int)} (h : ArrR w 2 WtR A n l) (hk : k < n) :
    ∃ b o s x, A = some ⟨b, o, none⟩ ∧ b < w.heap.size ∧ l[k]? = some (s, x) ∧ w.cell? ⟨b, o + k * 2, none⟩ = some (.string s) ∧ w.cell? ⟨b, o + k * 2 + 1, none⟩ = some (.int .i64 x) := by
  obtain ⟨b, o, p, cs, hA, hb, hl, _, hR, hcs⟩ := h.at_ hk
  unfold WtR at hR
  subst hR
  exact ⟨b, o, p.1, p.2, hA, hb, hl, hcs 0 _ rfl, hcs 1 _ rfl⟩

/-! ### The walks -/
set_option maxHeartbeats 400000 in
theorem weight_any (s : ByteArray) (x : Int) (w : World) :
    Calls Tryd.prog 112 #[.agg #[.string s, .int .i64 x]] w fun e w' => e = .returned (.int .i64 (wt x)) ∧ Ext w w' := by
  go_enter Tryd.func112, Tryd.ntmps112
  go_wp2
  all_goals (go_ret; exact ⟨ret_int (by unfold wt; omega), Ext.new _ _⟩)

set_option maxHeartbeats 400000 in
theorem total_any (A : Option Addr) (n c : Nat) (l : List (ByteArray × Int)) (w : World) (hl : n ≤ 100000000)
   (hA : ArrR w 2 WtR A n l) :
    Calls Tryd.prog 56 #[.slice A n c] w fun e w' => e = .returned (.int .i64 (tot l)) ∧ Ext w w' := by
  go_enter Tryd.func56, Tryd.ntmps56
  go_wp2_with fail
  go_loopw [3, 8] (fun t i wr => ∃ k : Nat, k ≤ n ∧ i = .int .i64 k ∧ t = .int .i64 (tot (l.take k)) ∧ Ext w wr) (fun _ i _ => n - (intOf i).toNat)
  case atStart => exact ⟨0, Nat.zero_le _, rfl, rfl, Ext.refl _⟩
  case round =>
    obtain ⟨k, hk, rfl, rfl, hb⟩ := hrel
    by_cases hlt : k < n
    · obtain ⟨b, o, s, x, rfl, hbB, hlk, hc1, hc2⟩ := WtR.at_ hA hlt
      have hd1 : wr.cell? ⟨b, o + k * 2, none⟩ = some (.string s) := (hb.cell hbB).trans hc1
      have hd2 : wr.cell? ⟨b, o + k * 2 + 1, none⟩ = some (.int .i64 x) := (hb.cell hbB).trans hc2
      have hq := tot_bd (l.take k)
      have hq2 := wt_bd x
      have hqq : (l.take k).length ≤ k := List.length_take_le _ _
      have HS : Hid (tot (l.take (k + 1)) = tot (l.take k) + wt x) := by rw [take_snoc_of hlk]; exact tot_snoc _ _
      clear hlk hc1 hc2
      go_wp2_with (go_at_call 112; refine (weight_any _ _ _).mono ?_; rintro e w' ⟨rfl, hw1⟩)
      go_roundw
      case rel => exact ⟨k + 1, by omega, by go_num, by rw [HS.out], (hb.alloc _).trans hw1⟩
      case measure => simp [intOf]; omega
    · have Hl : Hid (l.take k = l) := Lib.hid (List.take_of_length_le (by have := hA.1; omega))
      go_wp2_with fail
      go_ret
      exact ⟨by rw [Hl.out]; rfl, hb⟩

theorem clu_zero {l : List (ByteArray × Int)} (h : tot l = 0) (d : Int) : clu l d = none := by unfold clu; rw [if_pos h]
theorem clu_pos {l : List (ByteArray × Int)} (h : ¬ tot l = 0) (d : Int) : clu l d = pickC l (max 0 d % tot l) := by unfold clu; rw [if_neg h]
theorem clus_of {l : List (ByteArray × Int)} {d : Int} {o : Option ByteArray} (h : clu l d = o) : Ending.returned (.tuple #[.string (o.getD ⟨#[]⟩), .bool o.isSome]) = .returned (.tuple #[.string (cluS l d), .bool (cluB l d)]) := by
  unfold cluS cluB; rw [h]

set_option maxHeartbeats 1000000 in
theorem cluster_any (A : Option Addr) (n c : Nat) (l : List (ByteArray × Int)) (d : Int) (w : World) (hl : n ≤ 100000000)
   (hA : ArrR w 2 WtR A n l) :
    Calls Tryd.prog 54 #[.slice A n c, .int .i64 d] w fun e w' => e = .returned (.tuple #[.string (cluS l d), .bool (cluB l d)]) ∧ Ext w w' := by
  have hq := tot_bd l
  have hlen : l.length ≤ n := by have := hA.1; omega
  by_cases h0 : tot l = 0
  · have H0 : Hid (clu l d = none) := Lib.hid (clu_zero h0 d)
    have hz : (tot l == 0) = true := by simpa using h0
    clear h0
    go_enter Tryd.func54, Tryd.ntmps54
    go_wp2_with (go_at_call 56; refine (total_any _ _ _ _ _ hl hA).mono ?_; rintro e w' ⟨rfl, hw1⟩)
    go_ret2
    exact ⟨clus_of H0.out, hw1⟩
  · have hz : (tot l == 0) = false := by simpa using h0
    have HC : Hid (clu l d = pickC l (max 0 d % tot l)) := Lib.hid (clu_pos h0 d)
    have hp : 0 < tot l := by omega
    obtain ⟨L, hL⟩ : ∃ L, L = max 0 d % tot l := ⟨_, rfl⟩
    have hL0 : 0 ≤ L := by rw [hL]; exact Int.emod_nonneg _ (by omega)
    have hL1 : L < tot l := by rw [hL]; exact Int.emod_lt_of_pos _ hp
    have HL := Lib.hid hL
    clear hL h0
    go_enter Tryd.func54, Tryd.ntmps54
    go_wp2_with (go_at_call 56; refine (total_any _ _ _ _ _ hl hA).mono ?_; rintro e w' ⟨rfl, hw1⟩)
    rw [← HL.out]
    go_loopw [7, 20] (fun t i wr => ∃ (k : Nat) (d : Int), k ≤ n ∧ i = .int .i64 k ∧ t = .int .i64 d ∧ 0 ≤ d ∧ d ≤ L ∧ Hid (pickC l L = pickC (l.drop k) d) ∧ Ext w wr) (fun _ i _ => n - (intOf i).toNat)
    case atStart => exact ⟨0, L, Nat.zero_le _, rfl, rfl, hL0, Int.le_refl _, Lib.hid rfl, hw1⟩
    case round =>
      obtain ⟨k, D, hk, rfl, rfl, hD0, hD1, HP, hb⟩ := hrel
      by_cases hlt : k < n
      · obtain ⟨b, o, s, x, rfl, hbB, hlk, hc1, hc2⟩ := WtR.at_ hA hlt
        have hd1 : wr.cell? ⟨b, o + k * 2, none⟩ = some (.string s) := (hb.cell hbB).trans hc1
        have hd2 : wr.cell? ⟨b, o + k * 2 + 1, none⟩ = some (.int .i64 x) := (hb.cell hbB).trans hc2
        have hq2 := wt_bd x
        have HS : Hid (pickC l L = if D - wt x < 0 then some s else pickC (l.drop (k + 1)) (D - wt x)) := Lib.hid (HP.out.trans (by rw [drop_of hlk]; rfl))
        clear hlk hc1 hc2 HP
        by_cases hneg : D - wt x < 0
        · have HS2 : Hid (pickC l L = some s) := Lib.hid (HS.out.trans (if_pos hneg))
          clear HS
          go_wp2_with (go_at_call 112; refine (weight_any _ _ _).mono ?_; rintro e w' ⟨rfl, hw1⟩; obtain ⟨hc3, hf3⟩ := bcell hw1)
          go_ret2
          exact ⟨clus_of (o := some s) (HC.out.trans (by rw [← HL.out]; exact HS2.out)), (hb.alloc _).trans hw1⟩
        · have HS2 : Hid (pickC l L = pickC (l.drop (k + 1)) (D - wt x)) := Lib.hid (HS.out.trans (if_neg hneg))
          clear HS
          go_wp2_with (go_at_call 112; refine (weight_any _ _ _).mono ?_; rintro e w' ⟨rfl, hw1⟩)
          go_roundw
          case rel => exact ⟨k + 1, D - wt x, by omega, by go_num, rfl, by omega, by omega, HS2, (hb.alloc _).trans hw1⟩
          case measure => simp [intOf]; omega
      · have Hl : Hid (pickC l L = none) := Lib.hid (HP.out.trans (by rw [List.drop_eq_nil_of_le (by have := hA.1; omega)]; rfl))
        go_wp2_with fail
        go_ret2
        exact ⟨clus_of (o := none) (HC.out.trans (by rw [← HL.out]; exact Hl.out)), hb⟩

/-- Host -/
def hostN (l : List Int) (d : Int) : Int := (l[(max 0 d % l.length).toNat]?).getD 0
set_option maxHeartbeats 400000 in
theorem drawHost_none (A : Option Addr) (c : Nat) (d : Int) (w : World) :
    Calls Tryd.prog 55 #[.slice A 0 c, .int .i64 d] w fun e w' => e = .returned (.tuple #[.int .i64 0, .bool false]) ∧ w = w' := by
  go_enter Tryd.func55, Tryd.ntmps55
  go_wp2_with fail
  go_ret2
  exact ⟨rfl, rfl⟩
set_option maxHeartbeats 400000 in
theorem drawHost_any (A : Option Addr) (n c : Nat) (l : List Int) (d : Int) (w : World) (hn : 0 < n) (hA : ArrR w 1 (IntR .i64) A n l) :
    Calls Tryd.prog 55 #[.slice A n c, .int .i64 d] w fun e w' => e = .returned (.tuple #[.int .i64 (hostN l d), .bool true]) ∧ w = w' := by
  obtain ⟨j, hj⟩ : ∃ j : Nat, (j : Int) = max 0 d % n := ⟨(max 0 d % n).toNat, by rw [Int.toNat_of_nonneg (Int.emod_nonneg _ (by omega))]⟩
  have hjn : (j : Int) < n := by rw [hj]; exact Int.emod_lt_of_pos _ (by omega)
  obtain ⟨b, o, x, rfl, hb, hx, hc⟩ := IntR.at_ hA (i := j) (by omega)
  have HX : Hid (hostN l d = x) := Lib.hid (by unfold hostN; rw [hA.1, ← hj]; simp [hx])
  have hz : ((n : Int) == 0) = false := by simp; omega
  have hjj := hj.symm
  clear hj
  go_enter Tryd.func55, Tryd.ntmps55
  go_wp2_with fail
  go_ret2
  exact ⟨by rw [HX.out]; rfl, rfl⟩
end Go.Proofs.YtepifkmileilfaaDoor
