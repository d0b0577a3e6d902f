/- What the document's Cmp of layers 1 and 3, Key, and layer 5's Keys, Kind, Without, part compute. -/
import Derived.Test.YtfdjbnofcniodaaGreatDoorRef01
import Derived.Test.YtfdjbnofcniodaaGreatDoorTab1
import Derived.Test.YtfdjbnofcniodaaGreatDoorTablePlain
import Derived.Test.YtfdjbnofcniodaaGreatDoorGround
namespace Go.Proofs.YtfdjbnofcniodaaGreatDoor
set_option linter.unusedVariables false
open Go.RowKit

set_option maxRecDepth 100000 in
set_option maxHeartbeats 4000000 in
theorem refCmp01_any (s t : ByteArray) (w : World) (hs : s.size ≤ maxLen) (ht : t.size ≤ maxLen) : Calls Tryz.prog 184 #[.string s, .string t] w fun e w' => e = .returned (.int .i64 (Lib.compareBytes (tx s) (tx t))) ∧ Ext w w' := by
  unfold maxLen at hs ht
  go_enter Tryz.func184, Tryz.ntmps184
  go_wp2_with fail
  go_loopw [5] (fun i wr => ∃ k : Nat, k ≤ s.size ∧ k ≤ t.size ∧ i = .int .i64 k ∧ Hid (Lib.compareBytes (tx s) (tx t) = Lib.compareBytes ((tx s).drop k) ((tx t).drop k)) ∧ Hid (Ext w wr)) (fun i _ => s.size - (intOf i).toNat)
  case atStart => exact ⟨0, Nat.zero_le _, Nat.zero_le _, by go_num, Lib.hid rfl, Lib.hid (Ext.refl _)⟩
  case round =>
    obtain ⟨k, hks, hkt, rfl, HC, HX⟩ := hrel
    have i0 : (0 : Int) ≤ (k : Int) := by omega
    by_cases h1 : k < s.size
    · by_cases h2 : k < t.size
      · have hb1 := byte_at h1
        have hb2 := byte_at h2
        have i1 : (k : Int) < (s.size : Int) := by omega
        have i2 : (k : Int) < (t.size : Int) := by omega
        have HD : Hid (Lib.compareBytes (tx s) (tx t) = if s[k] < t[k] then -1 else if t[k] < s[k] then 1 else Lib.compareBytes ((tx s).drop (k + 1)) ((tx t).drop (k + 1))) := Lib.hid (by rw [HC.out, drop_of hb1, drop_of hb2]; rfl)
        clear hb1 hb2
        by_cases c1 : s[k].toNat < t[k].toNat
        · have HR : Hid (Lib.compareBytes (tx s) (tx t) = -1) := Lib.hid (by rw [HD.out, if_pos (u8_lt.2 c1)])
          have j1 : ((s[k].toNat : Nat) : Int) < ((t[k].toNat : Nat) : Int) := by omega
          go_wp2_with fail
          have hSw : True := trivial
          refine wpS_begin ((fun _ : World => True)) (by kernel_rfl) ?_
          refine wpS_take 0 (v := ?_) hSw rfl (by kernel_rfl) (by kernel_rfl) (by kernel_rfl) (by rfl) (fun w' hin => ?_) ?_
          rotate_left
          · (try simp only [] at hin); go_simp <;> with_reducible rfl
          try simp only [Act.put, List.setIfInBounds_toArray, List.set_cons_zero, List.set_cons_succ]
          refine wpS_take 1 (v := ?_) hSw rfl (by kernel_rfl) (by kernel_rfl) (by kernel_rfl) (by rfl) (fun w' hin => ?_) ?_
          rotate_left
          · (try simp only [] at hin); go_simp <;> with_reducible rfl
          try simp only [Act.put, List.setIfInBounds_toArray, List.set_cons_zero, List.set_cons_succ]
          refine wpS_take 2 (v := ?_) hSw rfl (by kernel_rfl) (by kernel_rfl) (by kernel_rfl) (by rfl) (fun w' hin => ?_) ?_
          rotate_left
          · (try simp only [] at hin); go_simp <;> with_reducible rfl
          try simp only [Act.put, List.setIfInBounds_toArray, List.set_cons_zero, List.set_cons_succ]
          refine wpS_take 3 (v := ?_) hSw rfl (by kernel_rfl) (by kernel_rfl) (by kernel_rfl) (by rfl) (fun w' hin => ?_) ?_
          rotate_left
          · (try simp only [] at hin); go_simp <;> with_reducible rfl
          try simp only [Act.put, List.setIfInBounds_toArray, List.set_cons_zero, List.set_cons_succ]
          refine wpS_take 4 (v := ?_) hSw rfl (by kernel_rfl) (by kernel_rfl) (by kernel_rfl) (by rfl) (fun w' hin => ?_) ?_
          rotate_left
          · (try simp only [] at hin); go_simp <;> with_reducible rfl
          try simp only [Act.put, List.setIfInBounds_toArray, List.set_cons_zero, List.set_cons_succ]
          refine wpS_take 5 (v := ?_) hSw rfl (by kernel_rfl) (by kernel_rfl) (by kernel_rfl) (by rfl) (fun w' hin => ?_) ?_
          rotate_left
          · (try simp only [] at hin); go_simp <;> with_reducible rfl
          try simp only [Act.put, List.setIfInBounds_toArray, List.set_cons_zero, List.set_cons_succ]
          refine wpS_take 6 (v := ?_) hSw rfl (by kernel_rfl) (by kernel_rfl) (by kernel_rfl) (by rfl) (fun w' hin => ?_) ?_
          rotate_left
          · (try simp only [] at hin); go_simp <;> with_reducible rfl
          try simp only [Act.put, List.setIfInBounds_toArray, List.set_cons_zero, List.set_cons_succ]
          refine wpS_done (by kernel_rfl) ?_
          go_wp2_with fail
          go_ret
          exact ⟨ret_int HR.out.symm, HX.out.drew⟩
        by_cases c2 : t[k].toNat < s[k].toNat
        · have HR : Hid (Lib.compareBytes (tx s) (tx t) = 1) := Lib.hid (by rw [HD.out, if_neg (fun h => c1 (u8_lt.1 h)), if_pos (u8_lt.2 c2)])
          have j1 : ¬ ((s[k].toNat : Nat) : Int) < ((t[k].toNat : Nat) : Int) := by omega
          have j2 : ((t[k].toNat : Nat) : Int) < ((s[k].toNat : Nat) : Int) := by omega
          go_wp2_with fail
          have hSw : True := trivial
          refine wpS_begin ((fun _ : World => True)) (by kernel_rfl) ?_
          refine wpS_take 0 (v := ?_) hSw rfl (by kernel_rfl) (by kernel_rfl) (by kernel_rfl) (by rfl) (fun w' hin => ?_) ?_
          rotate_left
          · (try simp only [] at hin); go_simp <;> with_reducible rfl
          try simp only [Act.put, List.setIfInBounds_toArray, List.set_cons_zero, List.set_cons_succ]
          refine wpS_take 1 (v := ?_) hSw rfl (by kernel_rfl) (by kernel_rfl) (by kernel_rfl) (by rfl) (fun w' hin => ?_) ?_
          rotate_left
          · (try simp only [] at hin); go_simp <;> with_reducible rfl
          try simp only [Act.put, List.setIfInBounds_toArray, List.set_cons_zero, List.set_cons_succ]
          refine wpS_take 2 (v := ?_) hSw rfl (by kernel_rfl) (by kernel_rfl) (by kernel_rfl) (by rfl) (fun w' hin => ?_) ?_
          rotate_left
          · (try simp only [] at hin); go_simp <;> with_reducible rfl
          try simp only [Act.put, List.setIfInBounds_toArray, List.set_cons_zero, List.set_cons_succ]
          refine wpS_take 3 (v := ?_) hSw rfl (by kernel_rfl) (by kernel_rfl) (by kernel_rfl) (by rfl) (fun w' hin => ?_) ?_
          rotate_left
          · (try simp only [] at hin); go_simp <;> with_reducible rfl
          try simp only [Act.put, List.setIfInBounds_toArray, List.set_cons_zero, List.set_cons_succ]
          refine wpS_take 4 (v := ?_) hSw rfl (by kernel_rfl) (by kernel_rfl) (by kernel_rfl) (by rfl) (fun w' hin => ?_) ?_
          rotate_left
          · (try simp only [] at hin); go_simp <;> with_reducible rfl
          try simp only [Act.put, List.setIfInBounds_toArray, List.set_cons_zero, List.set_cons_succ]
          refine wpS_take 5 (v := ?_) hSw rfl (by kernel_rfl) (by kernel_rfl) (by kernel_rfl) (by rfl) (fun w' hin => ?_) ?_
          rotate_left
          · (try simp only [] at hin); go_simp <;> with_reducible rfl
          try simp only [Act.put, List.setIfInBounds_toArray, List.set_cons_zero, List.set_cons_succ]
          refine wpS_take 6 (v := ?_) hSw rfl (by kernel_rfl) (by kernel_rfl) (by kernel_rfl) (by rfl) (fun w' hin => ?_) ?_
          rotate_left
          · (try simp only [] at hin); go_simp <;> with_reducible rfl
          try simp only [Act.put, List.setIfInBounds_toArray, List.set_cons_zero, List.set_cons_succ]
          refine wpS_done (by kernel_rfl) ?_
          go_wp2_with fail
          have hSw : True := trivial
          refine wpS_begin ((fun _ : World => True)) (by kernel_rfl) ?_
          refine wpS_take 0 (v := ?_) hSw rfl (by kernel_rfl) (by kernel_rfl) (by kernel_rfl) (by rfl) (fun w' hin => ?_) ?_
          rotate_left
          · (try simp only [] at hin); go_simp <;> with_reducible rfl
          try simp only [Act.put, List.setIfInBounds_toArray, List.set_cons_zero, List.set_cons_succ]
          refine wpS_take 1 (v := ?_) hSw rfl (by kernel_rfl) (by kernel_rfl) (by kernel_rfl) (by rfl) (fun w' hin => ?_) ?_
          rotate_left
          · (try simp only [] at hin); go_simp <;> with_reducible rfl
          try simp only [Act.put, List.setIfInBounds_toArray, List.set_cons_zero, List.set_cons_succ]
          refine wpS_take 2 (v := ?_) hSw rfl (by kernel_rfl) (by kernel_rfl) (by kernel_rfl) (by rfl) (fun w' hin => ?_) ?_
          rotate_left
          · (try simp only [] at hin); go_simp <;> with_reducible rfl
          try simp only [Act.put, List.setIfInBounds_toArray, List.set_cons_zero, List.set_cons_succ]
          refine wpS_take 3 (v := ?_) hSw rfl (by kernel_rfl) (by kernel_rfl) (by kernel_rfl) (by rfl) (fun w' hin => ?_) ?_
          rotate_left
          · (try simp only [] at hin); go_simp <;> with_reducible rfl
          try simp only [Act.put, List.setIfInBounds_toArray, List.set_cons_zero, List.set_cons_succ]
          refine wpS_take 4 (v := ?_) hSw rfl (by kernel_rfl) (by kernel_rfl) (by kernel_rfl) (by rfl) (fun w' hin => ?_) ?_
          rotate_left
          · (try simp only [] at hin); go_simp <;> with_reducible rfl
          try simp only [Act.put, List.setIfInBounds_toArray, List.set_cons_zero, List.set_cons_succ]
          refine wpS_take 5 (v := ?_) hSw rfl (by kernel_rfl) (by kernel_rfl) (by kernel_rfl) (by rfl) (fun w' hin => ?_) ?_
          rotate_left
          · (try simp only [] at hin); go_simp <;> with_reducible rfl
          try simp only [Act.put, List.setIfInBounds_toArray, List.set_cons_zero, List.set_cons_succ]
          refine wpS_take 6 (v := ?_) hSw rfl (by kernel_rfl) (by kernel_rfl) (by kernel_rfl) (by rfl) (fun w' hin => ?_) ?_
          rotate_left
          · (try simp only [] at hin); go_simp <;> with_reducible rfl
          try simp only [Act.put, List.setIfInBounds_toArray, List.set_cons_zero, List.set_cons_succ]
          refine wpS_done (by kernel_rfl) ?_
          go_wp2_with fail
          go_ret
          exact ⟨ret_int HR.out.symm, HX.out.drew.drew⟩
        · have HC2 : Hid (Lib.compareBytes (tx s) (tx t) = Lib.compareBytes ((tx s).drop (k + 1)) ((tx t).drop (k + 1))) := Lib.hid (by rw [HD.out, if_neg (fun h => c1 (u8_lt.1 h)), if_neg (fun h => c2 (u8_lt.1 h))])
          have j1 : ¬ ((s[k].toNat : Nat) : Int) < ((t[k].toNat : Nat) : Int) := by omega
          have j2 : ¬ ((t[k].toNat : Nat) : Int) < ((s[k].toNat : Nat) : Int) := by omega
          have HX2 := Lib.hid HX.out.drew.drew
          go_wp2_with fail
          have hSw : True := trivial
          refine wpS_begin ((fun _ : World => True)) (by kernel_rfl) ?_
          refine wpS_take 0 (v := ?_) hSw rfl (by kernel_rfl) (by kernel_rfl) (by kernel_rfl) (by rfl) (fun w' hin => ?_) ?_
          rotate_left
          · (try simp only [] at hin); go_simp <;> with_reducible rfl
          try simp only [Act.put, List.setIfInBounds_toArray, List.set_cons_zero, List.set_cons_succ]
          refine wpS_take 1 (v := ?_) hSw rfl (by kernel_rfl) (by kernel_rfl) (by kernel_rfl) (by rfl) (fun w' hin => ?_) ?_
          rotate_left
          · (try simp only [] at hin); go_simp <;> with_reducible rfl
          try simp only [Act.put, List.setIfInBounds_toArray, List.set_cons_zero, List.set_cons_succ]
          refine wpS_take 2 (v := ?_) hSw rfl (by kernel_rfl) (by kernel_rfl) (by kernel_rfl) (by rfl) (fun w' hin => ?_) ?_
          rotate_left
          · (try simp only [] at hin); go_simp <;> with_reducible rfl
          try simp only [Act.put, List.setIfInBounds_toArray, List.set_cons_zero, List.set_cons_succ]
          refine wpS_take 3 (v := ?_) hSw rfl (by kernel_rfl) (by kernel_rfl) (by kernel_rfl) (by rfl) (fun w' hin => ?_) ?_
          rotate_left
          · (try simp only [] at hin); go_simp <;> with_reducible rfl
          try simp only [Act.put, List.setIfInBounds_toArray, List.set_cons_zero, List.set_cons_succ]
          refine wpS_take 4 (v := ?_) hSw rfl (by kernel_rfl) (by kernel_rfl) (by kernel_rfl) (by rfl) (fun w' hin => ?_) ?_
          rotate_left
          · (try simp only [] at hin); go_simp <;> with_reducible rfl
          try simp only [Act.put, List.setIfInBounds_toArray, List.set_cons_zero, List.set_cons_succ]
          refine wpS_take 5 (v := ?_) hSw rfl (by kernel_rfl) (by kernel_rfl) (by kernel_rfl) (by rfl) (fun w' hin => ?_) ?_
          rotate_left
          · (try simp only [] at hin); go_simp <;> with_reducible rfl
          try simp only [Act.put, List.setIfInBounds_toArray, List.set_cons_zero, List.set_cons_succ]
          refine wpS_take 6 (v := ?_) hSw rfl (by kernel_rfl) (by kernel_rfl) (by kernel_rfl) (by rfl) (fun w' hin => ?_) ?_
          rotate_left
          · (try simp only [] at hin); go_simp <;> with_reducible rfl
          try simp only [Act.put, List.setIfInBounds_toArray, List.set_cons_zero, List.set_cons_succ]
          refine wpS_done (by kernel_rfl) ?_
          go_wp2_with fail
          have hSw : True := trivial
          refine wpS_begin ((fun _ : World => True)) (by kernel_rfl) ?_
          refine wpS_take 0 (v := ?_) hSw rfl (by kernel_rfl) (by kernel_rfl) (by kernel_rfl) (by rfl) (fun w' hin => ?_) ?_
          rotate_left
          · (try simp only [] at hin); go_simp <;> with_reducible rfl
          try simp only [Act.put, List.setIfInBounds_toArray, List.set_cons_zero, List.set_cons_succ]
          refine wpS_take 1 (v := ?_) hSw rfl (by kernel_rfl) (by kernel_rfl) (by kernel_rfl) (by rfl) (fun w' hin => ?_) ?_
          rotate_left
          · (try simp only [] at hin); go_simp <;> with_reducible rfl
          try simp only [Act.put, List.setIfInBounds_toArray, List.set_cons_zero, List.set_cons_succ]
          refine wpS_take 2 (v := ?_) hSw rfl (by kernel_rfl) (by kernel_rfl) (by kernel_rfl) (by rfl) (fun w' hin => ?_) ?_
          rotate_left
          · (try simp only [] at hin); go_simp <;> with_reducible rfl
          try simp only [Act.put, List.setIfInBounds_toArray, List.set_cons_zero, List.set_cons_succ]
          refine wpS_take 3 (v := ?_) hSw rfl (by kernel_rfl) (by kernel_rfl) (by kernel_rfl) (by rfl) (fun w' hin => ?_) ?_
          rotate_left
          · (try simp only [] at hin); go_simp <;> with_reducible rfl
          try simp only [Act.put, List.setIfInBounds_toArray, List.set_cons_zero, List.set_cons_succ]
          refine wpS_take 4 (v := ?_) hSw rfl (by kernel_rfl) (by kernel_rfl) (by kernel_rfl) (by rfl) (fun w' hin => ?_) ?_
          rotate_left
          · (try simp only [] at hin); go_simp <;> with_reducible rfl
          try simp only [Act.put, List.setIfInBounds_toArray, List.set_cons_zero, List.set_cons_succ]
          refine wpS_take 5 (v := ?_) hSw rfl (by kernel_rfl) (by kernel_rfl) (by kernel_rfl) (by rfl) (fun w' hin => ?_) ?_
          rotate_left
          · (try simp only [] at hin); go_simp <;> with_reducible rfl
          try simp only [Act.put, List.setIfInBounds_toArray, List.set_cons_zero, List.set_cons_succ]
          refine wpS_take 6 (v := ?_) hSw rfl (by kernel_rfl) (by kernel_rfl) (by kernel_rfl) (by rfl) (fun w' hin => ?_) ?_
          rotate_left
          · (try simp only [] at hin); go_simp <;> with_reducible rfl
          try simp only [Act.put, List.setIfInBounds_toArray, List.set_cons_zero, List.set_cons_succ]
          refine wpS_done (by kernel_rfl) ?_
          go_wp2_with fail
          go_roundw
          case rel => exact ⟨k + 1, by omega, by omega, by go_num, HC2, HX2⟩
          case measure => simp [intOf]; omega
      · have HR : Hid (Lib.compareBytes (tx s) (tx t) = 1) := Lib.hid (by
          obtain ⟨x, hx⟩ := getElem?_lt_some (l := tx s) (k := k) (by rw [tx_len]; exact h1)
          rw [HC.out, drop_of hx, List.drop_eq_nil_of_le (show (tx t).length ≤ k by rw [tx_len]; omega)]; rfl)
        have i1 : (k : Int) < (s.size : Int) := by omega
        have i2 : ¬ (k : Int) < (t.size : Int) := by omega
        have i3 : ¬ (s.size : Int) < (t.size : Int) := by omega
        have i4 : (t.size : Int) < (s.size : Int) := by omega
        go_wp2_with fail
        go_ret
        exact ⟨ret_int HR.out.symm, HX.out⟩
    · have hks' : k = s.size := by omega
      have i1 : ¬ (k : Int) < (s.size : Int) := by omega
      by_cases h2 : k < t.size
      · have HR : Hid (Lib.compareBytes (tx s) (tx t) = -1) := Lib.hid (by
          obtain ⟨x, hx⟩ := getElem?_lt_some (l := tx t) (k := k) (by rw [tx_len]; exact h2)
          rw [HC.out, drop_of hx, List.drop_eq_nil_of_le (show (tx s).length ≤ k by rw [tx_len]; omega)]; rfl)
        have i3 : (s.size : Int) < (t.size : Int) := by omega
        clear hks'
        go_wp2_with fail
        go_ret
        exact ⟨ret_int HR.out.symm, HX.out⟩
      · have HR : Hid (Lib.compareBytes (tx s) (tx t) = 0) := Lib.hid (by
          rw [HC.out, List.drop_eq_nil_of_le (show (tx s).length ≤ k by rw [tx_len]; omega), List.drop_eq_nil_of_le (show (tx t).length ≤ k by rw [tx_len]; omega)]; rfl)
        have i3 : ¬ (s.size : Int) < (t.size : Int) := by omega
        have i4 : ¬ (t.size : Int) < (s.size : Int) := by omega
        clear hks'
        go_wp2_with fail
        go_ret
        exact ⟨ret_int HR.out.symm, HX.out⟩

set_option maxRecDepth 100000 in
set_option maxHeartbeats 2000000 in
theorem refCmp03_any (a b : Ky) (w : World) (ha : a.name.size ≤ maxLen) (hb : b.name.size ≤ maxLen) : Calls Tryz.prog 116 #[.agg #[.int .i64 a.kind, .string a.name], .agg #[.int .i64 b.kind, .string b.name]] w fun e w' => e = .returned (.int .i64 (cmpK a b)) ∧ Ext w w' := by
  by_cases c1 : a.kind < b.kind
  · have HR : Hid (cmpK a b = -1) := Lib.hid (by have h := (cmpI_iff a.kind b.kind).1.2 c1; unfold cmpK; rw [h]; rfl)
    go_enter Tryz.func116, Tryz.ntmps116
    go_wp2_with fail
    go_ret
    exact ⟨ret_int HR.out.symm, (Ext.new w _).alloc _⟩
  by_cases c2 : b.kind < a.kind
  · have HR : Hid (cmpK a b = 1) := Lib.hid (by have h := (cmpI_iff a.kind b.kind).2.2.2 c2; unfold cmpK; rw [h]; rfl)
    go_enter Tryz.func116, Tryz.ntmps116
    go_wp2_with fail
    go_ret
    exact ⟨ret_int HR.out.symm, (Ext.new w _).alloc _⟩
  · have HR : Hid (cmpK a b = Lib.compareBytes (tx a.name) (tx b.name)) := Lib.hid (by have h := (cmpI_iff a.kind b.kind).2.1.2 (by omega); unfold cmpK; rw [h]; rfl)
    go_enter Tryz.func116, Tryz.ntmps116
    go_wp2_with fail
    refine (refCmp01_any a.name b.name _ ha hb).mono ?_
    rintro e w1 ⟨rfl, hb1⟩
    rw [← HR.out]
    have E1 := Lib.hid (((Ext.new w _).alloc _).trans hb1)
    clear hb1
    go_wp2_with fail
    go_ret
    exact ⟨rfl, E1.out⟩

set_option maxRecDepth 100000 in
set_option maxHeartbeats 1000000 in
theorem refKey_any (r : Rs) (A A' : Option Addr) (n c n' c' : Nat) (w : World) : Calls Tryz.prog 108 #[rsVal r A n c A' n' c'] w fun e w' => e = .returned (.agg #[.int .i64 r.key.kind, .string r.key.name]) ∧ Ext w w' := by
  unfold rsVal
  go_enter Tryz.func108, Tryz.ntmps108
  go_wp2_with fail
  exact bodyPost_ret (v := .agg #[.int .i64 r.kind, .string r.name]) (by simp [results, Tryz.results108, go_sem]) rfl ⟨rfl, (Ext.new w _).alloc _⟩


set_option maxRecDepth 100000 in
set_option maxHeartbeats 8000000 in
theorem refKind5_any (l : List Rs) (A : Option Addr) (n c : Nat) (y : Int) (w : World) (hA : ResL All w A n l) (hn : n ≤ 1000000) :
    Calls Tryz.prog 44 #[.slice A n c, .int .i64 y] w (GivesL w (l.filter (fun r => decide (r.kind = y)))) := by
  have HA := Lib.hid hA
  clear hA
  go_enter Tryz.func44, Tryz.ntmps44
  go_wp2_with fail
  have E0 := Lib.hid (Ext.refl w)
  go_loopw [5, 6] (fun v i wr => ∃ (k : Nat) (us : List Value), k ≤ n ∧ i = .int .i64 k ∧ Hid (wr.ownsRow w.heap.size 34 7 v ((l.take k).filter (fun r => decide (r.kind = y))).length us) ∧ Hid (RowsOf (RsQ All w) 7 us ((l.take k).filter (fun r => decide (r.kind = y)))) ∧ Hid (Ext w wr)) (fun _ i _ => n - (intOf i).toNat)
  case atStart => exact ⟨0, [], Nat.zero_le _, by go_num, Lib.hid own_nil, Lib.hid rfl, Lib.hid (Ext.refl _)⟩
  case round =>
    obtain ⟨k, us, hk, rfl, HW, HU, HX⟩ := hrel
    have HE := Lib.hid (E0.out.trans HX.out)
    have hMk : ((l.take k).filter (fun r => decide (r.kind = y))).length ≤ k := Nat.le_trans (List.length_filter_le _ _) (by rw [List.length_take]; exact Nat.min_le_left _ _)
    obtain ⟨M, hM⟩ : ∃ M, M = ((l.take k).filter (fun r => decide (r.kind = y))).length := ⟨_, rfl⟩
    rw [← hM] at HW hMk
    have HM := Lib.hid hM
    clear hM
    obtain ⟨Av, cv, hv0, -, -, -, -⟩ := own_flat HW.out
    subst hv0
    by_cases hlt : k < n
    · obtain ⟨b, o, r, C, p, f, C', p', f', rfl, hbB, -, hlk, hv, hc0, hc1, hc2, hc3, hc4, hc5, hc6⟩ := ResL.at_ HA.out hlt
      have HLK := Lib.hid hlk
      have HV := Lib.hid hv
      have hbr : b < wr.heap.size := Nat.lt_of_lt_of_le hbB HE.out.size
      have i1 : (0 : Int) ≤ (k : Int) := by omega
      have i2 : (k : Int) < (n : Int) := by omega
      have d0 : ∀ w', Ext w w' → w'.cell? ⟨b, o + k * 7, none⟩ = some (.int .i64 r.kind) := fun w' hx => ((E0.out.trans hx).cell hbB).trans hc0
      have d1 : ∀ w', Ext w w' → w'.cell? ⟨b, o + k * 7 + 1, none⟩ = some (.string r.name) := fun w' hx => ((E0.out.trans hx).cell hbB).trans hc1
      have d2 : ∀ w', Ext w w' → w'.cell? ⟨b, o + k * 7 + 2, none⟩ = some (.int .i64 r.ver) := fun w' hx => ((E0.out.trans hx).cell hbB).trans hc2
      have d3 : ∀ w', Ext w w' → w'.cell? ⟨b, o + k * 7 + 3, none⟩ = some (.int .i64 r.port) := fun w' hx => ((E0.out.trans hx).cell hbB).trans hc3
      have d4 : ∀ w', Ext w w' → w'.cell? ⟨b, o + k * 7 + 4, none⟩ = some (.string r.to) := fun w' hx => ((E0.out.trans hx).cell hbB).trans hc4
      have d5 : ∀ w', Ext w w' → w'.cell? ⟨b, o + k * 7 + 5, none⟩ = some (.slice C p f) := fun w' hx => ((E0.out.trans hx).cell hbB).trans hc5
      have d6 : ∀ w', Ext w w' → w'.cell? ⟨b, o + k * 7 + 6, none⟩ = some (.slice C' p' f') := fun w' hx => ((E0.out.trans hx).cell hbB).trans hc6
      have e0 : wr.cell? ⟨b, o + k * 7, none⟩ = some (.int .i64 r.kind) := d0 wr HX.out
      have e1 : wr.cell? ⟨b, o + k * 7 + 1, none⟩ = some (.string r.name) := d1 wr HX.out
      have e2 : wr.cell? ⟨b, o + k * 7 + 2, none⟩ = some (.int .i64 r.ver) := d2 wr HX.out
      have e3 : wr.cell? ⟨b, o + k * 7 + 3, none⟩ = some (.int .i64 r.port) := d3 wr HX.out
      have e4 : wr.cell? ⟨b, o + k * 7 + 4, none⟩ = some (.string r.to) := d4 wr HX.out
      have e5 : wr.cell? ⟨b, o + k * 7 + 5, none⟩ = some (.slice C p f) := d5 wr HX.out
      have e6 : wr.cell? ⟨b, o + k * 7 + 6, none⟩ = some (.slice C' p' f') := d6 wr HX.out
      clear hlk hv hc0 hc1 hc2 hc3 hc4 hc5 hc6
      clear d0 d1 d2 d3 d4 d5 d6
      by_cases hq : r.kind = y
      · have hb : (r.kind == y) = true := by simpa using hq
        have HQ := Lib.hid hq
        clear hq
        have HF : Hid ((l.take (k + 1)).filter (fun r => decide (r.kind = y)) = (l.take k).filter (fun r => decide (r.kind = y)) ++ [r]) := Lib.hid (by rw [take_snoc_of HLK.out, List.filter_append]; simp [HQ.out])
        have hFk := flat_k wr [.int .i64 r.kind, .string r.name, .int .i64 r.ver, .int .i64 r.port, .string r.to, .slice C p f, .slice C' p' f'] 34 rfl
        have hOW := own_up HW.out (Ext.new wr (.cells #[.int .i64 r.kind, .string r.name, .int .i64 r.ver, .int .i64 r.port, .string r.to, .slice C p f, .slice C' p' f'] 34))
        have hbx : w.heap.size ≤ wr.heap.size := HX.out.size
        obtain ⟨v', w5, hrun, hown5, hg5, hnw⟩ := run_append_flat elem_res 42 hOW 1 hFk (by simp [Value.oneCell']) (by omega) (by omega) (by rw [World.size_alloc]; omega) (fun h => by cases h)
        have HRUN := Lib.hid hrun
        have HX5 := Lib.hid ((HX.out.alloc (.cells #[.int .i64 r.kind, .string r.name, .int .i64 r.ver, .int .i64 r.port, .string r.to, .slice C p f, .slice C' p' f'] 34)).grown hg5 hOW (Nat.le_refl _))
        have HW5 : Hid (w5.ownsRow w.heap.size 34 7 v' ((l.take (k + 1)).filter (fun r => decide (r.kind = y))).length (us ++ [.int .i64 r.kind, .string r.name, .int .i64 r.ver, .int .i64 r.port, .string r.to, .slice C p f, .slice C' p' f'])) := Lib.hid (by rw [HF.out, List.length_append, ← HM.out]; exact hown5)
        have HU5 : Hid (RowsOf (RsQ All w) 7 (us ++ [.int .i64 r.kind, .string r.name, .int .i64 r.ver, .int .i64 r.port, .string r.to, .slice C p f, .slice C' p' f']) ((l.take (k + 1)).filter (fun r => decide (r.kind = y)))) := Lib.hid (by rw [HF.out]; exact RowsOf.snoc rfl (show RsQ All w [.int .i64 r.kind, .string r.name, .int .i64 r.ver, .int .i64 r.port, .string r.to, .slice C p f, .slice C' p' f'] r from ⟨C, p, f, C', p', f', rfl, HV.out⟩) HU.out)
        clear hFk hOW hrun hown5 hg5 hnw
        go_wp2_with (refine Lib.wpList_append_run _ rfl _ _ _ _ rfl _ _ rfl rfl v' w5 HRUN.out ?_)
        go_roundw
        case rel => exact ⟨k + 1, _, by omega, by go_num, HW5, HU5, HX5⟩
        case measure => simp [intOf]; omega
      · have hb : (r.kind == y) = false := by simpa using hq
        have HQ := Lib.hid hq
        clear hq
        have HF : Hid ((l.take (k + 1)).filter (fun r => decide (r.kind = y)) = (l.take k).filter (fun r => decide (r.kind = y))) := Lib.hid (by rw [take_snoc_of HLK.out, List.filter_append]; simp [HQ.out])
        have HW5 : Hid (wr.ownsRow w.heap.size 34 7 (.slice Av M cv) ((l.take (k + 1)).filter (fun r => decide (r.kind = y))).length us) := Lib.hid (by rw [HF.out, ← HM.out]; exact HW.out)
        have HU5 : Hid (RowsOf (RsQ All w) 7 us ((l.take (k + 1)).filter (fun r => decide (r.kind = y)))) := Lib.hid (by rw [HF.out]; exact HU.out)
        go_wp2_with fail
        go_roundw
        case rel => exact ⟨k + 1, _, by omega, by go_num, HW5, HU5, HX⟩
        case measure => simp [intOf]; omega
    · obtain rfl : k = n := by omega
      have HT : Hid (l.take k = l) := Lib.hid (List.take_of_length_le (Nat.le_of_eq HA.out.len))
      obtain ⟨Ax, cx, ex, h1, h2, h3, hF⟩ := own_flat HW.out
      injection ex with e1 e2 e3
      subst e1 e3
      have HFl := Lib.hid (hF.arrQ (S := fun _ => True) HU.out (by omega) (fun _ _ _ _ => trivial))
      have HSl : Hid (SlW Av M cv) := Lib.hid ⟨h1, h2, h3⟩
      have i2 : ¬ (k : Int) < (k : Int) := by omega
      clear hF h1 h2 h3
      go_wp2_with fail
      go_ret
      refine ⟨Av, M, cv, rfl, HSl.out, ?_, HE.out⟩
      have h9 := HFl.out
      rw [HT.out] at h9
      exact h9.weak (fun _ _ h => h.keep HE.out.keep) (fun _ _ _ => trivial)

set_option maxRecDepth 100000 in
set_option maxHeartbeats 8000000 in
theorem refWithout5_any (l : List Rs) (A : Option Addr) (n c : Nat) (y : Ky) (w : World) (hA : ResL All w A n l) (hn : n ≤ 1000000) :
    Calls Tryz.prog 42 #[.slice A n c, .agg #[.int .i64 y.kind, .string y.name]] w (GivesL w (l.filter (fun x => !decide (x.key = y)))) := by
  have HA := Lib.hid hA
  clear hA
  go_enter Tryz.func42, Tryz.ntmps42
  go_wp2_with fail
  have K0 := Lib.hid (heap_alloc_new w (.cells #[.int .i64 y.kind, .string y.name] 38))
  have E0 := Lib.hid (Ext.new w (.cells #[.int .i64 y.kind, .string y.name] 38))
  have hz0 : w.heap.size < (w.alloc (.cells #[.int .i64 y.kind, .string y.name] 38)).heap.size := by simp
  generalize w.alloc (.cells #[.int .i64 y.kind, .string y.name] 38) = w0 at K0 E0 hz0 ⊢
  go_loopw [5, 6] (fun v i wr => ∃ (k : Nat) (us : List Value), k ≤ n ∧ i = .int .i64 k ∧ Hid (wr.ownsRow w0.heap.size 34 7 v ((l.take k).filter (fun x => !decide (x.key = y))).length us) ∧ Hid (RowsOf (RsQ All w) 7 us ((l.take k).filter (fun x => !decide (x.key = y)))) ∧ Hid (Ext w0 wr)) (fun _ i _ => n - (intOf i).toNat)
  case atStart => exact ⟨0, [], Nat.zero_le _, by go_num, Lib.hid own_nil, Lib.hid rfl, Lib.hid (Ext.refl _)⟩
  case round =>
    obtain ⟨k, us, hk, rfl, HW, HU, HX⟩ := hrel
    have HE := Lib.hid (E0.out.trans HX.out)
    have hMk : ((l.take k).filter (fun x => !decide (x.key = y))).length ≤ k := Nat.le_trans (List.length_filter_le _ _) (by rw [List.length_take]; exact Nat.min_le_left _ _)
    obtain ⟨M, hM⟩ : ∃ M, M = ((l.take k).filter (fun x => !decide (x.key = y))).length := ⟨_, rfl⟩
    rw [← hM] at HW hMk
    have HM := Lib.hid hM
    clear hM
    obtain ⟨Av, cv, hv0, -, -, -, -⟩ := own_flat HW.out
    subst hv0
    by_cases hlt : k < n
    · obtain ⟨b, o, r, C, p, f, C', p', f', rfl, hbB, -, hlk, hv, hc0, hc1, hc2, hc3, hc4, hc5, hc6⟩ := ResL.at_ HA.out hlt
      have HLK := Lib.hid hlk
      have HV := Lib.hid hv
      have hbr : b < wr.heap.size := Nat.lt_of_lt_of_le hbB HE.out.size
      have i1 : (0 : Int) ≤ (k : Int) := by omega
      have i2 : (k : Int) < (n : Int) := by omega
      have d0 : ∀ w', Ext w0 w' → w'.cell? ⟨b, o + k * 7, none⟩ = some (.int .i64 r.kind) := fun w' hx => ((E0.out.trans hx).cell hbB).trans hc0
      have d1 : ∀ w', Ext w0 w' → w'.cell? ⟨b, o + k * 7 + 1, none⟩ = some (.string r.name) := fun w' hx => ((E0.out.trans hx).cell hbB).trans hc1
      have d2 : ∀ w', Ext w0 w' → w'.cell? ⟨b, o + k * 7 + 2, none⟩ = some (.int .i64 r.ver) := fun w' hx => ((E0.out.trans hx).cell hbB).trans hc2
      have d3 : ∀ w', Ext w0 w' → w'.cell? ⟨b, o + k * 7 + 3, none⟩ = some (.int .i64 r.port) := fun w' hx => ((E0.out.trans hx).cell hbB).trans hc3
      have d4 : ∀ w', Ext w0 w' → w'.cell? ⟨b, o + k * 7 + 4, none⟩ = some (.string r.to) := fun w' hx => ((E0.out.trans hx).cell hbB).trans hc4
      have d5 : ∀ w', Ext w0 w' → w'.cell? ⟨b, o + k * 7 + 5, none⟩ = some (.slice C p f) := fun w' hx => ((E0.out.trans hx).cell hbB).trans hc5
      have d6 : ∀ w', Ext w0 w' → w'.cell? ⟨b, o + k * 7 + 6, none⟩ = some (.slice C' p' f') := fun w' hx => ((E0.out.trans hx).cell hbB).trans hc6
      have e0 : wr.cell? ⟨b, o + k * 7, none⟩ = some (.int .i64 r.kind) := d0 wr HX.out
      have e1 : wr.cell? ⟨b, o + k * 7 + 1, none⟩ = some (.string r.name) := d1 wr HX.out
      have e2 : wr.cell? ⟨b, o + k * 7 + 2, none⟩ = some (.int .i64 r.ver) := d2 wr HX.out
      have e3 : wr.cell? ⟨b, o + k * 7 + 3, none⟩ = some (.int .i64 r.port) := d3 wr HX.out
      have e4 : wr.cell? ⟨b, o + k * 7 + 4, none⟩ = some (.string r.to) := d4 wr HX.out
      have e5 : wr.cell? ⟨b, o + k * 7 + 5, none⟩ = some (.slice C p f) := d5 wr HX.out
      have e6 : wr.cell? ⟨b, o + k * 7 + 6, none⟩ = some (.slice C' p' f') := d6 wr HX.out
      clear hlk hv hc0 hc1 hc2 hc3 hc4 hc5 hc6
      have KR := Lib.hid ((HX.out.block hz0).trans K0.out)
      have u0 : ∀ w', Ext w0 w' → w'.cell? ⟨w.heap.size, 0, none⟩ = some (.int .i64 y.kind) := fun w' hx => (blk_rules ((hx.block hz0).trans K0.out)).1 0
      have u1 : ∀ w', Ext w0 w' → w'.cell? ⟨w.heap.size, 1, none⟩ = some (.string y.name) := fun w' hx => (blk_rules ((hx.block hz0).trans K0.out)).1 1
      clear e0 e1 e2 e3 e4 e5 e6
      by_cases hq : r.key = y
      · have HQ := Lib.hid hq
        have g1 : r.key.kind = y.kind := by rw [hq]
        have g2 : r.key.name.toList = y.name.toList := by rw [hq]
        clear hq
        go_wp2_with fail
        have hSw : Ext w0 wr.drew := HX.out.drew
        refine wpS_begin (Ext w0) (by kernel_rfl) ?_
        refine wpS_take 0 (v := ?_) hSw rfl (by kernel_rfl) (by kernel_rfl) (by kernel_rfl) (by rfl) (fun w' hin => ?_) ?_
        rotate_left
        · (try simp only [] at hin); go_simp <;> with_reducible rfl
        try simp only [Act.put, List.setIfInBounds_toArray, List.set_cons_zero, List.set_cons_succ]
        refine wpS_take 1 (v := ?_) hSw rfl (by kernel_rfl) (by kernel_rfl) (by kernel_rfl) (by rfl) (fun w' hin => ?_) ?_
        rotate_left
        · (try simp only [] at hin); go_simp <;> with_reducible rfl
        try simp only [Act.put, List.setIfInBounds_toArray, List.set_cons_zero, List.set_cons_succ]
        refine wpS_take 2 (v := ?_) hSw rfl (by kernel_rfl) (by kernel_rfl) (by kernel_rfl) (by rfl) (fun w' hin => ?_) ?_
        rotate_left
        · (try simp only [] at hin); go_simp <;> with_reducible rfl
        try simp only [Act.put, List.setIfInBounds_toArray, List.set_cons_zero, List.set_cons_succ]
        refine wpS_take 3 (v := ?_) hSw rfl (by kernel_rfl) (by kernel_rfl) (by kernel_rfl) (by rfl) (fun w' hin => ?_) ?_
        rotate_left
        · (try simp only [] at hin); go_simp <;> with_reducible rfl
        try simp only [Act.put, List.setIfInBounds_toArray, List.set_cons_zero, List.set_cons_succ]
        refine wpS_take 5 (v := ?_) hSw rfl (by kernel_rfl) (by kernel_rfl) (by kernel_rfl) (by rfl) (fun w' hin => ?_) ?_
        rotate_left
        · (try simp only [] at hin); go_simp <;> with_reducible rfl
        try simp only [Act.put, List.setIfInBounds_toArray, List.set_cons_zero, List.set_cons_succ]
        refine wpS_one 4 rfl (by kernel_rfl) (by rfl) (fun K hK => ?_)
        go_simp
        refine (refKey_any r C C' p f p' f' _).mono ?_
        rintro e x1 ⟨rfl, hb1⟩
        simp only []
        refine hK.out _ _ (Ext w0) (fun _ h => h) (hSw.trans hb1) (fun hSw => ?_)
        clear hK K
        try simp only [Act.put, List.setIfInBounds_toArray, List.set_cons_zero, List.set_cons_succ]
        refine wpS_take 6 (v := ?_) hSw rfl (by kernel_rfl) (by kernel_rfl) (by kernel_rfl) (by rfl) (fun w' hin => ?_) ?_
        rotate_left
        · (try simp only [] at hin); go_simp <;> with_reducible rfl
        try simp only [Act.put, List.setIfInBounds_toArray, List.set_cons_zero, List.set_cons_succ]
        refine wpS_done (by kernel_rfl) ?_
        have HXX := Lib.hid (HX.out.drew.trans hb1)
        have HWX := Lib.hid (own_up HW.out ((Ext.refl wr).drew.trans hb1))
        have e0 : x1.cell? ⟨b, o + k * 7, none⟩ = some (.int .i64 r.kind) := d0 x1 (HX.out.drew.trans hb1)
        have e1 : x1.cell? ⟨b, o + k * 7 + 1, none⟩ = some (.string r.name) := d1 x1 (HX.out.drew.trans hb1)
        have e2 : x1.cell? ⟨b, o + k * 7 + 2, none⟩ = some (.int .i64 r.ver) := d2 x1 (HX.out.drew.trans hb1)
        have e3 : x1.cell? ⟨b, o + k * 7 + 3, none⟩ = some (.int .i64 r.port) := d3 x1 (HX.out.drew.trans hb1)
        have e4 : x1.cell? ⟨b, o + k * 7 + 4, none⟩ = some (.string r.to) := d4 x1 (HX.out.drew.trans hb1)
        have e5 : x1.cell? ⟨b, o + k * 7 + 5, none⟩ = some (.slice C p f) := d5 x1 (HX.out.drew.trans hb1)
        have e6 : x1.cell? ⟨b, o + k * 7 + 6, none⟩ = some (.slice C' p' f') := d6 x1 (HX.out.drew.trans hb1)
        clear d0 d1 d2 d3 d4 d5 d6 u0 u1 hSw
        have HF : Hid ((l.take (k + 1)).filter (fun x => !decide (x.key = y)) = (l.take k).filter (fun x => !decide (x.key = y))) := Lib.hid (by rw [take_snoc_of HLK.out, List.filter_append]; simp [HQ.out])
        have HW5 : Hid (x1.ownsRow w0.heap.size 34 7 (.slice Av M cv) ((l.take (k + 1)).filter (fun x => !decide (x.key = y))).length us) := Lib.hid (by rw [HF.out, ← HM.out]; exact HWX.out)
        have HU5 : Hid (RowsOf (RsQ All w) 7 us ((l.take (k + 1)).filter (fun x => !decide (x.key = y)))) := Lib.hid (by rw [HF.out]; exact HU.out)
        go_wp2_with fail
        go_roundw
        case rel => exact ⟨k + 1, _, by omega, by go_num, HW5, HU5, HXX⟩
        case measure => simp [intOf]; omega
      by_cases g1 : r.key.kind = y.kind
      · have HQ := Lib.hid hq
        have g2 : ¬ r.key.name.toList = y.name.toList := fun h => hq (ky_eq g1 (by unfold tx; rw [← Lib.toList_data, ← Lib.toList_data]; exact h))
        clear hq
        go_wp2_with fail
        have hSw : Ext w0 wr.drew := HX.out.drew
        refine wpS_begin (Ext w0) (by kernel_rfl) ?_
        refine wpS_take 0 (v := ?_) hSw rfl (by kernel_rfl) (by kernel_rfl) (by kernel_rfl) (by rfl) (fun w' hin => ?_) ?_
        rotate_left
        · (try simp only [] at hin); go_simp <;> with_reducible rfl
        try simp only [Act.put, List.setIfInBounds_toArray, List.set_cons_zero, List.set_cons_succ]
        refine wpS_take 1 (v := ?_) hSw rfl (by kernel_rfl) (by kernel_rfl) (by kernel_rfl) (by rfl) (fun w' hin => ?_) ?_
        rotate_left
        · (try simp only [] at hin); go_simp <;> with_reducible rfl
        try simp only [Act.put, List.setIfInBounds_toArray, List.set_cons_zero, List.set_cons_succ]
        refine wpS_take 2 (v := ?_) hSw rfl (by kernel_rfl) (by kernel_rfl) (by kernel_rfl) (by rfl) (fun w' hin => ?_) ?_
        rotate_left
        · (try simp only [] at hin); go_simp <;> with_reducible rfl
        try simp only [Act.put, List.setIfInBounds_toArray, List.set_cons_zero, List.set_cons_succ]
        refine wpS_take 3 (v := ?_) hSw rfl (by kernel_rfl) (by kernel_rfl) (by kernel_rfl) (by rfl) (fun w' hin => ?_) ?_
        rotate_left
        · (try simp only [] at hin); go_simp <;> with_reducible rfl
        try simp only [Act.put, List.setIfInBounds_toArray, List.set_cons_zero, List.set_cons_succ]
        refine wpS_take 5 (v := ?_) hSw rfl (by kernel_rfl) (by kernel_rfl) (by kernel_rfl) (by rfl) (fun w' hin => ?_) ?_
        rotate_left
        · (try simp only [] at hin); go_simp <;> with_reducible rfl
        try simp only [Act.put, List.setIfInBounds_toArray, List.set_cons_zero, List.set_cons_succ]
        refine wpS_one 4 rfl (by kernel_rfl) (by rfl) (fun K hK => ?_)
        go_simp
        refine (refKey_any r C C' p f p' f' _).mono ?_
        rintro e x1 ⟨rfl, hb1⟩
        simp only []
        refine hK.out _ _ (Ext w0) (fun _ h => h) (hSw.trans hb1) (fun hSw => ?_)
        clear hK K
        try simp only [Act.put, List.setIfInBounds_toArray, List.set_cons_zero, List.set_cons_succ]
        refine wpS_take 6 (v := ?_) hSw rfl (by kernel_rfl) (by kernel_rfl) (by kernel_rfl) (by rfl) (fun w' hin => ?_) ?_
        rotate_left
        · (try simp only [] at hin); go_simp <;> with_reducible rfl
        try simp only [Act.put, List.setIfInBounds_toArray, List.set_cons_zero, List.set_cons_succ]
        refine wpS_done (by kernel_rfl) ?_
        have HXX := Lib.hid (HX.out.drew.trans hb1)
        have HWX := Lib.hid (own_up HW.out ((Ext.refl wr).drew.trans hb1))
        have e0 : x1.cell? ⟨b, o + k * 7, none⟩ = some (.int .i64 r.kind) := d0 x1 (HX.out.drew.trans hb1)
        have e1 : x1.cell? ⟨b, o + k * 7 + 1, none⟩ = some (.string r.name) := d1 x1 (HX.out.drew.trans hb1)
        have e2 : x1.cell? ⟨b, o + k * 7 + 2, none⟩ = some (.int .i64 r.ver) := d2 x1 (HX.out.drew.trans hb1)
        have e3 : x1.cell? ⟨b, o + k * 7 + 3, none⟩ = some (.int .i64 r.port) := d3 x1 (HX.out.drew.trans hb1)
        have e4 : x1.cell? ⟨b, o + k * 7 + 4, none⟩ = some (.string r.to) := d4 x1 (HX.out.drew.trans hb1)
        have e5 : x1.cell? ⟨b, o + k * 7 + 5, none⟩ = some (.slice C p f) := d5 x1 (HX.out.drew.trans hb1)
        have e6 : x1.cell? ⟨b, o + k * 7 + 6, none⟩ = some (.slice C' p' f') := d6 x1 (HX.out.drew.trans hb1)
        clear d0 d1 d2 d3 d4 d5 d6 u0 u1 hSw
        have HF : Hid ((l.take (k + 1)).filter (fun x => !decide (x.key = y)) = (l.take k).filter (fun x => !decide (x.key = y)) ++ [r]) := Lib.hid (by rw [take_snoc_of HLK.out, List.filter_append]; simp [HQ.out])
        have hFk := flat_k x1 [.int .i64 r.kind, .string r.name, .int .i64 r.ver, .int .i64 r.port, .string r.to, .slice C p f, .slice C' p' f'] 34 rfl
        have hOW := own_up HWX.out (Ext.new x1 (.cells #[.int .i64 r.kind, .string r.name, .int .i64 r.ver, .int .i64 r.port, .string r.to, .slice C p f, .slice C' p' f'] 34))
        have hbx : w0.heap.size ≤ x1.heap.size := HXX.out.size
        obtain ⟨v', w5, hrun, hown5, hg5, hnw⟩ := run_append_flat elem_res 42 hOW 1 hFk (by simp [Value.oneCell']) (by omega) (by omega) (by rw [World.size_alloc]; omega) (fun h => by cases h)
        have HRUN := Lib.hid hrun
        have HX5 := Lib.hid ((HXX.out.alloc (.cells #[.int .i64 r.kind, .string r.name, .int .i64 r.ver, .int .i64 r.port, .string r.to, .slice C p f, .slice C' p' f'] 34)).grown hg5 hOW (Nat.le_refl _))
        have HW5 : Hid (w5.ownsRow w0.heap.size 34 7 v' ((l.take (k + 1)).filter (fun x => !decide (x.key = y))).length (us ++ [.int .i64 r.kind, .string r.name, .int .i64 r.ver, .int .i64 r.port, .string r.to, .slice C p f, .slice C' p' f'])) := Lib.hid (by rw [HF.out, List.length_append, ← HM.out]; exact hown5)
        have HU5 : Hid (RowsOf (RsQ All w) 7 (us ++ [.int .i64 r.kind, .string r.name, .int .i64 r.ver, .int .i64 r.port, .string r.to, .slice C p f, .slice C' p' f']) ((l.take (k + 1)).filter (fun x => !decide (x.key = y)))) := Lib.hid (by rw [HF.out]; exact RowsOf.snoc rfl (show RsQ All w [.int .i64 r.kind, .string r.name, .int .i64 r.ver, .int .i64 r.port, .string r.to, .slice C p f, .slice C' p' f'] r from ⟨C, p, f, C', p', f', rfl, HV.out⟩) HU.out)
        clear hFk hOW hrun hown5 hg5 hnw
        go_wp2_with (refine Lib.wpList_append_run _ rfl _ _ _ _ rfl _ _ rfl rfl v' w5 HRUN.out ?_)
        go_roundw
        case rel => exact ⟨k + 1, _, by omega, by go_num, HW5, HU5, HX5⟩
        case measure => simp [intOf]; omega
      · have HQ := Lib.hid hq
        clear hq
        go_wp2_with fail
        have hSw : Ext w0 wr.drew := HX.out.drew
        refine wpS_begin (Ext w0) (by kernel_rfl) ?_
        refine wpS_take 0 (v := ?_) hSw rfl (by kernel_rfl) (by kernel_rfl) (by kernel_rfl) (by rfl) (fun w' hin => ?_) ?_
        rotate_left
        · (try simp only [] at hin); go_simp <;> with_reducible rfl
        try simp only [Act.put, List.setIfInBounds_toArray, List.set_cons_zero, List.set_cons_succ]
        refine wpS_take 1 (v := ?_) hSw rfl (by kernel_rfl) (by kernel_rfl) (by kernel_rfl) (by rfl) (fun w' hin => ?_) ?_
        rotate_left
        · (try simp only [] at hin); go_simp <;> with_reducible rfl
        try simp only [Act.put, List.setIfInBounds_toArray, List.set_cons_zero, List.set_cons_succ]
        refine wpS_take 2 (v := ?_) hSw rfl (by kernel_rfl) (by kernel_rfl) (by kernel_rfl) (by rfl) (fun w' hin => ?_) ?_
        rotate_left
        · (try simp only [] at hin); go_simp <;> with_reducible rfl
        try simp only [Act.put, List.setIfInBounds_toArray, List.set_cons_zero, List.set_cons_succ]
        refine wpS_take 3 (v := ?_) hSw rfl (by kernel_rfl) (by kernel_rfl) (by kernel_rfl) (by rfl) (fun w' hin => ?_) ?_
        rotate_left
        · (try simp only [] at hin); go_simp <;> with_reducible rfl
        try simp only [Act.put, List.setIfInBounds_toArray, List.set_cons_zero, List.set_cons_succ]
        refine wpS_take 5 (v := ?_) hSw rfl (by kernel_rfl) (by kernel_rfl) (by kernel_rfl) (by rfl) (fun w' hin => ?_) ?_
        rotate_left
        · (try simp only [] at hin); go_simp <;> with_reducible rfl
        try simp only [Act.put, List.setIfInBounds_toArray, List.set_cons_zero, List.set_cons_succ]
        refine wpS_one 4 rfl (by kernel_rfl) (by rfl) (fun K hK => ?_)
        go_simp
        refine (refKey_any r C C' p f p' f' _).mono ?_
        rintro e x1 ⟨rfl, hb1⟩
        simp only []
        refine hK.out _ _ (Ext w0) (fun _ h => h) (hSw.trans hb1) (fun hSw => ?_)
        clear hK K
        try simp only [Act.put, List.setIfInBounds_toArray, List.set_cons_zero, List.set_cons_succ]
        refine wpS_take 6 (v := ?_) hSw rfl (by kernel_rfl) (by kernel_rfl) (by kernel_rfl) (by rfl) (fun w' hin => ?_) ?_
        rotate_left
        · (try simp only [] at hin); go_simp <;> with_reducible rfl
        try simp only [Act.put, List.setIfInBounds_toArray, List.set_cons_zero, List.set_cons_succ]
        refine wpS_done (by kernel_rfl) ?_
        have HXX := Lib.hid (HX.out.drew.trans hb1)
        have HWX := Lib.hid (own_up HW.out ((Ext.refl wr).drew.trans hb1))
        have e0 : x1.cell? ⟨b, o + k * 7, none⟩ = some (.int .i64 r.kind) := d0 x1 (HX.out.drew.trans hb1)
        have e1 : x1.cell? ⟨b, o + k * 7 + 1, none⟩ = some (.string r.name) := d1 x1 (HX.out.drew.trans hb1)
        have e2 : x1.cell? ⟨b, o + k * 7 + 2, none⟩ = some (.int .i64 r.ver) := d2 x1 (HX.out.drew.trans hb1)
        have e3 : x1.cell? ⟨b, o + k * 7 + 3, none⟩ = some (.int .i64 r.port) := d3 x1 (HX.out.drew.trans hb1)
        have e4 : x1.cell? ⟨b, o + k * 7 + 4, none⟩ = some (.string r.to) := d4 x1 (HX.out.drew.trans hb1)
        have e5 : x1.cell? ⟨b, o + k * 7 + 5, none⟩ = some (.slice C p f) := d5 x1 (HX.out.drew.trans hb1)
        have e6 : x1.cell? ⟨b, o + k * 7 + 6, none⟩ = some (.slice C' p' f') := d6 x1 (HX.out.drew.trans hb1)
        clear d0 d1 d2 d3 d4 d5 d6 u0 u1 hSw
        have HF : Hid ((l.take (k + 1)).filter (fun x => !decide (x.key = y)) = (l.take k).filter (fun x => !decide (x.key = y)) ++ [r]) := Lib.hid (by rw [take_snoc_of HLK.out, List.filter_append]; simp [HQ.out])
        have hFk := flat_k x1 [.int .i64 r.kind, .string r.name, .int .i64 r.ver, .int .i64 r.port, .string r.to, .slice C p f, .slice C' p' f'] 34 rfl
        have hOW := own_up HWX.out (Ext.new x1 (.cells #[.int .i64 r.kind, .string r.name, .int .i64 r.ver, .int .i64 r.port, .string r.to, .slice C p f, .slice C' p' f'] 34))
        have hbx : w0.heap.size ≤ x1.heap.size := HXX.out.size
        obtain ⟨v', w5, hrun, hown5, hg5, hnw⟩ := run_append_flat elem_res 42 hOW 1 hFk (by simp [Value.oneCell']) (by omega) (by omega) (by rw [World.size_alloc]; omega) (fun h => by cases h)
        have HRUN := Lib.hid hrun
        have HX5 := Lib.hid ((HXX.out.alloc (.cells #[.int .i64 r.kind, .string r.name, .int .i64 r.ver, .int .i64 r.port, .string r.to, .slice C p f, .slice C' p' f'] 34)).grown hg5 hOW (Nat.le_refl _))
        have HW5 : Hid (w5.ownsRow w0.heap.size 34 7 v' ((l.take (k + 1)).filter (fun x => !decide (x.key = y))).length (us ++ [.int .i64 r.kind, .string r.name, .int .i64 r.ver, .int .i64 r.port, .string r.to, .slice C p f, .slice C' p' f'])) := Lib.hid (by rw [HF.out, List.length_append, ← HM.out]; exact hown5)
        have HU5 : Hid (RowsOf (RsQ All w) 7 (us ++ [.int .i64 r.kind, .string r.name, .int .i64 r.ver, .int .i64 r.port, .string r.to, .slice C p f, .slice C' p' f']) ((l.take (k + 1)).filter (fun x => !decide (x.key = y)))) := Lib.hid (by rw [HF.out]; exact RowsOf.snoc rfl (show RsQ All w [.int .i64 r.kind, .string r.name, .int .i64 r.ver, .int .i64 r.port, .string r.to, .slice C p f, .slice C' p' f'] r from ⟨C, p, f, C', p', f', rfl, HV.out⟩) HU.out)
        clear hFk hOW hrun hown5 hg5 hnw
        go_wp2_with (refine Lib.wpList_append_run _ rfl _ _ _ _ rfl _ _ rfl rfl v' w5 HRUN.out ?_)
        go_roundw
        case rel => exact ⟨k + 1, _, by omega, by go_num, HW5, HU5, HX5⟩
        case measure => simp [intOf]; omega
    · obtain rfl : k = n := by omega
      have HT : Hid (l.take k = l) := Lib.hid (List.take_of_length_le (Nat.le_of_eq HA.out.len))
      obtain ⟨Ax, cx, ex, h1, h2, h3, hF⟩ := own_flat HW.out
      injection ex with e1 e2 e3
      subst e1 e3
      have HFl := Lib.hid (hF.arrQ (S := fun _ => True) HU.out (by omega) (fun _ _ _ _ => trivial))
      have HSl : Hid (SlW Av M cv) := Lib.hid ⟨h1, h2, h3⟩
      have i2 : ¬ (k : Int) < (k : Int) := by omega
      clear hF h1 h2 h3
      go_wp2_with fail
      go_ret
      refine ⟨Av, M, cv, rfl, HSl.out, ?_, HE.out⟩
      have h9 := HFl.out
      rw [HT.out] at h9
      exact h9.weak (fun _ _ h => h.keep HE.out.keep) (fun _ _ _ => trivial)

/-- a list of resources in a row of the call's own, their inner parts as before -/
def OwnR (w00 w : World) (l : List Rs) (e : Ending) (w' : World) : Prop := ∃ v us, e = .returned v ∧ Hid (w'.ownsRow w.heap.size 34 7 v l.length us) ∧ Hid (RowsOf (RsQ All w00) 7 us l) ∧ Ext w w'

set_option maxRecDepth 100000 in
set_option maxHeartbeats 8000000 in
theorem refPart5_any (l : List Rs) (A : Option Addr) (n c : Nat) (y : Ky) (z : Int) (w : World) (w00 : World) (hA : ArrQ All w 7 (RsQ All w00) A n l) (hn : n ≤ 1000000) (hy : y.name.size ≤ maxLen) :
    Calls Tryz.prog 120 #[.slice A n c, .agg #[.int .i64 y.kind, .string y.name], .int .i64 z] w (OwnR w00 w (l.filter (fun x => decide (cmpK x.key y = z)))) := by
  have HA := Lib.hid hA
  clear hA
  go_enter Tryz.func120, Tryz.ntmps120
  go_wp2_with fail
  have K0 := Lib.hid (heap_alloc_new w (.cells #[.int .i64 y.kind, .string y.name] 38))
  have E0 := Lib.hid (Ext.new w (.cells #[.int .i64 y.kind, .string y.name] 38))
  have hz0 : w.heap.size < (w.alloc (.cells #[.int .i64 y.kind, .string y.name] 38)).heap.size := by simp
  generalize w.alloc (.cells #[.int .i64 y.kind, .string y.name] 38) = w0 at K0 E0 hz0 ⊢
  go_loopw [7, 8] (fun v i wr => ∃ (k : Nat) (us : List Value), k ≤ n ∧ i = .int .i64 k ∧ Hid (wr.ownsRow w0.heap.size 34 7 v ((l.take k).filter (fun x => decide (cmpK x.key y = z))).length us) ∧ Hid (RowsOf (RsQ All w00) 7 us ((l.take k).filter (fun x => decide (cmpK x.key y = z)))) ∧ Hid (Ext w0 wr)) (fun _ i _ => n - (intOf i).toNat)
  case atStart => exact ⟨0, [], Nat.zero_le _, by go_num, Lib.hid own_nil, Lib.hid rfl, Lib.hid (Ext.refl _)⟩
  case round =>
    obtain ⟨k, us, hk, rfl, HW, HU, HX⟩ := hrel
    have HE := Lib.hid (E0.out.trans HX.out)
    have hMk : ((l.take k).filter (fun x => decide (cmpK x.key y = z))).length ≤ k := Nat.le_trans (List.length_filter_le _ _) (by rw [List.length_take]; exact Nat.min_le_left _ _)
    obtain ⟨M, hM⟩ : ∃ M, M = ((l.take k).filter (fun x => decide (cmpK x.key y = z))).length := ⟨_, rfl⟩
    rw [← hM] at HW hMk
    have HM := Lib.hid hM
    clear hM
    obtain ⟨Av, cv, hv0, -, -, -, -⟩ := own_flat HW.out
    subst hv0
    by_cases hlt : k < n
    · obtain ⟨b, o, r, C, p, f, C', p', f', rfl, hbB, -, hlk, hv, hc0, hc1, hc2, hc3, hc4, hc5, hc6⟩ := ResL.at_ HA.out hlt
      have HLK := Lib.hid hlk
      have HV := Lib.hid hv
      have hbr : b < wr.heap.size := Nat.lt_of_lt_of_le hbB HE.out.size
      have i1 : (0 : Int) ≤ (k : Int) := by omega
      have i2 : (k : Int) < (n : Int) := by omega
      have d0 : ∀ w', Ext w0 w' → w'.cell? ⟨b, o + k * 7, none⟩ = some (.int .i64 r.kind) := fun w' hx => ((E0.out.trans hx).cell hbB).trans hc0
      have d1 : ∀ w', Ext w0 w' → w'.cell? ⟨b, o + k * 7 + 1, none⟩ = some (.string r.name) := fun w' hx => ((E0.out.trans hx).cell hbB).trans hc1
      have d2 : ∀ w', Ext w0 w' → w'.cell? ⟨b, o + k * 7 + 2, none⟩ = some (.int .i64 r.ver) := fun w' hx => ((E0.out.trans hx).cell hbB).trans hc2
      have d3 : ∀ w', Ext w0 w' → w'.cell? ⟨b, o + k * 7 + 3, none⟩ = some (.int .i64 r.port) := fun w' hx => ((E0.out.trans hx).cell hbB).trans hc3
      have d4 : ∀ w', Ext w0 w' → w'.cell? ⟨b, o + k * 7 + 4, none⟩ = some (.string r.to) := fun w' hx => ((E0.out.trans hx).cell hbB).trans hc4
      have d5 : ∀ w', Ext w0 w' → w'.cell? ⟨b, o + k * 7 + 5, none⟩ = some (.slice C p f) := fun w' hx => ((E0.out.trans hx).cell hbB).trans hc5
      have d6 : ∀ w', Ext w0 w' → w'.cell? ⟨b, o + k * 7 + 6, none⟩ = some (.slice C' p' f') := fun w' hx => ((E0.out.trans hx).cell hbB).trans hc6
      have e0 : wr.cell? ⟨b, o + k * 7, none⟩ = some (.int .i64 r.kind) := d0 wr HX.out
      have e1 : wr.cell? ⟨b, o + k * 7 + 1, none⟩ = some (.string r.name) := d1 wr HX.out
      have e2 : wr.cell? ⟨b, o + k * 7 + 2, none⟩ = some (.int .i64 r.ver) := d2 wr HX.out
      have e3 : wr.cell? ⟨b, o + k * 7 + 3, none⟩ = some (.int .i64 r.port) := d3 wr HX.out
      have e4 : wr.cell? ⟨b, o + k * 7 + 4, none⟩ = some (.string r.to) := d4 wr HX.out
      have e5 : wr.cell? ⟨b, o + k * 7 + 5, none⟩ = some (.slice C p f) := d5 wr HX.out
      have e6 : wr.cell? ⟨b, o + k * 7 + 6, none⟩ = some (.slice C' p' f') := d6 wr HX.out
      clear hlk hv hc0 hc1 hc2 hc3 hc4 hc5 hc6
      have KR := Lib.hid ((HX.out.block hz0).trans K0.out)
      have u0 : ∀ w', Ext w0 w' → w'.cell? ⟨w.heap.size, 0, none⟩ = some (.int .i64 y.kind) := fun w' hx => (blk_rules ((hx.block hz0).trans K0.out)).1 0
      have u1 : ∀ w', Ext w0 w' → w'.cell? ⟨w.heap.size, 1, none⟩ = some (.string y.name) := fun w' hx => (blk_rules ((hx.block hz0).trans K0.out)).1 1
      obtain ⟨Z, hZ⟩ : ∃ Z, Z = cmpK r.key y := ⟨_, rfl⟩
      have HZ := Lib.hid hZ
      clear hZ e0 e1 e2 e3 e4 e5 e6
      by_cases hq : Z = z
      · have hb : (Z == z) = true := by simpa using hq
        have HQ : Hid (cmpK r.key y = z) := Lib.hid (by rw [← HZ.out]; exact hq)
        clear hq
        go_wp2_with fail
        have hSw : Ext w0 wr.drew := HX.out.drew
        refine wpS_begin (Ext w0) (by kernel_rfl) ?_
        refine wpS_take 0 (v := ?_) hSw rfl (by kernel_rfl) (by kernel_rfl) (by kernel_rfl) (by rfl) (fun w' hin => ?_) ?_
        rotate_left
        · (try simp only [] at hin); go_simp <;> with_reducible rfl
        try simp only [Act.put, List.setIfInBounds_toArray, List.set_cons_zero, List.set_cons_succ]
        refine wpS_take 1 (v := ?_) hSw rfl (by kernel_rfl) (by kernel_rfl) (by kernel_rfl) (by rfl) (fun w' hin => ?_) ?_
        rotate_left
        · (try simp only [] at hin); go_simp <;> with_reducible rfl
        try simp only [Act.put, List.setIfInBounds_toArray, List.set_cons_zero, List.set_cons_succ]
        refine wpS_take 2 (v := ?_) hSw rfl (by kernel_rfl) (by kernel_rfl) (by kernel_rfl) (by rfl) (fun w' hin => ?_) ?_
        rotate_left
        · (try simp only [] at hin); go_simp <;> with_reducible rfl
        try simp only [Act.put, List.setIfInBounds_toArray, List.set_cons_zero, List.set_cons_succ]
        refine wpS_take 3 (v := ?_) hSw rfl (by kernel_rfl) (by kernel_rfl) (by kernel_rfl) (by rfl) (fun w' hin => ?_) ?_
        rotate_left
        · (try simp only [] at hin); go_simp <;> with_reducible rfl
        try simp only [Act.put, List.setIfInBounds_toArray, List.set_cons_zero, List.set_cons_succ]
        refine wpS_take 5 (v := ?_) hSw rfl (by kernel_rfl) (by kernel_rfl) (by kernel_rfl) (by rfl) (fun w' hin => ?_) ?_
        rotate_left
        · (try simp only [] at hin); go_simp <;> with_reducible rfl
        try simp only [Act.put, List.setIfInBounds_toArray, List.set_cons_zero, List.set_cons_succ]
        refine wpS_take 7 (v := ?_) hSw rfl (by kernel_rfl) (by kernel_rfl) (by kernel_rfl) (by rfl) (fun w' hin => ?_) ?_
        rotate_left
        · (try simp only [] at hin); go_simp <;> with_reducible rfl
        try simp only [Act.put, List.setIfInBounds_toArray, List.set_cons_zero, List.set_cons_succ]
        refine wpS_one 4 rfl (by kernel_rfl) (by rfl) (fun K hK => ?_)
        go_simp
        refine (refKey_any r C C' p f p' f' _).mono ?_
        rintro e x1 ⟨rfl, hb1⟩
        have HK1 := Lib.hid (hSw.trans hb1)
        simp only []
        refine hK.out _ _ (Ext x1) (fun _ h => HK1.out.trans h) (Ext.refl _) (fun hSw => ?_)
        clear hK K
        try simp only [Act.put, List.setIfInBounds_toArray, List.set_cons_zero, List.set_cons_succ]
        refine wpS_one 6 rfl (by kernel_rfl) (by rfl) (fun K hK => ?_)
        go_simp
        refine (refCmp03_any r.key y _ HV.out.nm hy).mono ?_
        rw [← HZ.out]
        rintro e x2 ⟨rfl, hb2⟩
        have HB2 := Lib.hid (hSw.trans hb2)
        simp only []
        refine hK.out _ _ (Ext x2) (fun _ h => hSw.trans (hb2.trans h)) (Ext.refl _) (fun hSw => ?_)
        clear hK K
        try simp only [Act.put, List.setIfInBounds_toArray, List.set_cons_zero, List.set_cons_succ]
        refine wpS_take 8 (v := ?_) hSw rfl (by kernel_rfl) (by kernel_rfl) (by kernel_rfl) (by rfl) (fun w' hin => ?_) ?_
        rotate_left
        · (try simp only [] at hin); go_simp <;> with_reducible rfl
        try simp only [Act.put, List.setIfInBounds_toArray, List.set_cons_zero, List.set_cons_succ]
        refine wpS_done (by kernel_rfl) ?_
        have GX := Lib.hid ((Ext.refl wr).drew.trans (hb1.trans (HB2.out.trans hSw)))
        have HXX := Lib.hid (HX.out.trans GX.out)
        have HWX := Lib.hid (own_up HW.out GX.out)
        have e0 : x2.cell? ⟨b, o + k * 7, none⟩ = some (.int .i64 r.kind) := d0 x2 (HX.out.trans GX.out)
        have e1 : x2.cell? ⟨b, o + k * 7 + 1, none⟩ = some (.string r.name) := d1 x2 (HX.out.trans GX.out)
        have e2 : x2.cell? ⟨b, o + k * 7 + 2, none⟩ = some (.int .i64 r.ver) := d2 x2 (HX.out.trans GX.out)
        have e3 : x2.cell? ⟨b, o + k * 7 + 3, none⟩ = some (.int .i64 r.port) := d3 x2 (HX.out.trans GX.out)
        have e4 : x2.cell? ⟨b, o + k * 7 + 4, none⟩ = some (.string r.to) := d4 x2 (HX.out.trans GX.out)
        have e5 : x2.cell? ⟨b, o + k * 7 + 5, none⟩ = some (.slice C p f) := d5 x2 (HX.out.trans GX.out)
        have e6 : x2.cell? ⟨b, o + k * 7 + 6, none⟩ = some (.slice C' p' f') := d6 x2 (HX.out.trans GX.out)
        clear d0 d1 d2 d3 d4 d5 d6 u0 u1 hSw
        have HF : Hid ((l.take (k + 1)).filter (fun x => decide (cmpK x.key y = z)) = (l.take k).filter (fun x => decide (cmpK x.key y = z)) ++ [r]) := Lib.hid (by rw [take_snoc_of HLK.out, List.filter_append]; simp [HQ.out])
        have hFk := flat_k x2 [.int .i64 r.kind, .string r.name, .int .i64 r.ver, .int .i64 r.port, .string r.to, .slice C p f, .slice C' p' f'] 34 rfl
        have hOW := own_up HWX.out (Ext.new x2 (.cells #[.int .i64 r.kind, .string r.name, .int .i64 r.ver, .int .i64 r.port, .string r.to, .slice C p f, .slice C' p' f'] 34))
        have hbx : w0.heap.size ≤ x2.heap.size := HXX.out.size
        obtain ⟨v', w5, hrun, hown5, hg5, hnw⟩ := run_append_flat elem_res 42 hOW 1 hFk (by simp [Value.oneCell']) (by omega) (by omega) (by rw [World.size_alloc]; omega) (fun h => by cases h)
        have HRUN := Lib.hid hrun
        have HX5 := Lib.hid ((HXX.out.alloc (.cells #[.int .i64 r.kind, .string r.name, .int .i64 r.ver, .int .i64 r.port, .string r.to, .slice C p f, .slice C' p' f'] 34)).grown hg5 hOW (Nat.le_refl _))
        have HW5 : Hid (w5.ownsRow w0.heap.size 34 7 v' ((l.take (k + 1)).filter (fun x => decide (cmpK x.key y = z))).length (us ++ [.int .i64 r.kind, .string r.name, .int .i64 r.ver, .int .i64 r.port, .string r.to, .slice C p f, .slice C' p' f'])) := Lib.hid (by rw [HF.out, List.length_append, ← HM.out]; exact hown5)
        have HU5 : Hid (RowsOf (RsQ All w00) 7 (us ++ [.int .i64 r.kind, .string r.name, .int .i64 r.ver, .int .i64 r.port, .string r.to, .slice C p f, .slice C' p' f']) ((l.take (k + 1)).filter (fun x => decide (cmpK x.key y = z)))) := Lib.hid (by rw [HF.out]; exact RowsOf.snoc rfl (show RsQ All w00 [.int .i64 r.kind, .string r.name, .int .i64 r.ver, .int .i64 r.port, .string r.to, .slice C p f, .slice C' p' f'] r from ⟨C, p, f, C', p', f', rfl, HV.out⟩) HU.out)
        clear hFk hOW hrun hown5 hg5 hnw
        go_wp2_with (refine Lib.wpList_append_run _ rfl _ _ _ _ rfl _ _ rfl rfl v' w5 HRUN.out ?_)
        go_roundw
        case rel => exact ⟨k + 1, _, by omega, by go_num, HW5, HU5, HX5⟩
        case measure => simp [intOf]; omega
      · have hb : (Z == z) = false := by simpa using hq
        have HQ : Hid (¬ cmpK r.key y = z) := Lib.hid (by rw [← HZ.out]; exact hq)
        clear hq
        go_wp2_with fail
        have hSw : Ext w0 wr.drew := HX.out.drew
        refine wpS_begin (Ext w0) (by kernel_rfl) ?_
        refine wpS_take 0 (v := ?_) hSw rfl (by kernel_rfl) (by kernel_rfl) (by kernel_rfl) (by rfl) (fun w' hin => ?_) ?_
        rotate_left
        · (try simp only [] at hin); go_simp <;> with_reducible rfl
        try simp only [Act.put, List.setIfInBounds_toArray, List.set_cons_zero, List.set_cons_succ]
        refine wpS_take 1 (v := ?_) hSw rfl (by kernel_rfl) (by kernel_rfl) (by kernel_rfl) (by rfl) (fun w' hin => ?_) ?_
        rotate_left
        · (try simp only [] at hin); go_simp <;> with_reducible rfl
        try simp only [Act.put, List.setIfInBounds_toArray, List.set_cons_zero, List.set_cons_succ]
        refine wpS_take 2 (v := ?_) hSw rfl (by kernel_rfl) (by kernel_rfl) (by kernel_rfl) (by rfl) (fun w' hin => ?_) ?_
        rotate_left
        · (try simp only [] at hin); go_simp <;> with_reducible rfl
        try simp only [Act.put, List.setIfInBounds_toArray, List.set_cons_zero, List.set_cons_succ]
        refine wpS_take 3 (v := ?_) hSw rfl (by kernel_rfl) (by kernel_rfl) (by kernel_rfl) (by rfl) (fun w' hin => ?_) ?_
        rotate_left
        · (try simp only [] at hin); go_simp <;> with_reducible rfl
        try simp only [Act.put, List.setIfInBounds_toArray, List.set_cons_zero, List.set_cons_succ]
        refine wpS_take 5 (v := ?_) hSw rfl (by kernel_rfl) (by kernel_rfl) (by kernel_rfl) (by rfl) (fun w' hin => ?_) ?_
        rotate_left
        · (try simp only [] at hin); go_simp <;> with_reducible rfl
        try simp only [Act.put, List.setIfInBounds_toArray, List.set_cons_zero, List.set_cons_succ]
        refine wpS_take 7 (v := ?_) hSw rfl (by kernel_rfl) (by kernel_rfl) (by kernel_rfl) (by rfl) (fun w' hin => ?_) ?_
        rotate_left
        · (try simp only [] at hin); go_simp <;> with_reducible rfl
        try simp only [Act.put, List.setIfInBounds_toArray, List.set_cons_zero, List.set_cons_succ]
        refine wpS_one 4 rfl (by kernel_rfl) (by rfl) (fun K hK => ?_)
        go_simp
        refine (refKey_any r C C' p f p' f' _).mono ?_
        rintro e x1 ⟨rfl, hb1⟩
        have HK1 := Lib.hid (hSw.trans hb1)
        simp only []
        refine hK.out _ _ (Ext x1) (fun _ h => HK1.out.trans h) (Ext.refl _) (fun hSw => ?_)
        clear hK K
        try simp only [Act.put, List.setIfInBounds_toArray, List.set_cons_zero, List.set_cons_succ]
        refine wpS_one 6 rfl (by kernel_rfl) (by rfl) (fun K hK => ?_)
        go_simp
        refine (refCmp03_any r.key y _ HV.out.nm hy).mono ?_
        rw [← HZ.out]
        rintro e x2 ⟨rfl, hb2⟩
        have HB2 := Lib.hid (hSw.trans hb2)
        simp only []
        refine hK.out _ _ (Ext x2) (fun _ h => hSw.trans (hb2.trans h)) (Ext.refl _) (fun hSw => ?_)
        clear hK K
        try simp only [Act.put, List.setIfInBounds_toArray, List.set_cons_zero, List.set_cons_succ]
        refine wpS_take 8 (v := ?_) hSw rfl (by kernel_rfl) (by kernel_rfl) (by kernel_rfl) (by rfl) (fun w' hin => ?_) ?_
        rotate_left
        · (try simp only [] at hin); go_simp <;> with_reducible rfl
        try simp only [Act.put, List.setIfInBounds_toArray, List.set_cons_zero, List.set_cons_succ]
        refine wpS_done (by kernel_rfl) ?_
        have GX := Lib.hid ((Ext.refl wr).drew.trans (hb1.trans (HB2.out.trans hSw)))
        have HXX := Lib.hid (HX.out.trans GX.out)
        have HWX := Lib.hid (own_up HW.out GX.out)
        have e0 : x2.cell? ⟨b, o + k * 7, none⟩ = some (.int .i64 r.kind) := d0 x2 (HX.out.trans GX.out)
        have e1 : x2.cell? ⟨b, o + k * 7 + 1, none⟩ = some (.string r.name) := d1 x2 (HX.out.trans GX.out)
        have e2 : x2.cell? ⟨b, o + k * 7 + 2, none⟩ = some (.int .i64 r.ver) := d2 x2 (HX.out.trans GX.out)
        have e3 : x2.cell? ⟨b, o + k * 7 + 3, none⟩ = some (.int .i64 r.port) := d3 x2 (HX.out.trans GX.out)
        have e4 : x2.cell? ⟨b, o + k * 7 + 4, none⟩ = some (.string r.to) := d4 x2 (HX.out.trans GX.out)
        have e5 : x2.cell? ⟨b, o + k * 7 + 5, none⟩ = some (.slice C p f) := d5 x2 (HX.out.trans GX.out)
        have e6 : x2.cell? ⟨b, o + k * 7 + 6, none⟩ = some (.slice C' p' f') := d6 x2 (HX.out.trans GX.out)
        clear d0 d1 d2 d3 d4 d5 d6 u0 u1 hSw
        have HF : Hid ((l.take (k + 1)).filter (fun x => decide (cmpK x.key y = z)) = (l.take k).filter (fun x => decide (cmpK x.key y = z))) := Lib.hid (by rw [take_snoc_of HLK.out, List.filter_append]; simp [HQ.out])
        have HW5 : Hid (x2.ownsRow w0.heap.size 34 7 (.slice Av M cv) ((l.take (k + 1)).filter (fun x => decide (cmpK x.key y = z))).length us) := Lib.hid (by rw [HF.out, ← HM.out]; exact HWX.out)
        have HU5 : Hid (RowsOf (RsQ All w00) 7 us ((l.take (k + 1)).filter (fun x => decide (cmpK x.key y = z)))) := Lib.hid (by rw [HF.out]; exact HU.out)
        go_wp2_with fail
        go_roundw
        case rel => exact ⟨k + 1, _, by omega, by go_num, HW5, HU5, HXX⟩
        case measure => simp [intOf]; omega
    · obtain rfl : k = n := by omega
      have HT : Hid (l.take k = l) := Lib.hid (List.take_of_length_le (Nat.le_of_eq HA.out.len))
      have i2 : ¬ (k : Int) < (k : Int) := by omega
      go_wp2_with fail
      go_ret
      exact ⟨.slice Av M cv, us, rfl, Lib.hid (by have hm := HM.out; rw [HT.out] at hm; rw [← hm]; exact own_base HW.out E0.out.size), Lib.hid (by have h9 := HU.out; rwa [HT.out] at h9), HE.out⟩
end Go.Proofs.YtfdjbnofcniodaaGreatDoor
