/- bytes.Clone, slices.Grow, slices.Concat at []byte and [][]byte. -/
import Derived.Test.YtjomoannlpadnaaRows
import Derived.Test.YtjomoannlpadnaaMem
namespace Go.Proofs.Ytjomoannlpadnaa
open Go.RowKit

theorem elem_byte : ElemOk Try.prog 42 5 (.int .u8 0) 1 1 := ElemOk.mk Try.underlying42 (by kernel_rfl) rfl (by omega)
theorem elem_bytes : ElemOk Try.prog 35 42 (.slice none 0 0) 1 24 := ElemOk.mk Try.underlying35 (by kernel_rfl) rfl (by omega)

set_option maxHeartbeats 400000 in
theorem clone_any (A : Option Addr) (n c : Nat) (bs : List UInt8) (w : World) (hA : Byts w A n bs) (hc : A = none → c = 0) (hn : n ≤ 140737488355328) :
    Calls Try.prog 67 #[.slice A n c] w fun e w' => ∃ v, e = .returned v ∧ w'.ownsRow w.heap.size 5 1 v n (bs.map byteV) ∧ Ext w w' := by
  have q := fun (w : World) (a : Option Addr) (n c n' c' : Nat) => Lib.run_eql_slice_nil (P := Try.prog) w 42 _ a n c n' c' Try.underlying42
  cases A with
  | none =>
    obtain rfl := hc rfl
    have h0 : n = 0 := by
      rcases Nat.eq_zero_or_pos n with h | h
      · exact h
      · obtain ⟨_, _, h', _⟩ := hA.2 h
        cases h'
    subst h0
    have hb : bs = [] := List.eq_nil_of_length_eq_zero hA.1
    subst hb
    go_enter Try.func67, Try.ntmps67
    go_wp2_with fail
    go_ret
    exact ⟨_, rfl, own_nil, Ext.refl _⟩
  | some a =>
    go_enter Try.func67, Try.ntmps67
    have hE := own_empty_lit w w.heap.size 5 1 (Nat.le_refl _)
    have hF := hA.flat.up (Ext.new w (.cells #[] 5))
    go_wp2_with (at_builtin
                 obtain ⟨v', w1, hrun, hown1, hg1, _⟩ := run_append_flat elem_byte 42 hE c hF (byteV_one bs) (by omega) (by omega) (by simp) (fun h => by cases h)
                 refine Lib.wpList_append_run _ rfl _ _ _ _ rfl _ _ rfl rfl v' w1 hrun ?_)
    go_ret
    exact ⟨_, rfl, by simpa using hown1, (Ext.new _ _).grown hg1 hE (Nat.le_refl _)⟩

set_option maxHeartbeats 400000 in
set_option maxRecDepth 100000 in
theorem grow_bytes (n : Nat) (w : World) (hn : n ≤ 1000000000000) :
    Calls Try.prog 86 #[.slice none 0 0, .int .i64 (n : Int)] w fun e w' => ∃ v, e = .returned v ∧ w'.ownsRow w.heap.size 5 1 v 0 [] ∧ Ext w w' := by
  obtain ⟨ht, ⟨i, hi, hz, hsize, hby⟩, hzs, hsz⟩ := elem_byte
  rcases Nat.eq_zero_or_pos n with h0 | h0
  · subst h0
    go_enter Try.func86, Try.ntmps86
    go_wp2_with fail
    go_ret
    exact ⟨_, rfl, own_nil, Ext.refl _⟩
  · have hrun := Lib.run_append_nil_zeros (P := Try.prog) w 42 3 42 5 i _ .i64 .i64 ht Try.underlying3 hi hz n h0 (by omega) (by omega) (by rw [hby]; omega)
    have hcap := grownCap_ge w n 0 5
    have hcm : grownCap w n 0 5 ≤ maxLen := grownCap_le_maxLen w n 0 5 (by simp only [maxLen]; omega)
    obtain ⟨C, hC⟩ : ∃ C, C = grownCap w n 0 5 := ⟨_, rfl⟩
    rw [← hC] at hrun hcap hcm
    have hown : (w.drew.alloc (.cells (Builtin.zeroCells (Value.cells (.int .u8 0)) n ++ Builtin.zeroCells (Value.cells (.int .u8 0)) (C - n)) 5)).ownsRow w.heap.size 5 1 (.slice (some ⟨w.heap.size, 0, none⟩) 0 C) 0 [] := by
      refine ⟨rfl, .inr ⟨w.heap.size, C, _, rfl, Nat.le_refl _, heap_alloc_new w.drew _, Nat.zero_le _, hcm, ?_, by simp⟩⟩
      simp [Builtin.zeroCells, Value.cells]; omega
    obtain ⟨ob, hob⟩ : ∃ ob, ob = Obj.cells (Builtin.zeroCells (Value.cells (.int .u8 0)) n ++ Builtin.zeroCells (Value.cells (.int .u8 0)) (C - n)) 5 := ⟨_, rfl⟩
    rw [← hob] at hrun hown
    have HR := Lib.hid hrun
    clear hob hC hrun ht hi hz hsize hby hzs hsz hcm hcap
    go_enter Try.func86, Try.ntmps86
    go_wp2_with (at_builtin
                 refine Lib.wpList_append_run _ rfl _ _ _ _ rfl _ _ rfl rfl _ _ HR.out ?_)
    go_ret
    exact ⟨_, rfl, hown, (Ext.refl w).drew.alloc _⟩

/-- rows of cells that lie somewhere: 'parts' (address, length, capacity) and their cells -/
theorem concat_bytes (A : Option Addr) (k c : Nat) (parts : List (Option Addr × Nat × Nat)) (news : List (List Value)) (w : World) (hA : ArrR w 1 (fun cs p => cs = [Value.slice p.1 p.2.1 p.2.2]) A k parts)
    (hl : news.length = parts.length) (hp : ∀ (i : Nat) (p : Option Addr × Nat × Nat), parts[i]? = some p → (p.1 = none → p.2.2 = 0) ∧ ∃ xs, news[i]? = some xs ∧ Flat w 1 p.1 p.2.1 xs ∧ (∀ u ∈ xs, u.oneCell' = true)) (hsum : news.flatten.length ≤ 1000000000000) (hkb : k ≤ 1000000) :
    Calls Try.prog 81 #[.slice A k c] w fun e w' => ∃ v, e = .returned v ∧ w'.ownsRow w.heap.size 5 1 v news.flatten.length news.flatten ∧ Ext w w' := by
  have hk := hA.1
  have hlen : ∀ j, j ≤ k → (news.take j).flatten.length ≤ news.flatten.length := by
    intro j _
    conv => rhs; rw [← List.take_append_drop j news, List.flatten_append, List.length_append]
    omega
  have hstep : ∀ j p, parts[j]? = some p → ∃ xs, news[j]? = some xs ∧ xs.length = p.2.1 ∧ (news.take (j + 1)).flatten = (news.take j).flatten ++ xs := by
    intro j p hj
    obtain ⟨_, xs, hx, hf, _⟩ := hp j p hj
    exact ⟨xs, hx, by simpa using hf.1, by rw [take_snoc_of hx]; simp⟩
  have Hk := Lib.hid hk
  have Hl := Lib.hid hl
  have Hstep := Lib.hid hstep
  have Hlen := Lib.hid hlen
  have Hp := Lib.hid hp
  clear hk hl hstep hlen hp
  go_enter Try.func81, Try.ntmps81
  go_wp2_with fail
  go_loop [3, 11] (fun t i => ∃ j : Nat, j ≤ k ∧ i = .int .i64 j ∧ t = .int .i64 ((news.take j).flatten.length : Nat)) (fun _ i => k - (intOf i).toNat)
  case atStart => exact ⟨0, Nat.zero_le _, rfl, rfl⟩
  case round =>
    obtain ⟨j, hj, rfl, rfl⟩ := hrel
    by_cases hlt : j < k
    · obtain ⟨b, o, ⟨pa, pn, pc⟩, cs, rfl, hbB, hpj, _, hcs, hcell⟩ := hA.at_ hlt
      obtain rfl : cs = [Value.slice pa pn pc] := hcs
      have hc1 := hcell 0 _ rfl
      simp only [Nat.mul_one, Nat.add_zero] at hc1
      obtain ⟨xs, hx, hxl, hxt⟩ : ∃ xs, news[j]? = some xs ∧ xs.length = pn ∧ (news.take (j + 1)).flatten = (news.take j).flatten ++ xs := Hstep.out j _ hpj
      have h1 := Hlen.out (j + 1) (by omega)
      have h2 : (news.take (j + 1)).flatten.length = (news.take j).flatten.length + pn := by rw [hxt, List.length_append, hxl]
      have H2 := Lib.hid h2
      obtain ⟨N, hN⟩ : ∃ N, N = (news.take j).flatten.length := ⟨_, rfl⟩
      rw [← hN] at h2 ⊢
      have h3 : N + pn ≤ 1000000000000 := by omega
      have HN := Lib.hid hN
      clear hcell hpj hx hxl hxt h1 h2 hN
      go_wp2_with fail
      go_round
      case rel => exact ⟨j + 1, by omega, by go_num, by rw [H2.out, ← HN.out]; go_num⟩
      case measure => simp [intOf]; omega
    · have hall : (news.take j).flatten = news.flatten := by rw [List.take_of_length_le (by have := Hl.out; have := Hk.out; omega)]
      rw [hall]
      clear hall
      have hsum' := hsum
      obtain ⟨N, hN⟩ : ∃ N, N = news.flatten.length := ⟨_, rfl⟩
      rw [← hN] at hsum' ⊢
      have HN := Lib.hid hN
      clear hN hsum
      go_wp2_with fail
      refine (grow_bytes N _ hsum').mono ?_
      rintro e w1 ⟨v1, rfl, hown, hb⟩
      go_wp2_with fail
      go_loopw [6, 8, 27] (fun t _ i wr => ∃ j : Nat, j ≤ k ∧ i = .int .i64 j ∧ wr.ownsRow w.heap.size 5 1 t (news.take j).flatten.length (news.take j).flatten ∧ Ext w wr) (fun _ _ i _ => k - (intOf i).toNat)
      case atStart => exact ⟨0, Nat.zero_le _, rfl, hown, hb⟩
      case round =>
        obtain ⟨j, hj, rfl, hown, hb⟩ := hrel
        by_cases hlt : j < k
        · obtain ⟨b, o, ⟨pa, pn, pc⟩, cs, rfl, hbB, hpj, _, hcs, hcell⟩ := hA.at_ hlt
          obtain rfl : cs = [Value.slice pa pn pc] := hcs
          have hc1 := hcell 0 _ rfl
          simp only [Nat.mul_one, Nat.add_zero] at hc1
          have hc2 : wr.cell? ⟨b, o + j, none⟩ = some (Value.slice pa pn pc) := (hb.cell hbB).trans hc1
          obtain ⟨hnone, xs, hx, hf, hone⟩ : (pa = none → pc = 0) ∧ ∃ xs, news[j]? = some xs ∧ Flat w 1 pa pn xs ∧ (∀ u ∈ xs, u.oneCell' = true) := Hp.out j _ hpj
          obtain ⟨xs', hx', hxl, hxt⟩ : ∃ xs, news[j]? = some xs ∧ xs.length = pn ∧ (news.take (j + 1)).flatten = (news.take j).flatten ++ xs := Hstep.out j _ hpj
          obtain rfl : xs' = xs := by rw [hx] at hx'; injection hx' with h; exact h.symm
          have h1 := Hlen.out (j + 1) (by omega)
          rw [hxt, List.length_append, hxl] at h1
          have HX := Lib.hid hxt
          have HL := Lib.hid hxl
          have hf' := hf.up hb
          have hbs := hb.size
          have hNN : news.flatten.length ≤ 1000000000000 := by rw [← HN.out]; exact hsum'
          clear hcell hpj hx hx' hxl hxt hf hc1
          go_wp2_with (at_builtin
                       obtain ⟨v', w2, hrun, hown2, hg2, _⟩ := run_append_flat elem_byte 42 hown pc hf' hone (by omega) (by omega) hbs hnone
                       refine Lib.wpList_append_run _ rfl _ _ _ _ rfl _ _ rfl rfl v' w2 hrun ?_)
          go_roundw
          case rel => exact ⟨j + 1, by omega, by go_num, by rw [HX.out, List.length_append, HL.out]; exact hown2, hb.grown hg2 hown (Nat.le_refl _)⟩
          case measure => simp [intOf]; omega
        · have hall : (news.take j).flatten = news.flatten := by rw [List.take_of_length_le (by have := Hl.out; have := Hk.out; omega)]
          rw [hall] at hown
          go_wp2_with fail
          go_ret
          exact ⟨_, rfl, hown, hb⟩

set_option maxHeartbeats 400000 in
set_option maxRecDepth 100000 in
theorem grow_slices (n : Nat) (w : World) (hn : n ≤ 1000000000000) :
    Calls Try.prog 83 #[.slice none 0 0, .int .i64 (n : Int)] w fun e w' => ∃ v, e = .returned v ∧ w'.ownsRow w.heap.size 42 1 v 0 [] ∧ Ext w w' := by
  obtain ⟨ht, ⟨i, hi, hz, hsize, hby⟩, hzs, hsz⟩ := elem_bytes
  rcases Nat.eq_zero_or_pos n with h0 | h0
  · subst h0
    go_enter Try.func83, Try.ntmps83
    go_wp2_with fail
    go_ret
    exact ⟨_, rfl, own_nil, Ext.refl _⟩
  · have hrun := Lib.run_append_nil_zeros (P := Try.prog) w 35 3 35 42 i _ .i64 .i64 ht Try.underlying3 hi hz n h0 (by omega) (by omega) (by rw [hby]; omega)
    have hcap := grownCap_ge w n 0 42
    have hcm : grownCap w n 0 42 ≤ maxLen := grownCap_le_maxLen w n 0 42 (by simp only [maxLen]; omega)
    obtain ⟨C, hC⟩ : ∃ C, C = grownCap w n 0 42 := ⟨_, rfl⟩
    rw [← hC] at hrun hcap hcm
    have hown : (w.drew.alloc (.cells (Builtin.zeroCells (Value.cells (.slice none 0 0)) n ++ Builtin.zeroCells (Value.cells (.slice none 0 0)) (C - n)) 42)).ownsRow w.heap.size 42 1 (.slice (some ⟨w.heap.size, 0, none⟩) 0 C) 0 [] := by
      refine ⟨rfl, .inr ⟨w.heap.size, C, _, rfl, Nat.le_refl _, heap_alloc_new w.drew _, Nat.zero_le _, hcm, ?_, by simp⟩⟩
      simp [Builtin.zeroCells, Value.cells]; omega
    obtain ⟨ob, hob⟩ : ∃ ob, ob = Obj.cells (Builtin.zeroCells (Value.cells (.slice none 0 0)) n ++ Builtin.zeroCells (Value.cells (.slice none 0 0)) (C - n)) 42 := ⟨_, rfl⟩
    rw [← hob] at hrun hown
    have HR := Lib.hid hrun
    clear hob hC hrun ht hi hz hsize hby hzs hsz hcm hcap
    go_enter Try.func83, Try.ntmps83
    go_wp2_with (at_builtin
                 refine Lib.wpList_append_run _ rfl _ _ _ _ rfl _ _ rfl rfl _ _ HR.out ?_)
    go_ret
    exact ⟨_, rfl, hown, (Ext.refl w).drew.alloc _⟩

/-- rows of cells that lie somewhere: 'parts' (address, length, capacity) and their cells -/
theorem concat_slices (A : Option Addr) (k c : Nat) (parts : List (Option Addr × Nat × Nat)) (news : List (List Value)) (w : World) (hA : ArrR w 1 (fun cs p => cs = [Value.slice p.1 p.2.1 p.2.2]) A k parts)
    (hl : news.length = parts.length) (hp : ∀ (i : Nat) (p : Option Addr × Nat × Nat), parts[i]? = some p → (p.1 = none → p.2.2 = 0) ∧ ∃ xs, news[i]? = some xs ∧ Flat w 1 p.1 p.2.1 xs ∧ (∀ u ∈ xs, u.oneCell' = true)) (hsum : news.flatten.length ≤ 1000000000000) (hkb : k ≤ 1000000) :
    Calls Try.prog 69 #[.slice A k c] w fun e w' => ∃ v, e = .returned v ∧ w'.ownsRow w.heap.size 42 1 v news.flatten.length news.flatten ∧ Ext w w' := by
  have hk := hA.1
  have hlen : ∀ j, j ≤ k → (news.take j).flatten.length ≤ news.flatten.length := by
    intro j _
    conv => rhs; rw [← List.take_append_drop j news, List.flatten_append, List.length_append]
    omega
  have hstep : ∀ j p, parts[j]? = some p → ∃ xs, news[j]? = some xs ∧ xs.length = p.2.1 ∧ (news.take (j + 1)).flatten = (news.take j).flatten ++ xs := by
    intro j p hj
    obtain ⟨_, xs, hx, hf, _⟩ := hp j p hj
    exact ⟨xs, hx, by simpa using hf.1, by rw [take_snoc_of hx]; simp⟩
  have Hk := Lib.hid hk
  have Hl := Lib.hid hl
  have Hstep := Lib.hid hstep
  have Hlen := Lib.hid hlen
  have Hp := Lib.hid hp
  clear hk hl hstep hlen hp
  go_enter Try.func69, Try.ntmps69
  go_wp2_with fail
  go_loop [3, 11] (fun t i => ∃ j : Nat, j ≤ k ∧ i = .int .i64 j ∧ t = .int .i64 ((news.take j).flatten.length : Nat)) (fun _ i => k - (intOf i).toNat)
  case atStart => exact ⟨0, Nat.zero_le _, rfl, rfl⟩
  case round =>
    obtain ⟨j, hj, rfl, rfl⟩ := hrel
    by_cases hlt : j < k
    · obtain ⟨b, o, ⟨pa, pn, pc⟩, cs, rfl, hbB, hpj, _, hcs, hcell⟩ := hA.at_ hlt
      obtain rfl : cs = [Value.slice pa pn pc] := hcs
      have hc1 := hcell 0 _ rfl
      simp only [Nat.mul_one, Nat.add_zero] at hc1
      obtain ⟨xs, hx, hxl, hxt⟩ : ∃ xs, news[j]? = some xs ∧ xs.length = pn ∧ (news.take (j + 1)).flatten = (news.take j).flatten ++ xs := Hstep.out j _ hpj
      have h1 := Hlen.out (j + 1) (by omega)
      have h2 : (news.take (j + 1)).flatten.length = (news.take j).flatten.length + pn := by rw [hxt, List.length_append, hxl]
      have H2 := Lib.hid h2
      obtain ⟨N, hN⟩ : ∃ N, N = (news.take j).flatten.length := ⟨_, rfl⟩
      rw [← hN] at h2 ⊢
      have h3 : N + pn ≤ 1000000000000 := by omega
      have HN := Lib.hid hN
      clear hcell hpj hx hxl hxt h1 h2 hN
      go_wp2_with fail
      go_round
      case rel => exact ⟨j + 1, by omega, by go_num, by rw [H2.out, ← HN.out]; go_num⟩
      case measure => simp [intOf]; omega
    · have hall : (news.take j).flatten = news.flatten := by rw [List.take_of_length_le (by have := Hl.out; have := Hk.out; omega)]
      rw [hall]
      clear hall
      have hsum' := hsum
      obtain ⟨N, hN⟩ : ∃ N, N = news.flatten.length := ⟨_, rfl⟩
      rw [← hN] at hsum' ⊢
      have HN := Lib.hid hN
      clear hN hsum
      go_wp2_with fail
      refine (grow_slices N _ hsum').mono ?_
      rintro e w1 ⟨v1, rfl, hown, hb⟩
      go_wp2_with fail
      go_loopw [6, 8, 27] (fun t _ i wr => ∃ j : Nat, j ≤ k ∧ i = .int .i64 j ∧ wr.ownsRow w.heap.size 42 1 t (news.take j).flatten.length (news.take j).flatten ∧ Ext w wr) (fun _ _ i _ => k - (intOf i).toNat)
      case atStart => exact ⟨0, Nat.zero_le _, rfl, hown, hb⟩
      case round =>
        obtain ⟨j, hj, rfl, hown, hb⟩ := hrel
        by_cases hlt : j < k
        · obtain ⟨b, o, ⟨pa, pn, pc⟩, cs, rfl, hbB, hpj, _, hcs, hcell⟩ := hA.at_ hlt
          obtain rfl : cs = [Value.slice pa pn pc] := hcs
          have hc1 := hcell 0 _ rfl
          simp only [Nat.mul_one, Nat.add_zero] at hc1
          have hc2 : wr.cell? ⟨b, o + j, none⟩ = some (Value.slice pa pn pc) := (hb.cell hbB).trans hc1
          obtain ⟨hnone, xs, hx, hf, hone⟩ : (pa = none → pc = 0) ∧ ∃ xs, news[j]? = some xs ∧ Flat w 1 pa pn xs ∧ (∀ u ∈ xs, u.oneCell' = true) := Hp.out j _ hpj
          obtain ⟨xs', hx', hxl, hxt⟩ : ∃ xs, news[j]? = some xs ∧ xs.length = pn ∧ (news.take (j + 1)).flatten = (news.take j).flatten ++ xs := Hstep.out j _ hpj
          obtain rfl : xs' = xs := by rw [hx] at hx'; injection hx' with h; exact h.symm
          have h1 := Hlen.out (j + 1) (by omega)
          rw [hxt, List.length_append, hxl] at h1
          have HX := Lib.hid hxt
          have HL := Lib.hid hxl
          have hf' := hf.up hb
          have hbs := hb.size
          have hNN : news.flatten.length ≤ 1000000000000 := by rw [← HN.out]; exact hsum'
          clear hcell hpj hx hx' hxl hxt hf hc1
          go_wp2_with (at_builtin
                       obtain ⟨v', w2, hrun, hown2, hg2, _⟩ := run_append_flat elem_bytes 35 hown pc hf' hone (by omega) (by omega) hbs hnone
                       refine Lib.wpList_append_run _ rfl _ _ _ _ rfl _ _ rfl rfl v' w2 hrun ?_)
          go_roundw
          case rel => exact ⟨j + 1, by omega, by go_num, by rw [HX.out, List.length_append, HL.out]; exact hown2, hb.grown hg2 hown (Nat.le_refl _)⟩
          case measure => simp [intOf]; omega
        · have hall : (news.take j).flatten = news.flatten := by rw [List.take_of_length_le (by have := Hl.out; have := Hk.out; omega)]
          rw [hall] at hown
          go_wp2_with fail
          go_ret
          exact ⟨_, rfl, hown, hb⟩

end Go.Proofs.Ytjomoannlpadnaa
