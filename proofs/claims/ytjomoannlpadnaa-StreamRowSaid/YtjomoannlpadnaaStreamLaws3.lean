/- The law StreamRow: its walk. -/
import Derived.Test.YtjomoannlpadnaaStreamLaw
import Derived.Outline
namespace Go.Proofs.Ytjomoannlpadnaa
set_option linter.unusedVariables false
open Go.RowKit
attribute [local go_sem ↓] run_max2 run_min2

set_option maxRecDepth 100000 in
set_option maxHeartbeats 400000 in
theorem streamRow_long (A Ab : Option Addr) (n c nb cb : Nat) (k : Int) (w : World) (h : 20 < n ∨ 300 < nb) : Calls Try.prog 19 #[.slice A n c, .slice Ab nb cb, .int .i64 k] w fun e w' => e = .returned (.bool true) ∧ Ext w w' := by
  by_cases h1 : 20 < n
  · go_enter Try.func19, Try.ntmps19
    go_wp2_with fail
    refine (awake11 _).mono ?_
    rintro e w1 ⟨rfl, hb1⟩
    go_wp2_with fail
    go_ret
    exact ⟨rfl, hb1⟩
  · have h2 : 300 < nb := by omega
    clear h
    go_enter Try.func19, Try.ntmps19
    go_wp2_with fail
    refine (awake11 _).mono ?_
    rintro e w1 ⟨rfl, hb1⟩
    go_wp2_with fail
    go_ret
    exact ⟨rfl, hb1⟩

def rowB (q : List (List UInt8)) : List UInt8 := (q.map encT).flatten
theorem rowB_snoc (q : List (List UInt8)) (p : List UInt8) : rowB (q ++ [p]) = rowB q ++ encT p := by unfold rowB; simp
theorem rowB_len (q : List (List UInt8)) (h : ∀ p ∈ q, p.length ≤ 300) : (rowB q).length ≤ q.length * 302 := by
  induction q with
  | nil => simp [rowB]
  | cons p q ih =>
    have h1 := ih (fun x hx => h x (by simp [hx]))
    have h2 := h p (by simp)
    have h3 := enc_small h2
    have h4 := encT_len p
    have h5 : rowB (p :: q) = encT p ++ rowB q := by unfold rowB; simp
    rw [h5, List.length_append, List.length_cons]
    omega

set_option maxRecDepth 100000 in
set_option maxHeartbeats 4000000 in
theorem streamRow_any (A Ab : Option Addr) (n c nb cb : Nat) (q : List (List UInt8)) (ms : List UInt8) (k : Int) (w : World) (hA : QR w A n q) (hB : Byts w Ab nb ms) (hcb : Ab = none → cb = 0) (hn : n ≤ 20) (hnb : nb ≤ 300) :
    Calls Try.prog 19 #[.slice A n c, .slice Ab nb cb, .int .i64 k] w fun e w' => e = .returned (.bool true) ∧ Ext w w' := by
  have HA := Lib.hid hA
  have HB := Lib.hid hB
  clear hA hB
  have hn' : ¬ 20 < n := by omega
  have hnb' : ¬ 300 < nb := by omega
  obtain ⟨r, hr, hand0⟩ := and_mask k 65535 (by omega)
  have hand : bits BinOp.and IntKind.i64 k 65535 = (r : Int) := hand0
  clear hand0
  go_enter Try.func19, Try.ntmps19
  go_wp2_with fail
  refine (awake11 _).mono ?_
  rintro e w1 ⟨rfl, hb1⟩
  have E1 := Lib.hid hb1
  clear hb1
  go_wp2_with fail
  go_loopw [8, 9] (fun t i wr => ∃ j : Nat, j ≤ n ∧ i = .int .i64 j ∧ Hid (∀ p ∈ q.take j, p.length ≤ 300) ∧ (∃ m, m ≤ j * 302 ∧ wr.ownsRow w.heap.size 5 1 t m ((rowB (q.take j)).map byteV)) ∧ Hid (Ext w wr)) (fun _ i _ => n - (intOf i).toNat)
  case atStart => exact ⟨0, Nat.zero_le _, rfl, Lib.hid (by simp), ⟨0, by omega, own_nil⟩, E1⟩
  case round =>
    obtain ⟨j, hj, rfl, HP, ⟨m, hm, hown⟩, HX⟩ := hrel
    have hsz := HX.out.size
    by_cases hlt : j < n
    · obtain ⟨b, o, A4, n4, c4, p, rfl, hbl, hqj, hcell, hz4, _, _, hB4⟩ := HA.out.at_ hlt
      have c0 := (HX.out.cell hbl).trans hcell
      have hl4 := hB4.len
      have HB4 := Lib.hid (ArrR.up hB4 HX.out)
      have HQ := Lib.hid hqj
      clear hcell hB4 hqj
      by_cases hbig : 300 < n4
      · clear hl4
        go_wp2_with fail
        go_ret
        exact ⟨rfl, HX.out⟩
      · have HN : Hid (∀ x ∈ q.take (j + 1), x.length ≤ 300) := Lib.hid (by
          rw [take_snoc_of HQ.out]
          intro x hx
          rcases List.mem_append.1 hx with hx | hx
          · exact HP.out x hx
          · have : x = p := by simpa using hx
            subst this
            omega)
        have HWr : Hid (wrap8 p = (encT p, 0)) := Lib.hid (by unfold wrap8; rw [if_neg (by omega)])
        have HEL : Hid ((encT p).length ≤ 302) := Lib.hid (by have := encT_len p; have := enc_small (n := p.length) (by omega); omega)
        clear hl4
        go_wp2_with fail
        refine (wrap_any A4 n4 c4 p _ HB4.out hz4).mono ?_
        rintro e w2 ⟨A5, n5, c5, rfl, h8, hb2⟩
        rw [HWr.out] at h8 ⊢
        simp only [] at h8 ⊢
        have hl5 := h8.2.2.2.1.len
        have hn5 : n5 ≤ 302 := by have := HEL.out; omega
        have hown2 := own_up hown hb2
        have hsz2 : w.heap.size ≤ w2.heap.size := (HX.out.trans hb2).size
        have H8 := Lib.hid h8
        have HB2 := Lib.hid hb2
        clear h8 hb2 hl5 hown
        go_wp2_with (at_builtin
                     obtain ⟨v6, w6, hrun, hown6, hg6, _⟩ := run_append_flat elem_byte 42 hown2 c5 (ArrR.flat (f := byteV) H8.out.2.2.2.1) (byteV_one (encT p)) (by omega) (by omega) hsz2 H8.out.1
                     have HG6 := Lib.hid hg6
                     refine Lib.wpList_append_run _ rfl _ _ _ _ rfl _ _ rfl rfl v6 w6 hrun ?_
                     clear hrun hg6)
        rw [← List.map_append] at hown6
        go_roundw
        case rel => exact ⟨j + 1, by omega, by go_num, HN, ⟨m + n5, by omega, by rw [take_snoc_of HQ.out, rowB_snoc]; exact hown6⟩, (HX.out.trans HB2.out).grown HG6.out hown2 (Nat.le_refl _)⟩
        case measure => simp [intOf]; omega
    · obtain rfl : j = n := by omega
      have hqn : q.take j = q := List.take_of_length_le (by rw [HA.out.len]; exact Nat.le_refl _)
      rw [hqn] at HP hown
      clear hqn
      have hml := HB.out.len
      have HWr : Hid (wrap8 ms = (encT ms, 0)) := Lib.hid (by unfold wrap8; rw [if_neg (by omega)])
      obtain ⟨L, hL⟩ : ∃ L, L = (encT ms).length := ⟨_, rfl⟩
      have hL2 : L = nb + 1 ∨ L = nb + 2 := by
        have h1 := encT_len ms
        have h2 := enc_small (n := ms.length) (by omega)
        have h3 := enc_pos ms.length
        omega
      have HL := Lib.hid hL
      clear hml hL
      go_wp2_with fail
      refine (wrap_any Ab nb cb ms _ (ArrR.up HB.out HX.out) hcb).mono ?_
      rintro e w2 ⟨A5, n5, c5, rfl, h8, hb2⟩
      rw [HWr.out] at h8 ⊢
      simp only [] at h8 ⊢
      obtain rfl : n5 = L := by rw [HL.out]; exact h8.2.2.2.1.len.symm
      obtain ⟨J, hJ⟩ : ∃ J, J = r % n5 := ⟨_, rfl⟩
      have hJL : J < n5 := by rw [hJ]; exact Nat.mod_lt _ (by omega)
      have hmod : (r : Int) % (n5 : Int) = (J : Int) := by rw [hJ]; exact (Int.natCast_emod r n5).symm
      have hn5c : n5 ≤ c5 := h8.2.1
      have H8 := Lib.hid h8
      have HB2 := Lib.hid hb2
      have hown2 := own_up hown hb2
      have hsz2 : w.heap.size ≤ w2.heap.size := (HX.out.trans hb2).size
      have i0 : (0 : Int) ≤ (J : Int) := by omega
      have i1 : (J : Int) ≤ (n5 : Int) := by omega
      have i2 : (J : Int) ≤ (c5 : Int) := by omega
      have HPT := Lib.hid (byts_take h8.2.2.2.1 (Nat.le_of_lt hJL))
      have HOWN := Lib.hid hown
      clear h8 hb2 hJ hown
      have fin : ∀ v6 w6, w6.ownsRow w.heap.size 5 1 v6 (m + J) ((rowB q).map byteV ++ ((encT ms).take J).map byteV) → ∃ A6 c6, v6 = .slice A6 (m + J) c6 ∧ Own8 w.heap.size w6 A6 (m + J) c6 (rowB q ++ (encT ms).take J) := fun v6 w6 h => by rw [← List.map_append] at h; exact Own8.of_own h
      have HFIN := Lib.hid fin
      clear fin
      have hn5b : n5 ≤ 302 := by omega
      have HPE : Hid (Elem w2 (fun b => u8.ownBlock = some b) (.slice A5 J c5) ((encT ms).take J)) := Lib.hid (by
        have h1 : Own8 wr.heap.size w2 A5 J c5 ((encT ms).take J) := ⟨H8.out.1, by omega, H8.out.2.2.1, HPT.out, H8.out.2.2.2.2⟩
        exact h1.elem (fun b hb => (HOWN.out.lt b hb).2))
      have hne : (((n5 : Int) != (nb : Int) + 1) = false) ∨ (((n5 : Int) != (nb : Int) + 1) = true ∧ ((n5 : Int) != (nb : Int) + 2) = false) := by
        rcases hL2 with h | h
        · left; simp; omega
        · right; refine ⟨?_, ?_⟩ <;> simp <;> omega
      clear hL2
      rcases hne with hne | ⟨hne, hne2⟩
      all_goals
        go_wp2_with (at_builtin
                     obtain ⟨v6, w6, hrun, hown6, hg6, _⟩ := run_append_flat elem_byte 42 hown2 c5 (ArrR.flat (f := byteV) HPT.out) (byteV_one _) (by omega) (by omega) hsz2 H8.out.1
                     have HE6 := Lib.hid ((HX.out.trans HB2.out).grown hg6 hown2 (Nat.le_refl _))
                     have HPE6 := Lib.hid (HPE.out.but hg6 (fun b e => e))
                     obtain ⟨A6, c6, rfl, h86⟩ := HFIN.out _ _ hown6
                     have HG6 := Lib.hid hg6
                     have HO6 := Lib.hid hown2
                     refine Lib.wpList_append_run _ rfl _ _ _ _ rfl _ _ rfl rfl _ w6 hrun ?_
                     clear hrun hown6 hg6)
        clear hown2 hmod
        refine (feed_any none A6 0 0 (m + J) c6 B0 (rowB q ++ (encT ms).take J) _ ArrR.nil_ (fun _ => rfl) (Nat.le_refl _) (by omega) h86.2.2.2.1 h86.1 (by omega)).mono ?_
        rintro e w7 ⟨A7, n7, c7, v7, rfl, he7, ⟨base7, F7, _, _, ho7⟩, hb7⟩
        have hdr : B0.feed (rowB q ++ (encT ms).take J) = (⟨(encT ms).take J, 0⟩, q) := by
          rw [feed0]
          unfold rowB
          rw [drain_row q (fun p hp => by have := HP.out p hp; omega) _ (next_part (by have := HB.out.len; omega) (by rw [← HL.out]; exact hJL))]
        rw [hdr] at he7 ho7 ⊢
        simp only [] at he7 ho7 ⊢
        obtain ⟨hA7, hn7, hc7, hB7⟩ := he7.byts
        obtain ⟨A8, c8, rfl, hA8, hn8, hc8, hQ8⟩ := ho7.read
        have HB7 := Lib.hid hB7
        have HQ8 := Lib.hid hQ8
        have HX7 := Lib.hid (HE6.out.trans hb7)
        have HP7 := Lib.hid (HPE6.out.up hb7)
        have hql := HA.out.len
        clear he7 ho7 hB7 hQ8 hb7 hdr h86
        go_wp2_with fail
        rw [hql]
        rw [hql] at HQ8
        refine (texts11 A8 A _ _ c8 c q _ (HQ8.out.up (Ext.new _ _)) (HA.out.up (HX7.out.alloc _)) (by omega)).mono ?_
        rintro e w9 ⟨rfl, hb9⟩
        have hx9 := (Ext.alloc (Ext.refl w7) (.cells #[.slice A7 n7 c7, .int .i64 0] 86)).trans hb9
        obtain ⟨q0, -⟩ := blk_rules ((hb9.block (b := w7.heap.size) (by simp)).trans (heap_alloc_new w7 _))
        have hz9 := (box1b hb9).2
        have g1 := conv11 (ArrR.up HB7.out hx9) c7
        have g2 := conv11 (ArrR.up HP7.out.byts.2.2.2 hx9) c5
        have HX9 := Lib.hid (HX7.out.trans hx9)
        clear hb9 hx9 hql
        go_wp2_with fail
        go_ret
        exact ⟨rfl, HX9.out⟩
end Go.Proofs.Ytjomoannlpadnaa
