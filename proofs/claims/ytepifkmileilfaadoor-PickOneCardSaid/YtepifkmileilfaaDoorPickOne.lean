/- The law PickOne of layer 7. -/
import Derived.Test.YtepifkmileilfaaDoorPickAwake
import Derived.Test.YtepifkmileilfaaDoorRulePlain
import Derived.Test.YtepifkmileilfaaDoorRule3
import Derived.Test.YtepifkmileilfaaDoorRuleOpen
import Derived.Test.YtepifkmileilfaaDoorGround
namespace Go.Proofs.YtepifkmileilfaaDoor
set_option linter.unusedVariables false
open Go.RowKit
section
open Go.ChangeShapes Go.WideShapes Go.ChangeAt Go.RowKit
variable {H : Type} {enc : TypeId × Value → H} {w : World} {base : Nat} {spare : Nat → Bool} {held : Bool}
set_option maxRecDepth 100000 in
theorem arg_rules2 {r : Reach} {b0 : Nat} {v : Value} {d : DataW H} {p : List MemPlace} (hval : Value.okWide Tryd.prog w r b0 22 v) (h : DataW.Trod enc Tryd.prog w base spare held 22 v d p) :
    ∃ (A : Option Addr) (n c : Nat) (ys : List Ru), v = .slice A n c ∧ n ≤ c ∧ c ≤ maxLen ∧ (A = none → c = 0) ∧ ArrR w 3 (RuR w) A n ys := by
  obtain ⟨A, n, c, ys, rfl, h1, h2, h3, h4, _⟩ := arg_arr (R := RuR w) Tryd.underlying22 cells_rule (by omega) (fun n cs x hl h => open_ruR n cs x hl h) hval h
  exact ⟨A, n, c, ys, rfl, h1, h2, h3, h4⟩
end
theorem elem_rule : ElemOk Tryd.prog 22 27 (.agg #[.string ⟨#[]⟩, .string ⟨#[]⟩, .slice none 0 0]) 3 56 := ElemOk.mk Tryd.underlying22 (by kernel_rfl) rfl (by omega)
theorem one_plain (h p : ByteArray) (l : List Ru) (hh : hostB (tx h) = true) (hs : (tx h).head? ≠ some 42) (hp : pathB (tx p) = true) :
    (bestS h p (l ++ [⟨h, p, []⟩])).1 = true ∧ (bestS h p (l ++ [⟨h, p, []⟩])).2.host = h ∧ (bestS h p (l ++ [⟨h, p, []⟩])).2.pre = p ∧ beatsB ⟨h, p, []⟩ (bestS h p (l ++ [⟨h, p, []⟩])).2 = false ∧ (l = [] → (bestS h p (l ++ [⟨h, p, []⟩])).2 = ⟨h, p, []⟩) := by
  have hI := best_inv h p (l ++ [⟨h, p, []⟩])
  have hf : fitB ⟨h, p, []⟩ h p = true := by
    unfold fitB; rw [show matchB (tx h) (tx h) = true from match_self hh hs, show underB (tx p) (tx p) = true by rw [under_self]; exact hp]; rfl
  have hm : (⟨h, p, []⟩ : Ru) ∈ l ++ [⟨h, p, []⟩] := by simp
  generalize bestS h p (l ++ [⟨h, p, []⟩]) = s at hI ⊢
  cases hs1 : s.1 with
  | false => have := hI.1 hs1 _ hm; rw [hf] at this; cases this
  | true =>
    obtain ⟨⟨idx, h1, h2, h3, h4⟩, h5⟩ := hI.2 hs1
    have hb := h5 _ hm hf
    have hmem := List.mem_of_getElem? h2
    have hnb := (beats_not _ _).1 hb
    simp only at hnb
    unfold fitB at h3
    rw [Bool.and_eq_true] at h3
    obtain ⟨hma, hun⟩ := h3
    have hne : tx h ≠ [42] := fun e => hs (by rw [e]; rfl)
    have hwb : wd ⟨h, p, []⟩ = 9223372036854775807 := width_plain (take2_ne hs) hne
    have hgd := (match_good hma).1
    have hhost : s.2.host = h := by
      rcases host_cases hgd with ⟨hl, hc | ⟨hc, -⟩ | ⟨hc1, hc2, -⟩⟩
      · exfalso
        have : wd s.2 = 0 := by unfold wd; rw [hc]; rfl
        omega
      · exfalso
        have : wd s.2 = ((tx s.2.host).length : Int) := (width_star hc).1
        omega
      · rw [match_plain hgd hh hs hc1] at hma
        exact tx_inj (of_decide_eq_true hma)
    have hpre : s.2.pre = p := by
      obtain ⟨hpx, -, -⟩ := under_pre hun
      have hwe : wd s.2 = wd ⟨h, p, []⟩ := by unfold wd; rw [hhost]
      have hsz : p.size ≤ s.2.pre.size := by
        rcases Nat.lt_or_ge s.2.pre.size p.size with hlt | hge
        · exact absurd (.inr ⟨hwe, hlt⟩) hnb
        · exact hge
      exact tx_inj (hpx.eq_of_length_le (by rw [tx_len, tx_len]; exact hsz))
    refine ⟨rfl, hhost, hpre, hb, fun hl => ?_⟩
    subst hl
    simpa using hmem
theorem rowsU_one {w : World} : ∀ {us : List Value} {xs : List Ru}, RowsOf (RuR w) 3 us xs → ∀ u ∈ us, u.oneCell' = true
  | _, [], h => by rw [show _ = [] from h]; simp
  | _, x :: xs, ⟨cs, r, e, hl, h1, h2⟩ => by
    intro u hu
    rw [e] at hu
    rcases List.mem_append.1 hu with hu | hu
    · obtain ⟨B, m, d, rfl, -⟩ := h1
      simp at hu
      rcases hu with rfl | rfl | rfl <;> rfl
    · exact rowsU_one h2 u hu
theorem head_byte1 {s : ByteArray} (h : 0 < s.size) : (tx s).head? = some (s[0]'h) := by rw [List.head?_eq_getElem?]; exact byte_at h
theorem head_eq1 {s : ByteArray} (h : 0 < s.size) {b : Bool} (hb : decide ((tx s).head? = some 42) = b) : (((s[0]'h).toNat : Int) == 42) = b := by
  rw [head_byte1 h] at hb
  subst hb
  rw [Bool.eq_iff_iff, beq_iff_eq]
  simp only [Option.some.injEq, decide_eq_true_eq]
  constructor
  · rintro h1; exact UInt8.toNat_inj.1 (by have : (s[0]'h).toNat = 42 := by omega
                                           rw [this]; rfl)
  · rintro h1; rw [h1]; rfl
theorem host_pos1 {s : ByteArray} (h : hostB (tx s) = true) : 0 < s.size := by
  obtain ⟨c, r, e⟩ := host_ne h
  rw [← tx_len, e]; simp

theorem flat_k3 (w : World) (cs : List Value) (t : TypeId) {k : Nat} (h : cs.length = k) : Flat (w.alloc (.cells cs.toArray t)) k (some ⟨w.heap.size, 0, none⟩) 1 cs :=
  ⟨by rw [h, Nat.one_mul], fun _ => ⟨w.heap.size, 0, rfl, by simp, fun j u hu => by
    rw [cell_of_row _ _ _ cs.toArray t (0, 0) (heap_alloc_new w _), Nat.zero_add]; simpa using hu⟩⟩
set_option maxRecDepth 100000 in
set_option maxHeartbeats 4000000 in
theorem pickOne_any (A : Option Addr) (n c : Nat) (l : List Ru) (h p : ByteArray) (w : World) (hm : n ≤ c) (hc : c ≤ maxLen) (hc0 : A = none → c = 0) (hA : ArrR w 3 (RuR w) A n l) (hs1 : h.size ≤ maxLen) (hs2 : p.size ≤ maxLen) :
    Calls Tryd.prog 4 #[.slice A n c, .string h, .string p] w fun e w' => e = .returned (.bool true) ∧ Ext w w' := by
  have HA := Lib.hid hA
  have HC0 := Lib.hid hc0
  have HS1 := Lib.hid hs1
  have HS2 := Lib.hid hs2
  have hn : n ≤ 9223372036854775807 := by unfold maxLen at hc; omega
  clear hA hc0 hs1 hs2 hc
  go_enter Tryd.func4, Tryd.ntmps4
  go_wp2_with fail
  refine (awake07 _).mono ?_
  rintro e w1 ⟨rfl, hb1⟩
  have E1 := Lib.hid hb1
  clear hb1
  go_wp2_with fail
  refine (few07_any A n c l _ hn (rules_up HA.out E1.out)).mono ?_
  rintro e w1' ⟨rfl, rfl⟩
  cases hf : fewRB l with
  | false =>
    go_wp2_with fail
    go_ret
    exact ⟨rfl, E1.out⟩
  | true =>
  have HF := Lib.hid (fewR_true hf)
  clear hf
  by_cases h2 : 100 < h.size
  · go_wp2_with fail
    go_ret
    exact ⟨rfl, E1.out⟩
  by_cases h3 : 100 < p.size
  · go_wp2_with fail
    go_ret
    exact ⟨rfl, E1.out⟩
  go_wp2_with fail
  refine (host_any h _ HS1.out).mono ?_
  rintro e w2 ⟨rfl, hb2⟩
  have E2 := Lib.hid (E1.out.trans hb2)
  clear hb2 E1
  have E1 := E2
  cases hh : hostB (tx h) with
  | false =>
    go_wp2_with fail
    go_ret
    exact ⟨rfl, E1.out⟩
  | true =>
  have HH := Lib.hid hh
  have hpos := host_pos1 hh
  clear hh
  cases hd : decide ((tx h).head? = some 42) with
  | true =>
    have hb0 := head_eq1 hpos hd
    go_wp2_with fail
    go_ret
    exact ⟨rfl, E1.out⟩
  | false =>
  have hb0 := head_eq1 hpos hd
  have HD : Hid ((tx h).head? ≠ some 42) := Lib.hid (of_decide_eq_false hd)
  clear hd
  go_wp2_with fail
  refine (path_any p _ HS2.out).mono ?_
  rintro e w3 ⟨rfl, hb3⟩
  have E3 := Lib.hid (E2.out.trans hb3)
  clear hb3 E1
  have E1 := E3
  cases hp : pathB (tx p) with
  | false =>
    go_wp2_with fail
    go_ret
    exact ⟨rfl, E1.out⟩
  | true =>
  have HP := Lib.hid hp
  clear hp hb0 E1
  obtain ⟨us, hfl, hU⟩ := HA.out.rows (by omega)
  have HU := Lib.hid hU
  have hl40 : n ≤ 40 := by have h1 := HF.out.1; have h2 := HA.out.len; omega
  have H1 := Lib.hid (rowsU_one HU.out)
  have hE := own_empty_lit (w3.alloc (.cells #[.string h, .string p, .slice none 0 0] 27)) (w3.alloc (.cells #[.string h, .string p, .slice none 0 0] 27)).heap.size 27 3 (Nat.le_refl _)
  have hsz : (w3.alloc (.cells #[.string h, .string p, .slice none 0 0] 27)).heap.size = w3.heap.size + 1 := by simp
  rw [hsz] at hE
  have HE := Lib.hid hE
  have HFl := Lib.hid (hfl.up ((E3.out.alloc (.cells #[.string h, .string p, .slice none 0 0] 27)).alloc (.cells #[] 27)))
  clear hE hfl hU
  generalize hvl : Value.slice A n c = vl
  have HVL := Lib.hid hvl
  clear hvl
  obtain ⟨v', w4, hrun, hown4, hg4, _⟩ := run_append_flat elem_rule 22 HE.out c HFl.out H1.out (by omega) (by omega) (by simp) HC0.out
  have E4 := Lib.hid ((Ext.new (w3.alloc (.cells #[.string h, .string p, .slice none 0 0] 27)) (.cells #[] 27)).grown hg4 HE.out (by rw [hsz]; exact Nat.le_refl _))
  have K4 := Lib.hid ((E4.out.block (b := w3.heap.size) (by rw [hsz]; omega)).trans (heap_alloc_new w3 (.cells #[.string h, .string p, .slice none 0 0] 27)))
  have z4 : w3.heap.size < w4.heap.size := by have h1 := E4.out.size; rw [hsz] at h1; omega
  rw [Nat.zero_add, List.nil_append] at hown4
  have HO4 := Lib.hid hown4
  obtain ⟨q0, -⟩ := blk_rules K4.out
  obtain ⟨v6, w6, hrun6, hown6, hg6, _⟩ := run_append_flat elem_rule 22 (own_up HO4.out (Ext.new w4 (.cells #[.string h, .string p, .slice none 0 0] 27))) 1 (flat_k3 w4 [.string h, .string p, .slice none 0 0] 27 rfl) (by simp [Value.oneCell']) (by omega) (by omega) (by rw [World.size_alloc]; omega) (fun h => by cases h)
  have E6 := Lib.hid ((E4.out.alloc _).grown hg6 (own_up HO4.out (Ext.new w4 (.cells #[.string h, .string p, .slice none 0 0] 27))) (by rw [hsz]; exact Nat.le_refl _))
  have K6 := Lib.hid ((E6.out.block (b := w3.heap.size) (by rw [hsz]; omega)).trans (heap_alloc_new w3 (.cells #[.string h, .string p, .slice none 0 0] 27)))
  have z6 : w3.heap.size < w6.heap.size := by have h1 := E6.out.size; rw [hsz] at h1; omega
  obtain ⟨A6, c6, e6, hn6, hc6, -, hfl6⟩ := own_flat hown6
  have hRb : RuR w [.string h, .string p, .slice none 0 0] ⟨h, p, []⟩ := ⟨none, 0, 0, rfl, HS1.out, HS2.out, Nat.zero_le _, ArrR.nil_⟩
  have hrows : RowsOf (RuR w) 3 (us ++ [.string h, .string p, .slice none 0 0]) (l ++ [⟨h, p, []⟩]) := RowsOf.snoc rfl hRb HU.out
  have HA6 : Hid (ArrR w6 3 (RuR w) A6 (n + 1) (l ++ [⟨h, p, []⟩])) := Lib.hid (hfl6.arrQ (S := fun _ => True) hrows (by omega) (fun _ _ _ _ => trivial)).arr
  subst e6
  rw [HVL.out] at hrun
  have HR4 := Lib.hid hrun
  have HR6 := Lib.hid hrun6
  clear hRb hrows hown4 hown6 hfl6 hg4 hg6 hrun hrun6 hc6 hn6
  go_wp2_with (first
    | (refine Lib.wpList_append_run _ rfl _ _ _ _ rfl _ _ rfl rfl v' w4 HR4.out ?_)
    | (refine Lib.wpList_append_run _ rfl _ _ _ _ rfl _ _ rfl rfl _ w6 HR6.out ?_))
  refine (rule_any h p A6 (n + 1) c6 (l ++ [⟨h, p, []⟩]) w w6 HS1.out HS2.out (by omega) HA6.out).mono ?_
  have hpl := one_plain h p l HH.out HD.out HP.out
  generalize bestS h p (l ++ [⟨h, p, []⟩]) = s at hpl ⊢
  obtain ⟨fd, rh, rp, rws⟩ := s
  obtain ⟨e1, e2, e3, hbt, hnl⟩ := hpl
  dsimp only at e1 e2 e3 hbt hnl
  obtain rfl := e1.symm
  obtain rfl := e2.symm
  obtain rfl := e3.symm
  rintro e w7 ⟨Ar, nr, cr, rfl, hrv, hb7⟩
  have HRV := Lib.hid hrv
  have HNL := Lib.hid hnl
  have HBT := Lib.hid hbt
  have K7 := Lib.hid ((hb7.block z6).trans K6.out)
  have z7 := Nat.lt_of_lt_of_le z6 hb7.size
  have E7 := Lib.hid (((E3.out.alloc _).trans E6.out).trans hb7)
  clear hb7 hrv hnl hbt q0
  rw [← HVL.out]
  clear HVL
  have hnr : nr ≤ 9223372036854775807 := by have h1 := HRV.out.2.2.1; unfold maxLen at h1; exact h1
  have E8 := Lib.hid (E7.out.alloc (.cells #[.string h, .string p, .slice Ar nr cr] 27))
  have K8 := Lib.hid (((Ext.new w7 (.cells #[.string h, .string p, .slice Ar nr cr] 27)).block z7).trans K7.out)
  obtain ⟨q0, -⟩ := blk_rules K7.out
  go_wp2_with fail
  refine (beats_any ⟨h, p, []⟩ ⟨h, p, rws⟩ none Ar 0 0 nr cr _ HS1.out HS1.out).mono ?_
  rintro e w8 ⟨rfl, hb8⟩
  rw [HBT.out]
  have KR := Lib.hid (box1b hb8).1
  have KB := Lib.hid ((hb8.block (b := w3.heap.size) (by simp; omega)).trans K8.out)
  have E9 := Lib.hid (E8.out.trans hb8)
  clear hb8 q0
  by_cases hn0 : 0 < n
  · go_wp2_with fail
    go_ret
    exact ⟨rfl, E9.out⟩
  · obtain rfl : n = 0 := by omega
    have hl0 : l = [] := List.eq_nil_of_length_eq_zero HA.out.len
    have HE0 : Hid ((⟨h, p, rws⟩ : Ru) = ⟨h, p, []⟩) := Lib.hid (HNL.out hl0)
    clear hl0
    obtain ⟨q0, -⟩ := blk_rules KR.out
    obtain ⟨q1, -⟩ := blk_rules KB.out
    go_wp2_with fail
    refine (same07_some ⟨h, p, rws⟩ ⟨h, p, []⟩ Ar none nr cr 0 0 w _ E9.out hnr (by omega) HRV.out.2.2.2 ArrR.nil_).mono ?_
    rintro e w9 ⟨v, rfl, hv, -, hb9⟩
    obtain rfl : v = true := hv HE0.out
    clear hv
    go_wp2_with fail
    go_ret
    exact ⟨rfl, E9.out.trans hb9⟩
end Go.Proofs.YtepifkmileilfaaDoor
