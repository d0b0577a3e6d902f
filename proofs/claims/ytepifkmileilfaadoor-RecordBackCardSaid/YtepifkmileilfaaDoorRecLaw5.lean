/- The law RecordBack of layer 4. -/
import Derived.Test.YtepifkmileilfaaDoorRecLaw4
import Derived.Test.YtepifkmileilfaaDoorRecLaw3
namespace Go.Proofs.YtepifkmileilfaaDoor
set_option linter.unusedVariables false
open Go.RowKit

theorem fil_snoc {α : Type} {p : α → Bool} {l : List α} {k : Nat} {x : α} (h : l[k]? = some x) (hp : p x = true) : (l.take (k + 1)).filter p = (l.take k).filter p ++ [x] := by
  rw [take_snoc_of h, List.filter_append]; simp [hp]
theorem fil_skip {α : Type} {p : α → Bool} {l : List α} {k : Nat} {x : α} (h : l[k]? = some x) (hp : p x = false) : (l.take (k + 1)).filter p = (l.take k).filter p := by
  rw [take_snoc_of h, List.filter_append]; simp [hp]
theorem fil_next {α : Type} {p : α → Bool} {l : List α} {k : Nat} {x : α} (h : l[k]? = some x) (hp : p x = true) : (l.filter p)[((l.take k).filter p).length]? = some x := by
  have h1 : l = l.take k ++ (x :: l.drop (k + 1)) := by
    have hk : k < l.length := (List.getElem?_eq_some_iff.1 h).1
    have hx : l[k] = x := (List.getElem?_eq_some_iff.1 h).2
    rw [← hx, ← List.drop_eq_getElem_cons hk, List.take_append_drop]
  have h2 : l.filter p = (l.take k).filter p ++ (x :: l.drop (k + 1)).filter p := by rw [← List.filter_append, ← h1]
  rw [h2, List.getElem?_append_right (Nat.le_refl _), Nat.sub_self]
  simp [hp]
theorem fil_le {α : Type} (p : α → Bool) (l : List α) (k : Nat) : ((l.take k).filter p).length ≤ (l.filter p).length ∧ ((l.take k).filter p).length ≤ k := by
  refine ⟨?_, ?_⟩
  · conv => rhs; rw [← List.take_append_drop k l]
    rw [List.filter_append, List.length_append]; omega
  · exact Nat.le_trans (List.length_filter_le _ _) (by rw [List.length_take]; omega)
theorem Only.keepNe' {w w' : World} {g : Nat} (h : Only g w w') : Keep (fun b => g < b) w w' := ⟨h.size, fun b o hb hS => h.cell hb (by omega)⟩
theorem fil_mem {α : Type} {p : α → Bool} {l : List α} {j : Nat} {x : α} (h : (l.filter p)[j]? = some x) : p x = true := (List.mem_filter.1 (List.mem_of_getElem? h)).2

set_option maxRecDepth 100000 in
set_option maxHeartbeats 4000000 in
theorem recordBack_any (A : Option Addr) (n c : Nat) (l : List Rs) (B : Option Addr) (p d : Nat) (ks : List Ky) (A2 : Option Addr) (n2 c2 : Nat) (bs : List UInt8) (w : World) (hsl : SlW A n c) (hA : ResL (fun _ => True) w A n l) (hsk : SlW B p d) (hK : KeyL (fun _ => True) w B p ks) (hb : Byts w A2 n2 bs) (hc2 : A2 = none → c2 = 0) (hnc2 : n2 ≤ c2) (hcm2 : c2 ≤ 9223372036854775807) :
    Calls Tryd.prog 13 #[.slice A n c, .slice B p d, .slice A2 n2 c2] w fun e w' => e = .returned (.bool true) ∧ Ext w w' := by
  have HA := Lib.hid hA
  have HSL := Lib.hid hsl
  have HSK := Lib.hid hsk
  have HK := Lib.hid hK
  have HB := Lib.hid hb
  have HC := Lib.hid hc2
  have hnm : n ≤ maxLen := Nat.le_trans hsl.1 hsl.2.1
  have hnm' : n ≤ 9223372036854775807 := by unfold maxLen at hnm; exact hnm
  have hpm' : p ≤ 9223372036854775807 := by have := Nat.le_trans hsk.1 hsk.2.1; unfold maxLen at this; exact this
  clear hA hsl hsk hK hb hc2
  go_enter Tryd.func13, Tryd.ntmps13
  go_wp2_with fail
  refine (awake04 _).mono ?_
  rintro e w1 ⟨rfl, hb1⟩
  have E1 := Lib.hid hb1
  clear hb1
  go_wp2_with fail
  refine (few04_any (fun _ => True) l A n c _ hnm (ResL.keep HA.out E1.out.keep)).mono ?_
  rintro e w2 ⟨v, rfl, hv, hb2⟩
  have E2 := Lib.hid (E1.out.trans hb2)
  clear hb2
  cases v with
  | false =>
    go_wp2_with fail
    go_ret
    exact ⟨rfl, E2.out⟩
  | true =>
  clear hv
  by_cases h1 : 60 < p
  · go_wp2_with fail
    go_ret
    exact ⟨rfl, E2.out⟩
  by_cases h2 : 200 < n2
  · go_wp2_with fail
    go_ret
    exact ⟨rfl, E2.out⟩
  by_cases h3 : 60 < n
  · go_wp2_with fail
    go_ret
    exact ⟨rfl, E2.out⟩
  go_wp2_with fail
  go_loopw [8, 9] (fun wv i wr => ∃ (k : Nat) (us : List Value), k ≤ n ∧ i = .int .i64 k ∧ Hid (wr.ownsRow w2.heap.size 36 7 wv ((l.take k).filter okR).length us) ∧ Hid (RowsOf (RsQ (fun _ => True) w) 7 us ((l.take k).filter okR)) ∧ Hid (Ext w2 wr)) (fun _ i _ => n - (intOf i).toNat)
  case atStart => exact ⟨0, [], by omega, by go_num, Lib.hid (by simpa using own_nil), Lib.hid (show RowsOf (RsQ (fun _ => True) w) 7 [] [] from rfl), Lib.hid (Ext.refl _)⟩
  case round =>
    obtain ⟨k, us, hk, rfl, HW, HU, HE⟩ := hrel
    by_cases hlt : k < n
    · obtain ⟨b, off, r, C, m, f, C', m', f', rfl, hbl0, -, hx, hv, d0, d1, d2, d3, d4, d5, d6⟩ := ResL.at_ HA.out hlt
      have HV := Lib.hid hv
      have HX := Lib.hid hx
      have EWR := Lib.hid (E2.out.trans HE.out)
      have hbl : b < wr.heap.size := Nat.lt_of_lt_of_le hbl0 EWR.out.size
      have hcnt := (fil_le okR l k).2
      have t0 : wr.cell? ⟨b, off + k * 7, none⟩ = some (.int .i64 r.kind) := (EWR.out.cell hbl0).trans d0
      have t1 : wr.cell? ⟨b, off + k * 7 + 1, none⟩ = some (.string r.name) := (EWR.out.cell hbl0).trans d1
      have t2 : wr.cell? ⟨b, off + k * 7 + 2, none⟩ = some (.int .i64 r.ver) := (EWR.out.cell hbl0).trans d2
      have t3 : wr.cell? ⟨b, off + k * 7 + 3, none⟩ = some (.int .i64 r.port) := (EWR.out.cell hbl0).trans d3
      have t4 : wr.cell? ⟨b, off + k * 7 + 4, none⟩ = some (.string r.to) := (EWR.out.cell hbl0).trans d4
      have t5 : wr.cell? ⟨b, off + k * 7 + 5, none⟩ = some (.slice C m f) := (EWR.out.cell hbl0).trans d5
      have t6 : wr.cell? ⟨b, off + k * 7 + 6, none⟩ = some (.slice C' m' f') := (EWR.out.cell hbl0).trans d6
      clear hx hv d0 d1 d2 d3 d4 d5 d6
      go_wp2_with fail
      refine (resSane_any (fun _ => True) r C C' m f m' f' _ (HV.out.up EWR.out)).mono ?_
      rintro e w4 ⟨rfl, hb4⟩
      have E4 := Lib.hid (HE.out.trans hb4)
      have HW4 := Lib.hid (own_up HW.out hb4)
      have hbl4 := Nat.lt_of_lt_of_le hbl hb4.size
      have u0 : w4.cell? ⟨b, off + k * 7, none⟩ = some (.int .i64 r.kind) := (hb4.cell hbl).trans t0
      have u1 : w4.cell? ⟨b, off + k * 7 + 1, none⟩ = some (.string r.name) := (hb4.cell hbl).trans t1
      have u2 : w4.cell? ⟨b, off + k * 7 + 2, none⟩ = some (.int .i64 r.ver) := (hb4.cell hbl).trans t2
      have u3 : w4.cell? ⟨b, off + k * 7 + 3, none⟩ = some (.int .i64 r.port) := (hb4.cell hbl).trans t3
      have u4 : w4.cell? ⟨b, off + k * 7 + 4, none⟩ = some (.string r.to) := (hb4.cell hbl).trans t4
      have u5 : w4.cell? ⟨b, off + k * 7 + 5, none⟩ = some (.slice C m f) := (hb4.cell hbl).trans t5
      have u6 : w4.cell? ⟨b, off + k * 7 + 6, none⟩ = some (.slice C' m' f') := (hb4.cell hbl).trans t6
      clear t0 t1 t2 t3 t4 t5 t6 hb4
      obtain ⟨v, hv⟩ : ∃ v, v = saneR r := ⟨_, rfl⟩
      rw [← hv]
      have HVS := Lib.hid hv
      clear hv
      by_cases hs : v = 0
      · have hs1 : (v == 0) = true := by simpa using hs
        have hok : okR r = true := (okR_iff r).2 (HVS.out.symm.trans hs)
        have HFS : Hid ((l.take (k + 1)).filter okR = (l.take k).filter okR ++ [r]) := Lib.hid (fil_snoc HX.out hok)
        clear hs hok
        have HFk := Lib.hid (flat_k w4 [.int .i64 r.kind, .string r.name, .int .i64 r.ver, .int .i64 r.port, .string r.to, .slice C m f, .slice C' m' f'] 36 rfl)
        go_wp2_with (at_builtin
                     obtain ⟨v', w5, hrun, hown5, hg5, _⟩ := run_append_flat elem_res 48 (own_up HW4.out (Ext.new w4 (.cells #[.int .i64 r.kind, .string r.name, .int .i64 r.ver, .int .i64 r.port, .string r.to, .slice C m f, .slice C' m' f'] 36))) 1 HFk.out (by simp [Value.oneCell']) (by omega) (by omega) (by have h9 := E4.out.size; rw [World.size_alloc]; omega) (fun h => by cases h)
                     refine Lib.wpList_append_run _ rfl _ _ _ _ rfl _ _ rfl rfl v' w5 hrun ?_)
        have E5 : Hid (Ext w2 w5) := Lib.hid ((E4.out.alloc (.cells #[.int .i64 r.kind, .string r.name, .int .i64 r.ver, .int .i64 r.port, .string r.to, .slice C m f, .slice C' m' f'] 36)).grown hg5 (own_up HW4.out (Ext.new w4 (.cells #[.int .i64 r.kind, .string r.name, .int .i64 r.ver, .int .i64 r.port, .string r.to, .slice C m f, .slice C' m' f'] 36))) (Nat.le_refl _))
        have HW5 : Hid (w5.ownsRow w2.heap.size 36 7 v' ((l.take (k + 1)).filter okR).length (us ++ [.int .i64 r.kind, .string r.name, .int .i64 r.ver, .int .i64 r.port, .string r.to, .slice C m f, .slice C' m' f'])) := Lib.hid (by rw [HFS.out, List.length_append]; exact hown5)
        have hRr : RsQ (fun _ => True) w [.int .i64 r.kind, .string r.name, .int .i64 r.ver, .int .i64 r.port, .string r.to, .slice C m f, .slice C' m' f'] r := ⟨_, _, _, _, _, _, rfl, HV.out⟩
        have HU5 : Hid (RowsOf (RsQ (fun _ => True) w) 7 (us ++ [.int .i64 r.kind, .string r.name, .int .i64 r.ver, .int .i64 r.port, .string r.to, .slice C m f, .slice C' m' f']) ((l.take (k + 1)).filter okR)) := Lib.hid (by rw [HFS.out]; exact RowsOf.snoc rfl hRr HU.out)
        clear hRr hown5 hg5 hrun u0 u1 u2 u3 u4 u5 u6
        go_wp2_with fail
        go_roundw
        case rel => exact ⟨k + 1, _, by omega, by go_num, HW5, HU5, E5⟩
        case measure => simp [intOf]; omega
      · have hs1 : (v == 0) = false := by simpa using hs
        have hok : okR r = false := by
          cases h : okR r with
          | false => rfl
          | true => exact absurd (HVS.out.trans ((okR_iff r).1 h)) hs
        have HFS : Hid ((l.take (k + 1)).filter okR = (l.take k).filter okR) := Lib.hid (fil_skip HX.out hok)
        clear hs hok u0 u1 u2 u3 u4 u5 u6
        have hw5 := HW4.out
        rw [← HFS.out] at hw5
        have HW5 := Lib.hid hw5
        clear hw5
        have HU5 : Hid (RowsOf (RsQ (fun _ => True) w) 7 us ((l.take (k + 1)).filter okR)) := Lib.hid (by rw [HFS.out]; exact HU.out)
        go_wp2_with fail
        go_roundw
        case rel => exact ⟨k + 1, _, by omega, by go_num, HW5, HU5, E4⟩
        case measure => simp [intOf]; omega
    · obtain rfl : n = k := by omega
      have EWR := Lib.hid (E2.out.trans HE.out)
      have HT : Hid ((l.take n).filter okR = l.filter okR) := Lib.hid (by rw [List.take_of_length_le (Nat.le_of_eq HA.out.len)])
      obtain ⟨Aw, cw, rfl, hw1, hw2, hw3, hwF⟩ := own_flat HW.out
      obtain ⟨N0, hN0⟩ : ∃ N0, N0 = ((l.take n).filter okR).length := ⟨_, rfl⟩
      have hN60 : N0 ≤ 60 := by have h9 := (fil_le okR l n).2; omega
      rw [← hN0] at hwF hw1
      rw [← hN0]
      have HLW : Hid (ArrQ (fun _ => True) wr 7 (RsQ (fun _ => True) w) Aw N0 (l.filter okR)) := Lib.hid (by have h9 := hwF.arrQ (S := fun _ => True) HU.out (by omega) (fun _ _ _ _ => trivial); rwa [HT.out] at h9)
      have HF64 : Hid ((l.filter okR).take 64 = l.filter okR) := Lib.hid (List.take_of_length_le (by rw [HLW.out.len]; omega))
      clear hwF hw1 hw2 hw3 hN0 HW HU
      go_wp2_with fail
      refine ((putAll_any (fun _ => True) none 0 0 [] A n c l _ ArrR.nil_ (fun _ => rfl) (by omega) HSL.out (by omega) (ResL.keep HA.out EWR.out.keep)).mono fun _ _ h => LayN.of h).mono ?_
      rintro e w5 ⟨Q, M, h, rfl, HM, HCq, HBq, HOq, hb5⟩
      have E5 := Lib.hid (EWR.out.trans hb5)
      have F5 := Lib.hid hb5
      have HBq' : Hid (Byts w5 Q M (putAll l)) := Lib.hid (by have h9 := HBq.out; rwa [List.nil_append] at h9)
      have hM : M ≤ 102405 := by have h8 := HM.out; have h9 := putAll_len l; omega
      clear hb5
      go_wp2_with fail
      refine ((putKeys_any (fun _ => True) Q M h (putAll l) B p d ks _ HBq'.out HCq.out (by omega) HSK.out (by omega) (KeyL.keep HK.out E5.out.keep)).mono fun _ _ h => LayN.of h).mono ?_
      rintro e w6 ⟨Q2, M2, h2', rfl, HM2, HCq2, HBq2, HOq2, hb6⟩
      have E6 := Lib.hid (E5.out.trans hb6)
      have F6 := Lib.hid (F5.out.trans hb6)
      have hM2 : M2 ≤ 103818 := by have h8 := HM2.out; have h9 := putKeys_len ks; omega
      clear hb6
      have hE := own_empty_lit w6 w6.heap.size 5 1 (Nat.le_refl _)
      obtain ⟨v7, w7, hr7, hown7, hg7, _⟩ := run_append_flat elem_byte 40 hE h2' ((ArrR.flat (f := byteV) HBq2.out).up (Ext.new w6 (.cells #[] 5))) (byteV_one _) (by omega) (by omega) (by simp) HCq2.out
      rw [Nat.zero_add, List.nil_append] at hown7
      have E7 := Lib.hid ((Ext.new w6 (.cells #[] 5)).grown hg7 hE (Nat.le_refl _))
      obtain ⟨v8, w8, hr8, hown8, hg8, _⟩ := run_append_flat elem_byte 40 hown7 c2 (ArrR.flat (f := byteV) (ArrR.up HB.out (E6.out.trans E7.out))) (byteV_one _) (by omega) (by omega) E7.out.size HC.out
      have E8 := Lib.hid (E7.out.grown hg8 hown7 (Nat.le_refl _))
      rw [← List.map_append] at hown8
      obtain ⟨A8, c8, e8, hn8, hc8, hA8, hB8, -⟩ := own_byts hown8
      subst e8
      have HR7 := Lib.hid hr7
      have HR8 := Lib.hid hr8
      rw [List.append_assoc] at hB8
      have hc8' : c8 ≤ 9223372036854775807 := by unfold maxLen at hc8; exact hc8
      have HBx := Lib.hid hB8
      have HAx := Lib.hid hA8
      clear hE hr7 hown7 hg7 hr8 hown8 hg8 hc8 hA8 hB8
      go_wp2_with (first
        | (refine Lib.wpList_append_run _ rfl _ _ _ _ rfl _ _ rfl rfl v7 w7 HR7.out ?_)
        | (refine Lib.wpList_append_run _ rfl _ _ _ _ rfl _ _ rfl rfl _ w8 HR8.out ?_))
      have hR := RdAt.box (w := w8) 0 HBx.out HAx.out hn8 hc8'
      refine (takeAll_any w8.heap.size ⟨putAll l ++ (putKeys ks ++ bs), 0⟩ _ hR).mono ?_
      rw [back_all, HF64.out]
      rintro e w10 ⟨C0, N1, g1, rfl, hsl10, harr10, hr10, ho10⟩
      have E8w := Lib.hid (E6.out.trans E8.out)
      have F8 := Lib.hid (F6.out.trans E8.out)
      have E10 := Lib.hid (Only.ext (E8w.out.alloc _) ho10 E8w.out.size)
      have F10 := Lib.hid (Only.ext (F8.out.alloc _) ho10 F8.out.size)
      have zg : w8.heap.size < w10.heap.size := by have h9 := ho10.size; simp at h9; omega
      have HR10 := Lib.hid hr10
      have HG10 := Lib.hid harr10
      clear hR hsl10 harr10 hr10 ho10 HR7 HR8
      go_wp2_with fail
      refine (takeKeys_any w8.heap.size ⟨putKeys ks ++ bs, 0⟩ _ HR10.out).mono ?_
      rw [back_keys]
      rintro e w11 ⟨D0, N2, g2, rfl, hsl11, harr11, hr11, ho11⟩
      have HK64 : Hid ((ks.filter goodK).take 64 = ks.filter goodK) := Lib.hid (List.take_of_length_le (by have h9 := (fil_le goodK ks p).2; rw [List.take_of_length_le (Nat.le_of_eq HK.out.len)] at h9; omega))
      rw [HK64.out] at harr11
      have E11 := Lib.hid (Only.ext E10.out ho11 E8w.out.size)
      have F11 := Lib.hid (Only.ext F10.out ho11 F8.out.size)
      have zg11 : w8.heap.size < w11.heap.size := Nat.lt_of_lt_of_le zg ho11.size
      have HG11 : Hid (ArrQ (fun b => w8.heap.size < b) w11 7 (RsQ (fun b => w8.heap.size < b) w11) C0 N1 (l.filter okR)) := Lib.hid (ResL.keep (ResL.weak HG10.out (fun b _ hb => by simp at hb; omega)) (ho11.keepNe'))
      have HW11 : Hid (ArrQ (fun _ => True) w11 7 (RsQ (fun _ => True) w11) Aw N0 (l.filter okR)) := Lib.hid (ArrQ.keep HLW.out (fun _ _ _ h => h.keep E11.out.keep) F11.out.keep)
      have HKs : Hid (KeyL (fun _ => True) w11 D0 N2 (ks.filter goodK)) := Lib.hid (ArrQ.weak harr11 (fun _ _ h => h) (fun _ _ _ => trivial))
      have hN1 : N0 = N1 := HLW.out.len.symm.trans HG11.out.len
      subst hN1
      have hN2 : N2 ≤ p := by have h8 := HKs.out.len; have h9 := (fil_le goodK ks p).2; rw [List.take_of_length_le (Nat.le_of_eq HK.out.len)] at h9; omega
      obtain ⟨Dx, px, dx, hgx, -, -, -, hBx, -⟩ := hr11
      have KX := Lib.hid hgx
      have HBX := Lib.hid hBx
      clear hsl11 harr11 hgx hBx ho11 HR10 HG10
      go_wp2_with fail
      have s0 : ∀ w', Ext w11.drew w' → w'.cell? ⟨w8.heap.size, 0, none⟩ = some (.slice Dx px dx) := fun w' hx => (blk_rules ((((Ext.refl w11).drew.trans hx).block zg11).trans KX.out)).1 0
      have s1 : ∀ w', Ext w11.drew w' → w'.cell? ⟨w8.heap.size, 1, none⟩ = some (.int .i64 0) := fun w' hx => (blk_rules ((((Ext.refl w11).drew.trans hx).block zg11).trans KX.out)).1 1
      have v0 : ∀ w', Ext w11.drew w' → (convert 40 9 (.slice Dx px dx)).run Tryd.prog w' = .ok (.string (bstr bs)) w' := fun w' hx => convR (ArrR.up HBX.out ((Ext.refl w11).drew.trans hx)) dx
      have v1 : ∀ w', Ext w11.drew w' → (convert 40 9 (.slice A2 n2 c2)).run Tryd.prog w' = .ok (.string (bstr bs)) w' := fun w' hx => convR (ArrR.up HB.out (E11.out.trans ((Ext.refl w11).drew.trans hx))) c2
      have hSw : Ext w11.drew w11.drew := Ext.refl _
      refine wpS_begin (Ext w11.drew) (by kernel_rfl) ?_
      refine wpS_take 0 (v := ?_) hSw rfl (by kernel_rfl) (by kernel_rfl) (by kernel_rfl) (by rfl) (fun w' hin => ?_) ?_
      rotate_left
      · (try simp only [] at hin); go_simp <;> with_reducible rfl
      try simp only [Act.put, List.setIfInBounds_toArray, List.set_cons_zero, List.set_cons_succ]
      refine wpS_take 1 (v := ?_) hSw rfl (by kernel_rfl) (by kernel_rfl) (by kernel_rfl) (by rfl) (fun w' hin => ?_) ?_
      rotate_left
      · (try simp only [] at hin); go_simp <;> with_reducible rfl
      try simp only [Act.put, List.setIfInBounds_toArray, List.set_cons_zero, List.set_cons_succ]
      refine wpS_take 2 (v := ?_) hSw rfl (by kernel_rfl) (by kernel_rfl) (by kernel_rfl) (by rfl) (fun w' hin => ?_) ?_
      rotate_left
      · (try simp only [] at hin); go_simp <;> with_reducible rfl
      try simp only [Act.put, List.setIfInBounds_toArray, List.set_cons_zero, List.set_cons_succ]
      refine wpS_take 3 (v := ?_) hSw rfl (by kernel_rfl) (by kernel_rfl) (by kernel_rfl) (by rfl) (fun w' hin => ?_) ?_
      rotate_left
      · (try simp only [] at hin); go_simp <;> with_reducible rfl
      try simp only [Act.put, List.setIfInBounds_toArray, List.set_cons_zero, List.set_cons_succ]
      refine wpS_take 4 (v := ?_) hSw rfl (by kernel_rfl) (by kernel_rfl) (by kernel_rfl) (by rfl) (fun w' hin => ?_) ?_
      rotate_left
      · (try simp only [] at hin); go_simp <;> with_reducible rfl
      try simp only [Act.put, List.setIfInBounds_toArray, List.set_cons_zero, List.set_cons_succ]
      refine wpS_take 5 (v := ?_) hSw rfl (by kernel_rfl) (by kernel_rfl) (by kernel_rfl) (by rfl) (fun w' hin => ?_) ?_
      rotate_left
      · (try simp only [] at hin); go_simp <;> with_reducible rfl
      try simp only [Act.put, List.setIfInBounds_toArray, List.set_cons_zero, List.set_cons_succ]
      refine wpS_take 6 (v := ?_) hSw rfl (by kernel_rfl) (by kernel_rfl) (by kernel_rfl) (by rfl) (fun w' hin => ?_) ?_
      rotate_left
      · (try simp only [] at hin); go_simp <;> with_reducible rfl
      try simp only [Act.put, List.setIfInBounds_toArray, List.set_cons_zero, List.set_cons_succ]
      refine wpS_take 7 (v := ?_) hSw rfl (by kernel_rfl) (by kernel_rfl) (by kernel_rfl) (by rfl) (fun w' hin => ?_) ?_
      rotate_left
      · (try simp only [] at hin); go_simp <;> with_reducible rfl
      try simp only [Act.put, List.setIfInBounds_toArray, List.set_cons_zero, List.set_cons_succ]
      refine wpS_one 8 rfl (by kernel_rfl) (by rfl) (fun K hK => ?_)
      go_simp
      refine (refAll_eq (fun b => w8.heap.size < b) (fun _ => True) (fun b => w8.heap.size < b) (fun _ => True) (l.filter okR) C0 Aw N0 g1 cw _ (by unfold maxLen; omega) (ResL.keep HG11.out ((Ext.refl w11).drew.trans hSw).keep) (ArrQ.keep HW11.out (fun _ _ _ h => h.keep ((Ext.refl w11).drew.trans hSw).keep) ((Ext.refl w11).drew.trans hSw).keep)).mono ?_
      rintro e w12 ⟨rfl, hb12⟩
      simp only []
      refine hK.out _ _ (Ext w11.drew) (fun _ h => h) (hb12) (fun hSw => ?_)
      clear hK K
      try simp only [Act.put, List.setIfInBounds_toArray, List.set_cons_zero, List.set_cons_succ]
      refine wpS_take 9 (v := ?_) hSw rfl (by kernel_rfl) (by kernel_rfl) (by kernel_rfl) (by rfl) (fun w' hin => ?_) ?_
      rotate_left
      · (try simp only [] at hin); go_simp <;> with_reducible rfl
      try simp only [Act.put, List.setIfInBounds_toArray, List.set_cons_zero, List.set_cons_succ]
      refine wpS_take 10 (v := ?_) hSw rfl (by kernel_rfl) (by kernel_rfl) (by kernel_rfl) (by rfl) (fun w' hin => ?_) ?_
      rotate_left
      · (try simp only [] at hin); go_simp <;> with_reducible rfl
      try simp only [Act.put, List.setIfInBounds_toArray, List.set_cons_zero, List.set_cons_succ]
      refine wpS_take 11 (v := ?_) hSw rfl (by kernel_rfl) (by kernel_rfl) (by kernel_rfl) (by rfl) (fun w' hin => ?_) ?_
      rotate_left
      · (try simp only [] at hin); go_simp <;> with_reducible rfl
      try simp only [Act.put, List.setIfInBounds_toArray, List.set_cons_zero, List.set_cons_succ]
      refine wpS_take 12 (v := ?_) hSw rfl (by kernel_rfl) (by kernel_rfl) (by kernel_rfl) (by rfl) (fun w' hin => ?_) ?_
      rotate_left
      · (try simp only [] at hin); go_simp <;> with_reducible rfl
      try simp only [Act.put, List.setIfInBounds_toArray, List.set_cons_zero, List.set_cons_succ]
      refine wpS_take 13 (v := ?_) hSw rfl (by kernel_rfl) (by kernel_rfl) (by kernel_rfl) (by rfl) (fun w' hin => ?_) ?_
      rotate_left
      · (try simp only [] at hin); go_simp <;> with_reducible rfl
      try simp only [Act.put, List.setIfInBounds_toArray, List.set_cons_zero, List.set_cons_succ]
      refine wpS_take 14 (v := ?_) hSw rfl (by kernel_rfl) (by kernel_rfl) (by kernel_rfl) (by rfl) (fun w' hin => ?_) ?_
      rotate_left
      · (try simp only [] at hin); go_simp <;> with_reducible rfl
      try simp only [Act.put, List.setIfInBounds_toArray, List.set_cons_zero, List.set_cons_succ]
      refine wpS_take 15 (v := ?_) hSw rfl (by kernel_rfl) (by kernel_rfl) (by kernel_rfl) (by rfl) (fun w' hin => ?_) ?_
      rotate_left
      · (try simp only [] at hin); go_simp <;> with_reducible rfl
      try simp only [Act.put, List.setIfInBounds_toArray, List.set_cons_zero, List.set_cons_succ]
      refine wpS_take 16 (v := ?_) hSw rfl (by kernel_rfl) (by kernel_rfl) (by kernel_rfl) (by rfl) (fun w' hin => ?_) ?_
      rotate_left
      · (try simp only [] at hin); go_simp <;> with_reducible rfl
      try simp only [Act.put, List.setIfInBounds_toArray, List.set_cons_zero, List.set_cons_succ]
      refine wpS_take 17 (v := ?_) hSw rfl (by kernel_rfl) (by kernel_rfl) (by kernel_rfl) (by rfl) (fun w' hin => ?_) ?_
      rotate_left
      · (try simp only [] at hin); go_simp <;> with_reducible rfl
      try simp only [Act.put, List.setIfInBounds_toArray, List.set_cons_zero, List.set_cons_succ]
      refine wpS_take 18 (v := ?_) hSw rfl (by kernel_rfl) (by kernel_rfl) (by kernel_rfl) (by rfl) (fun w' hin => ?_) ?_
      rotate_left
      · (try simp only [] at hin); go_simp <;> with_reducible rfl
      try simp only [Act.put, List.setIfInBounds_toArray, List.set_cons_zero, List.set_cons_succ]
      refine wpS_take 19 (v := ?_) hSw rfl (by kernel_rfl) (by kernel_rfl) (by kernel_rfl) (by rfl) (fun w' hin => ?_) ?_
      rotate_left
      · (try simp only [] at hin); go_simp <;> with_reducible rfl
      try simp only [Act.put, List.setIfInBounds_toArray, List.set_cons_zero, List.set_cons_succ]
      refine wpS_take 20 (v := ?_) hSw rfl (by kernel_rfl) (by kernel_rfl) (by kernel_rfl) (by rfl) (fun w' hin => ?_) ?_
      rotate_left
      · (try simp only [] at hin); go_simp <;> with_reducible rfl
      try simp only [Act.put, List.setIfInBounds_toArray, List.set_cons_zero, List.set_cons_succ]
      refine wpS_take 21 (v := ?_) hSw rfl (by kernel_rfl) (by kernel_rfl) (by kernel_rfl) (by rfl) (fun w' hin => ?_) ?_
      rotate_left
      · (try simp only [] at hin); go_simp <;> with_reducible rfl
      try simp only [Act.put, List.setIfInBounds_toArray, List.set_cons_zero, List.set_cons_succ]
      refine wpS_take 22 (v := ?_) hSw rfl (by kernel_rfl) (by kernel_rfl) (by kernel_rfl) (by rfl) (fun w' hin => ?_) ?_
      rotate_left
      · (try simp only [] at hin); go_simp <;> with_reducible rfl
      try simp only [Act.put, List.setIfInBounds_toArray, List.set_cons_zero, List.set_cons_succ]
      refine wpS_take 23 (v := ?_) hSw rfl (by kernel_rfl) (by kernel_rfl) (by kernel_rfl) (by rfl) (fun w' hin => ?_) ?_
      rotate_left
      · (try simp only [] at hin); go_simp <;> with_reducible rfl
      try simp only [Act.put, List.setIfInBounds_toArray, List.set_cons_zero, List.set_cons_succ]
      refine wpS_take 24 (v := ?_) hSw rfl (by kernel_rfl) (by kernel_rfl) (by kernel_rfl) (by rfl) (fun w' hin => ?_) ?_
      rotate_left
      · (try simp only [] at hin); go_simp <;> with_reducible rfl
      try simp only [Act.put, List.setIfInBounds_toArray, List.set_cons_zero, List.set_cons_succ]
      refine wpS_take 25 (v := ?_) hSw rfl (by kernel_rfl) (by kernel_rfl) (by kernel_rfl) (by rfl) (fun w' hin => ?_) ?_
      rotate_left
      · (try simp only [] at hin); go_simp <;> with_reducible rfl
      try simp only [Act.put, List.setIfInBounds_toArray, List.set_cons_zero, List.set_cons_succ]
      refine wpS_take 26 (v := ?_) hSw rfl (by kernel_rfl) (by kernel_rfl) (by kernel_rfl) (by rfl) (fun w' hin => ?_) ?_
      rotate_left
      · (try simp only [] at hin); go_simp <;> with_reducible rfl
      try simp only [Act.put, List.setIfInBounds_toArray, List.set_cons_zero, List.set_cons_succ]
      refine wpS_take 27 (v := ?_) hSw rfl (by kernel_rfl) (by kernel_rfl) (by kernel_rfl) (by rfl) (fun w' hin => ?_) ?_
      rotate_left
      · (try simp only [] at hin); go_simp <;> with_reducible rfl
      try simp only [Act.put, List.setIfInBounds_toArray, List.set_cons_zero, List.set_cons_succ]
      refine wpS_done (by kernel_rfl) ?_
      clear s0 s1 v0 v1
      have hN3 : decide (p < N2) = false := decide_eq_false (by omega)
      rw [hN3]
      clear hN3
      have E13 := Lib.hid (E11.out.trans ((Ext.refl w11).drew.trans hb12))
      have F13 := Lib.hid ((Ext.refl w11).drew.trans hb12)
      go_wp2_with fail
      go_loopw [15, 16] (fun nv i wr => ∃ (J k : Nat), k ≤ p ∧ nv = .int .i64 J ∧ i = .int .i64 k ∧ Hid (J = ((ks.take k).filter goodK).length) ∧ Hid (Ext w12 wr)) (fun _ i _ => p - (intOf i).toNat)
      case atStart => exact ⟨0, 0, by omega, by go_num, by go_num, Lib.hid (by simp), Lib.hid (Ext.refl _)⟩
      case round =>
        obtain ⟨J, k, hk, rfl, rfl, HJ, HE2⟩ := hrel
        have hJ1 : J ≤ N2 := by have h8 := HKs.out.len; have h9 := (fil_le goodK ks k).1; have h7 := HJ.out; omega
        by_cases hlt : k < p
        · obtain ⟨bm, om, y, rfl, hblm0, -, hx, hym, m0', m1'⟩ := KeyL.at_ HK.out hlt
          have HX := Lib.hid hx
          have HYM := Lib.hid hym
          have EWm := Lib.hid (E13.out.trans HE2.out)
          have EKm := Lib.hid (F13.out.trans HE2.out)
          have hblm : bm < wr.heap.size := Nat.lt_of_lt_of_le hblm0 EWm.out.size
          have m0 := (EWm.out.cell hblm0).trans m0'
          have m1 := (EWm.out.cell hblm0).trans m1'
          clear hx hym m0' m1'
          cases hgd : goodK y with
          | true =>
            have HGt := Lib.hid hgd
            have hJ2 : J < N2 := by
              have h8 := HKs.out.len; have h9 := fil_next HX.out hgd; rw [← HJ.out] at h9
              have := (List.getElem?_eq_some_iff.1 h9).1; omega
            obtain ⟨bk, ok, z, rfl, hblk0, -, hz, -, k0', k1'⟩ := KeyL.at_ HKs.out hJ2
            obtain rfl : y = z := by have h9 := fil_next HX.out hgd; rw [← HJ.out, hz] at h9; injection h9 with h9; exact h9.symm
            have hblk : bk < wr.heap.size := Nat.lt_of_lt_of_le hblk0 EKm.out.size
            have k0 := (EKm.out.cell hblk0).trans k0'
            have k1 := (EKm.out.cell hblk0).trans k1'
            clear hz k0' k1' hgd
            go_wp2_with fail
            have s0 : ∀ w', Ext wr.drew w' → w'.cell? ⟨bm, om + k * 2, none⟩ = some (.int .i64 y.kind) := fun w' hx => (((Ext.refl wr).drew.trans hx).cell hblm).trans m0
            have s1 : ∀ w', Ext wr.drew w' → w'.cell? ⟨bm, om + k * 2 + 1, none⟩ = some (.string y.name) := fun w' hx => (((Ext.refl wr).drew.trans hx).cell hblm).trans m1
            have s2 : ∀ w', Ext wr.drew w' → w'.cell? ⟨bk, ok + J * 2, none⟩ = some (.int .i64 y.kind) := fun w' hx => (((Ext.refl wr).drew.trans hx).cell hblk).trans k0
            have s3 : ∀ w', Ext wr.drew w' → w'.cell? ⟨bk, ok + J * 2 + 1, none⟩ = some (.string y.name) := fun w' hx => (((Ext.refl wr).drew.trans hx).cell hblk).trans k1
            have hSw : Ext wr.drew wr.drew := Ext.refl _
            refine wpS_begin (Ext wr.drew) (by kernel_rfl) ?_
            refine wpS_take 0 (v := ?_) hSw rfl (by kernel_rfl) (by kernel_rfl) (by kernel_rfl) (by rfl) (fun w' hin => ?_) ?_
            rotate_left
            · (try simp only [] at hin); go_simp <;> with_reducible rfl
            try simp only [Act.put, List.setIfInBounds_toArray, List.set_cons_zero, List.set_cons_succ]
            refine wpS_take 1 (v := ?_) hSw rfl (by kernel_rfl) (by kernel_rfl) (by kernel_rfl) (by rfl) (fun w' hin => ?_) ?_
            rotate_left
            · (try simp only [] at hin); go_simp <;> with_reducible rfl
            try simp only [Act.put, List.setIfInBounds_toArray, List.set_cons_zero, List.set_cons_succ]
            refine wpS_take 2 (v := ?_) hSw rfl (by kernel_rfl) (by kernel_rfl) (by kernel_rfl) (by rfl) (fun w' hin => ?_) ?_
            rotate_left
            · (try simp only [] at hin); go_simp <;> with_reducible rfl
            try simp only [Act.put, List.setIfInBounds_toArray, List.set_cons_zero, List.set_cons_succ]
            refine wpS_take 3 (v := ?_) hSw rfl (by kernel_rfl) (by kernel_rfl) (by kernel_rfl) (by rfl) (fun w' hin => ?_) ?_
            rotate_left
            · (try simp only [] at hin); go_simp <;> with_reducible rfl
            try simp only [Act.put, List.setIfInBounds_toArray, List.set_cons_zero, List.set_cons_succ]
            refine wpS_take 4 (v := ?_) hSw rfl (by kernel_rfl) (by kernel_rfl) (by kernel_rfl) (by rfl) (fun w' hin => ?_) ?_
            rotate_left
            · (try simp only [] at hin); go_simp <;> with_reducible rfl
            try simp only [Act.put, List.setIfInBounds_toArray, List.set_cons_zero, List.set_cons_succ]
            refine wpS_take 5 (v := ?_) hSw rfl (by kernel_rfl) (by kernel_rfl) (by kernel_rfl) (by rfl) (fun w' hin => ?_) ?_
            rotate_left
            · (try simp only [] at hin); go_simp <;> with_reducible rfl
            try simp only [Act.put, List.setIfInBounds_toArray, List.set_cons_zero, List.set_cons_succ]
            refine wpS_take 6 (v := ?_) hSw rfl (by kernel_rfl) (by kernel_rfl) (by kernel_rfl) (by rfl) (fun w' hin => ?_) ?_
            rotate_left
            · (try simp only [] at hin); go_simp <;> with_reducible rfl
            try simp only [Act.put, List.setIfInBounds_toArray, List.set_cons_zero, List.set_cons_succ]
            refine wpS_take 7 (v := ?_) hSw rfl (by kernel_rfl) (by kernel_rfl) (by kernel_rfl) (by rfl) (fun w' hin => ?_) ?_
            rotate_left
            · (try simp only [] at hin); go_simp <;> with_reducible rfl
            try simp only [Act.put, List.setIfInBounds_toArray, List.set_cons_zero, List.set_cons_succ]
            refine wpS_take 8 (v := ?_) hSw rfl (by kernel_rfl) (by kernel_rfl) (by kernel_rfl) (by rfl) (fun w' hin => ?_) ?_
            rotate_left
            · (try simp only [] at hin); go_simp <;> with_reducible rfl
            try simp only [Act.put, List.setIfInBounds_toArray, List.set_cons_zero, List.set_cons_succ]
            refine wpS_take 9 (v := ?_) hSw rfl (by kernel_rfl) (by kernel_rfl) (by kernel_rfl) (by rfl) (fun w' hin => ?_) ?_
            rotate_left
            · (try simp only [] at hin); go_simp <;> with_reducible rfl
            try simp only [Act.put, List.setIfInBounds_toArray, List.set_cons_zero, List.set_cons_succ]
            refine wpS_take 10 (v := ?_) hSw rfl (by kernel_rfl) (by kernel_rfl) (by kernel_rfl) (by rfl) (fun w' hin => ?_) ?_
            rotate_left
            · (try simp only [] at hin); go_simp <;> with_reducible rfl
            try simp only [Act.put, List.setIfInBounds_toArray, List.set_cons_zero, List.set_cons_succ]
            refine wpS_take 11 (v := ?_) hSw rfl (by kernel_rfl) (by kernel_rfl) (by kernel_rfl) (by rfl) (fun w' hin => ?_) ?_
            rotate_left
            · (try simp only [] at hin); go_simp <;> with_reducible rfl
            try simp only [Act.put, List.setIfInBounds_toArray, List.set_cons_zero, List.set_cons_succ]
            refine wpS_take 12 (v := ?_) hSw rfl (by kernel_rfl) (by kernel_rfl) (by kernel_rfl) (by rfl) (fun w' hin => ?_) ?_
            rotate_left
            · (try simp only [] at hin); go_simp <;> with_reducible rfl
            try simp only [Act.put, List.setIfInBounds_toArray, List.set_cons_zero, List.set_cons_succ]
            refine wpS_take 13 (v := ?_) hSw rfl (by kernel_rfl) (by kernel_rfl) (by kernel_rfl) (by rfl) (fun w' hin => ?_) ?_
            rotate_left
            · (try simp only [] at hin); go_simp <;> with_reducible rfl
            try simp only [Act.put, List.setIfInBounds_toArray, List.set_cons_zero, List.set_cons_succ]
            refine wpS_take 14 (v := ?_) hSw rfl (by kernel_rfl) (by kernel_rfl) (by kernel_rfl) (by rfl) (fun w' hin => ?_) ?_
            rotate_left
            · (try simp only [] at hin); go_simp <;> with_reducible rfl
            try simp only [Act.put, List.setIfInBounds_toArray, List.set_cons_zero, List.set_cons_succ]
            refine wpS_done (by kernel_rfl) ?_
            clear s0 s1 s2 s3 k0 k1 m0 m1
            have HE3 : Hid (Ext w12 wr.drew) := Lib.hid (HE2.out.trans (Ext.refl wr).drew)
            go_wp2_with fail
            go_roundw
            case rel => exact ⟨J + 1, k + 1, by omega, by go_num, by go_num, Lib.hid (by rw [fil_snoc HX.out HGt.out, List.length_append, ← HJ.out]; rfl), HE3⟩
            case measure => simp [intOf]; omega
          | false =>
            have HGf := Lib.hid hgd
            clear hgd
            by_cases hJ2 : J < N2
            · obtain ⟨bk, ok, z, rfl, hblk0, -, hz, -, k0', k1'⟩ := KeyL.at_ HKs.out hJ2
              have hne : z ≠ y := by
                rintro rfl
                have h9 := fil_mem hz
                rw [HGf.out] at h9; cases h9
              have hblk : bk < wr.heap.size := Nat.lt_of_lt_of_le hblk0 EKm.out.size
              have k0 := (EKm.out.cell hblk0).trans k0'
              have k1 := (EKm.out.cell hblk0).trans k1'
              clear hz k0' k1'
              by_cases hq : z.kind = y.kind
              · have hq2 : ¬ z.name.toList = y.name.toList := fun h => hne (by
                  have h2 : z.name = y.name := tx_inj (by rw [← tx_toList, ← tx_toList]; exact h)
                  cases z; cases y; simp only at hq h2; subst hq h2; rfl)
                clear hne
                go_wp2_with fail
                have s0 : ∀ w', Ext wr.drew w' → w'.cell? ⟨bm, om + k * 2, none⟩ = some (.int .i64 y.kind) := fun w' hx => (((Ext.refl wr).drew.trans hx).cell hblm).trans m0
                have s1 : ∀ w', Ext wr.drew w' → w'.cell? ⟨bm, om + k * 2 + 1, none⟩ = some (.string y.name) := fun w' hx => (((Ext.refl wr).drew.trans hx).cell hblm).trans m1
                have s2 : ∀ w', Ext wr.drew w' → w'.cell? ⟨bk, ok + J * 2, none⟩ = some (.int .i64 z.kind) := fun w' hx => (((Ext.refl wr).drew.trans hx).cell hblk).trans k0
                have s3 : ∀ w', Ext wr.drew w' → w'.cell? ⟨bk, ok + J * 2 + 1, none⟩ = some (.string z.name) := fun w' hx => (((Ext.refl wr).drew.trans hx).cell hblk).trans k1
                have hSw : Ext wr.drew wr.drew := Ext.refl _
                refine wpS_begin (Ext wr.drew) (by kernel_rfl) ?_
                refine wpS_take 0 (v := ?_) hSw rfl (by kernel_rfl) (by kernel_rfl) (by kernel_rfl) (by rfl) (fun w' hin => ?_) ?_
                rotate_left
                · (try simp only [] at hin); go_simp <;> with_reducible rfl
                try simp only [Act.put, List.setIfInBounds_toArray, List.set_cons_zero, List.set_cons_succ]
                refine wpS_take 1 (v := ?_) hSw rfl (by kernel_rfl) (by kernel_rfl) (by kernel_rfl) (by rfl) (fun w' hin => ?_) ?_
                rotate_left
                · (try simp only [] at hin); go_simp <;> with_reducible rfl
                try simp only [Act.put, List.setIfInBounds_toArray, List.set_cons_zero, List.set_cons_succ]
                refine wpS_take 2 (v := ?_) hSw rfl (by kernel_rfl) (by kernel_rfl) (by kernel_rfl) (by rfl) (fun w' hin => ?_) ?_
                rotate_left
                · (try simp only [] at hin); go_simp <;> with_reducible rfl
                try simp only [Act.put, List.setIfInBounds_toArray, List.set_cons_zero, List.set_cons_succ]
                refine wpS_take 3 (v := ?_) hSw rfl (by kernel_rfl) (by kernel_rfl) (by kernel_rfl) (by rfl) (fun w' hin => ?_) ?_
                rotate_left
                · (try simp only [] at hin); go_simp <;> with_reducible rfl
                try simp only [Act.put, List.setIfInBounds_toArray, List.set_cons_zero, List.set_cons_succ]
                refine wpS_take 4 (v := ?_) hSw rfl (by kernel_rfl) (by kernel_rfl) (by kernel_rfl) (by rfl) (fun w' hin => ?_) ?_
                rotate_left
                · (try simp only [] at hin); go_simp <;> with_reducible rfl
                try simp only [Act.put, List.setIfInBounds_toArray, List.set_cons_zero, List.set_cons_succ]
                refine wpS_take 5 (v := ?_) hSw rfl (by kernel_rfl) (by kernel_rfl) (by kernel_rfl) (by rfl) (fun w' hin => ?_) ?_
                rotate_left
                · (try simp only [] at hin); go_simp <;> with_reducible rfl
                try simp only [Act.put, List.setIfInBounds_toArray, List.set_cons_zero, List.set_cons_succ]
                refine wpS_take 6 (v := ?_) hSw rfl (by kernel_rfl) (by kernel_rfl) (by kernel_rfl) (by rfl) (fun w' hin => ?_) ?_
                rotate_left
                · (try simp only [] at hin); go_simp <;> with_reducible rfl
                try simp only [Act.put, List.setIfInBounds_toArray, List.set_cons_zero, List.set_cons_succ]
                refine wpS_take 7 (v := ?_) hSw rfl (by kernel_rfl) (by kernel_rfl) (by kernel_rfl) (by rfl) (fun w' hin => ?_) ?_
                rotate_left
                · (try simp only [] at hin); go_simp <;> with_reducible rfl
                try simp only [Act.put, List.setIfInBounds_toArray, List.set_cons_zero, List.set_cons_succ]
                refine wpS_take 8 (v := ?_) hSw rfl (by kernel_rfl) (by kernel_rfl) (by kernel_rfl) (by rfl) (fun w' hin => ?_) ?_
                rotate_left
                · (try simp only [] at hin); go_simp <;> with_reducible rfl
                try simp only [Act.put, List.setIfInBounds_toArray, List.set_cons_zero, List.set_cons_succ]
                refine wpS_take 9 (v := ?_) hSw rfl (by kernel_rfl) (by kernel_rfl) (by kernel_rfl) (by rfl) (fun w' hin => ?_) ?_
                rotate_left
                · (try simp only [] at hin); go_simp <;> with_reducible rfl
                try simp only [Act.put, List.setIfInBounds_toArray, List.set_cons_zero, List.set_cons_succ]
                refine wpS_take 10 (v := ?_) hSw rfl (by kernel_rfl) (by kernel_rfl) (by kernel_rfl) (by rfl) (fun w' hin => ?_) ?_
                rotate_left
                · (try simp only [] at hin); go_simp <;> with_reducible rfl
                try simp only [Act.put, List.setIfInBounds_toArray, List.set_cons_zero, List.set_cons_succ]
                refine wpS_take 11 (v := ?_) hSw rfl (by kernel_rfl) (by kernel_rfl) (by kernel_rfl) (by rfl) (fun w' hin => ?_) ?_
                rotate_left
                · (try simp only [] at hin); go_simp <;> with_reducible rfl
                try simp only [Act.put, List.setIfInBounds_toArray, List.set_cons_zero, List.set_cons_succ]
                refine wpS_take 12 (v := ?_) hSw rfl (by kernel_rfl) (by kernel_rfl) (by kernel_rfl) (by rfl) (fun w' hin => ?_) ?_
                rotate_left
                · (try simp only [] at hin); go_simp <;> with_reducible rfl
                try simp only [Act.put, List.setIfInBounds_toArray, List.set_cons_zero, List.set_cons_succ]
                refine wpS_take 13 (v := ?_) hSw rfl (by kernel_rfl) (by kernel_rfl) (by kernel_rfl) (by rfl) (fun w' hin => ?_) ?_
                rotate_left
                · (try simp only [] at hin); go_simp <;> with_reducible rfl
                try simp only [Act.put, List.setIfInBounds_toArray, List.set_cons_zero, List.set_cons_succ]
                refine wpS_take 14 (v := ?_) hSw rfl (by kernel_rfl) (by kernel_rfl) (by kernel_rfl) (by rfl) (fun w' hin => ?_) ?_
                rotate_left
                · (try simp only [] at hin); go_simp <;> with_reducible rfl
                try simp only [Act.put, List.setIfInBounds_toArray, List.set_cons_zero, List.set_cons_succ]
                refine wpS_done (by kernel_rfl) ?_
                have g0 := s0 _ (Ext.refl _)
                have g1 := s1 _ (Ext.refl _)
                clear s0 s1 s2 s3
                have hblm' : bm < wr.drew.heap.size := hblm
                go_wp2_with fail
                refine (((putKey_lay (fun _ => True) _).2 none 0 0 [] y _ (Ext.refl _) ArrR.nil_ (fun _ => rfl) (by omega) trivial HYM.out).mono fun _ _ h => LayN.of h).mono ?_
                rintro e w14 ⟨R, L, h, rfl, HL, HCr, HBr, HOr, hb14⟩
                have hL : L = 0 := by have h9 := HL.out; rw [putK_not HGf.out] at h9; simpa using h9
                subst hL
                have HE3 : Hid (Ext w12 w14) := Lib.hid (HE2.out.trans ((Ext.refl wr).drew.trans hb14))
                clear hb14 g0 g1 m0 m1
                go_wp2_with fail
                go_roundw
                case rel => exact ⟨J, k + 1, by omega, by go_num, by go_num, Lib.hid (by rw [fil_skip HX.out HGf.out]; exact HJ.out), HE3⟩
                case measure => simp [intOf]; omega
              · have hq3 : (z.kind == y.kind) = false := by simpa using hq
                clear hne
                go_wp2_with fail
                have s0 : ∀ w', Ext wr.drew w' → w'.cell? ⟨bm, om + k * 2, none⟩ = some (.int .i64 y.kind) := fun w' hx => (((Ext.refl wr).drew.trans hx).cell hblm).trans m0
                have s1 : ∀ w', Ext wr.drew w' → w'.cell? ⟨bm, om + k * 2 + 1, none⟩ = some (.string y.name) := fun w' hx => (((Ext.refl wr).drew.trans hx).cell hblm).trans m1
                have s2 : ∀ w', Ext wr.drew w' → w'.cell? ⟨bk, ok + J * 2, none⟩ = some (.int .i64 z.kind) := fun w' hx => (((Ext.refl wr).drew.trans hx).cell hblk).trans k0
                have s3 : ∀ w', Ext wr.drew w' → w'.cell? ⟨bk, ok + J * 2 + 1, none⟩ = some (.string z.name) := fun w' hx => (((Ext.refl wr).drew.trans hx).cell hblk).trans k1
                have hSw : Ext wr.drew wr.drew := Ext.refl _
                refine wpS_begin (Ext wr.drew) (by kernel_rfl) ?_
                refine wpS_take 0 (v := ?_) hSw rfl (by kernel_rfl) (by kernel_rfl) (by kernel_rfl) (by rfl) (fun w' hin => ?_) ?_
                rotate_left
                · (try simp only [] at hin); go_simp <;> with_reducible rfl
                try simp only [Act.put, List.setIfInBounds_toArray, List.set_cons_zero, List.set_cons_succ]
                refine wpS_take 1 (v := ?_) hSw rfl (by kernel_rfl) (by kernel_rfl) (by kernel_rfl) (by rfl) (fun w' hin => ?_) ?_
                rotate_left
                · (try simp only [] at hin); go_simp <;> with_reducible rfl
                try simp only [Act.put, List.setIfInBounds_toArray, List.set_cons_zero, List.set_cons_succ]
                refine wpS_take 2 (v := ?_) hSw rfl (by kernel_rfl) (by kernel_rfl) (by kernel_rfl) (by rfl) (fun w' hin => ?_) ?_
                rotate_left
                · (try simp only [] at hin); go_simp <;> with_reducible rfl
                try simp only [Act.put, List.setIfInBounds_toArray, List.set_cons_zero, List.set_cons_succ]
                refine wpS_take 3 (v := ?_) hSw rfl (by kernel_rfl) (by kernel_rfl) (by kernel_rfl) (by rfl) (fun w' hin => ?_) ?_
                rotate_left
                · (try simp only [] at hin); go_simp <;> with_reducible rfl
                try simp only [Act.put, List.setIfInBounds_toArray, List.set_cons_zero, List.set_cons_succ]
                refine wpS_take 4 (v := ?_) hSw rfl (by kernel_rfl) (by kernel_rfl) (by kernel_rfl) (by rfl) (fun w' hin => ?_) ?_
                rotate_left
                · (try simp only [] at hin); go_simp <;> with_reducible rfl
                try simp only [Act.put, List.setIfInBounds_toArray, List.set_cons_zero, List.set_cons_succ]
                refine wpS_take 5 (v := ?_) hSw rfl (by kernel_rfl) (by kernel_rfl) (by kernel_rfl) (by rfl) (fun w' hin => ?_) ?_
                rotate_left
                · (try simp only [] at hin); go_simp <;> with_reducible rfl
                try simp only [Act.put, List.setIfInBounds_toArray, List.set_cons_zero, List.set_cons_succ]
                refine wpS_take 6 (v := ?_) hSw rfl (by kernel_rfl) (by kernel_rfl) (by kernel_rfl) (by rfl) (fun w' hin => ?_) ?_
                rotate_left
                · (try simp only [] at hin); go_simp <;> with_reducible rfl
                try simp only [Act.put, List.setIfInBounds_toArray, List.set_cons_zero, List.set_cons_succ]
                refine wpS_take 7 (v := ?_) hSw rfl (by kernel_rfl) (by kernel_rfl) (by kernel_rfl) (by rfl) (fun w' hin => ?_) ?_
                rotate_left
                · (try simp only [] at hin); go_simp <;> with_reducible rfl
                try simp only [Act.put, List.setIfInBounds_toArray, List.set_cons_zero, List.set_cons_succ]
                refine wpS_take 8 (v := ?_) hSw rfl (by kernel_rfl) (by kernel_rfl) (by kernel_rfl) (by rfl) (fun w' hin => ?_) ?_
                rotate_left
                · (try simp only [] at hin); go_simp <;> with_reducible rfl
                try simp only [Act.put, List.setIfInBounds_toArray, List.set_cons_zero, List.set_cons_succ]
                refine wpS_take 9 (v := ?_) hSw rfl (by kernel_rfl) (by kernel_rfl) (by kernel_rfl) (by rfl) (fun w' hin => ?_) ?_
                rotate_left
                · (try simp only [] at hin); go_simp <;> with_reducible rfl
                try simp only [Act.put, List.setIfInBounds_toArray, List.set_cons_zero, List.set_cons_succ]
                refine wpS_take 10 (v := ?_) hSw rfl (by kernel_rfl) (by kernel_rfl) (by kernel_rfl) (by rfl) (fun w' hin => ?_) ?_
                rotate_left
                · (try simp only [] at hin); go_simp <;> with_reducible rfl
                try simp only [Act.put, List.setIfInBounds_toArray, List.set_cons_zero, List.set_cons_succ]
                refine wpS_take 11 (v := ?_) hSw rfl (by kernel_rfl) (by kernel_rfl) (by kernel_rfl) (by rfl) (fun w' hin => ?_) ?_
                rotate_left
                · (try simp only [] at hin); go_simp <;> with_reducible rfl
                try simp only [Act.put, List.setIfInBounds_toArray, List.set_cons_zero, List.set_cons_succ]
                refine wpS_take 12 (v := ?_) hSw rfl (by kernel_rfl) (by kernel_rfl) (by kernel_rfl) (by rfl) (fun w' hin => ?_) ?_
                rotate_left
                · (try simp only [] at hin); go_simp <;> with_reducible rfl
                try simp only [Act.put, List.setIfInBounds_toArray, List.set_cons_zero, List.set_cons_succ]
                refine wpS_take 13 (v := ?_) hSw rfl (by kernel_rfl) (by kernel_rfl) (by kernel_rfl) (by rfl) (fun w' hin => ?_) ?_
                rotate_left
                · (try simp only [] at hin); go_simp <;> with_reducible rfl
                try simp only [Act.put, List.setIfInBounds_toArray, List.set_cons_zero, List.set_cons_succ]
                refine wpS_take 14 (v := ?_) hSw rfl (by kernel_rfl) (by kernel_rfl) (by kernel_rfl) (by rfl) (fun w' hin => ?_) ?_
                rotate_left
                · (try simp only [] at hin); go_simp <;> with_reducible rfl
                try simp only [Act.put, List.setIfInBounds_toArray, List.set_cons_zero, List.set_cons_succ]
                refine wpS_done (by kernel_rfl) ?_
                have g0 := s0 _ (Ext.refl _)
                have g1 := s1 _ (Ext.refl _)
                clear s0 s1 s2 s3
                have hblm' : bm < wr.drew.heap.size := hblm
                go_wp2_with fail
                refine (((putKey_lay (fun _ => True) _).2 none 0 0 [] y _ (Ext.refl _) ArrR.nil_ (fun _ => rfl) (by omega) trivial HYM.out).mono fun _ _ h => LayN.of h).mono ?_
                rintro e w14 ⟨R, L, h, rfl, HL, HCr, HBr, HOr, hb14⟩
                have hL : L = 0 := by have h9 := HL.out; rw [putK_not HGf.out] at h9; simpa using h9
                subst hL
                have HE3 : Hid (Ext w12 w14) := Lib.hid (HE2.out.trans ((Ext.refl wr).drew.trans hb14))
                clear hb14 g0 g1 m0 m1
                go_wp2_with fail
                go_roundw
                case rel => exact ⟨J, k + 1, by omega, by go_num, by go_num, Lib.hid (by rw [fil_skip HX.out HGf.out]; exact HJ.out), HE3⟩
                case measure => simp [intOf]; omega
            · obtain rfl : J = N2 := by omega
              go_wp2_with fail
              have s0 : ∀ w', Ext wr.drew w' → w'.cell? ⟨bm, om + k * 2, none⟩ = some (.int .i64 y.kind) := fun w' hx => (((Ext.refl wr).drew.trans hx).cell hblm).trans m0
              have s1 : ∀ w', Ext wr.drew w' → w'.cell? ⟨bm, om + k * 2 + 1, none⟩ = some (.string y.name) := fun w' hx => (((Ext.refl wr).drew.trans hx).cell hblm).trans m1
              have hSw : Ext wr.drew wr.drew := Ext.refl _
              refine wpS_begin (Ext wr.drew) (by kernel_rfl) ?_
              refine wpS_take 0 (v := ?_) hSw rfl (by kernel_rfl) (by kernel_rfl) (by kernel_rfl) (by rfl) (fun w' hin => ?_) ?_
              rotate_left
              · (try simp only [] at hin); go_simp <;> with_reducible rfl
              try simp only [Act.put, List.setIfInBounds_toArray, List.set_cons_zero, List.set_cons_succ]
              refine wpS_take 1 (v := ?_) hSw rfl (by kernel_rfl) (by kernel_rfl) (by kernel_rfl) (by rfl) (fun w' hin => ?_) ?_
              rotate_left
              · (try simp only [] at hin); go_simp <;> with_reducible rfl
              try simp only [Act.put, List.setIfInBounds_toArray, List.set_cons_zero, List.set_cons_succ]
              refine wpS_take 2 (v := ?_) hSw rfl (by kernel_rfl) (by kernel_rfl) (by kernel_rfl) (by rfl) (fun w' hin => ?_) ?_
              rotate_left
              · (try simp only [] at hin); go_simp <;> with_reducible rfl
              try simp only [Act.put, List.setIfInBounds_toArray, List.set_cons_zero, List.set_cons_succ]
              refine wpS_take 3 (v := ?_) hSw rfl (by kernel_rfl) (by kernel_rfl) (by kernel_rfl) (by rfl) (fun w' hin => ?_) ?_
              rotate_left
              · (try simp only [] at hin); go_simp <;> with_reducible rfl
              try simp only [Act.put, List.setIfInBounds_toArray, List.set_cons_zero, List.set_cons_succ]
              refine wpS_take 4 (v := ?_) hSw rfl (by kernel_rfl) (by kernel_rfl) (by kernel_rfl) (by rfl) (fun w' hin => ?_) ?_
              rotate_left
              · (try simp only [] at hin); go_simp <;> with_reducible rfl
              try simp only [Act.put, List.setIfInBounds_toArray, List.set_cons_zero, List.set_cons_succ]
              refine wpS_skip 5 hSw rfl (by kernel_rfl) (by kernel_rfl) (by kernel_rfl) (by rfl) ?_
              try simp only [Act.put, List.setIfInBounds_toArray, List.set_cons_zero, List.set_cons_succ]
              refine wpS_skip 6 hSw rfl (by kernel_rfl) (by kernel_rfl) (by kernel_rfl) (by rfl) ?_
              try simp only [Act.put, List.setIfInBounds_toArray, List.set_cons_zero, List.set_cons_succ]
              refine wpS_skip 7 hSw rfl (by kernel_rfl) (by kernel_rfl) (by kernel_rfl) (by rfl) ?_
              try simp only [Act.put, List.setIfInBounds_toArray, List.set_cons_zero, List.set_cons_succ]
              refine wpS_skip 8 hSw rfl (by kernel_rfl) (by kernel_rfl) (by kernel_rfl) (by rfl) ?_
              try simp only [Act.put, List.setIfInBounds_toArray, List.set_cons_zero, List.set_cons_succ]
              refine wpS_skip 9 hSw rfl (by kernel_rfl) (by kernel_rfl) (by kernel_rfl) (by rfl) ?_
              try simp only [Act.put, List.setIfInBounds_toArray, List.set_cons_zero, List.set_cons_succ]
              refine wpS_skip 10 hSw rfl (by kernel_rfl) (by kernel_rfl) (by kernel_rfl) (by rfl) ?_
              try simp only [Act.put, List.setIfInBounds_toArray, List.set_cons_zero, List.set_cons_succ]
              refine wpS_skip 11 hSw rfl (by kernel_rfl) (by kernel_rfl) (by kernel_rfl) (by rfl) ?_
              try simp only [Act.put, List.setIfInBounds_toArray, List.set_cons_zero, List.set_cons_succ]
              refine wpS_skip 12 hSw rfl (by kernel_rfl) (by kernel_rfl) (by kernel_rfl) (by rfl) ?_
              try simp only [Act.put, List.setIfInBounds_toArray, List.set_cons_zero, List.set_cons_succ]
              refine wpS_skip 13 hSw rfl (by kernel_rfl) (by kernel_rfl) (by kernel_rfl) (by rfl) ?_
              try simp only [Act.put, List.setIfInBounds_toArray, List.set_cons_zero, List.set_cons_succ]
              refine wpS_take 14 (v := ?_) hSw rfl (by kernel_rfl) (by kernel_rfl) (by kernel_rfl) (by rfl) (fun w' hin => ?_) ?_
              rotate_left
              · (try simp only [] at hin); go_simp <;> with_reducible rfl
              try simp only [Act.put, List.setIfInBounds_toArray, List.set_cons_zero, List.set_cons_succ]
              refine wpS_done (by kernel_rfl) ?_
              have g0 := s0 _ (Ext.refl _)
              have g1 := s1 _ (Ext.refl _)
              clear s0 s1
              have hblm' : bm < wr.drew.heap.size := hblm
              go_wp2_with fail
              refine (((putKey_lay (fun _ => True) _).2 none 0 0 [] y _ (Ext.refl _) ArrR.nil_ (fun _ => rfl) (by omega) trivial HYM.out).mono fun _ _ h => LayN.of h).mono ?_
              rintro e w14 ⟨R, L, h, rfl, HL, HCr, HBr, HOr, hb14⟩
              have hL : L = 0 := by have h9 := HL.out; rw [putK_not HGf.out] at h9; simpa using h9
              subst hL
              have HE3 : Hid (Ext w12 w14) := Lib.hid (HE2.out.trans ((Ext.refl wr).drew.trans hb14))
              clear hb14 g0 g1 m0 m1
              go_wp2_with fail
              go_roundw
              case rel => exact ⟨J, k + 1, by omega, by go_num, by go_num, Lib.hid (by rw [fil_skip HX.out HGf.out]; exact HJ.out), HE3⟩
              case measure => simp [intOf]; omega
        · obtain rfl : p = k := by omega
          have hJ2 : J = N2 := by have h8 := HKs.out.len; have h7 := HJ.out; rw [List.take_of_length_le (Nat.le_of_eq HK.out.len)] at h7; omega
          have HF := Lib.hid (E13.out.trans HE2.out)
          subst hJ2
          go_wp2_with fail
          go_ret
          exact ⟨rfl, HF.out⟩
end Go.Proofs.YtepifkmileilfaaDoor
