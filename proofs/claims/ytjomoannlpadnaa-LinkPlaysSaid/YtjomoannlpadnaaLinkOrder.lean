/- The law LinkOrder: its walk. -/
import Derived.Test.YtjomoannlpadnaaLinkAlike
namespace Go.Proofs.Ytjomoannlpadnaa
open Go.RowKit Go.Sort
attribute [local go_sem ↓] run_max2 run_min2
attribute [local go_sem ↓] Go.wp_at_zero Go.wp_at_succ

set_option maxHeartbeats 400000 in
theorem linkOrder_few (ep : Int) (A Am : Option Addr) (n c nm cm : Nat) (l : Lk) (w : World) (h : LkR w noX ep A n c l) (hm : n ≤ 9223372036854775807) (hf : fewB l.q = false) :
    Calls Try.prog 6 #[.agg #[.int .i64 ep, .slice A n c], .slice Am nm cm] w fun e w' => e = .returned (.bool true) ∧ Ext w w' := by
  have H := Lib.hid h
  clear h
  go_enter Try.func6, Try.ntmps6
  go_wp2_with fail
  refine (awake12 _).mono ?_
  rintro e w1 ⟨rfl, hb1⟩
  obtain ⟨x0, x1, x2⟩ := box1 hb1
  have E1 := (Ext.new w _).trans hb1
  go_wp2_with fail
  refine (few12_any noX _ _ _ _ l.q _ (H.out.2.1.up E1) hm).mono ?_
  rintro e w2 ⟨rfl, hb2⟩
  go_wp2_with fail
  go_ret
  exact ⟨rfl, E1.trans hb2⟩
set_option maxHeartbeats 400000 in
theorem linkOrder_sane (ep : Int) (A Am : Option Addr) (n c nm cm : Nat) (l : Lk) (w : World) (h : LkR w noX ep A n c l) (hm : n ≤ 9223372036854775807) (hf : fewB l.q = true) (hk : okL ep n = false) :
    Calls Try.prog 6 #[.agg #[.int .i64 ep, .slice A n c], .slice Am nm cm] w fun e w' => e = .returned (.bool true) ∧ Ext w w' := by
  have H := Lib.hid h
  clear h
  go_enter Try.func6, Try.ntmps6
  go_wp2_with fail
  refine (awake12 _).mono ?_
  rintro e w1 ⟨rfl, hb1⟩
  obtain ⟨x0, x1, x2⟩ := box1 hb1
  have E1 := (Ext.new w _).trans hb1
  go_wp2_with fail
  refine (few12_any noX _ _ _ _ l.q _ (H.out.2.1.up E1) hm).mono ?_
  rintro e w2 ⟨rfl, hb2⟩
  obtain ⟨c2, f2⟩ := bcell hb2
  go_wp2_with fail
  refine (ours_any _ _ _ _ _).mono ?_
  rintro e w3 ⟨rfl, hb3⟩
  go_wp2_with fail
  refine (linkSane_any _ _ _ _ _).mono ?_
  rintro e w4 ⟨rfl, hb4⟩
  go_wp2_with fail
  go_ret
  exact ⟨rfl, ((E1.trans hb2).trans hb3).trans hb4⟩

/-- X and what a slice's row lies in -/
def OffRow (g : Nat) (v : Value) (b : Nat) : Prop := b = g ∨ v.ownBlock = some b
theorem offrow_fresh {w w' : World} {g n m : Nat} {e : TypeId} {v : Value} {xs : List Value} (h : w'.ownsRow (g + 1) e m v n xs) (hg : w.heap.size ≤ g) : ∀ b, OffRow g v b → noX b ∨ w.heap.size ≤ b := by
  rintro b (rfl | hb)
  · exact .inr hg
  · exact .inr (by have := (h.lt b hb).1; omega)
theorem offrow_lt {w : World} {g n m : Nat} {e : TypeId} {v : Value} {xs : List Value} (h : w.ownsRow (g + 1) e m v n xs) (hg : g < w.heap.size) : ∀ b, OffRow g v b → b < w.heap.size := by
  rintro b (rfl | hb)
  · exact hg
  · exact (h.lt b hb).2
def OffRow2 (g g' : Nat) (v : Value) (b : Nat) : Prop := OffRow g v b ∨ b = g'
theorem offrow2_of {w : World} {g g' : Nat} {v : Value} (h : g' = w.heap.size) : ∀ b, OffRow2 g g' v b → OffRow g v b ∨ w.heap.size ≤ b := fun b hb => hb.imp id fun e => Nat.le_of_eq (by rw [e, h])
theorem offrow2_lt {w W : World} {g n m : Nat} {e : TypeId} {v : Value} {xs : List Value} (h : w.ownsRow (g + 1) e m v n xs) (hg : g < w.heap.size) (hW : w.heap.size < W.heap.size) : ∀ b, OffRow2 g w.heap.size v b → b < W.heap.size := by
  rintro b (hb | rfl)
  · exact Nat.lt_trans (offrow_lt h hg b hb) hW
  · exact hW
def OffBox (g : Nat) (b : Nat) : Prop := b = g
theorem offbox_of {w : World} {g : Nat} (hg : w.heap.size ≤ g) : ∀ b, OffBox g b → noX b ∨ w.heap.size ≤ b := fun b hb => .inr (by have : b = g := hb; omega)
theorem offrow_next {g s N : Nat} {u v : Value} (hat : v.ownBlock = u.ownBlock ∨ v.ownBlock = some s) : ∀ b, OffRow g v b → OffRow2 g s u b ∨ N ≤ b := by
  rintro b (rfl | hb)
  · exact .inl (.inl (.inl rfl))
  · rcases hat with h | h
    · exact .inl (.inl (.inr (by rw [← h, hb])))
    · exact .inl (.inr (by rw [hb] at h; injection h))
section
variable {X : Nat → Prop} {w w' : World} {row : Option Nat}
theorem grown_cell (hg : w.grownBy w' row) {b o : Nat} (hb : b < w.heap.size) (hX : some b ≠ row) : w'.cell? ⟨b, o, none⟩ = w.cell? ⟨b, o, none⟩ :=
  World.cell?_of_block (hg.block b hb hX)
theorem ArrR.grown {α : Type} {size n : Nat} {A : Option Addr} {R : List Value → α → Prop} {xs : List α} (h : ArrR w size R A n xs) (ho : Off X A n) (hg : w.grownBy w' row) (hX : ∀ b, row = some b → X b) : ArrR w' size R A n xs := by
  refine ⟨h.1, fun hn => ?_⟩
  obtain ⟨b, o, e, hlt, hc⟩ := h.2 hn
  refine ⟨b, o, e, Nat.lt_of_lt_of_le hlt hg.size, fun j x hx => ?_⟩
  obtain ⟨cs, h1, h2, h3⟩ := hc j x hx
  exact ⟨cs, h1, h2, fun i u hu => (grown_cell hg hlt fun he => ho hn b o e (hX b he.symm)).trans (h3 i u hu)⟩
theorem Flat.grown {size n : Nat} {A : Option Addr} {xs : List Value} (h : Flat w size A n xs) (ho : Off X A n) (hg : w.grownBy w' row) (hX : ∀ b, row = some b → X b) : Flat w' size A n xs :=
  ⟨h.1, fun hn => by
    obtain ⟨b, o, e, hlt, hc⟩ := h.2 hn
    exact ⟨b, o, e, Nat.lt_of_lt_of_le hlt hg.size, fun j u hu => (grown_cell hg hlt fun he => ho hn b o e (hX b he.symm)).trans (hc j u hu)⟩⟩
theorem own_set {base n m g i : Nat} {e : TypeId} {v u : Value} {xs : List Value} (h : w.ownsRow base e m v n xs) (hg : g < base) : (w.setCell ⟨g, i, none⟩ u).ownsRow base e m v n xs := by
  refine ⟨h.1, ?_⟩
  rcases h.2 with hn | ⟨g', cap, cur, rfl, hb, hh, rest⟩
  · exact .inl hn
  · exact .inr ⟨g', cap, cur, rfl, hb, (blk_far (by omega) _).trans hh, rest⟩
theorem BV.grown {v : Value} {bs : List UInt8} (h : BV w X v bs) (hg : w.grownBy w' row) (hX : ∀ b, row = some b → X b) : BV w' X v bs := by
  obtain ⟨A, n, c, e, h1, h2, h3, h4⟩ := h
  exact ⟨A, n, c, e, h1, h2, ArrR.grown h3 h4 hg hX, h4⟩
theorem LkR.grown {ep : Int} {A : Option Addr} {n c : Nat} {l : Lk} (h : LkR w X ep A n c l) (hg : w.grownBy w' row) (hX : ∀ b, row = some b → X b) : LkR w' X ep A n c l := by
  obtain ⟨h1, ⟨vs, hF, hO, hL, hQ⟩, h2⟩ := h
  exact ⟨h1, ⟨vs, hF.grown hO hg hX, hO, hL, fun i v hv => by obtain ⟨bs, h1, h2⟩ := hQ i v hv; exact ⟨bs, h1, h2.grown hg hX⟩⟩, h2⟩
end

set_option maxHeartbeats 3200000 in
theorem linkOrder_main (ep : Int) (A Am : Option Addr) (n c nm cm : Nat) (l : Lk) (mq : List (List UInt8)) (w : World) (h : LkR w noX ep A n c l) (hm : n ≤ 9223372036854775807) (hnm : nm ≤ 9223372036854775807) (hf : fewB l.q = true) (hk : okL ep n = true)
    (hmq : QRd w noX Am nm mq) (hAm : Am = none → cm = 0) :
    Calls Try.prog 6 #[.agg #[.int .i64 ep, .slice A n c], .slice Am nm cm] w fun e w' => e = .returned (.bool true) ∧ Ext w w' := by
  have hok : l.ok = true := by unfold Lk.ok; rw [h.1, h.len]; exact hk
  have HO := Lib.hid hok
  have hn32 : n ≤ 32 := by have := l.sane_len; rw [Lk.sane_of hok, h.len] at this; exact this
  have hlen := Lib.hid h.len
  have HFq := Lib.hid (fewB_len hf).2
  have H := Lib.hid h
  have HM := Lib.hid hmq
  clear h hok hmq
  go_enter Try.func6, Try.ntmps6
  go_wp2_with fail
  refine (awake12 _).mono ?_
  rintro e w1 ⟨rfl, hb1⟩
  obtain ⟨x0, x1, x2⟩ := box1 hb1
  have k0 := Lib.hid (box1b hb1).1
  have E1 := Lib.hid ((Ext.new w _).trans hb1)
  clear hb1
  go_wp2_with fail
  refine (few12_any noX _ _ _ _ l.q _ (H.out.2.1.up E1.out) hm).mono ?_
  rintro e w2 ⟨rfl, hb2⟩
  obtain ⟨c2, f2⟩ := bcell hb2
  go_wp2_with fail
  refine (ours_any _ _ _ _ _).mono ?_
  rintro e w3 ⟨rfl, hb3⟩
  go_wp2_with fail
  refine (linkSane_any _ _ _ _ _).mono ?_
  rintro e w4 ⟨rfl, hb4⟩
  have E4' := Lib.hid ((hb2.trans hb3).trans hb4)
  clear c2 f2 hb2 hb3 hb4 x0 x1
  obtain ⟨y0, -⟩ := blk_rules ((E4'.out.block x2).trans k0.out)
  by_cases hroom : n + nm ≤ 32
  · go_wp2_with fail
    refine (ours_any _ _ _ _ _).mono ?_
    rintro e w5 ⟨rfl, hb5⟩
    have E5' := Lib.hid (E4'.out.trans hb5)
    clear hb5 y0
    obtain ⟨y0, -⟩ := blk_rules ((E5'.out.block x2).trans k0.out)
    have x3 := Nat.lt_of_lt_of_le x2 E5'.out.size
    obtain ⟨vs, hF, -, hQ⟩ := H.out.2.1
    have EwE5 := Lib.hid (E1.out.trans E5'.out)
    obtain ⟨ms, hG, -, hP⟩ := HM.out
    have HF := Lib.hid hF
    have HQ := Lib.hid hQ
    have HG := Lib.hid hG
    have HP := Lib.hid hP
    have hnone := H.out.2.2.1
    have hE := own_empty_lit (w5.alloc (.cells #[.int .i64 ep, .slice A n c] 40)) (w5.heap.size + 1) 42 1 (by simp)
    have hE' : ((w5.alloc (.cells #[.int .i64 ep, .slice A n c] 40)).alloc (.cells #[] 42)).ownsRow (w5.heap.size + 1) 42 1 (.slice (some ⟨w5.heap.size + 1, 0, none⟩) 0 0) 0 [] := by simpa using hE
    have hFu := hF.up (((E1.out.trans E5'.out).alloc (.cells #[.int .i64 ep, .slice A n c] 40)).alloc (.cells #[] 42))
    have hone := hQ.one_cell
    clear hF hQ hG hP hE
    go_wp2_with (at_builtin
                 obtain ⟨v', w6, hrun, hown6, hg6, hat6⟩ := run_append_flat elem_bytes 35 hE' c hFu hone (by omega) (by omega) (by simp) hnone
                 refine Lib.wpList_append_run _ rfl _ _ _ _ rfl _ _ rfl rfl v' w6 hrun ?_)
    have hbase : w5.heap.size + 1 ≤ w6.heap.size := by have := hg6.size; simp at this; omega
    have B6 : Hid (w6.heap[w5.heap.size]? = some (.cells #[.int .i64 ep, .slice A n c] 40 (0, 0))) := Lib.hid (by
      rw [hg6.block _ (by simp; omega) (by simp [Value.ownBlock])]
      exact ((Ext.new _ _).block (by simp)).trans (heap_alloc_new w5 _))
    have OW6 : Hid (w6.ownsRow (w5.heap.size + 1) 42 1 v' (0 + n) ([] ++ vs)) := Lib.hid hown6
    have EW6 : Hid (Ext w w6) := Lib.hid (Ext.grown (((E1.out.trans E5'.out).alloc _).alloc _) hg6 hE' (by have := (E1.out.trans E5'.out).size; omega))
    have LK6 : Hid (LkR w6 (OffRow w5.heap.size v') ep A n c l) := Lib.hid ((H.out.fresh (offrow_fresh OW6.out (by have := (E1.out.trans E5'.out).size; omega))).up EW6.out)
    clear hrun hg6 hat6 hown6 hFu hone hE' y0 x3
    have hmlen : ms.length = nm := by have := HG.out.1; simpa using this
    go_loopw [7, 8] (fun t i wr => ∃ (k : Nat) (e' : Int) (A' : Option Addr) (n' c' : Nat), k ≤ nm ∧ i = .int .i64 k ∧ Hid (wr.ownsRow (w5.heap.size + 1) 42 1 t (n + k) (vs ++ ms.take k)) ∧
      Hid (wr.heap[w5.heap.size]? = some (.cells #[.int .i64 e', .slice A' n' c'] 40 (0, 0))) ∧ Hid (LkR wr (OffRow w5.heap.size t) e' A' n' c' ⟨l.ep, l.q ++ mq.take k⟩) ∧ Hid (Ext w wr) ∧ w5.heap.size + 1 ≤ wr.heap.size) (fun _ i _ => nm - (intOf i).toNat)
    case atStart => exact ⟨0, ep, A, n, c, Nat.zero_le _, rfl, Lib.hid (by simpa using OW6.out), B6, Lib.hid (by simpa using LK6.out), EW6, hbase⟩
    case round =>
      obtain ⟨k, e', A', n', c', hk, rfl, OWk, Bk, LKk, EWk, hzk⟩ := hrel
      by_cases hlt : k < nm
      · obtain ⟨b, o, Ax, nx, cx, x, hAm', hb, hqx, hcx, hx1, hx2, hx3, -⟩ := HM.out.at_ hlt
        subst hAm'
        have hck : wr.cell? ⟨b, o + k, none⟩ = some (.slice Ax nx cx) := (EWk.out.cell hb).trans hcx
        have hx3l := hx3.len
        have hms : Hid (ms[k]? = some (.slice Ax nx cx)) := Lib.hid (by
          obtain ⟨b', o', e1, _, hcc⟩ := HG.out.2 (by omega)
          injection e1 with e1
          injection e1 with e1 e2
          subst e1 e2
          have h1 := hcc k _ (List.getElem?_eq_getElem (by omega))
          rw [hcx] at h1
          injection h1 with h1
          rw [h1]
          exact List.getElem?_eq_getElem (by omega))
        have i1 : (0 : Int) ≤ (k : Int) := by omega
        have i2 : (k : Int) < (nm : Int) := by omega
        have HQX := Lib.hid hqx
        have HX3 := Lib.hid hx3
        clear hqx hx3 hcx
        by_cases hbig : 300 < nx
        · go_wp2_with fail
          go_ret
          exact ⟨rfl, EWk.out⟩
        · obtain ⟨y0, -⟩ := blk_rules Bk.out
          have q00 : wr.cell? ⟨w5.heap.size, 0, none⟩ = some (.int .i64 e') := y0 0
          have q01 : wr.cell? ⟨w5.heap.size, 1, none⟩ = some (.slice A' n' c') := y0 1
          have hzk' : w5.heap.size < wr.heap.size := by omega
          have hbk := Nat.lt_of_lt_of_le hb EWk.out.size
          have HSnd : Hid ((Lk.mk l.ep (l.q ++ mq.take k)).send x = (⟨l.ep, l.q ++ mq.take (k + 1)⟩, 0)) := Lib.hid (by
            have h1 : (l.q ++ mq.take k).length = n + k := by rw [List.length_append, hlen.out, List.length_take, HM.out.len]; omega
            have h2 := HO.out
            rw [send_room (by unfold Lk.ok okL at *; simp only [h1]; rw [hlen.out] at h2; simp at h2 ⊢; omega) (by simp only [h1]; omega), take_snoc_of HQX.out, List.append_assoc])
          go_wp2_with fail
          go_region_held3 (fun w' => w'.cell? ⟨w5.heap.size, 0, none⟩ = some (.int .i64 e') ∧ w'.cell? ⟨w5.heap.size, 1, none⟩ = some (.slice A' n' c') ∧ w'.cell? ⟨b, o + k, none⟩ = some (.slice Ax nx cx))
            (first
              | exact ⟨q00, q01, hck⟩
              | exact ⟨r0, r1, r2⟩
              | exact ⟨((Ext.new _ _).cell hzk').trans q00, ((Ext.new _ _).cell hzk').trans q01, ((Ext.new _ _).cell hbk).trans hck⟩
              | exact ⟨((Ext.new _ _).cell hzk3).trans r0, ((Ext.new _ _).cell hzk3).trans r1, ((Ext.new _ _).cell hbk3).trans r2⟩
              | exact ⟨(cell_far (by omega) _).trans ((cell_far (by omega) _).trans r0), (cell_far (by omega) _).trans ((cell_far (by omega) _).trans r1), (cell_far (by omega) _).trans ((cell_far (by omega) _).trans r2)⟩)
            (first
              | (go_at_call 31; refine (linkSend_any (OffRow w5.heap.size _) _ _ _ _ _ _ _ _ x wr.drew (LKk.out.up (Ext.refl wr).drew) (offrow_lt OWk.out hzk') (ArrR.up HX3.out (EWk.out.trans (Ext.refl wr).drew)) hx1 (by omega)).mono ?_; rintro e w3 ⟨ep3, A3, n3, c3, rfl, hl3, hE3⟩; rw [HSnd.out] at hl3 ⊢; have r0 := (Ext.cell hE3 (o := 0) hzk').trans q00; have r1 := (Ext.cell hE3 (o := 1) hzk').trans q01; have r2 := (Ext.cell hE3 (o := o + k) hbk).trans hck; have hzk3 := Nat.lt_of_lt_of_le hzk' hE3.size; have hbk3 := Nat.lt_of_lt_of_le hbk hE3.size)
              | (go_at_call 31; refine (linkSend_any (OffRow2 w5.heap.size wr.heap.size _) _ _ _ _ _ _ _ _ x (wr.alloc (.cells #[.int .i64 0, .slice none 0 0] 40)).drew ((LKk.out.fresh (offrow2_of rfl)).up (Ext.new wr _).drew) (offrow2_lt OWk.out hzk' (by simp)) (ArrR.up HX3.out (EWk.out.trans (Ext.new wr _).drew)) hx1 (by omega)).mono ?_; rintro e w3 ⟨ep3, A3, n3, c3, rfl, hl3, hE3⟩; rw [HSnd.out] at hl3 ⊢; have hEz := (Ext.new wr (.cells #[.int .i64 0, .slice none 0 0] 40)).drew.trans hE3; have r0 := (hEz.cell (o := 0) hzk').trans q00; have r1 := (hEz.cell (o := 1) hzk').trans q01; have r2 := (hEz.cell (o := o + k) hbk).trans hck; have hkz := (Ext.block hE3 (b := wr.heap.size) (by simp)).trans (heap_alloc_new wr _); obtain ⟨z0, z1⟩ := blk_rules hkz)
              | fail)
          all_goals
            first
              | (have EE := Lib.hid (((Ext.refl wr).drew.trans hE3).alloc (.cells #[.int .i64 ep3, .slice A3 n3 c3] 40))
                 have G9 := Lib.hid (heap_alloc_new w3 (.cells #[.int .i64 ep3, .slice A3 n3 c3] 40))
                 have LK4 := Lib.hid (hl3.up (Ext.new w3 (.cells #[.int .i64 ep3, .slice A3 n3 c3] 40)))
                 have h9 : w5.heap.size < w3.heap.size := hzk3
                 generalize World.alloc w3 _ = W4 at EE G9 LK4 ⊢
                 generalize w3.heap.size = b9 at G9 h9 ⊢
                 clear hl3 hE3 r0 r1 r2 hzk3 hbk3)
              | (have EE := Lib.hid ((hEz.set (p := ⟨wr.heap.size, 0, none⟩) (Nat.le_refl _) (Value.int IntKind.i64 ep3)).set (p := ⟨wr.heap.size, 1, none⟩) (Nat.le_refl _) (Value.slice A3 n3 c3))
                 have G9 := Lib.hid (blk_set (blk_set hkz (i := 0) (Value.int IntKind.i64 ep3)) (i := 1) (Value.slice A3 n3 c3))
                 have LK4 := Lib.hid (((hl3.set (.inr rfl) (i := 0) (Value.int IntKind.i64 ep3)).set (.inr rfl) (i := 1) (Value.slice A3 n3 c3)).fresh fun b hb => .inl (.inl hb))
                 have h9 : w5.heap.size < wr.heap.size := hzk'
                 generalize World.setCell _ _ (Value.slice A3 n3 c3) = W4 at EE G9 LK4 ⊢
                 generalize hb9 : wr.heap.size = b9 at G9 h9 ⊢
                 clear hl3 hE3 hEz r0 r1 r2 hkz z0 z1 hb9)
          all_goals
            have OW4 := Lib.hid (own_up OWk.out EE.out)
            have EW4 := Lib.hid (EWk.out.trans EE.out)
            have B4 := Lib.hid ((EE.out.block hzk').trans Bk.out)
            have hz4 := Nat.lt_of_lt_of_le hzk' EE.out.size
            have hck4 := (EE.out.cell hbk).trans hck
            clear OWk EWk Bk LKk y0 q00 q01 hck hbk HSnd hzk hzk' EE
            obtain ⟨y0, y1⟩ := blk_rules B4.out
            obtain ⟨g0, -⟩ := blk_rules G9.out
            have hbne : b ≠ w5.heap.size := by have := EwE5.out.size; omega
            have hck5 := (cell_far hbne (Value.slice A3 n3 c3) (i := 1)).trans ((cell_far hbne (Value.int IntKind.i64 ep3) (i := 0)).trans hck4)
            have OW5 := own_set (g := w5.heap.size) (i := 1) (u := Value.slice A3 n3 c3) (own_set (g := w5.heap.size) (i := 0) (u := Value.int IntKind.i64 ep3) OW4.out (by omega)) (by omega)
            have LK5 := Lib.hid ((LK4.out.set (g := w5.heap.size) (i := 0) (.inl rfl) (Value.int IntKind.i64 ep3)).set (g := w5.heap.size) (i := 1) (.inl rfl) (Value.slice A3 n3 c3))
            have B5 := Lib.hid (blk_set (i := 1) (blk_set (i := 0) B4.out (Value.int IntKind.i64 ep3)) (Value.slice A3 n3 c3))
            have EW5 := Lib.hid ((EW4.out.set (p := ⟨w5.heap.size, 0, none⟩) EwE5.out.size (Value.int IntKind.i64 ep3)).set (p := ⟨w5.heap.size, 1, none⟩) EwE5.out.size (Value.slice A3 n3 c3))
            have hz5 : w5.heap.size + 1 ≤ (((W4.setCell ⟨w5.heap.size, 0, none⟩ (Value.int IntKind.i64 ep3)).setCell ⟨w5.heap.size, 1, none⟩ (Value.slice A3 n3 c3)).alloc (.cells #[.slice Ax nx cx] 42)).heap.size := by simp [World.setCell]; omega
            have hsz : ((W4.setCell ⟨w5.heap.size, 0, none⟩ (Value.int IntKind.i64 ep3)).setCell ⟨w5.heap.size, 1, none⟩ (Value.slice A3 n3 c3)).heap.size = W4.heap.size := by simp [World.setCell]
            have hone5 := one_flat ((W4.setCell ⟨w5.heap.size, 0, none⟩ (Value.int IntKind.i64 ep3)).setCell ⟨w5.heap.size, 1, none⟩ (Value.slice A3 n3 c3)) (.slice Ax nx cx) 42
            rw [hsz] at hone5
            have OW5' := own_up OW5 (Ext.new _ (.cells #[.slice Ax nx cx] 42))
            clear OW4 LK4 B4 EW4 hck4 OW5
            go_wp2_with (at_builtin
                         obtain ⟨v6, w6, hrun, hown6, hg6, hat6⟩ := run_append_flat elem_bytes 35 OW5' 1 hone5 (by simp [Value.oneCell']) (by omega) (by omega) hz5 (fun h => by cases h)
                         refine Lib.wpList_append_run _ rfl _ _ _ _ rfl _ _ rfl rfl v6 w6 hrun ?_)
            have hzz := Nat.le_trans hz5 hg6.size
            have B6 := Lib.hid ((hg6.block w5.heap.size (by omega) (fun e => by have := (OW5'.lt _ e.symm).1; omega)).trans (((Ext.new _ (.cells #[.slice Ax nx cx] 42)).block (by rw [hsz]; exact hz4)).trans B5.out))
            have LK6 := Lib.hid ((((LK5.out.up (Ext.new _ (.cells #[.slice Ax nx cx] 42))).fresh (offrow2_of rfl)).grown hg6 (fun b hb => .inl (.inr hb))).fresh (offrow_next hat6))
            have EW6 := Lib.hid (Ext.grown (EW5.out.alloc (.cells #[.slice Ax nx cx] 42)) hg6 OW5' (by have := EwE5.out.size; omega))
            have OW6 := Lib.hid hown6
            clear hrun hown6 hg6 hat6 hck5 OW5' hone5 hz5
            go_roundw
            case rel => exact ⟨k + 1, ep3, A3, n3, c3, by omega, by go_num, Lib.hid (by rw [take_snoc_of hms.out, ← List.append_assoc]; exact OW6.out), B6, LK6, EW6, hzz⟩
            case measure => simp [intOf]; omega
      · obtain rfl : k = nm := by omega
        rw [List.take_of_length_le (by rw [hmlen]; exact Nat.le_refl _)] at OWk
        rw [List.take_of_length_le (by rw [HM.out.len]; exact Nat.le_refl _)] at LKk
        have hlenQ : (l.q ++ mq).length = n + k := by rw [List.length_append, hlen.out, HM.out.len]
        have okD : ∀ j, Lk.ok ⟨l.ep, (l.q ++ mq).drop j⟩ = true := by
          intro j
          have h2 := HO.out
          unfold Lk.ok okL at *
          rw [hlen.out] at h2
          simp only [List.length_drop, hlenQ]
          simp at h2 ⊢
          omega
        have HOD := Lib.hid okD
        have HLQ := Lib.hid hlenQ
        obtain ⟨A7, c7, h7, -, -, h7n, h7f⟩ := own_flat OWk.out
        have QA : Hid (QRd wr (OffBox w5.heap.size) A7 (n + k) (l.q ++ mq)) := Lib.hid ⟨_, h7f, fun _ b o e hx => by
            rw [h7, e] at OWk
            have h1 := (OWk.out.lt b rfl).1
            have h2 : b = w5.heap.size := hx
            omega, ((HQ.out.fresh (offbox_of (EwE5.out.size))).append (HP.out.fresh (offbox_of (EwE5.out.size)))).up EWk.out⟩
        have LK0 : Hid (LkR wr (OffBox w5.heap.size) e' A' n' c' ⟨l.ep, (l.q ++ mq).drop 0⟩) := Lib.hid (LKk.out.fresh fun b hb => .inl (.inl hb))
        subst h7
        clear okD hlenQ h7f OWk LKk
        go_wp2_with fail
        go_loopw [11] (fun i wr => ∃ (j : Nat) (e' : Int) (A' : Option Addr) (n' c' : Nat), j ≤ n + k ∧ i = .int .i64 j ∧
          Hid (wr.heap[w5.heap.size]? = some (.cells #[.int .i64 e', .slice A' n' c'] 40 (0, 0))) ∧ Hid (LkR wr (OffBox w5.heap.size) e' A' n' c' ⟨l.ep, (l.q ++ mq).drop j⟩) ∧ Hid (QRd wr (OffBox w5.heap.size) A7 (n + k) (l.q ++ mq)) ∧ Hid (Ext w wr) ∧ w5.heap.size + 1 ≤ wr.heap.size) (fun i _ => n + k - (intOf i).toNat)
        case atStart => exact ⟨0, e', A', n', c', Nat.zero_le _, rfl, Bk, LK0, QA, EWk, hzk⟩
        case round =>
          clear Bk LK0 QA EWk hzk
          obtain ⟨j, e2, A2, n2, c2, hj, rfl, B2, L2, Q2, E2, hz2⟩ := hrel
          have hg2 : w5.heap.size < wr.heap.size := hz2
          obtain ⟨y0, y1⟩ := blk_rules B2.out
          by_cases hlt : j < n + k
          · obtain ⟨b, o, Ay, ny, cy, y, rfl, hb, hqy, hcy, hy1, hy2, hy3, -⟩ := Q2.out.at_ hlt
            have HT : Hid ((Lk.mk l.ep ((l.q ++ mq).drop j)).take 0 = (⟨l.ep, (l.q ++ mq).drop (j + 1)⟩, y, 0)) := Lib.hid (by
              rw [show (0 : Int) = ((0 : Nat) : Int) from rfl, take_at (HOD.out j) (k := 0) (x := y) (by simpa using hqy)]
              simp)
            have HY3 := Lib.hid hy3
            clear hqy hy3
            go_wp2_with fail
            refine (linkTake_any (OffBox w5.heap.size) _ _ _ _ _ 0 _ L2.out (fun b hb => by have : b = w5.heap.size := hb; omega)).mono ?_
            rintro e w3 ⟨e3, A3, n3, c3, At, nt, ct, rfl, hl3, hbv3, hb3⟩
            rw [HT.out] at hl3 hbv3 ⊢
            simp only [] at hl3 hbv3 ⊢
            have hnk3 : n3 ≤ 32 := by have h1 := hl3.len; simp only [] at h1; rw [List.length_drop, HLQ.out] at h1; omega
            have E3 := Lib.hid (hb3.alloc (.cells #[.int .i64 e3, .slice A3 n3 c3] 40))
            have E3' := Ext.new w3 (.cells #[.int .i64 e3, .slice A3 n3 c3] 40)
            obtain ⟨_, _, _, q1, _, _, bt, _⟩ := hbv3
            injection q1 with q1 q2 q3
            subst q1 q2 q3
            have g1 := conv_bytes (ArrR.up bt E3') ct
            have g2 := conv_bytes (ArrR.up HY3.out E3.out) cy
            have t1 := bstr_toList y
            have hcW := (E3.out.cell hb).trans hcy
            have B3 := Lib.hid ((E3.out.block hg2).trans B2.out)
            have L3 := Lib.hid (hl3.up E3')
            have Q3 := Lib.hid (Q2.out.up E3.out)
            have EW3 := Lib.hid (E2.out.trans E3.out)
            have G3 := Lib.hid (heap_alloc_new w3 (.cells #[.int .i64 e3, .slice A3 n3 c3] 40))
            have hg3 := Nat.lt_of_lt_of_le hg2 E3.out.size
            have hg4 : w5.heap.size < w3.heap.size := Nat.lt_of_lt_of_le hg2 hb3.size
            have i1 : (0 : Int) ≤ (j : Int) := by omega
            have i2 : (j : Int) < (n : Int) + (k : Int) := by omega
            have i3 : (j : Int) < ((n + k : Nat) : Int) := by omega
            clear y0 y1 hl3 bt hb3 hcy E3' L2 Q2 B2 E2 HT
            obtain ⟨y0, y1⟩ := blk_rules B3.out
            obtain ⟨z0, -⟩ := blk_rules G3.out
            go_wp2_with fail
            go_quiet (fail)
            go_wp2_with fail
            go_roundw
            case rel => exact ⟨j + 1, e3, A3, n3, c3, by omega, by go_num, Lib.hid (blk_set (blk_set ((((Ext.refl _).drewN _).block hg3).trans B3.out) _) _), Lib.hid (((L3.out.up ((Ext.refl _).drewN _)).set rfl _).set rfl _), Lib.hid (((Q3.out.up ((Ext.refl _).drewN _)).set rfl _).set rfl _), Lib.hid (((EW3.out.trans ((Ext.refl _).drewN _)).set EwE5.out.size _).set EwE5.out.size _), by simp [World.setCell]; omega⟩
            case measure => simp [intOf]; omega
          · obtain rfl : j = n + k := by omega
            have HT : Hid (((Lk.mk l.ep ((l.q ++ mq).drop (n + k))).take 0).2.2 = 10) := Lib.hid (by
              unfold Lk.take
              rw [Lk.sane_of (HOD.out _), if_pos (by rw [List.length_drop, HLQ.out]; omega)])
            go_wp2_with fail
            refine (linkTake_any (OffBox w5.heap.size) _ _ _ _ _ 0 _ L2.out (fun b hb => by have : b = w5.heap.size := hb; omega)).mono ?_
            rintro e w3 ⟨e3, A3, n3, c3, At, nt, ct, rfl, -, -, hb3⟩
            rw [HT.out]
            go_wp2_with fail
            go_ret
            exact ⟨rfl, E2.out.trans (hb3.alloc _)⟩
  · have hcmp : (32 : Int) - n < nm := by omega
    go_wp2_with fail
    go_ret
    exact ⟨rfl, E1.out.trans E4'.out⟩
end Go.Proofs.Ytjomoannlpadnaa
