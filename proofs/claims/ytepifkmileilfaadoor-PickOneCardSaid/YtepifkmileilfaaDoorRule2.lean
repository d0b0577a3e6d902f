/- What the closure of package pick's Rule, and best over rules, compute. -/
import Derived.Test.YtepifkmileilfaaDoorRule
namespace Go.Proofs.YtepifkmileilfaaDoor
set_option linter.unusedVariables false
open Go.RowKit

set_option maxHeartbeats 1000000 in
theorem fit_any (h p : ByteArray) (g1 g2 : Nat) (r : Ru) (A : Option Addr) (n c : Nat) (w : World) (hg1 : g1 < w.heap.size) (hg2 : g2 < w.heap.size) (c1 : w.cell? ⟨g1, 0, none⟩ = some (.string h)) (c2 : w.cell? ⟨g2, 0, none⟩ = some (.string p))
    (hh : h.size ≤ maxLen) (hp : p.size ≤ maxLen) (h1 : r.host.size ≤ maxLen) (h2 : r.pre.size ≤ maxLen) :
    Calls Tryd.prog 58 #[.agg #[.string r.host, .string r.pre, .slice A n c], .pointer (some ⟨g1, 0, none⟩), .pointer (some ⟨g2, 0, none⟩)] w fun e w' => e = .returned (.bool (fitB r h p)) ∧ Ext w w' := by
  obtain ⟨rh, rp, rw_⟩ := r
  simp only at h1 h2 ⊢
  have HF : Hid (matchB (tx rh) (tx h) = false → fitB ⟨rh, rp, rw_⟩ h p = false) := Lib.hid fun e => by unfold fitB; rw [e]; rfl
  have HT : Hid (matchB (tx rh) (tx h) = true → fitB ⟨rh, rp, rw_⟩ h p = underB (tx rp) (tx p)) := Lib.hid fun e => by unfold fitB; rw [e]; rfl
  obtain ⟨v, hv⟩ : ∃ v, v = fitB ⟨rh, rp, rw_⟩ h p := ⟨_, rfl⟩
  rw [← hv] at HF HT ⊢
  clear hv
  go_enter Tryd.func58, Tryd.ntmps58
  go_wp2_with fail
  refine (matches_any _ _ _ h1 hh).mono ?_
  rintro e w1 ⟨rfl, hb1⟩
  obtain ⟨x0, x1, x2⟩ := box1 hb1
  have E1 := Lib.hid ((Ext.new w _).trans hb1)
  have d2 : w1.cell? ⟨g2, 0, none⟩ = some (.string p) := (E1.out.cell hg2).trans c2
  cases hm : matchB (tx rh) (tx h) with
  | false =>
    go_wp2_with fail
    go_ret
    exact ⟨ret_bool (HF.out hm).symm, E1.out⟩
  | true =>
    clear hb1
    go_wp2_with fail
    refine (under_any _ _ _ h2 hp).mono ?_
    rintro e w2 ⟨rfl, hb2⟩
    go_wp2_with fail
    go_ret
    exact ⟨ret_bool (HT.out hm).symm, E1.out.trans hb2⟩

def ru0 : Ru := ⟨⟨#[]⟩, ⟨#[]⟩, []⟩
def bestStep (h p : ByteArray) (s : Bool × Ru) (x : Ru) : Bool × Ru := if (fitB x h p && (!s.1 || beatsB x s.2)) = true then (true, x) else s
def bestS (h p : ByteArray) (l : List Ru) : Bool × Ru := l.foldl (bestStep h p) (false, ru0)
theorem bestS_snoc {h p : ByteArray} {l : List Ru} {k : Nat} {x : Ru} (hx : l[k]? = some x) : bestS h p (l.take (k + 1)) = bestStep h p (bestS h p (l.take k)) x := by
  rw [take_snoc_of hx]; unfold bestS; rw [List.foldl_append]; rfl
/-- the parts of a rule's value -/
def RuV (w : World) (A : Option Addr) (n : Nat) (r : Ru) : Prop := r.host.size ≤ maxLen ∧ r.pre.size ≤ maxLen ∧ n ≤ maxLen ∧ ArrR w 2 WtR A n r.ws
theorem RuV.up {w w' : World} {A : Option Addr} {n : Nat} {r : Ru} (h : RuV w A n r) (he : Ext w w') : RuV w' A n r := ⟨h.1, h.2.1, h.2.2.1, h.2.2.2.up he⟩
theorem rules_up {w w' : World} {A : Option Addr} {n : Nat} {l : List Ru} (h : ArrR w 3 (RuR w) A n l) (he : Ext w w') : ArrR w' 3 (RuR w') A n l := h.keep (fun _ _ hr => hr.up he) he.size (fun _ _ hb => he.cell hb)
def GivesRule (w0 w : World) (s : Bool × Ru) (e : Ending) (w' : World) : Prop := ∃ A n c, e = .returned (.tuple #[.agg #[.string s.2.host, .string s.2.pre, .slice A n c], .bool s.1]) ∧ RuV w0 A n s.2 ∧ Ext w w'

set_option maxHeartbeats 2000000 in
theorem best_any (h p : ByteArray) (g1 g2 : Nat) (A : Option Addr) (n c : Nat) (l : List Ru) (w0 w : World) (hg1 : g1 < w.heap.size) (hg2 : g2 < w.heap.size) (c1 : w.cell? ⟨g1, 0, none⟩ = some (.string h)) (c2 : w.cell? ⟨g2, 0, none⟩ = some (.string p))
    (hh : h.size ≤ maxLen) (hp : p.size ≤ maxLen) (hn : n ≤ 9223372036854775807) (hA : ArrR w 3 (RuR w0) A n l) :
    Calls Tryd.prog 57 #[.slice A n c, .func (.func 58) #[] #[.pointer (some ⟨g1, 0, none⟩), .pointer (some ⟨g2, 0, none⟩)], .func (.func 20) #[] #[]] w (GivesRule w0 w (bestS h p l)) := by
  have C1 := Lib.hid c1
  have C2 := Lib.hid c2
  have HA := Lib.hid hA
  clear c1 c2 hA
  go_enter Tryd.func57, Tryd.ntmps57
  go_wp2_with fail
  obtain ⟨kA, kB⟩ := two_blocks w (.cells #[.string ⟨#[]⟩, .string ⟨#[]⟩, .slice none 0 0] 27) (.cells #[.string ⟨#[]⟩, .string ⟨#[]⟩, .slice none 0 0] 27)
  obtain ⟨W, hW⟩ : ∃ W, W = (w.alloc (.cells #[.string ⟨#[]⟩, .string ⟨#[]⟩, .slice none 0 0] 27)).alloc (.cells #[.string ⟨#[]⟩, .string ⟨#[]⟩, .slice none 0 0] 27) := ⟨_, rfl⟩
  have EW : Hid (Ext w W) := Lib.hid (by rw [hW]; exact ((Ext.refl w).alloc _).alloc _)
  have hsW : w.heap.size + 1 < W.heap.size := by rw [hW]; simp
  rw [← hW] at kA kB ⊢
  have KA := Lib.hid kA
  have KB := Lib.hid kB
  clear hW kA kB
  have R0 : Hid (RuV w0 none 0 ru0) := Lib.hid ⟨by decide, by decide, by decide, ArrR.nil_⟩
  go_loopw [9, 14] (fun f i wr => ∃ (k : Nat) (Ao : Option Addr) (no co : Nat) (r : Ru) (fd : Bool), k ≤ n ∧ i = .int .i64 k ∧ f = .bool fd ∧ Hid (bestS h p (l.take k) = (fd, r)) ∧
    Hid (wr.heap[w.heap.size + 1]? = some (.cells #[.string r.host, .string r.pre, .slice Ao no co] 27 (0, 0))) ∧ Hid (wr.heap[w.heap.size]? = some (.cells #[.string ⟨#[]⟩, .string ⟨#[]⟩, .slice none 0 0] 27 (0, 0))) ∧ Hid (RuV w0 Ao no r) ∧ Hid (Ext w wr) ∧ w.heap.size + 1 < wr.heap.size) (fun _ i _ => n - (intOf i).toNat)
  case atStart => exact ⟨0, none, 0, 0, ru0, false, Nat.zero_le _, rfl, rfl, Lib.hid rfl, KB, KA, R0, EW, hsW⟩
  case round =>
    obtain ⟨k, Ao, no, co, r, fd, hk, rfl, rfl, HS, BO, BZ, RV, EX, hz⟩ := hrel
    by_cases hlt : k < n
    · obtain ⟨b, o, x, As, ns, cs, rfl, hbB, hlk, d1, d2, d3, s1, s2, s3, s5⟩ := RuR.at_ HA.out hlt
      have e1 : wr.cell? ⟨b, o + k * 3, none⟩ = some (.string x.host) := (EX.out.cell hbB).trans d1
      have e2 : wr.cell? ⟨b, o + k * 3 + 1, none⟩ = some (.string x.pre) := (EX.out.cell hbB).trans d2
      have e3 : wr.cell? ⟨b, o + k * 3 + 2, none⟩ = some (.slice As ns cs) := (EX.out.cell hbB).trans d3
      have HX : Hid (RuV w0 As ns x) := Lib.hid ⟨s1, s2, s3, s5⟩
      have HN : Hid (bestS h p (l.take (k + 1)) = bestStep h p (fd, r) x) := Lib.hid (by rw [bestS_snoc hlk, HS.out])
      have i1 : (0 : Int) ≤ (k : Int) := by omega
      have i2 : (k : Int) < (n : Int) := by omega
      clear d1 d2 d3 s1 s2 s3 s5 hlk HS
      go_wp2_with fail
      refine (fit_any h p g1 g2 x As ns cs _ (Nat.lt_of_lt_of_le hg1 (EX.out.alloc _).size) (Nat.lt_of_lt_of_le hg2 (EX.out.alloc _).size) (((EX.out.alloc _).cell hg1).trans C1.out) (((EX.out.alloc _).cell hg2).trans C2.out) hh hp HX.out.1 HX.out.2.1).mono ?_
      rintro e w1 ⟨rfl, hb1⟩
      obtain ⟨x0, x1, x2⟩ := box1 hb1
      have E1 : Hid (Ext wr w1) := Lib.hid ((Ext.new wr _).trans hb1)
      have hz1 : w.heap.size + 1 < w1.heap.size := Nat.lt_of_lt_of_le hz E1.out.size
      have BO1 := Lib.hid ((E1.out.block hz).trans BO.out)
      have BZ1 := Lib.hid ((E1.out.block (b := w.heap.size) (by omega)).trans BZ.out)
      have EX1 := Lib.hid (EX.out.trans E1.out)
      clear hb1 e1 e2 e3
      cases hf : fitB x h p with
      | false =>
        have HN2 : Hid (bestS h p (l.take (k + 1)) = (fd, r)) := Lib.hid (HN.out.trans (by unfold bestStep; rw [hf]; rfl))
        go_wp2_with fail
        go_roundw
        case rel => exact ⟨k + 1, Ao, no, co, r, fd, by omega, by go_num, rfl, HN2, BO1, BZ1, RV, EX1, hz1⟩
        case measure => simp [intOf]; omega
      | true =>
        obtain ⟨q0, q1⟩ := blk_rules BO1.out
        cases fd with
        | false =>
          have HN2 : Hid (bestS h p (l.take (k + 1)) = (true, x)) := Lib.hid (HN.out.trans (by unfold bestStep; rw [hf]; rfl))
          go_wp2_with fail
          generalize hV : ((w1.setCell ⟨w.heap.size + 1, 0, none⟩ (.string x.host)).setCell ⟨w.heap.size + 1, 1, none⟩ (.string x.pre)).setCell ⟨w.heap.size + 1, 2, none⟩ (.slice As ns cs) = V
          have EV : Ext w V := by rw [← hV]; exact (((EX1.out.set (p := ⟨w.heap.size + 1, 0, none⟩) (Nat.le_succ _) _).set (p := ⟨w.heap.size + 1, 1, none⟩) (Nat.le_succ _) _).set (p := ⟨w.heap.size + 1, 2, none⟩) (Nat.le_succ _) _)
          have BV : V.heap[w.heap.size + 1]? = some (.cells #[.string x.host, .string x.pre, .slice As ns cs] 27 (0, 0)) := by rw [← hV]; exact blk_set (blk_set (blk_set BO1.out _) _) _
          have BW : V.heap[w.heap.size]? = some (.cells #[.string ⟨#[]⟩, .string ⟨#[]⟩, .slice none 0 0] 27 (0, 0)) := by rw [← hV]; exact (blk_far (by omega) _).trans ((blk_far (by omega) _).trans ((blk_far (by omega) _).trans BZ1.out))
          have hzV : w.heap.size + 1 < V.heap.size := by rw [← hV]; simp only [World.setCell, Array.size_modify]; exact hz1
          clear hV
          go_roundw
          case rel => exact ⟨k + 1, As, ns, cs, x, true, by omega, by go_num, rfl, HN2, Lib.hid BV, Lib.hid BW, HX, Lib.hid EV, hzV⟩
          case measure => simp [intOf]; omega
        | true =>
          go_wp2_with fail
          refine (beats_any x r As Ao ns cs no co _ HX.out.1 RV.out.1).mono ?_
          rintro e w2 ⟨rfl, hb2⟩
          obtain ⟨y0, y1⟩ := bcell hb2
          have hz2 : w.heap.size + 1 < w2.heap.size := Nat.lt_of_lt_of_le hz1 hb2.size
          have BO2 := Lib.hid ((hb2.block hz1).trans BO1.out)
          have BZ2 := Lib.hid ((hb2.block (b := w.heap.size) (by omega)).trans BZ1.out)
          have EX2 := Lib.hid (EX1.out.trans hb2)
          cases hbt : beatsB x r with
          | false =>
            have HN2 : Hid (bestS h p (l.take (k + 1)) = (true, r)) := Lib.hid (HN.out.trans (by unfold bestStep; simp [hf, hbt]))
            go_wp2_with fail
            go_roundw
            case rel => exact ⟨k + 1, Ao, no, co, r, true, by omega, by go_num, rfl, HN2, BO2, BZ2, RV, EX2, hz2⟩
            case measure => simp [intOf]; omega
          | true =>
            have HN2 : Hid (bestS h p (l.take (k + 1)) = (true, x)) := Lib.hid (HN.out.trans (by unfold bestStep; simp [hf, hbt]))
            go_wp2_with fail
            generalize hV : ((w2.setCell ⟨w.heap.size + 1, 0, none⟩ (.string x.host)).setCell ⟨w.heap.size + 1, 1, none⟩ (.string x.pre)).setCell ⟨w.heap.size + 1, 2, none⟩ (.slice As ns cs) = V
            have EV : Ext w V := by rw [← hV]; exact (((EX2.out.set (p := ⟨w.heap.size + 1, 0, none⟩) (Nat.le_succ _) _).set (p := ⟨w.heap.size + 1, 1, none⟩) (Nat.le_succ _) _).set (p := ⟨w.heap.size + 1, 2, none⟩) (Nat.le_succ _) _)
            have BV : V.heap[w.heap.size + 1]? = some (.cells #[.string x.host, .string x.pre, .slice As ns cs] 27 (0, 0)) := by rw [← hV]; exact blk_set (blk_set (blk_set BO2.out _) _) _
            have BW : V.heap[w.heap.size]? = some (.cells #[.string ⟨#[]⟩, .string ⟨#[]⟩, .slice none 0 0] 27 (0, 0)) := by rw [← hV]; exact (blk_far (by omega) _).trans ((blk_far (by omega) _).trans ((blk_far (by omega) _).trans BZ2.out))
            have hzV : w.heap.size + 1 < V.heap.size := by rw [← hV]; simp only [World.setCell, Array.size_modify]; exact hz2
            clear hV
            go_roundw
            case rel => exact ⟨k + 1, As, ns, cs, x, true, by omega, by go_num, rfl, HN2, Lib.hid BV, Lib.hid BW, HX, Lib.hid EV, hzV⟩
            case measure => simp [intOf]; omega
    · have HE : Hid (bestS h p l = (fd, r)) := Lib.hid (by rw [← HS.out, List.take_of_length_le (by have := HA.out.len; omega)])
      obtain ⟨q0, q1⟩ := blk_rules BO.out
      obtain ⟨q2, q3⟩ := blk_rules BZ.out
      go_wp2_with fail
      generalize hV : ((wr.setCell ⟨w.heap.size, 0, none⟩ (.string r.host)).setCell ⟨w.heap.size, 1, none⟩ (.string r.pre)).setCell ⟨w.heap.size, 2, none⟩ (.slice Ao no co) = V
      have EV : Ext w V := by rw [← hV]; exact (((EX.out.set (p := ⟨w.heap.size, 0, none⟩) (Nat.le_refl _) _).set (p := ⟨w.heap.size, 1, none⟩) (Nat.le_refl _) _).set (p := ⟨w.heap.size, 2, none⟩) (Nat.le_refl _) _)
      have BV : V.heap[w.heap.size]? = some (.cells #[.string r.host, .string r.pre, .slice Ao no co] 27 (0, 0)) := by rw [← hV]; exact blk_set (blk_set (blk_set BZ.out _) _) _
      clear hV
      obtain ⟨z0, z1⟩ := blk_rules BV
      exact bodyPost_ret (v := .tuple #[.agg #[.string r.host, .string r.pre, .slice Ao no co], .bool fd]) (by simp [results, Tryd.results57, go_sem, z0]) rfl (by rw [HE.out]; exact ⟨Ao, no, co, rfl, RV.out, EV⟩)

set_option maxHeartbeats 1000000 in
theorem rule_any (h p : ByteArray) (A : Option Addr) (n c : Nat) (l : List Ru) (w0 w : World) (hh : h.size ≤ maxLen) (hp : p.size ≤ maxLen) (hn : n ≤ 9223372036854775807) (hA : ArrR w 3 (RuR w0) A n l) :
    Calls Tryd.prog 17 #[.slice A n c, .string h, .string p] w (GivesRule w0 w (bestS h p l)) := by
  have HA := Lib.hid hA
  clear hA
  go_enter Tryd.func17, Tryd.ntmps17
  go_wp2_with fail
  obtain ⟨W, hW⟩ : ∃ W, W = ((w.alloc (.cells #[.string h] 9)).alloc (.cells #[.string p] 9)).alloc (.cells #[.string ⟨#[]⟩, .string ⟨#[]⟩, .slice none 0 0] 27) := ⟨_, rfl⟩
  have EW : Ext w W := by rw [hW]; exact (((Ext.refl w).alloc _).alloc _).alloc _
  have h2 : Ext ((w.alloc (.cells #[.string h] 9)).alloc (.cells #[.string p] 9)) W := by rw [hW]; exact Ext.new _ _
  have h3 : W.heap[w.heap.size + 1 + 1]? = some (.cells #[.string ⟨#[]⟩, .string ⟨#[]⟩, .slice none 0 0] 27 (0, 0)) := by
    have := heap_alloc_new ((w.alloc (.cells #[.string h] 9)).alloc (.cells #[.string p] 9)) (.cells #[.string ⟨#[]⟩, .string ⟨#[]⟩, .slice none 0 0] 27)
    rw [← hW] at this
    simpa using this
  obtain ⟨x0, x1, x2, x3, x4⟩ := box2 h2
  have hsz : w.heap.size + 1 + 1 < W.heap.size := (Array.getElem?_eq_some_iff.1 h3).1
  rw [← hW]
  clear hW h2
  have z1 : w.heap.size < W.heap.size := by omega
  have HR := HA.out.up EW
  refine (best_any h p w.heap.size (w.heap.size + 1) A n c l w0 W z1 x4 ((x0 0).trans rfl) ((x2 0).trans rfl) hh hp hn HR).mono ?_
  rintro e w1 ⟨A1, n1, c1, rfl, hv, hb1⟩
  have BZ : w1.heap[w.heap.size + 1 + 1]? = some (.cells #[.string ⟨#[]⟩, .string ⟨#[]⟩, .slice none 0 0] 27 (0, 0)) := (hb1.block hsz).trans h3
  have HV := Lib.hid hv
  have HE := Lib.hid (EW.trans hb1)
  have hz1 := Nat.lt_of_lt_of_le hsz hb1.size
  obtain ⟨y0, y1⟩ := blk_rules BZ
  have HBZ := Lib.hid BZ
  clear BZ hv hb1 EW x0 x1 x2 x3 x4 h3
  obtain ⟨fd, hfd⟩ : ∃ f, f = (bestS h p l).1 := ⟨_, rfl⟩
  obtain ⟨r, hr⟩ : ∃ r, r = (bestS h p l).2 := ⟨_, rfl⟩
  have HS : Hid (bestS h p l = (fd, r)) := Lib.hid (by rw [hfd, hr])
  rw [← hr] at HV
  rw [← hfd, ← hr]
  clear hfd hr
  go_wp2_with fail
  generalize hV : ((w1.setCell ⟨w.heap.size + 1 + 1, 0, none⟩ (.string r.host)).setCell ⟨w.heap.size + 1 + 1, 1, none⟩ (.string r.pre)).setCell ⟨w.heap.size + 1 + 1, 2, none⟩ (.slice A1 n1 c1) = V
  have hg : w.heap.size ≤ w.heap.size + 1 + 1 := by omega
  have EV : Ext w V := by rw [← hV]; exact (((HE.out.set (p := ⟨w.heap.size + 1 + 1, 0, none⟩) hg _).set (p := ⟨w.heap.size + 1 + 1, 1, none⟩) hg _).set (p := ⟨w.heap.size + 1 + 1, 2, none⟩) hg _)
  have BV : V.heap[w.heap.size + 1 + 1]? = some (.cells #[.string r.host, .string r.pre, .slice A1 n1 c1] 27 (0, 0)) := by rw [← hV]; exact blk_set (blk_set (blk_set HBZ.out _) _) _
  clear hV
  obtain ⟨z0, z1⟩ := blk_rules BV
  exact bodyPost_ret (v := .tuple #[.agg #[.string r.host, .string r.pre, .slice A1 n1 c1], .bool fd]) (by simp [results, Tryd.results17, go_sem, z0]) rfl (by rw [HS.out]; exact ⟨A1, n1, c1, rfl, HV.out, EV⟩)
end Go.Proofs.YtepifkmileilfaaDoor
