/- What names computes: the range over strings.SplitSeq. -/
import Derived.Test.YtepifkmileilfaaDoorName2
import Derived.Test.YtepifkmileilfaaDoorRange2
import Derived.Shelf.Abstract
import Derived.Shelf.RegionOpen
import Derived.OwnWalkIn
import Derived.TacticsInMore
import Derived.LoopNIn
import Derived.LoopIn
import Derived.Lib.Walk
import Derived.Outline
namespace Go.Proofs.YtepifkmileilfaaDoor
set_option linter.unusedVariables false
open Go.RowKit Go.Shelf

set_option maxRecDepth 100000 in
set_option maxHeartbeats 1000000 in
theorem index_dot (s : ByteArray) (w : World) : Calls Tryd.prog 159 #[.string s, .string ⟨#[46]⟩] w fun e w' => e = .returned (.int .i64 (Lib.indexByte (tx s) 46)) ∧ w = w' := by
  have K1 : Calls Tryd.prog 163 #[.string s, .int .u8 46] w fun e w' => e = .returned (.int .i64 (Lib.indexByte (tx s) 46)) ∧ w = w' := by
    go_enter Tryd.func163, Tryd.ntmps163
    go_wp2
    rw [run_callFunc_extern Tryd.func167 (by kernel_rfl) (by kernel_rfl) (by kernel_rfl) (e := Extern.BytealgIndexByte.indexByte) (by kernel_rfl), Lib.run_indexByteString]
    simp only [Result.andThen]
    rw [Oper.upon_value]
    go_wp2
    go_ret
    exact ⟨rfl, rfl⟩
  have K2 : Calls Tryd.prog 162 #[.string s, .string ⟨#[46]⟩] w fun e w' => e = .returned (.int .i64 (Lib.indexByte (tx s) 46)) ∧ w = w' := by
    go_enter Tryd.func162, Tryd.ntmps162
    go_wp2_with (go_at_call 163; refine K1.mono ?_; rintro e w' ⟨rfl, rfl⟩)
    · have h : ([46] == s.toList) = true := by assumption
      go_ret
      refine ⟨?_, rfl⟩
      have e : tx s = [46] := by rw [← tx_toList]; exact (beq_iff_eq.1 h).symm
      rw [e]
      simp [Lib.indexByte]
    · go_ret
      exact ⟨rfl, rfl⟩
  go_enter Tryd.func159, Tryd.ntmps159
  go_wp2_with (go_at_call 162; refine K2.mono ?_; rintro e w' ⟨rfl, rfl⟩)
  go_ret
  exact ⟨rfl, rfl⟩

set_option maxHeartbeats 400000 in
theorem splitSeq_any (s : ByteArray) (w : World) :
    Calls Tryd.prog 117 #[.string s, .string ⟨#[46]⟩] w fun e w' => e = .returned (.func (.func 157) #[] #[.pointer (some ⟨w.heap.size + 1, 0, none⟩), .pointer (some ⟨w.heap.size, 0, none⟩), .pointer (some ⟨w.heap.size + 1 + 1, 0, none⟩)]) ∧
      w' = ((w.alloc (.cells #[.string s] 9)).alloc (.cells #[.string ⟨#[46]⟩] 9)).alloc (.cells #[.int .i64 0] 3) := by
  have hmf : ∀ (fn : Fn) (first cap : Array Value) (w : World), (Instr.makeFunc fn first cap).run Tryd.prog w = .ok (.func fn first cap) w := fun _ _ _ _ => rfl
  have K : Calls Tryd.prog 149 #[.string s, .string ⟨#[46]⟩, .int .i64 0] w fun e w' => e = .returned (.func (.func 157) #[] #[.pointer (some ⟨w.heap.size + 1, 0, none⟩), .pointer (some ⟨w.heap.size, 0, none⟩), .pointer (some ⟨w.heap.size + 1 + 1, 0, none⟩)]) ∧
      w' = ((w.alloc (.cells #[.string s] 9)).alloc (.cells #[.string ⟨#[46]⟩] 9)).alloc (.cells #[.int .i64 0] 3) := by
    go_enter Tryd.func149, Tryd.ntmps149
    go_wp2_with fail
    go_ret
    exact ⟨rfl, rfl⟩
  go_enter Tryd.func117, Tryd.ntmps117
  go_wp2_with fail
  refine K.mono ?_
  rintro e w1 ⟨rfl, hw⟩
  have HW := Lib.hid hw
  clear hw
  go_wp2_with fail
  go_ret
  exact ⟨rfl, HW.out⟩

/-! ### Splitting at the dots -/
theorem split_none {l : List UInt8} (h : Lib.indexByte l 46 = -1) : splitD l = [l] :=
  splitD_one fun c hc e => by
    subst e
    obtain ⟨k, hk⟩ := List.mem_iff_getElem?.1 hc
    exact Lib.indexByte_none h k hk
theorem split_some {l : List UInt8} {i : Nat} (h : Lib.indexByte l 46 = i) : i < l.length ∧ splitD l = l.take i :: splitD (l.drop (i + 1)) := by
  obtain ⟨h1, h2⟩ := Lib.indexByte_some h
  have hlt := (List.getElem?_eq_some_iff.1 h1).1
  refine ⟨hlt, ?_⟩
  have e : l = l.take i ++ 46 :: l.drop (i + 1) := by
    conv => lhs; rw [← List.take_append_drop i l, List.drop_eq_getElem_cons hlt, (List.getElem?_eq_some_iff.1 h1).2]
  conv => lhs; rw [e]
  refine splitD_app (fun c hc e => ?_) _
  subst e
  obtain ⟨k, hk⟩ := List.mem_iff_getElem?.1 hc
  rw [List.getElem?_take] at hk
  split at hk
  · rename_i hki; exact h2 k hki hk
  · cases hk
theorem split_ne (l : List UInt8) : ∃ x r, splitD l = x :: r := by
  cases l with
  | nil => exact ⟨_, _, rfl⟩
  | cons c r => unfold splitD; split <;> exact ⟨_, _, rfl⟩

/-- the iterator's boxes: the rest, the separator, how much of it is kept; the caller's result -/
structure SB where
  gs : Nat
  gp : Nat
  gv : Nat
  gr : Nat
structure SB.Ok (B : SB) : Prop where
  n1 : B.gs ≠ B.gp
  n2 : B.gs ≠ B.gv
  n3 : B.gs ≠ B.gr
structure SI (w0 : World) (B : SB) (r : ByteArray) (W : World) : Prop where
  bs : W.heap[B.gs]? = some (.cells #[.string r] 9 (0, 0))
  bp : W.heap[B.gp]? = some (.cells #[.string ⟨#[46]⟩] 9 (0, 0))
  bv : W.heap[B.gv]? = some (.cells #[.int .i64 0] 3 (0, 0))
  br : W.heap[B.gr]? = some (.cells #[.bool false] 4 (0, 0))
  ext : Ext w0 W
  len : r.size ≤ maxLen
section
variable {w0 W W' : World} {B : SB} {r : ByteArray}
theorem SI.up (h : SI w0 B r W) (hx : Ext W W') : SI w0 B r W' := by
  have lt : ∀ {g : Nat} {o : Obj}, W.heap[g]? = some o → W'.heap[g]? = some o := fun hg => (hx.block (Array.getElem?_eq_some_iff.1 hg).1).trans hg
  exact ⟨lt h.bs, lt h.bp, lt h.bv, lt h.br, h.ext.trans hx, h.len⟩
theorem SI.stab {b : Nat} (hb : w0.heap.size ≤ b) : Stab b (SI w0 B r) := fun W l o o' h hl ho hc => by
  have k := SameCells.putObj ho hc o'
  exact ⟨k.same _ _ _ _ h.bs, k.same _ _ _ _ h.bp, k.same _ _ _ _ h.bv, k.same _ _ _ _ h.br, h.ext.putObj (by omega) o', h.len⟩
theorem SI.cut (h : SI w0 B r W) (hB : B.Ok) (hw : w0.heap.size ≤ B.gs) (t : ByteArray) (ht : t.size ≤ maxLen) : SI w0 B t (W.setCell ⟨B.gs, 0, none⟩ (.string t)) := by
  have far : ∀ {g : Nat} {o : Obj}, B.gs ≠ g → W.heap[g]? = some o → (W.setCell ⟨B.gs, 0, none⟩ (.string t)).heap[g]? = some o := fun hne hg => (blk_far (Ne.symm hne) _).trans hg
  exact ⟨blk_set h.bs _, far hB.n1 h.bp, far hB.n2 h.bv, far hB.n3 h.br, h.ext.set hw _, ht⟩
end
/-- what has come is sane, the rest is still to come -/
def SP (s r : ByteArray) : Prop := ∃ pre, splitD (tx s) = pre ++ splitD (tx r) ∧ pre.all saneN = true
structure Pt where
  p : ByteArray
  r : ByteArray
def Pt.enc (a : Pt) : Array Value := #[.string a.p]
def Pt.Is (a : Pt) : Prop := (splitD (tx a.r)).head? = some (tx a.p) ∧ a.p.size ≤ maxLen
def SJ0 (w0 : World) (B : SB) (s : ByteArray) (W : World) : Prop := SI w0 B s W
def SJy (w0 : World) (B : SB) (s : ByteArray) (a : Pt) (W : World) : Prop := SI w0 B a.r W ∧ SP s a.r ∧ a.Is
def SJ1 (w0 : World) (B : SB) (s : ByteArray) (a : Pt) (W : World) : Prop := SI w0 B a.r W ∧ SP s a.r ∧ a.Is ∧ saneN (tx a.p) = true
def SJd (w0 : World) (B : SB) (s : ByteArray) (W : World) : Prop := (∃ r, SI w0 B r W) ∧ namesB (tx s) = true
def SJx (w0 : World) (B : SB) (s : ByteArray) (c : Code) (W : World) : Prop := c = .ret ∧ W.heap[B.gr]? = some (.cells #[.bool false] 4 (0, 0)) ∧ Ext w0 W ∧ namesB (tx s) = false
def strLen : Option Value → Nat
  | some (.string s) => s.size
  | _ => 0
def SLoop (w0 : World) (B : SB) (s : ByteArray) (K : World → Prop) (W : World) : Prop := ∃ r, SI w0 B r W ∧ SP s r ∧ K W
theorem sp_bad {s : ByteArray} {a : Pt} (h : SP s a.r) (hi : a.Is) (hb : saneN (tx a.p) = false) : namesB (tx s) = false := by
  obtain ⟨pre, e, _⟩ := h
  obtain ⟨x, t, ex⟩ := split_ne (tx a.r)
  have := hi.1
  rw [ex] at this e
  simp at this
  subst this
  unfold namesB; rw [e]; simp [hb]
theorem sp_last {s : ByteArray} {a : Pt} (h : SP s a.r) (hn : splitD (tx a.r) = [tx a.p]) (hb : saneN (tx a.p) = true) : namesB (tx s) = true := by
  obtain ⟨pre, e, hp⟩ := h
  unfold namesB; rw [e, hn]; simp [hb]; simpa using hp
theorem sp_next {s r t : ByteArray} {p : List UInt8} (h : SP s r) (hn : splitD (tx r) = p :: splitD (tx t)) (hb : saneN p = true) : SP s t := by
  obtain ⟨pre, e, hp⟩ := h
  exact ⟨pre ++ [p], by rw [e, hn]; simp, by rw [List.all_append, hp]; simp [hb]⟩
theorem keeps_ext {W W' : World} (h : Ext W W') : KeepsOthers W W' := ⟨h.size, fun _ _ hk _ => (h.block (Array.getElem?_eq_some_iff.1 hk).1).trans hk⟩

attribute [local go_sem] Oper.semAt_some
set_option maxRecDepth 100000 in
set_option maxHeartbeats 4000000 in
theorem split_iter (n : Nat) (w0 : World) (B : SB) (b : Nat) (s : ByteArray) (hB : B.Ok) (hw : w0.heap.size ≤ B.gs) :
    Iterates Tryd.prog n 157 #[.pointer (some ⟨B.gp, 0, none⟩), .pointer (some ⟨B.gs, 0, none⟩), .pointer (some ⟨B.gv, 0, none⟩)] Pt.enc b (SJ0 w0 B s) (SJy w0 B s) (SJ1 w0 B s) (SJd w0 B s) := by
  intro l K X W hKk hY h0 hK hBs
  have HKk := Lib.hid hKk
  have HY := Lib.hid hY
  have H0 : Hid (SLoop w0 B s K W) := Lib.hid ⟨s, h0, ⟨[], rfl, rfl⟩, hK⟩
  have hp0 := (blk_rules (show SI w0 B s W from h0).bp).1 0
  clear hKk hY h0 hK
  have noDepth : Fence.wide.depth.isSome = true → 1 ≤ n := fun h => by simp [Fence.wide] at h
  refine callsIn_of_wp Tryd.func157 rfl trivial ?_ rfl
  simp only [Tryd.ntmps157, List.size_toArray, List.length_cons, List.length_nil, Nat.reduceAdd, Nat.reduceSub, Array.replicate_succ, Array.replicate_zero, List.push_toArray, List.append_toArray, List.nil_append, List.cons_append]
  gi_wp2
  gi_loopw [7] (fun _ wr => SLoop w0 B s K wr) (fun _ wr => strLen (wr.cell? ⟨B.gs, 0, none⟩))
  case atStart => exact H0.out
  case round =>
    obtain ⟨r, hI, hP, hK⟩ := hrel
    have hb := hI.bs
    obtain ⟨g0, g1⟩ := blk_rules hI.bs
    obtain ⟨p0, -⟩ := blk_rules hI.bp
    obtain ⟨v0, -⟩ := blk_rules hI.bv
    have HI := Lib.hid hI
    have HP := Lib.hid hP
    have HK := Lib.hid hK
    have hlen := hI.len
    clear hI hP hK hb hp0
    gi_wp2
    refine ⟨trivial, noDepth, ?_⟩
    refine (callsIn_wide.2 (index_dot r _)).mono ?_
    rintro e w2 ⟨rfl, rfl⟩
    have hge := Lib.indexByte_ge (tx r) 46
    obtain ⟨ix, hix⟩ : ∃ ix, ix = Lib.indexByte (tx r) 46 := ⟨_, rfl⟩
    rw [← hix] at hge ⊢
    rcases (show ix = -1 ∨ ∃ i : Nat, ix = i by
      rcases Int.lt_or_le ix 0 with h | h
      · exact .inl (by omega)
      · exact .inr ⟨ix.toNat, by omega⟩) with rfl | ⟨i, rfl⟩
    · have HS : Hid (splitD (tx r) = [tx r]) := Lib.hid (split_none hix.symm)
      clear hix hge
      obtain ⟨fn, tmps, assign, body, hy, hR⟩ := HY.out ⟨r, r⟩ wr ⟨HI.out, HP.out, by rw [HS.out]; rfl, hlen⟩ HK.out
      dsimp only [Pt.enc] at hy
      gi_wp2
      refine ⟨noDepth, hR.mono ?_⟩
      rintro e W3 (⟨rfl, ⟨hI3, hP3, hi3, hs3⟩, hK3⟩ | ⟨rfl, hX3⟩)
      · have HF : Hid (SJd w0 B s W3) := Lib.hid ⟨⟨r, hI3⟩, sp_last hP3 HS.out hs3⟩
        have HK3 := Lib.hid hK3
        clear hI3 hP3 hi3 hs3 hK3 hy hR
        gi_wp2
        refine bodyPost_end (results_none rfl _ _ _) rfl ?_
        exact ⟨⟨_, rfl⟩, .inl ⟨HF.out, HK3.out⟩⟩
      · have HX := Lib.hid hX3
        clear hX3 hy hR
        gi_wp2
        refine bodyPost_end (results_none rfl _ _ _) rfl ?_
        exact ⟨⟨_, rfl⟩, .inr HX.out⟩
    · obtain ⟨hlt, hsp⟩ := split_some hix.symm
      rw [tx_len] at hlt
      have e1 : tx (r.extract 0 i) = (tx r).take i := by rw [tx_extract]; rfl
      have e2 : tx (r.extract (i + 1) r.size) = (tx r).drop (i + 1) := by rw [tx_extract, List.take_of_length_le (by rw [tx_len]; exact Nat.le_refl _)]
      have z1 : (r.extract 0 i).size ≤ maxLen := by rw [← tx_len, e1, List.length_take, tx_len]; omega
      have z2 : (r.extract (i + 1) r.size).size = r.size - (i + 1) := by rw [← tx_len, e2, List.length_drop, tx_len]
      have HS : Hid (splitD (tx r) = tx (r.extract 0 i) :: splitD (tx (r.extract (i + 1) r.size))) := Lib.hid (by rw [e1, e2]; exact hsp)
      have HZ2 := Lib.hid z2
      clear hix hge hsp e1 e2 z2
      unfold maxLen at hlen
      obtain ⟨fn, tmps, assign, body, hy, hR⟩ := HY.out ⟨r.extract 0 i, r⟩ wr ⟨HI.out, HP.out, by rw [HS.out]; rfl, z1⟩ HK.out
      dsimp only [Pt.enc] at hy
      gi_wp2
      refine ⟨noDepth, hR.mono ?_⟩
      rintro e W3 (⟨rfl, ⟨hI3, hP3, hi3, hs3⟩, hK3⟩ | ⟨rfl, hX3⟩)
      · obtain ⟨q0, q1⟩ := blk_rules hI3.bs
        obtain ⟨q2, -⟩ := blk_rules hI3.bp
        have HI3 := Lib.hid hI3
        have HP3 : Hid (SP s (r.extract (i + 1) r.size)) := Lib.hid (sp_next hP3 HS.out hs3)
        have HK3 := Lib.hid hK3
        clear hI3 hP3 hi3 hs3 hK3 hy hR
        gi_wp2
        go_roundw
        case rel => exact ⟨_, HI3.out.cut hB hw _ (by rw [HZ2.out]; unfold maxLen; omega), HP3.out, HKk.out _ _ HK3.out (KeepsOthers.setCell _ _ _)⟩
        case measure =>
          rw [World.cell?_setCell_same' _ _ _ (by rw [q0 0]; rfl)]
          simp [strLen, g0, HZ2.out]; omega
      · have HX := Lib.hid hX3
        clear hX3 hy hR
        gi_wp2
        refine bodyPost_ret (results_none rfl _ _ _) rfl ?_
        exact ⟨⟨_, rfl⟩, .inr HX.out⟩

/-! ### names -/
theorem four_blocks (w : World) (o1 o2 o3 o4 : Obj) : ((((w.alloc o1).alloc o2).alloc o3).alloc o4).heap[w.heap.size]? = some o1 ∧ ((((w.alloc o1).alloc o2).alloc o3).alloc o4).heap[w.heap.size + 1]? = some o2 ∧
    ((((w.alloc o1).alloc o2).alloc o3).alloc o4).heap[w.heap.size + 1 + 1]? = some o3 ∧ ((((w.alloc o1).alloc o2).alloc o3).alloc o4).heap[w.heap.size + 1 + 1 + 1]? = some o4 ∧ ((((w.alloc o1).alloc o2).alloc o3).alloc o4).heap.size = w.heap.size + 4 := by
  have h2 := heap_alloc_new (w.alloc o1) o2
  have h3 := heap_alloc_new ((w.alloc o1).alloc o2) o3
  have h4 := heap_alloc_new (((w.alloc o1).alloc o2).alloc o3) o4
  simp only [World.size_alloc] at h2 h3 h4
  refine ⟨?_, ?_, ?_, h4, by simp only [World.size_alloc]⟩
  · rw [Below.heap_alloc _ _ _ (by simp only [World.size_alloc]; omega), Below.heap_alloc _ _ _ (by simp only [World.size_alloc]; omega), Below.heap_alloc _ _ _ (by simp only [World.size_alloc]; omega)]; exact heap_alloc_new w o1
  · rw [Below.heap_alloc _ _ _ (by simp only [World.size_alloc]; omega), Below.heap_alloc _ _ _ (by simp only [World.size_alloc]; omega)]; exact h2
  · rw [Below.heap_alloc _ _ _ (by simp only [World.size_alloc]; omega)]; exact h3
def NamesPost (w : World) (s : ByteArray) (e : Ending) (w' : World) : Prop := e = .returned (.bool (namesB (tx s))) ∧ Ext w w'
set_option maxRecDepth 100000 in
set_option maxHeartbeats 4000000 in
theorem names_any (s : ByteArray) (w : World) (hm : s.size ≤ maxLen) : Calls Tryd.prog 63 #[.string s] w (NamesPost w s) := by
  refine (callsIn_wide (n := 5)).1 ?_
  refine callsIn_of_wp_marks Tryd.func63 rfl trivial ?_ rfl
  simp only [Tryd.ntmps63, List.size_toArray, List.length_cons, List.length_nil, Nat.reduceAdd, Nat.reduceSub, Array.replicate_succ, Array.replicate_zero, List.push_toArray, List.append_toArray, List.nil_append, List.cons_append]
  gi_wp2
  refine ⟨trivial, ?_⟩
  refine (callsIn_wide.2 (splitSeq_any s _)).mono ?_
  rintro e w4 ⟨rfl, hw4⟩
  have hs : (w.alloc (.cells #[.bool false] 4)).heap.size = w.heap.size + 1 := by simp
  rw [hs]
  have E4 : Ext w w4 := by rw [hw4]; exact (((Ext.new _ _).alloc _).alloc _).alloc _
  have k4 : w4.heap[w.heap.size]? = some (.cells #[.bool false] 4 (0, 0)) ∧ w4.heap[w.heap.size + 1]? = some (.cells #[.string s] 9 (0, 0)) ∧ w4.heap[w.heap.size + 1 + 1]? = some (.cells #[.string ⟨#[46]⟩] 9 (0, 0)) ∧ w4.heap[w.heap.size + 1 + 1 + 1]? = some (.cells #[.int .i64 0] 3 (0, 0)) ∧ w4.heap.size = w.heap.size + 4 := by
    rw [hw4]
    exact four_blocks w _ _ _ _
  have HI : Hid (SI w ⟨w.heap.size + 1, w.heap.size + 1 + 1, w.heap.size + 1 + 1 + 1, w.heap.size⟩ s w4) := Lib.hid ⟨k4.2.1, k4.2.2.1, k4.2.2.2.1, k4.1, E4, hm⟩
  obtain ⟨B, hB⟩ : ∃ B : SB, B = ⟨w.heap.size + 1, w.heap.size + 1 + 1, w.heap.size + 1 + 1 + 1, w.heap.size⟩ := ⟨_, rfl⟩
  have hOk : B.Ok := by rw [hB]; exact ⟨by simp, by simp, by simp⟩
  have Hgs : Hid (w.heap.size + 1 = B.gs) := Lib.hid (by rw [hB])
  have Hgp : Hid (w.heap.size + 1 + 1 = B.gp) := Lib.hid (by rw [hB])
  have Hgv : Hid (w.heap.size + 1 + 1 + 1 = B.gv) := Lib.hid (by rw [hB])
  have Hgr : Hid (w.heap.size = B.gr) := Lib.hid (by rw [hB])
  have HS4 : Hid (w4.heap.size = w.heap.size + 4) := Lib.hid k4.2.2.2.2
  rw [← hB] at HI
  clear hw4 hs E4 k4 hB
  gi_wp2
  refine range_law (α := Pt) (n := 4) (gf := 157) (lb := #[.pointer (some ⟨w.heap.size + 1 + 1, 0, none⟩), .pointer (some ⟨w.heap.size + 1, 0, none⟩), .pointer (some ⟨w.heap.size + 1 + 1 + 1, 0, none⟩)]) rfl (enters_of Tryd.func157 (by kernel_rfl) rfl) Pt.enc (fun _ => rfl)
    (SJ0 w B s) (SJy w B s) (SJ1 w B s) (SJd w B s) (SJx w B s)
    ?s0 ?sy ?s1 ?sd ?sx ?a1 ?h0 ?assign ?body ?iter ?done ?stop
  case assign =>
    intro l y W K hK
    dsimp only [Pt.enc]
    gi_wp2
    exact hK
  case s0 => exact SI.stab (by have := HS4.out; omega)
  case sy =>
    rintro y W l o o' ⟨hI, hP⟩ hl ho hc
    exact ⟨SI.stab (by have := HS4.out; omega) W l o o' hI hl ho hc, hP⟩
  case s1 =>
    rintro y W l o o' ⟨hI, hP⟩ hl ho hc
    exact ⟨SI.stab (by have := HS4.out; omega) W l o o' hI hl ho hc, hP⟩
  case sd =>
    rintro W l o o' ⟨⟨r, hI⟩, hP⟩ hl ho hc
    exact ⟨⟨r, SI.stab (by have := HS4.out; omega) W l o o' hI hl ho hc⟩, hP⟩
  case sx =>
    rintro c W l o o' ⟨h1, h2, h3, h4⟩ hl ho hc
    exact ⟨h1, (SameCells.putObj ho hc o').same _ _ _ _ h2, h3.putObj (by have := HS4.out; omega) o', h4⟩
  case h0 => exact fun W hx _ => HI.out.up hx
  case iter =>
    have h := split_iter 4 w B w4.heap.size s hOk (by rw [← Hgs.out]; omega)
    rw [← Hgs.out, ← Hgp.out, ← Hgv.out] at h
    exact h
  case body =>
    rintro l y W ⟨hI, hP, hi⟩
    have hps := hi.2
    have HIh := Lib.hid hI
    have HPh := Lib.hid hP
    have Hih := Lib.hid hi
    clear hI hP hi
    gi_wp2
    refine ⟨trivial, ?_⟩
    refine (callsIn_wide.2 (sane_any y.p _ hps)).mono ?_
    rintro e w5 ⟨rfl, hx5⟩
    have HX5 := Lib.hid hx5
    clear hx5
    cases hsn : saneN (tx y.p) with
    | true =>
      gi_wp2
      exact ⟨keeps_ext HX5.out, HIh.out.up HX5.out, HPh.out, Hih.out, hsn⟩
    | false =>
      have HBad : Hid (namesB (tx s) = false) := Lib.hid (sp_bad HPh.out Hih.out hsn)
      have r5 := (HIh.out.up HX5.out).br
      rw [← Hgr.out] at r5
      have R5 := Lib.hid r5
      obtain ⟨r0, r1⟩ := blk_rules r5
      clear r5
      gi_wp2
      exact ⟨(keeps_ext HX5.out).trans (KeepsOthers.setCell _ _ _), rfl, by rw [← Hgr.out]; exact blk_set R5.out _, ((HIh.out.ext).trans HX5.out).set (Nat.le_refl _) _, HBad.out⟩
  case done =>
    rintro W ⟨⟨r, hI⟩, hN⟩ hK
    have r5 := hI.br
    rw [← Hgr.out] at r5
    obtain ⟨r0, r1⟩ := blk_rules r5
    have HIh := Lib.hid hI
    have HR5 := Lib.hid r5
    have HN := Lib.hid hN
    have HKD := Lib.hid hK
    clear hI hN hK r5
    gi_wp2
    have g6 : (W.setCell ⟨w.heap.size, 0, none⟩ (.bool true)).heap[w.heap.size]? = some (.cells #[.bool true] 4 (0, 0)) := blk_set HR5.out _
    have x6 : Ext w (W.setCell ⟨w.heap.size, 0, none⟩ (.bool true)) := (HIh.out.ext).set (Nat.le_refl _) _
    have hK6 := (KeepsOthers.setCell W ⟨w.heap.size, 0, none⟩ (.bool true)).same _ _ HKD.out rfl
    generalize W.setCell ⟨w.heap.size, 0, none⟩ (.bool true) = W6 at *
    have s6 := SameCells.putObj hK6 rfl (.deferred none)
    refine ⟨by simp, .inl ⟨_, _, rfl, run_takeDeferred hK6, ?_⟩⟩
    have q7 := (blk_rules (s6.same _ _ _ _ g6)).1 0
    refine ⟨_, show (results _ _).run _ _ = .ok (.bool true) _ from (by simp [results, Tryd.results63, go_sem, q7]), ?_⟩
    exact ⟨by rw [HN.out], x6.putObj (by have := HS4.out; omega) _⟩
  case stop =>
    rintro c W ⟨rfl, hR, hE, hN⟩ hK
    rw [← Hgr.out] at hR
    gi_wp2
    have s6 := SameCells.putObj hK rfl (.deferred none)
    refine ⟨by simp, .inl ⟨_, _, rfl, run_takeDeferred hK, ?_⟩⟩
    have q7 := (blk_rules (s6.same _ _ _ _ hR)).1 0
    refine ⟨_, show (results _ _).run _ _ = .ok (.bool false) _ from (by simp [results, Tryd.results63, go_sem, q7]), ?_⟩
    exact ⟨by rw [hN], hE.putObj (by have := HS4.out; omega) _⟩
end Go.Proofs.YtepifkmileilfaaDoor
