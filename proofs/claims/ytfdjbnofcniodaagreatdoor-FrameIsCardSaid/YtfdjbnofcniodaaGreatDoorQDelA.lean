/- slices.DeleteFunc on a row of the call's own: what stands between its rounds. -/
import Derived.Test.YtfdjbnofcniodaaGreatDoorQIndex
import Derived.Test.YtfdjbnofcniodaaGreatDoorQGround
import Derived.Lib.SliceRun
import Derived.Deep.Upon
import Derived.Lib.LazyBuf
namespace Go.Proofs.YtfdjbnofcniodaaGreatDoor
open Lib (hid)
set_option maxHeartbeats 4000000
set_option maxRecDepth 100000
set_option linter.unusedVariables false
open Go.RowKit
theorem size_set (w : World) (p : Addr) (u : Value) : (w.setCell p u).heap.size = w.heap.size := by simp [World.setCell]
theorem flat_k (w : World) (cs : List Value) (t : TypeId) {k : Nat} (h : cs.length = k) : Flat (w.alloc (.cells cs.toArray t)) k (some ⟨w.heap.size, 0, none⟩) 1 cs :=
 ⟨by rw [h, Nat.one_mul], fun _ => ⟨w.heap.size, 0, rfl, by simp, fun j u hu => by
  rw [cell_of_row _ _ _ cs.toArray t (0, 0) (heap_alloc_new w _), Nat.zero_add]; simpa using hu⟩⟩
theorem elem_wt : ElemOk Tryz.prog 109 166 (.agg #[.string ⟨#[]⟩, .int .i64 0]) 2 24 := ElemOk.mk Tryz.underlying109 (by kernel_rfl) rfl (by omega)
theorem elem_rl : ElemOk Tryz.prog 31 111 (.agg #[.string ⟨#[]⟩, .string ⟨#[]⟩, .slice none 0 0]) 3 56 := ElemOk.mk Tryz.underlying31 (by kernel_rfl) rfl (by omega)
theorem elem_int : ElemOk Tryz.prog 32 3 (.int .i64 0) 1 8 := ElemOk.mk Tryz.underlying32 (by kernel_rfl) rfl (by omega)
theorem elem_res : ElemOk Tryz.prog 42 34 (.agg #[.int .i64 0, .string ⟨#[]⟩, .int .i64 0, .int .i64 0, .string ⟨#[]⟩, .slice none 0 0, .slice none 0 0]) 7 104 := ElemOk.mk Tryz.underlying42 (by kernel_rfl) rfl (by omega)
theorem elem_key : ElemOk Tryz.prog 46 38 (.agg #[.int .i64 0, .string ⟨#[]⟩]) 2 24 := ElemOk.mk Tryz.underlying46 (by kernel_rfl) rfl (by omega)
set_option linter.unusedVariables false
open Go.RowKit
theorem ArrQ.down {α : Type} {S : Nat → Prop} {w w' : World} {size n : Nat} {R R' : List Value → α → Prop} {A : Option Addr} {xs : List α} (h : ArrQ S w' size R A n xs) (hS : ∀ b, S b → b < w.heap.size) (he : Ext w w') (hR : ∀ cs x, R cs x → R' cs x) : ArrQ S w size R' A n xs :=
 ⟨h.1, fun hn => by
  obtain ⟨b, o, e, hSb, hb, hc⟩ := h.2 hn
  refine ⟨b, o, e, hSb, hS b hSb, fun k x hx => ?_⟩
  obtain ⟨cs, hl, hr, hcs⟩ := hc k x hx
  exact ⟨cs, hl, hR _ _ hr, fun j u hu => (he.cell (hS b hSb)).symm.trans (hcs j u hu)⟩⟩
theorem RlQ.down {S : Nat → Prop} {w w' : World} {cs : List Value} {r : Rl} (h : RlQ S w' cs r) (hS : ∀ b, S b → b < w.heap.size) (he : Ext w w') : RlQ S w cs r := by
 obtain ⟨A, n, c, e, h1, h2, h3, h4⟩ := h
 exact ⟨A, n, c, e, h1, h2, h3, h4.down hS he (fun _ _ h => h)⟩
theorem RsQ.down {S : Nat → Prop} {w w' : World} {cs : List Value} {r : Rs} (h : RsQ S w' cs r) (hS : ∀ b, S b → b < w.heap.size) (he : Ext w w') : RsQ S w cs r := by
 obtain ⟨A, n, c, A', n', c', e, h1, h2, h3, h4, h5, h6⟩ := h
 exact ⟨A, n, c, A', n', c', e, h1, h2, h3, h4, h5.down hS he (fun _ _ h => h.down hS he), h6.down hS he (fun _ _ h => h)⟩
def keepP {α : Type} (p : α → Bool) (l : List α) : List α := l.filter (fun x => !p x)
theorem keepP_snoc_t {α : Type} {p : α → Bool} {l : List α} {k : Nat} {x : α} (hx : l[k]? = some x) (hp : p x = true) : keepP p (l.take (k + 1)) = keepP p (l.take k) := by
 unfold keepP; rw [take_snoc_of hx, List.filter_append]; simp [hp]
theorem keepP_snoc_f {α : Type} {p : α → Bool} {l : List α} {k : Nat} {x : α} (hx : l[k]? = some x) (hp : p x = false) : keepP p (l.take (k + 1)) = keepP p (l.take k) ++ [x] := by
 unfold keepP; rw [take_snoc_of hx, List.filter_append]; simp [hp]
theorem keepP_all {α : Type} {p : α → Bool} {l : List α} (h : l.any p = false) : keepP p l = l := by
 unfold keepP; rw [List.filter_eq_self]; intro x hx; have := List.any_eq_false.1 h x hx; simpa using this
structure DelSt {α : Type} (R : List Value → α → Prop) (sz : Nat) (p : α → Bool) (l : List α) (g cap : Nat) (wb wr : World) (i j : Nat) : Prop where
 ext : Ext wb wr
 lt : g < wr.heap.size
 ge : wb.heap.size ≤ g
 there : ∀ off, off < cap * sz → (wr.cell? ⟨g, off, none⟩).isSome = true ∧ wr.frozen? ⟨g, off, none⟩ = false
 kept : ArrR wr sz R (some ⟨g, 0, none⟩) i (keepP p (l.take j))
 left : ∀ k x, j ≤ k → l[k]? = some x → ∃ cs, cs.length = sz ∧ R cs x ∧ ∀ t u, cs[t]? = some u → wr.cell? ⟨g, k * sz + t, none⟩ = some u
section
variable {α : Type} {R : List Value → α → Prop} {sz cap g i j : Nat} {p : α → Bool} {l : List α} {wb wr w' : World}
theorem DelSt.up (h : DelSt R sz p l g cap wb wr i j) (he : Ext wr w') : DelSt R sz p l g cap wb w' i j :=
 ⟨h.ext.trans he, Nat.lt_of_lt_of_le h.lt he.size, h.ge, fun off ho => by rw [he.cell h.lt, he.frozen h.lt]; exact h.there off ho, h.kept.up he, fun k x hk hx => by
  obtain ⟨cs, a, b, c⟩ := h.left k x hk hx
  exact ⟨cs, a, b, fun t u hu => (he.cell h.lt).trans (c t u hu)⟩⟩
theorem DelSt.skip (h : DelSt R sz p l g cap wb wr i j) {x : α} (hx : l[j]? = some x) (hp : p x = true) : DelSt R sz p l g cap wb wr i (j + 1) :=
 ⟨h.ext, h.lt, h.ge, h.there, by rw [keepP_snoc_t hx hp]; exact h.kept, fun k y hk hy => h.left k y (by omega) hy⟩
theorem mul_lt_row {i k sz t : Nat} (h : i < k) (ht : t < sz) : i * sz + t < k * sz := by
 have h1 : (i + 1) * sz ≤ k * sz := Nat.mul_le_mul_right sz h
 rw [Nat.succ_mul] at h1; omega
theorem Ext.setCells_ {a : World} {b : Nat} (hb : a.heap.size ≤ b) : ∀ (vs : List Value) (o : Nat) (w : World), Ext a w → Ext a (w.setCells b o vs)
 | [], _, _, h => h
 | v :: r, o, w, h => Ext.setCells_ hb r (o + 1) _ (h.set (p := ⟨b, o, none⟩) hb v)
theorem size_setCells_ (b : Nat) : ∀ (vs : List Value) (o : Nat) (w : World), (w.setCells b o vs).heap.size = w.heap.size
 | [], _, _ => rfl
 | v :: r, o, w => (size_setCells_ b r (o + 1) _).trans (size_set w _ v)
theorem DelSt.store (h : DelSt R sz p l g cap wb wr i j) (hij : i < j) (hjc : j < cap) {x : α} (hx : l[j]? = some x) (hp : p x = false) {cs : List Value} (hl : cs.length = sz) (hR : R cs x) :
  DelSt R sz p l g cap wb (wr.setCells g (i * sz) cs) (i + 1) (j + 1) := by
 have hin : ∀ t, t < cs.length → (wr.cell? ⟨g, i * sz + t, none⟩).isSome = true := fun t ht => (h.there _ (mul_lt_row (by omega) (by omega))).1
 refine ⟨Ext.setCells_ h.ge cs _ _ h.ext, by rw [size_setCells_]; exact h.lt, h.ge, fun off ho => ⟨World.isSome_setCells g cs _ _ _ (h.there off ho).1, by rw [World.frozen?_setCells]; exact (h.there off ho).2⟩, ?_, fun k y hk hy => ?_⟩
 ·rw [keepP_snoc_f hx hp]
  have hki := h.kept.len
  refine ⟨by rw [List.length_append, hki]; rfl, fun _ => ⟨g, 0, rfl, by rw [size_setCells_]; exact h.lt, fun k y hy => ?_⟩⟩
  rcases Nat.lt_or_ge k i with hk | hk
  ·rw [List.getElem?_append_left (by rw [hki]; exact hk)] at hy
   obtain ⟨b, o, y', cs', e, hb, hy', a1, a2, a3⟩ := h.kept.at_ hk
   injection e with e; injection e with e1 e2; subst e1 e2
   obtain rfl : y = y' := by rw [hy] at hy'; injection hy'
   refine ⟨cs', a1, a2, fun t u hu => (World.cell?_setCells_out g cs _ _ _ (fun _ _ => .inl ?_)).trans (a3 t u hu)⟩
   have ht : t < sz := by rw [← a1]; exact (List.getElem?_eq_some_iff.1 hu).1
   have := mul_lt_row (sz := sz) hk ht
   show 0 + k * sz + t < i * sz
   omega
  ·rw [List.getElem?_append_right (by rw [hki]; exact hk), hki] at hy
   have hk0 : k = i := by
    have := (List.getElem?_eq_some_iff.1 hy).1
    simp at this; omega
   subst hk0
   rw [Nat.sub_self] at hy
   simp at hy
   subst hy
   refine ⟨cs, hl, hR, fun t u hu => ?_⟩
   obtain ⟨ht, e⟩ := List.getElem?_eq_some_iff.1 hu
   have := World.cell?_setCells_in g cs (k * sz) wr hin t ht
   rw [Nat.zero_add, this, e]
 ·obtain ⟨cs', a, b, c⟩ := h.left k y (by omega) hy
  refine ⟨cs', a, b, fun t u hu => (World.cell?_setCells_out g cs _ _ _ (fun _ _ => .inr ?_)).trans (c t u hu)⟩
  have h1 : (i + 1) * sz ≤ k * sz := Nat.mul_le_mul_right sz (by omega)
  rw [Nat.succ_mul] at h1
  show i * sz + cs.length ≤ k * sz + t
  omega
theorem DelSt.clear (h : DelSt R sz p l g cap wb wr i j) (zs : List Value) : Ext wb (wr.setCells g (i * sz) zs) ∧ ArrR (wr.setCells g (i * sz) zs) sz R (some ⟨g, 0, none⟩) i (keepP p (l.take j)) := by
 refine ⟨Ext.setCells_ h.ge zs _ _ h.ext, h.kept.1, fun hi => ⟨g, 0, rfl, by rw [size_setCells_]; exact h.lt, fun k y hy => ?_⟩⟩
 have hk : k < i := by rw [← h.kept.len]; exact (List.getElem?_eq_some_iff.1 hy).1
 obtain ⟨b, o, y', cs', e, hb, hy', a1, a2, a3⟩ := h.kept.at_ hk
 injection e with e; injection e with e1 e2; subst e1 e2
 obtain rfl : y = y' := by rw [hy] at hy'; injection hy'
 refine ⟨cs', a1, a2, fun t u hu => (World.cell?_setCells_out g zs _ _ _ (fun _ _ => .inl ?_)).trans (a3 t u hu)⟩
 have ht : t < sz := by rw [← a1]; exact (List.getElem?_eq_some_iff.1 hu).1
 have := mul_lt_row (sz := sz) hk ht
 show 0 + k * sz + t < i * sz
 omega
theorem DelSt.init {e : TypeId} {n c : Nat} {us : List Value} {v : Value} (he : Ext wb wr) (hown : wr.ownsRow wb.heap.size e sz v n us) (hv : v = .slice (some ⟨g, 0, none⟩) n c) (hU : RowsOf R sz us l) (hs : 0 < sz) {x : α} (hx : l[i]? = some x) (hp : p x = true) (hf : (l.take i).any p = false) :
  DelSt R sz p l g c wb wr i (i + 1) := by
 subst hv
 rcases hown.2 with ⟨hn, _⟩ | ⟨g', cap, cur, e1, hg, hh, hnc, hm, hsz, ht⟩
 ·cases hn
 injection e1 with e1 _ e2; injection e1 with e1; injection e1 with e1
 subst e1 e2
 have hlen := hU.len
 have hln : l.length = n := Nat.eq_of_mul_eq_mul_right hs (by rw [← hlen, hown.1])
 have hcell : ∀ off u, us[off]? = some u → wr.cell? ⟨g, off, none⟩ = some u := fun off u hu => by
  rw [cell_of_row wr g off cur e (0, 0) hh]
  rw [← ht] at hu
  have hj : off < n * sz := by
   have := (List.getElem?_eq_some_iff.1 hu).1
   rw [List.length_take] at this; omega
  rw [List.getElem?_take_of_lt hj] at hu
  simpa using hu
 have hat : ∀ k y, l[k]? = some y → ∃ cs, cs.length = sz ∧ R cs y ∧ ∀ t u, cs[t]? = some u → wr.cell? ⟨g, k * sz + t, none⟩ = some u := fun k y hy => by
  obtain ⟨cs, a, b, d⟩ := hU.at_ hy
  exact ⟨cs, a, b, fun t u hu => hcell _ _ (d t u hu)⟩
 refine ⟨he, (Array.getElem?_eq_some_iff.1 hh).1, hg, fun off ho => ⟨?_, by simp [World.frozen?, hh]⟩, ?_, fun k y _ hy => hat k y hy⟩
 ·rw [cell_of_row wr g off cur e (0, 0) hh, Array.getElem?_eq_getElem (by rw [hsz]; exact ho)]; rfl
 ·rw [keepP_snoc_t hx hp, keepP_all hf]
  have hil : i < l.length := (List.getElem?_eq_some_iff.1 hx).1
  refine ⟨by rw [List.length_take]; omega, fun _ => ⟨g, 0, rfl, (Array.getElem?_eq_some_iff.1 hh).1, fun k y hy => ?_⟩⟩
  have hk : k < i := by have := (List.getElem?_eq_some_iff.1 hy).1; rw [List.length_take] at this; omega
  rw [List.getElem?_take_of_lt hk] at hy
  obtain ⟨cs, a, b, d⟩ := hat k y hy
  exact ⟨cs, a, b, fun t u hu => by rw [Nat.zero_add]; exact d t u hu⟩
end
theorem run_clear_k {P : Program} (w : World) (t e ty : TypeId) (z : Value) (ht : P.underlying t = some (.slice e)) (hv : ∀ w, (zeroValue e).run P w = .ok z w) (h1 : ∀ u ∈ z.cells, u.oneCell' = true) (b o n c : Nat) (hn : 0 < n)
  (hc : ∀ j, j < n * z.cells.size → (w.cell? ⟨b, o + j, none⟩).isSome = true) (hf : ∀ j, j < n * z.cells.size → w.frozen? ⟨b, o + j, none⟩ = false) :
  ∃ zs, (Builtin.clear_ #[t] ty #[.slice (some ⟨b, o, none⟩) n c]).run P w = .ok (.tuple #[]) (w.setCells b o zs) := by
 have hlen : (Builtin.zeroCells z.cells n).toList.length = n * z.cells.size := by simp [Builtin.zeroCells]
 have hone : ∀ u ∈ (Builtin.zeroCells z.cells n).toList, u.oneCell' = true := by
  intro u hu
  simp only [Builtin.zeroCells, Array.toList_map, List.mem_map, Array.mem_toList_iff, Array.mem_range] at hu
  obtain ⟨a, ha, rfl⟩ := hu
  have hpos : 0 < z.cells.size := by
   rcases Nat.eq_zero_or_pos z.cells.size with h0 | h0
   ·rw [h0] at ha; omega
   ·exact h0
  rw [getElem!_pos z.cells _ (Nat.mod_lt _ hpos)]
  exact h1 _ (Array.getElem_mem _)
 have hst := run_storeCells_cells (P := P) b o (Builtin.zeroCells z.cells n).toList 0 w (by rw [hlen]; simpa using hc) (by rw [hlen]; simpa using hf) hone
 simp only [Nat.add_zero] at hst
 obtain ⟨m, rfl⟩ : ∃ m, n = m + 1 := ⟨n - 1, by omega⟩
 refine ⟨(Builtin.zeroCells z.cells (m + 1)).toList, ?_⟩
 simp [Builtin.clear_, run_underlying ht, hv, hst]
set_option linter.unusedVariables false
open Go.RowKit
theorem cloneR_any (A : Option Addr) (n c : Nat) (us : List Value) (w : World) (hF : Flat w 7 A n us) (h1 : ∀ u ∈ us, u.oneCell' = true) (hc : A = none → c = 0) (hn : n ≤ 1000000) :
  Calls Tryz.prog 122 #[.slice A n c] w fun e w' => ∃ v, e = .returned v ∧ w'.ownsRow w.heap.size 34 7 v n us ∧ Ext w w' := by
 have q := fun (w : World) (a : Option Addr) (n c n' c' : Nat) => Lib.run_eql_slice_nil (P := Tryz.prog) w 42 _ a n c n' c' Tryz.underlying42
 cases A with
 | none =>
  obtain rfl := hc rfl
  have h0 : n = 0 := by
   rcases Nat.eq_zero_or_pos n with h | h
   ·exact h
   ·obtain ⟨_, _, h', _⟩ := hF.2 h
    cases h'
  subst h0
  have hb : us = [] := List.eq_nil_of_length_eq_zero (by simpa using hF.1)
  subst hb
  go_enter Tryz.func122, Tryz.ntmps122
  go_wp2_with fail
  go_ret
  exact ⟨_, rfl, own_nil, Ext.refl _⟩
 | some a =>
  have HF := hid (hF.up (Ext.new w (.cells #[] 34)))
  have H1 := hid h1
  clear hF h1
  go_enter Tryz.func122, Tryz.ntmps122
  have hE := own_empty_lit w w.heap.size 34 7 (Nat.le_refl _)
  have HE := hid hE
  clear hE
  go_wp2_with (at_builtin
               obtain ⟨v', w1, hrun, hown1, hg1, _⟩ := run_append_flat elem_res 42 HE.out c HF.out H1.out (by omega) (by omega) (by simp) (fun h => by cases h)
               refine Lib.wpList_append_run _ rfl _ _ _ _ rfl _ _ rfl rfl v' w1 hrun ?_)
  go_ret
  exact ⟨_, rfl, by simpa using hown1, (Ext.new _ _).grown hg1 HE.out (Nat.le_refl _)⟩
def KeepsR (S : Nat → Prop) (wb : World) (l : List Rs) (e : Ending) (w' : World) : Prop := ∃ A n c, e = .returned (.slice A n c) ∧ SlW A n c ∧ ArrR w' 7 (RsQ S wb) A n l ∧ Ext wb w'
theorem zeroR_one : ∀ u ∈ (Value.cells (.agg #[.int .i64 0, .string ⟨#[]⟩, .int .i64 0, .int .i64 0, .string ⟨#[]⟩, .slice none 0 0, .slice none 0 0])), u.oneCell' = true := by decide
theorem deleteR_any (S : Nat → Prop) (F : Nat) (caps : Array Value) (p : Rs → Bool) (v : Value) (n : Nat) (us : List Value) (l : List Rs) (wb w : World) (he : Ext wb w) (hn : n ≤ 1000000) (hown : w.ownsRow wb.heap.size 34 7 v n us) (hU : RowsOf (RsQ S wb) 7 us l) (hF : PredR S wb F caps p) :
  Calls Tryz.prog 121 #[v, .func (.func F) #[] caps] w (KeepsR S wb (keepP p l)) := by
 have HF := hid hF
 have HFw : Hid (PredR S w F caps p) := hid ⟨hF.1, fun r B m d B' m' d' wx h => hF.2 r B m d B' m' d' wx (he.trans h)⟩
 have HU := hid hU
 have HO := hid hown
 obtain ⟨A, c, rfl, hnc, hcm, hA0, hfl⟩ := own_flat hown
 have HFl := hid hfl
 have hcm' : c ≤ 9223372036854775807 := by unfold maxLen at hcm; exact hcm
 have HA0 := hid hA0
 have HE := hid he
 have hlen : l.length = n := by
  have h1 := hfl.1
  rw [hU.len] at h1
  exact Nat.eq_of_mul_eq_mul_right (by omega) h1
 clear hown hU hF he hfl hA0
 go_enter Tryz.func121, Tryz.ntmps121
 go_wp2_with fail
 refine (indexR_any (T := fun _ => True) S F caps p A n c l _ (by unfold maxLen; omega) (HFl.out.arrQ (HU.out.mono (fun _ _ h => h.keep HE.out.keep)) (by omega) (fun _ _ _ _ => trivial)) HFw.out).mono ?_
 rintro e w1 ⟨rfl, hb1⟩
 cases ha : l.any p with
 | false =>
  have hI : idxB p l = -1 := idx_none ha
  rw [hI]
  have HK : Hid (keepP p l = l) := hid (keepP_all ha)
  clear hI ha
  go_wp2_with fail
  go_ret
  rw [HK.out]
  exact ⟨A, n, c, rfl, ⟨hnc, hcm, HA0.out⟩, ((HFl.out.up hb1).arrQ (S := fun _ => True) HU.out (by omega) (fun _ _ _ _ => trivial)).arr, HE.out.trans hb1⟩
 | true =>
  obtain ⟨i0, x0, hx0, hp0, hf0, hI⟩ : ∃ (i : Nat) (x : Rs), l[i]? = some x ∧ p x = true ∧ (l.take i).any p = false ∧ idxB p l = i := by
   have hlt : l.findIdx p < l.length := List.findIdx_lt_length_of_exists (by simpa using List.any_eq_true.1 ha)
   refine ⟨l.findIdx p, l[l.findIdx p], List.getElem?_eq_getElem hlt, List.findIdx_getElem, ?_, by unfold idxB; rw [if_pos ha]⟩
   rw [List.any_eq_false]
   intro y hy
   obtain ⟨j, hj, rfl⟩ := List.mem_take_iff_getElem.1 hy
   have := List.not_of_lt_findIdx (p := p) (xs := l) (i := j) (by omega)
   simpa using this
  rw [hI]
  have hi0 : i0 < n := by rw [← hlen]; exact (List.getElem?_eq_some_iff.1 hx0).1
  obtain ⟨g, rfl⟩ : ∃ g, A = some ⟨g, 0, none⟩ := by
   rcases HO.out.2 with ⟨h, _⟩ | ⟨g, cap, cur, h, _⟩
   ·injection h with h1 h2; omega
   ·injection h with h; exact ⟨g, h⟩
  have HD0 := hid (DelSt.init (p := p) (HE.out.trans hb1) (own_up HO.out hb1) rfl HU.out (by omega) hx0 hp0 hf0)
  have hm1 : ((i0 : Int) == -1) = false := by simp <;> omega
  clear ha hI hx0 hp0 hf0 hb1
  go_wp2_with fail
  go_loopw [5, 6] (fun i j wr => ∃ (a b : Nat), a < b ∧ b ≤ n ∧ i = .int .i64 a ∧ j = .int .i64 b ∧ Hid (DelSt (RsQ S wb) 7 p l g c wb wr a b)) (fun _ j _ => n - (intOf j).toNat)
  case atStart => exact ⟨i0, i0 + 1, by omega, by omega, rfl, by go_num, HD0⟩
  case round =>
   obtain ⟨a, b, hab, hbn, rfl, rfl, HD⟩ := hrel
   by_cases hlt : b < n
   ·obtain ⟨x, hx⟩ : ∃ x, l[b]? = some x := ⟨l[b]'(by omega), List.getElem?_eq_getElem _⟩
    obtain ⟨cs, hcl, hR, hcs⟩ := HD.out.left b x (Nat.le_refl _) hx
    obtain ⟨r, rfl⟩ : ∃ r, r = x := ⟨_, rfl⟩
    obtain ⟨B, m, d, B', m', d', rfl, hv⟩ := hR
    have HVx := hid hv
    have hgl := HD.out.lt
    have d0 : wr.cell? ⟨g, b * 7, none⟩ = some (.int .i64 r.kind) := hcs 0 _ rfl
    have d1 : wr.cell? ⟨g, b * 7 + 1, none⟩ = some (.string r.name) := hcs 1 _ rfl
    have d2 : wr.cell? ⟨g, b * 7 + 2, none⟩ = some (.int .i64 r.ver) := hcs 2 _ rfl
    have d3 : wr.cell? ⟨g, b * 7 + 3, none⟩ = some (.int .i64 r.port) := hcs 3 _ rfl
    have d4 : wr.cell? ⟨g, b * 7 + 4, none⟩ = some (.string r.to) := hcs 4 _ rfl
    have d5 : wr.cell? ⟨g, b * 7 + 5, none⟩ = some (.slice B m d) := hcs 5 _ rfl
    have d6 : wr.cell? ⟨g, b * 7 + 6, none⟩ = some (.slice B' m' d') := hcs 6 _ rfl
    obtain ⟨y0, e0⟩ := Option.isSome_iff_exists.1 (HD.out.there (a * 7) (by have := mul_lt_row (sz := 7) (t := 0) (show a < c by omega) (by omega); omega)).1
    have f0 := (HD.out.there (a * 7) (by have := mul_lt_row (sz := 7) (t := 0) (show a < c by omega) (by omega); omega)).2
    obtain ⟨y1, e1⟩ := Option.isSome_iff_exists.1 (HD.out.there (a * 7 + 1) (by have := mul_lt_row (sz := 7) (t := 1) (show a < c by omega) (by omega); omega)).1
    have f1 := (HD.out.there (a * 7 + 1) (by have := mul_lt_row (sz := 7) (t := 1) (show a < c by omega) (by omega); omega)).2
    obtain ⟨y2, e2⟩ := Option.isSome_iff_exists.1 (HD.out.there (a * 7 + 2) (by have := mul_lt_row (sz := 7) (t := 2) (show a < c by omega) (by omega); omega)).1
    have f2 := (HD.out.there (a * 7 + 2) (by have := mul_lt_row (sz := 7) (t := 2) (show a < c by omega) (by omega); omega)).2
    obtain ⟨y3, e3⟩ := Option.isSome_iff_exists.1 (HD.out.there (a * 7 + 3) (by have := mul_lt_row (sz := 7) (t := 3) (show a < c by omega) (by omega); omega)).1
    have f3 := (HD.out.there (a * 7 + 3) (by have := mul_lt_row (sz := 7) (t := 3) (show a < c by omega) (by omega); omega)).2
    obtain ⟨y4, e4⟩ := Option.isSome_iff_exists.1 (HD.out.there (a * 7 + 4) (by have := mul_lt_row (sz := 7) (t := 4) (show a < c by omega) (by omega); omega)).1
    have f4 := (HD.out.there (a * 7 + 4) (by have := mul_lt_row (sz := 7) (t := 4) (show a < c by omega) (by omega); omega)).2
    obtain ⟨y5, e5⟩ := Option.isSome_iff_exists.1 (HD.out.there (a * 7 + 5) (by have := mul_lt_row (sz := 7) (t := 5) (show a < c by omega) (by omega); omega)).1
    have f5 := (HD.out.there (a * 7 + 5) (by have := mul_lt_row (sz := 7) (t := 5) (show a < c by omega) (by omega); omega)).2
    obtain ⟨y6, e6⟩ := Option.isSome_iff_exists.1 (HD.out.there (a * 7 + 6) (by have := mul_lt_row (sz := 7) (t := 6) (show a < c by omega) (by omega); omega)).1
    have f6 := (HD.out.there (a * 7 + 6) (by have := mul_lt_row (sz := 7) (t := 6) (show a < c by omega) (by omega); omega)).2
    have HX := hid hx
    have i1 : (0 : Int) ≤ (b : Int) := by omega
    have i2 : (b : Int) < (n : Int) := by omega
    have i3 : (0 : Int) ≤ (a : Int) := by omega
    have i4 : (a : Int) < (n : Int) := by omega
    clear hx hcs hcl hv
    go_wp2_with fail
    rw [HF.out.1, Oper.upon_enter]
    refine (HF.out.2 r B m d B' m' d' _ (HD.out.ext.alloc _) (HVx.out.up (HD.out.ext.alloc _))).mono ?_
    rintro e w2 ⟨rfl, hb2⟩
    have HD2 := hid (HD.out.up ((Ext.new wr _).trans hb2))
    have HB2 := hid (box1b hb2).1
    cases hp : p r with
    | true =>
     have HD3 := hid (HD2.out.skip HX.out hp)
     go_wp2_with fail
     go_roundw
     case rel => exact ⟨a, b + 1, by omega, by omega, rfl, by go_num, HD3⟩
     case measure => simp [intOf]; omega
    | false =>
     have HD3 := hid (HD2.out.store hab (by omega) HX.out hp (cs := [.int .i64 r.kind, .string r.name, .int .i64 r.ver, .int .i64 r.port, .string r.to, .slice B m d, .slice B' m' d']) rfl ⟨_, _, _, _, _, _, rfl, HVx.out⟩)
     obtain ⟨z0, z1⟩ := blk_rules HB2.out
     have g0 : w2.cell? ⟨g, a * 7, none⟩ = some y0 := (((Ext.new wr _).trans hb2).cell hgl).trans e0
     have k0 : w2.frozen? ⟨g, a * 7, none⟩ = false := (((Ext.new wr _).trans hb2).frozen hgl).trans f0
     have g1 : w2.cell? ⟨g, a * 7 + 1, none⟩ = some y1 := (((Ext.new wr _).trans hb2).cell hgl).trans e1
     have k1 : w2.frozen? ⟨g, a * 7 + 1, none⟩ = false := (((Ext.new wr _).trans hb2).frozen hgl).trans f1
     have g2 : w2.cell? ⟨g, a * 7 + 2, none⟩ = some y2 := (((Ext.new wr _).trans hb2).cell hgl).trans e2
     have k2 : w2.frozen? ⟨g, a * 7 + 2, none⟩ = false := (((Ext.new wr _).trans hb2).frozen hgl).trans f2
     have g3 : w2.cell? ⟨g, a * 7 + 3, none⟩ = some y3 := (((Ext.new wr _).trans hb2).cell hgl).trans e3
     have k3 : w2.frozen? ⟨g, a * 7 + 3, none⟩ = false := (((Ext.new wr _).trans hb2).frozen hgl).trans f3
     have g4 : w2.cell? ⟨g, a * 7 + 4, none⟩ = some y4 := (((Ext.new wr _).trans hb2).cell hgl).trans e4
     have k4 : w2.frozen? ⟨g, a * 7 + 4, none⟩ = false := (((Ext.new wr _).trans hb2).frozen hgl).trans f4
     have g5 : w2.cell? ⟨g, a * 7 + 5, none⟩ = some y5 := (((Ext.new wr _).trans hb2).cell hgl).trans e5
     have k5 : w2.frozen? ⟨g, a * 7 + 5, none⟩ = false := (((Ext.new wr _).trans hb2).frozen hgl).trans f5
     have g6 : w2.cell? ⟨g, a * 7 + 6, none⟩ = some y6 := (((Ext.new wr _).trans hb2).cell hgl).trans e6
     have k6 : w2.frozen? ⟨g, a * 7 + 6, none⟩ = false := (((Ext.new wr _).trans hb2).frozen hgl).trans f6
     clear d0 e0 f0 d1 e1 f1 d2 e2 f2 d3 e3 f3 d4 e4 f4 d5 e5 f5 d6 e6 f6 hb2
     go_wp2_with fail
     exact ⟨⟨a + 1, b + 1, by omega, by omega, by go_num, by go_num, HD3⟩, by simp [intOf]; omega⟩
   ·obtain rfl : b = n := by omega
    have hac : ¬ c = a := by omega
    have i3 : (0 : Int) ≤ (a : Int) := by omega
    have i4 : (a : Int) ≤ (b : Int) := by omega
    obtain ⟨zs, hrun⟩ := run_clear_k (P := Tryz.prog) wr 42 34 0 (.agg #[.int .i64 0, .string ⟨#[]⟩, .int .i64 0, .int .i64 0, .string ⟨#[]⟩, .slice none 0 0, .slice none 0 0]) Tryz.underlying42 (fun w => rfl) zeroR_one g (a * 7) (b - a) (c - a) (by omega)
     (fun j hj => (HD.out.there (a * 7 + j) (by have hj' : j < (b - a) * 7 := hj; omega)).1) (fun j hj => (HD.out.there (a * 7 + j) (by have hj' : j < (b - a) * 7 := hj; omega)).2)
    have HT : Hid (l.take b = l) := hid (List.take_of_length_le (by omega))
    have HCl := hid (HD.out.clear zs)
    go_wp2_with fail
    go_ret
    have h2 := HCl.out.2
    rw [HT.out] at h2
    exact ⟨some ⟨g, 0, none⟩, a, c, rfl, ⟨by omega, hcm, fun h => by cases h⟩, h2, HCl.out.1⟩
theorem rowsR_one {S : Nat → Prop} {w : World} : ∀ {us : List Value} {xs : List Rs}, RowsOf (RsQ S w) 7 us xs → ∀ u ∈ us, u.oneCell' = true
 | _, [], h => by rw [show _ = [] from h]; simp
 | _, x :: xs, ⟨cs, r, e, hl, h1, h2⟩ => by
  intro u hu
  rw [e] at hu
  rcases List.mem_append.1 hu with hu | hu
  ·obtain ⟨B, m, d, B', m', d', rfl, hv⟩ := h1
   simp at hu
   rcases hu with rfl | rfl | rfl | rfl | rfl | rfl | rfl <;> rfl
  ·exact rowsR_one h2 u hu
set_option linter.unusedVariables false
open Go.RowKit
theorem cloneK_any (A : Option Addr) (n c : Nat) (us : List Value) (w : World) (hF : Flat w 2 A n us) (h1 : ∀ u ∈ us, u.oneCell' = true) (hc : A = none → c = 0) (hn : n ≤ 1000000) :
  Calls Tryz.prog 175 #[.slice A n c] w fun e w' => ∃ v, e = .returned v ∧ w'.ownsRow w.heap.size 38 2 v n us ∧ Ext w w' := by
 have q := fun (w : World) (a : Option Addr) (n c n' c' : Nat) => Lib.run_eql_slice_nil (P := Tryz.prog) w 46 _ a n c n' c' Tryz.underlying46
 cases A with
 | none =>
  obtain rfl := hc rfl
  have h0 : n = 0 := by
   rcases Nat.eq_zero_or_pos n with h | h
   ·exact h
   ·obtain ⟨_, _, h', _⟩ := hF.2 h
    cases h'
  subst h0
  have hb : us = [] := List.eq_nil_of_length_eq_zero (by simpa using hF.1)
  subst hb
  go_enter Tryz.func175, Tryz.ntmps175
  go_wp2_with fail
  go_ret
  exact ⟨_, rfl, own_nil, Ext.refl _⟩
 | some a =>
  have HF := hid (hF.up (Ext.new w (.cells #[] 38)))
  have H1 := hid h1
  clear hF h1
  go_enter Tryz.func175, Tryz.ntmps175
  have hE := own_empty_lit w w.heap.size 38 2 (Nat.le_refl _)
  have HE := hid hE
  clear hE
  go_wp2_with (at_builtin
               obtain ⟨v', w1, hrun, hown1, hg1, _⟩ := run_append_flat elem_key 46 HE.out c HF.out H1.out (by omega) (by omega) (by simp) (fun h => by cases h)
               refine Lib.wpList_append_run _ rfl _ _ _ _ rfl _ _ rfl rfl v' w1 hrun ?_)
  go_ret
  exact ⟨_, rfl, by simpa using hown1, (Ext.new _ _).grown hg1 HE.out (Nat.le_refl _)⟩
def KeepsK (S : Nat → Prop) (wb : World) (l : List Ky) (e : Ending) (w' : World) : Prop := ∃ A n c, e = .returned (.slice A n c) ∧ SlW A n c ∧ ArrR w' 2 KyQ A n l ∧ Ext wb w'
theorem zeroK_one : ∀ u ∈ (Value.cells (.agg #[.int .i64 0, .string ⟨#[]⟩])), u.oneCell' = true := by decide
theorem deleteK_any (S : Nat → Prop) (F : Nat) (caps : Array Value) (p : Ky → Bool) (v : Value) (n : Nat) (us : List Value) (l : List Ky) (wb w : World) (he : Ext wb w) (hn : n ≤ 1000000) (hown : w.ownsRow wb.heap.size 38 2 v n us) (hU : RowsOf KyQ 2 us l) (hF : PredK S wb F caps p) :
  Calls Tryz.prog 113 #[v, .func (.func F) #[] caps] w (KeepsK S wb (keepP p l)) := by
 have HF := hid hF
 have HFw : Hid (PredK S w F caps p) := hid ⟨hF.1, fun y wx h => hF.2 y wx (he.trans h)⟩
 have HU := hid hU
 have HO := hid hown
 obtain ⟨A, c, rfl, hnc, hcm, hA0, hfl⟩ := own_flat hown
 have HFl := hid hfl
 have hcm' : c ≤ 9223372036854775807 := by unfold maxLen at hcm; exact hcm
 have HA0 := hid hA0
 have HE := hid he
 have hlen : l.length = n := by
  have h1 := hfl.1
  rw [hU.len] at h1
  exact Nat.eq_of_mul_eq_mul_right (by omega) h1
 clear hown hU hF he hfl hA0
 go_enter Tryz.func113, Tryz.ntmps113
 go_wp2_with fail
 refine (indexK_any (T := fun _ => True) S F caps p A n c l _ (by unfold maxLen; omega) (HFl.out.arrQ HU.out (by omega) (fun _ _ _ _ => trivial)) HFw.out).mono ?_
 rintro e w1 ⟨rfl, hb1⟩
 cases ha : l.any p with
 | false =>
  have hI : idxB p l = -1 := idx_none ha
  rw [hI]
  have HK : Hid (keepP p l = l) := hid (keepP_all ha)
  clear hI ha
  go_wp2_with fail
  go_ret
  rw [HK.out]
  exact ⟨A, n, c, rfl, ⟨hnc, hcm, HA0.out⟩, ((HFl.out.up hb1).arrQ (S := fun _ => True) HU.out (by omega) (fun _ _ _ _ => trivial)).arr, HE.out.trans hb1⟩
 | true =>
  obtain ⟨i0, x0, hx0, hp0, hf0, hI⟩ : ∃ (i : Nat) (x : Ky), l[i]? = some x ∧ p x = true ∧ (l.take i).any p = false ∧ idxB p l = i := by
   have hlt : l.findIdx p < l.length := List.findIdx_lt_length_of_exists (by simpa using List.any_eq_true.1 ha)
   refine ⟨l.findIdx p, l[l.findIdx p], List.getElem?_eq_getElem hlt, List.findIdx_getElem, ?_, by unfold idxB; rw [if_pos ha]⟩
   rw [List.any_eq_false]
   intro y hy
   obtain ⟨j, hj, rfl⟩ := List.mem_take_iff_getElem.1 hy
   have := List.not_of_lt_findIdx (p := p) (xs := l) (i := j) (by omega)
   simpa using this
  rw [hI]
  have hi0 : i0 < n := by rw [← hlen]; exact (List.getElem?_eq_some_iff.1 hx0).1
  obtain ⟨g, rfl⟩ : ∃ g, A = some ⟨g, 0, none⟩ := by
   rcases HO.out.2 with ⟨h, _⟩ | ⟨g, cap, cur, h, _⟩
   ·injection h with h1 h2; omega
   ·injection h with h; exact ⟨g, h⟩
  have HD0 := hid (DelSt.init (p := p) (HE.out.trans hb1) (own_up HO.out hb1) rfl HU.out (by omega) hx0 hp0 hf0)
  have hm1 : ((i0 : Int) == -1) = false := by simp <;> omega
  clear ha hI hx0 hp0 hf0 hb1
  go_wp2_with fail
  go_loopw [5, 6] (fun i j wr => ∃ (a b : Nat), a < b ∧ b ≤ n ∧ i = .int .i64 a ∧ j = .int .i64 b ∧ Hid (DelSt KyQ 2 p l g c wb wr a b)) (fun _ j _ => n - (intOf j).toNat)
  case atStart => exact ⟨i0, i0 + 1, by omega, by omega, rfl, by go_num, HD0⟩
  case round =>
   obtain ⟨a, b, hab, hbn, rfl, rfl, HD⟩ := hrel
   by_cases hlt : b < n
   ·obtain ⟨x, hx⟩ : ∃ x, l[b]? = some x := ⟨l[b]'(by omega), List.getElem?_eq_getElem _⟩
    obtain ⟨cs, hcl, hR, hcs⟩ := HD.out.left b x (Nat.le_refl _) hx
    obtain ⟨y, rfl⟩ : ∃ y, y = x := ⟨_, rfl⟩
    obtain ⟨rfl, hsz⟩ := hR
    have HVx := hid hsz
    have hgl := HD.out.lt
    have d0 : wr.cell? ⟨g, b * 2, none⟩ = some (.int .i64 y.kind) := hcs 0 _ rfl
    have d1 : wr.cell? ⟨g, b * 2 + 1, none⟩ = some (.string y.name) := hcs 1 _ rfl
    obtain ⟨y0, e0⟩ := Option.isSome_iff_exists.1 (HD.out.there (a * 2) (by have := mul_lt_row (sz := 2) (t := 0) (show a < c by omega) (by omega); omega)).1
    have f0 := (HD.out.there (a * 2) (by have := mul_lt_row (sz := 2) (t := 0) (show a < c by omega) (by omega); omega)).2
    obtain ⟨y1, e1⟩ := Option.isSome_iff_exists.1 (HD.out.there (a * 2 + 1) (by have := mul_lt_row (sz := 2) (t := 1) (show a < c by omega) (by omega); omega)).1
    have f1 := (HD.out.there (a * 2 + 1) (by have := mul_lt_row (sz := 2) (t := 1) (show a < c by omega) (by omega); omega)).2
    have HX := hid hx
    have i1 : (0 : Int) ≤ (b : Int) := by omega
    have i2 : (b : Int) < (n : Int) := by omega
    have i3 : (0 : Int) ≤ (a : Int) := by omega
    have i4 : (a : Int) < (n : Int) := by omega
    clear hx hcs hcl hsz
    go_wp2_with fail
    rw [HF.out.1, Oper.upon_enter]
    refine (HF.out.2 y _ (HD.out.ext.alloc _) HVx.out).mono ?_
    rintro e w2 ⟨rfl, hb2⟩
    have HD2 := hid (HD.out.up ((Ext.new wr _).trans hb2))
    have HB2 := hid (box1b hb2).1
    cases hp : p y with
    | true =>
     have HD3 := hid (HD2.out.skip HX.out hp)
     go_wp2_with fail
     go_roundw
     case rel => exact ⟨a, b + 1, by omega, by omega, rfl, by go_num, HD3⟩
     case measure => simp [intOf]; omega
    | false =>
     have HD3 := hid (HD2.out.store hab (by omega) HX.out hp (cs := [.int .i64 y.kind, .string y.name]) rfl ⟨rfl, HVx.out⟩)
     obtain ⟨z0, z1⟩ := blk_rules HB2.out
     have g0 : w2.cell? ⟨g, a * 2, none⟩ = some y0 := (((Ext.new wr _).trans hb2).cell hgl).trans e0
     have k0 : w2.frozen? ⟨g, a * 2, none⟩ = false := (((Ext.new wr _).trans hb2).frozen hgl).trans f0
     have g1 : w2.cell? ⟨g, a * 2 + 1, none⟩ = some y1 := (((Ext.new wr _).trans hb2).cell hgl).trans e1
     have k1 : w2.frozen? ⟨g, a * 2 + 1, none⟩ = false := (((Ext.new wr _).trans hb2).frozen hgl).trans f1
     clear d0 e0 f0 d1 e1 f1 hb2
     go_wp2_with fail
     exact ⟨⟨a + 1, b + 1, by omega, by omega, by go_num, by go_num, HD3⟩, by simp [intOf]; omega⟩
   ·obtain rfl : b = n := by omega
    have hac : ¬ c = a := by omega
    have i3 : (0 : Int) ≤ (a : Int) := by omega
    have i4 : (a : Int) ≤ (b : Int) := by omega
    obtain ⟨zs, hrun⟩ := run_clear_k (P := Tryz.prog) wr 46 38 0 (.agg #[.int .i64 0, .string ⟨#[]⟩]) Tryz.underlying46 (fun w => rfl) zeroK_one g (a * 2) (b - a) (c - a) (by omega)
     (fun j hj => (HD.out.there (a * 2 + j) (by have hj' : j < (b - a) * 2 := hj; omega)).1) (fun j hj => (HD.out.there (a * 2 + j) (by have hj' : j < (b - a) * 2 := hj; omega)).2)
    have HT : Hid (l.take b = l) := hid (List.take_of_length_le (by omega))
    have HCl := hid (HD.out.clear zs)
    go_wp2_with fail
    go_ret
    have h2 := HCl.out.2
    rw [HT.out] at h2
    exact ⟨some ⟨g, 0, none⟩, a, c, rfl, ⟨by omega, hcm, fun h => by cases h⟩, h2, HCl.out.1⟩
theorem rowsK_one : ∀ {us : List Value} {xs : List Ky}, RowsOf KyQ 2 us xs → ∀ u ∈ us, u.oneCell' = true
 | _, [], h => by rw [show _ = [] from h]; simp
 | _, x :: xs, ⟨cs, r, e, hl, h1, h2⟩ => by
  intro u hu
  rw [e] at hu
  rcases List.mem_append.1 hu with hu | hu
  ·obtain ⟨rfl, _⟩ := h1
   simp at hu
   rcases hu with rfl | rfl <;> rfl
  ·exact rowsK_one h2 u hu
end Go.Proofs.YtfdjbnofcniodaaGreatDoor
