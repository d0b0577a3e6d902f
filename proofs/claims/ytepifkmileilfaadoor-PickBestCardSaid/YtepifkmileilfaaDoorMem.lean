/- Memory of the call's own, over whatever program: rows that are owned, appends onto them, []byte as a list of bytes. -/
import Derived.Test.YtepifkmileilfaaDoorBase
import Derived.Lib.AppendZeros
import Derived.Deep.AppendLies
import Derived.Deep.RegionLawGrows
import Derived.Maps.AppendAt
import Derived.Laws.BytesArg
import Derived.Lib.Bytes
namespace Go.Proofs.YtepifkmileilfaaDoor
open Go.RowKit

/-! ### Cells in a row -/
/-- the slice value .slice A n _ holds the cells xs ('size' cells an element) -/
def Flat (w : World) (size : Nat) (A : Option Addr) (n : Nat) (xs : List Value) : Prop :=
  xs.length = n * size ∧ (0 < n → ∃ b o, A = some ⟨b, o, none⟩ ∧ b < w.heap.size ∧ ∀ j u, xs[j]? = some u → w.cell? ⟨b, o + j, none⟩ = some u)

section
variable {w w' : World} {size n : Nat} {A : Option Addr} {xs : List Value}
theorem Flat.up (h : Flat w size A n xs) (hb : Ext w w') : Flat w' size A n xs :=
  ⟨h.1, fun hn => by
    obtain ⟨b, o, e, hlt, hc⟩ := h.2 hn
    exact ⟨b, o, e, Nat.lt_of_lt_of_le hlt hb.size, fun j u hu => (hb.cell hlt).trans (hc j u hu)⟩⟩
theorem Flat.nil_ : Flat w size A 0 [] := ⟨by simp, fun h => absurd h (by omega)⟩
theorem Flat.add (h : Flat w size A n xs) {a : Addr} (hA : A = some a) : ∀ j u, xs[j]? = some u → w.cell? (a.add j) = some u := by
  intro j u hu
  rcases Nat.eq_zero_or_pos n with h0 | hn
  · subst h0
    have : xs = [] := List.eq_nil_of_length_eq_zero (by simpa using h.1)
    subst this
    simp at hu
  · obtain ⟨b, o, e, _, hc⟩ := h.2 hn
    rw [hA] at e
    injection e with e
    subst e
    have := hc j u hu
    rw [← this]
    congr 1
    unfold Addr.add
    split <;> simp_all
/-- one-cell elements -/
theorem ArrR.flat {α : Type} {f : α → Value} {ys : List α} (h : ArrR w 1 (fun cs y => cs = [f y]) A n ys) : Flat w 1 A n (ys.map f) := by
  refine ⟨by simpa using h.1, fun hn => ?_⟩
  obtain ⟨b, o, e, hb, hc⟩ := h.2 hn
  refine ⟨b, o, e, hb, fun j u hu => ?_⟩
  rw [List.getElem?_map] at hu
  obtain ⟨y, hy, rfl⟩ := Option.map_eq_some_iff.1 hu
  obtain ⟨cs, _, rfl, hcs⟩ := hc j y hy
  simpa using hcs 0 _ rfl
theorem Flat.arr {α : Type} {f : α → Value} {ys : List α} (h : Flat w 1 A n (ys.map f)) : ArrR w 1 (fun cs y => cs = [f y]) A n ys := by
  refine ⟨by simpa using h.1, fun hn => ?_⟩
  obtain ⟨b, o, e, hb, hc⟩ := h.2 hn
  refine ⟨b, o, e, hb, fun k y hy => ⟨[f y], rfl, rfl, fun j u hu => ?_⟩⟩
  match j, hu with
  | 0, hu =>
    injection hu with hu
    subst hu
    simpa using hc k (f y) (by rw [List.getElem?_map, hy]; rfl)
end

/-! ### Owned rows -/
theorem own_flat {w : World} {base size n : Nat} {e : TypeId} {v : Value} {xs : List Value} (h : w.ownsRow base e size v n xs) : ∃ A c, v = .slice A n c ∧ n ≤ c ∧ c ≤ maxLen ∧ (A = none → c = 0) ∧ Flat w size A n xs := by
  rcases h.2 with ⟨rfl, rfl⟩ | ⟨g, cap, cur, rfl, _, hg, hn, hm, hsz, ht⟩
  · have : xs = [] := List.eq_nil_of_length_eq_zero (by simpa using h.1)
    subst this
    exact ⟨none, 0, rfl, Nat.le_refl _, Nat.zero_le _, fun _ => rfl, Flat.nil_⟩
  · refine ⟨some ⟨g, 0, none⟩, cap, rfl, hn, hm, (fun h => by cases h), h.1, fun _ => ⟨g, 0, rfl, (Array.getElem?_eq_some_iff.1 hg).1, fun j u hu => ?_⟩⟩
    rw [cell_of_row w g _ cur e (0, 0) hg, Nat.zero_add]
    rw [← ht] at hu
    have hj : j < n * size := by
      have := (List.getElem?_eq_some_iff.1 hu).1
      rw [List.length_take] at this
      omega
    rw [List.getElem?_take_of_lt hj] at hu
    simpa using hu
theorem own_up {w w' : World} {base size n : Nat} {e : TypeId} {v : Value} {xs : List Value} (h : w.ownsRow base e size v n xs) (hb : Ext w w') : w'.ownsRow base e size v n xs := by
  refine ⟨h.1, ?_⟩
  rcases h.2 with hn | ⟨g, cap, cur, rfl, hg, hh, rest⟩
  · exact .inl hn
  · exact .inr ⟨g, cap, cur, rfl, hg, (hb.block (Array.getElem?_eq_some_iff.1 hh).1).trans hh, rest⟩
theorem own_base {w : World} {base base' size n : Nat} {e : TypeId} {v : Value} {xs : List Value} (h : w.ownsRow base e size v n xs) (hb : base' ≤ base) : w.ownsRow base' e size v n xs := by
  refine ⟨h.1, ?_⟩
  rcases h.2 with hn | ⟨g, cap, cur, rfl, hg, rest⟩
  · exact .inl hn
  · exact .inr ⟨g, cap, cur, rfl, Nat.le_trans hb hg, rest⟩
theorem own_nil {w : World} {base size : Nat} {e : TypeId} : w.ownsRow base e size (.slice none 0 0) 0 [] := ⟨by simp, .inl ⟨rfl, rfl⟩⟩
theorem Ext.grown {w W W' : World} {v : Value} {base size n : Nat} {e : TypeId} {xs : List Value} (h : Ext w W) (hg : W.grownBy W' v.ownBlock) (hown : W.ownsRow base e size v n xs) (hb : w.heap.size ≤ base) : Ext w W' :=
  Below.grown h hg h.size fun _ hk => Nat.le_trans hb (hown.lt _ hk).1
theorem Ext.grown_none {w W W' : World} (h : Ext w W) (hg : W.grownBy W' none) : Ext w W' := Below.grown h hg h.size fun _ hk => by cases hk
/-- what lies in an empty row that is there but holds nothing -/
theorem own_empty_lit (w : World) (base : Nat) (e : TypeId) (size : Nat) (hb : base ≤ w.heap.size) : (w.alloc (.cells #[] e)).ownsRow base e size (.slice (some ⟨w.heap.size, 0, none⟩) 0 0) 0 [] :=
  ⟨by simp, .inr ⟨w.heap.size, 0, #[], rfl, hb, heap_alloc_new w _, Nat.le_refl _, Nat.zero_le _, by simp, by simp⟩⟩

/-- an element type's row of the table -/
def ElemOk (P : Program) (t e : TypeId) (z : Value) (size bytes : Nat) : Prop :=
  P.underlying t = some (.slice e) ∧ (∃ i, P.info? e = some i ∧ i.zero = some z ∧ i.size = size ∧ i.bytes = bytes) ∧ z.cells.size = size ∧ 0 < size
theorem ElemOk.mk {P : Program} {t e : TypeId} {z : Value} {size bytes : Nat} (ht : P.underlying t = some (.slice e)) (h : (P.info? e).map (fun i => (i.zero, i.size, i.bytes)) = some (some z, size, bytes)) (hz : z.cells.size = size) (hs : 0 < size) : ElemOk P t e z size bytes :=
  ⟨ht, info_parts h, hz, hs⟩

section
variable {P : Program} {w : World}
/-- append onto an owned row of whatever row of cells -/
theorem run_append_flat {t e : TypeId} {z : Value} {size bytes : Nat} (E : ElemOk P t e z size bytes) (ty : TypeId) {base : Nat} {v : Value} {n : Nat} {xs : List Value} (hown : w.ownsRow base e size v n xs)
    {A : Option Addr} {m : Nat} (c : Nat) {news : List Value} (hf : Flat w size A m news) (h1 : ∀ u ∈ news, u.oneCell' = true) (h63 : n + m ≤ 4611686018427387904) (hbytes : (n + m) * bytes ≤ 140737488355328) (hbase : base ≤ w.heap.size) (hA : A = none → c = 0) :
    ∃ v' w', (Builtin.append_ #[t, t] ty #[v, .slice A m c]).run P w = .ok v' w' ∧ w'.ownsRow base e size v' (n + m) (xs ++ news) ∧ w.grownBy w' v.ownBlock ∧ (v'.ownBlock = v.ownBlock ∨ v'.ownBlock = some w.heap.size) := by
  obtain ⟨ht, ⟨i, hi, hz, hsize, hby⟩, hzs, hsz⟩ := E
  rcases A with _ | ad
  · have hm : m = 0 := by
      rcases Nat.eq_zero_or_pos m with h0 | h0
      · exact h0
      · obtain ⟨_, _, h, _⟩ := hf.2 h0
        cases h
    subst hm
    have hn : news = [] := List.eq_nil_of_length_eq_zero (by simpa using hf.1)
    subst hn
    obtain rfl := hA rfl
    exact ⟨v, w, run_append_owned_none (w := w) base t ty e i size ht hi v n xs hown, by simpa using hown, ⟨rfl, rfl, rfl, Nat.le_refl _, fun _ _ _ => rfl⟩, .inl rfl⟩
  · obtain ⟨v', w', hrun, h2, h3, _, h5⟩ := run_append_own_at (P := P) w base t ty e i z size bytes ht hi hz hsize hby hzs hsz v n xs hown ad m c news hf.1 (hf.add rfl) h1 (by simp only [maxLen]; omega) hbytes hbase
    exact ⟨v', w', hrun, h2, h3, h5⟩
/-- append that must grow: the old row is only read -/
theorem run_append_full {t e : TypeId} {z : Value} {size bytes : Nat} (E : ElemOk P t e z size bytes) (ty : TypeId) {A0 : Option Addr} {n cap : Nat} {xs : List Value} (h0 : Flat w size A0 n xs) (hA0 : A0 = none → cap = 0)
    {A : Option Addr} {m : Nat} (c : Nat) {news : List Value} (hf : Flat w size A m news) (h1 : ∀ u ∈ news, u.oneCell' = true) (hm : 0 < m) (hg : cap < n + m) (h63 : n + m ≤ 4611686018427387904) (hbytes : (n + m) * bytes ≤ 140737488355328) :
    ∃ v' w', (Builtin.append_ #[t, t] ty #[.slice A0 n cap, .slice A m c]).run P w = .ok v' w' ∧ w'.ownsRow w.heap.size e size v' (n + m) (xs ++ news) ∧ w.grownBy w' none := by
  have E' := E
  obtain ⟨ht, ⟨i, hi, hz, hsize, hby⟩, hzs, hsz⟩ := E
  obtain ⟨b, o, rfl, _, _⟩ := hf.2 hm
  rcases A0 with _ | ad
  · have hn : n = 0 := by
      rcases Nat.eq_zero_or_pos n with h | h
      · exact h
      · obtain ⟨_, _, h', _⟩ := h0.2 h
        cases h'
    subst hn
    obtain rfl := hA0 rfl
    have hx : xs = [] := List.eq_nil_of_length_eq_zero (by simpa using h0.1)
    subst hx
    obtain ⟨v', w', hrun, h2, h3, _⟩ := run_append_flat E' ty (base := w.heap.size) (own_nil (size := size) (e := e)) c hf h1 h63 hbytes (Nat.le_refl _) (fun h => by cases h)
    exact ⟨v', w', hrun, h2, h3⟩
  · exact run_append_arg_grows (P := P) w t ty e i z size bytes ht hi hz hsize hby hzs hsz ad n cap xs h0.1 (h0.add rfl) ⟨b, o, none⟩ m c news hf.1 (hf.add rfl) hg (by simp only [maxLen]; omega) hbytes

/-- a step of a region that draws its order: an append whose run is known -/
theorem step_append_run {ops : Array Oper} {o : Oper} {a : Act} {K : Act → World → Prop} {Q : Exit → Act → World → Prop} {E : Prop} (hgd : o.guard = none) (s x : Operand) (t tn : TypeId)
    (ho : o.op = .call { callee := .builtin .append, args := #[s, x], argTypes := #[t, tn] }) {vs vx : Value} (hs : a.eval s = vs) (hx : a.eval x = vx)
    {v' : Value} {w' : World} (hr : (Builtin.append_ #[t, tn] o.type #[vs, vx]).run P w = .ok v' w') (h : K (a.put o.dst v') w') :
    if Region.wanted o (yielded ops a.tmps) = true then Oper.wp P o a w K Q else E := by
  have hw : Region.wanted o (yielded ops a.tmps) = true := by simp [Region.wanted, hgd]
  rw [if_pos hw]
  exact Lib.wp_append_run w s x t tn ho vs vx hs hx v' w' hr h
end

/-! ### Bytes -/
def byteV (u : UInt8) : Value := .int .u8 (u.toNat : Int)
def ByteR (cs : List Value) (u : UInt8) : Prop := cs = [byteV u]
abbrev Byts (w : World) (A : Option Addr) (n : Nat) (bs : List UInt8) : Prop := ArrR w 1 ByteR A n bs
theorem byteV_one (bs : List UInt8) : ∀ u ∈ bs.map byteV, u.oneCell' = true := by
  intro u hu
  obtain ⟨x, _, rfl⟩ := List.mem_map.1 hu
  rfl
theorem Byts.at_ {w : World} {n k : Nat} {A : Option Addr} {bs : List UInt8} (h : Byts w A n bs) (hk : k < n) : ∃ b o u, A = some ⟨b, o, none⟩ ∧ b < w.heap.size ∧ bs[k]? = some u ∧ w.cell? ⟨b, o + k, none⟩ = some (.int .u8 (u.toNat : Int)) := by
  obtain ⟨b, o, x, cs, hA, hb, hx, _, hR, hc⟩ := ArrR.at_ h hk
  unfold ByteR byteV at hR
  subst hR
  refine ⟨b, o, x, hA, hb, hx, ?_⟩
  have := hc 0 _ rfl
  simpa using this
theorem Byts.flat {w : World} {n : Nat} {A : Option Addr} {bs : List UInt8} (h : Byts w A n bs) : Flat w 1 A n (bs.map byteV) := ArrR.flat (f := byteV) h
theorem Flat.byts {w : World} {n : Nat} {A : Option Addr} {bs : List UInt8} (h : Flat w 1 A n (bs.map byteV)) : Byts w A n bs := Flat.arr (f := byteV) h
theorem open_byteR {H : Type} {enc : TypeId × Value → H} {P : Program} {w : World} {base : Nat} {spare : Nat → Bool} {held : Bool} {e : TypeId} (he : P.underlying e = some (.int .u8)) (n : Nat) (cs : List Value) (x : DataW H × List MemPlace) (_ : cs.length = 1) (h : DataW.trod enc P w base spare held n e cs = some x) : ∃ y, ByteR cs y := by
  obtain ⟨m, rfl, _, hw⟩ := DataW.trod_int he h
  have h0 : 0 ≤ m ∧ m ≤ 255 := by simpa [Lit.wf, IntKind.min, IntKind.max, IntKind.bits, IntKind.signed] using hw
  refine ⟨UInt8.ofNat m.toNat, ?_⟩
  unfold ByteR byteV
  congr 2
  rw [UInt8.toNat_ofNat']
  omega

/-- the string of some bytes -/
def bstr (bs : List UInt8) : ByteArray := ⟨bs.toArray⟩
theorem bstr_toList (bs : List UInt8) : (bstr bs).toList = bs := by unfold bstr; rw [Lib.toList_data]
theorem bstr_size (bs : List UInt8) : (bstr bs).size = bs.length := rfl
theorem strOfNums_bytes (bs : List UInt8) : strOfNums (bs.map fun u => (u.toNat : Int)) = bstr bs := by
  apply ByteArray.ext
  apply Array.toList_inj.1
  have h1 := Lib.strOfNums_toList (bs.map fun u => (u.toNat : Int))
  have h2 := bstr_toList bs
  rw [Lib.toList_data] at h1 h2
  rw [h1, h2]
  unfold Lib.bytesOf
  simp [Function.comp_def]
/-- string(b) -/
theorem run_conv {P : Program} {w : World} {src e dst : TypeId} (hs : P.underlying src = some (.slice e)) (he : P.underlying e = some (.int .u8)) (hd : P.underlying dst = some .string) {A : Option Addr} {n : Nat} {bs : List UInt8} (h : Byts w A n bs) (c : Nat) :
    (convert src dst (.slice A n c)).run P w = .ok (.string (bstr bs)) w := by
  rcases Nat.eq_zero_or_pos n with h0 | hn
  · subst h0
    have : bs = [] := List.eq_nil_of_length_eq_zero h.1
    subst this
    rw [run_convert_bytes_string w src dst e A 0 c hs he hd]
    cases A with
    | none => simp [Conv.bytesToString, bstr, Sem.run_pure]; rfl
    | some a =>
      have hl : (loadCells a 0).run P w = .ok (([] : List Int).map (Value.int .u8)).toArray w := by simp [loadCells, loadCellsFrom, Sem.run_pure]
      rw [run_bytesToString w a 0 c [] hl]
      rfl
  · obtain ⟨b, o, rfl, _, hc⟩ := h.2 hn
    rw [← strOfNums_bytes]
    refine run_convert_bytes_arg w src e hs he b o n c _ (by simpa using h.1) (fun i hi => ?_) dst hd
    obtain ⟨u, hu⟩ := getElem?_lt_some (l := bs) (k := i) (by rw [h.1]; exact hi)
    obtain ⟨cs, _, hR, hcs⟩ := hc i u hu
    unfold ByteR byteV at hR
    subst hR
    have h1 := hcs 0 _ rfl
    simp only [Nat.mul_one, Nat.add_zero] at h1
    rw [h1]
    congr 2
    rw [List.getD_eq_getElem?_getD, List.getElem?_map, hu]
    rfl
end Go.Proofs.YtepifkmileilfaaDoor
