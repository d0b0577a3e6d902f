/- What the functions of package link compute. -/
import Derived.Test.YtjomoannlpadnaaRows
import Derived.Test.YtjomoannlpadnaaBytes
import Derived.Deep.RegionHeld3
import Derived.Deep.DrawnRows
import Derived.Deep.RegionLaw
namespace Go.Proofs.Ytjomoannlpadnaa
open Go.RowKit
attribute [local go_sem ↓] run_max2 run_min2
attribute [local go_sem ↓] Go.wp_at_zero Go.wp_at_succ

/-! ### [][]byte as a list of lists. X: blocks that it does not lie in. -/
def Off (X : Nat → Prop) (A : Option Addr) (n : Nat) : Prop := 0 < n → ∀ b o, A = some ⟨b, o, none⟩ → ¬ X b
def BV (w : World) (X : Nat → Prop) (v : Value) (bs : List UInt8) : Prop := ∃ A n c, v = .slice A n c ∧ (A = none → c = 0) ∧ n ≤ c ∧ Byts w A n bs ∧ Off X A n
def QV (w : World) (X : Nat → Prop) (vs : List Value) (q : List (List UInt8)) : Prop := vs.length = q.length ∧ ∀ (i : Nat) (v : Value), vs[i]? = some v → ∃ bs, q[i]? = some bs ∧ BV w X v bs
def QRd (w : World) (X : Nat → Prop) (A : Option Addr) (n : Nat) (q : List (List UInt8)) : Prop := ∃ vs, Flat w 1 A n vs ∧ Off X A n ∧ QV w X vs q
section
variable {w w' : World} {X X' : Nat → Prop} {A : Option Addr} {n : Nat}
theorem ArrR.set {α : Type} {size : Nat} {R : List Value → α → Prop} {xs : List α} (h : ArrR w size R A n xs) (ho : Off X A n) {g i : Nat} (hg : X g) (u : Value) : ArrR (w.setCell ⟨g, i, none⟩ u) size R A n xs :=
  ⟨h.1, fun hn => by
    obtain ⟨b, o, e, hb, hc⟩ := h.2 hn
    have hne : b ≠ g := fun e2 => ho hn b o e (e2 ▸ hg)
    refine ⟨b, o, e, by simpa [World.setCell] using hb, fun k x hx => ?_⟩
    obtain ⟨cs, hl, hr, hcs⟩ := hc k x hx
    exact ⟨cs, hl, hr, fun j u' hu => (World.cell?_setCell_other w _ _ _ (fun e2 => hne (by injection e2 with e3 _ _; exact e3.symm))).trans (hcs j u' hu)⟩⟩
theorem Flat.set {size : Nat} {xs : List Value} (h : Flat w size A n xs) (ho : Off X A n) {g i : Nat} (hg : X g) (u : Value) : Flat (w.setCell ⟨g, i, none⟩ u) size A n xs :=
  ⟨h.1, fun hn => by
    obtain ⟨b, o, e, hb, hc⟩ := h.2 hn
    have hne : b ≠ g := fun e2 => ho hn b o e (e2 ▸ hg)
    exact ⟨b, o, e, by simpa [World.setCell] using hb, fun j u' hu => (World.cell?_setCell_other w _ _ _ (fun e2 => hne (by injection e2 with e3 _ _; exact e3.symm))).trans (hc j u' hu)⟩⟩
theorem Off.fresh (h : Off X A n) (hb : 0 < n → ∀ b o, A = some ⟨b, o, none⟩ → b < w.heap.size) (hX : ∀ b, X' b → X b ∨ w.heap.size ≤ b) : Off X' A n := by
  intro hn b o e hx
  rcases hX b hx with h1 | h1
  · exact h hn b o e h1
  · have := hb hn b o e; omega
theorem ArrR.lt {α : Type} {size : Nat} {R : List Value → α → Prop} {xs : List α} (h : ArrR w size R A n xs) : 0 < n → ∀ b o, A = some ⟨b, o, none⟩ → b < w.heap.size := by
  intro hn b o e
  obtain ⟨b', o', e', hb, _⟩ := h.2 hn
  rw [e] at e'
  injection e' with e'
  injection e' with e1 e2
  rw [e1]; exact hb
theorem Flat.lt {size : Nat} {xs : List Value} (h : Flat w size A n xs) : 0 < n → ∀ b o, A = some ⟨b, o, none⟩ → b < w.heap.size := by
  intro hn b o e
  obtain ⟨b', o', e', hb, _⟩ := h.2 hn
  rw [e] at e'
  injection e' with e'
  injection e' with e1 e2
  rw [e1]; exact hb
theorem Off.none_ : Off (fun _ => False) A n := fun _ _ _ _ h => h
theorem BV.up {v : Value} {bs : List UInt8} (h : BV w X v bs) (hb : Ext w w') : BV w' X v bs := by
  obtain ⟨A, n, c, e, h1, h2, h3, h4⟩ := h
  exact ⟨A, n, c, e, h1, h2, ArrR.up h3 hb, h4⟩
theorem BV.set {v : Value} {bs : List UInt8} (h : BV w X v bs) {g i : Nat} (hg : X g) (u : Value) : BV (w.setCell ⟨g, i, none⟩ u) X v bs := by
  obtain ⟨A, n, c, e, h1, h2, h3, h4⟩ := h
  exact ⟨A, n, c, e, h1, h2, ArrR.set h3 h4 hg u, h4⟩
theorem BV.fresh {v : Value} {bs : List UInt8} (h : BV w X v bs) (hX : ∀ b, X' b → X b ∨ w.heap.size ≤ b) : BV w X' v bs := by
  obtain ⟨A, n, c, e, h1, h2, h3, h4⟩ := h
  exact ⟨A, n, c, e, h1, h2, h3, h4.fresh (ArrR.lt h3) hX⟩
theorem QV.up {vs : List Value} {q : List (List UInt8)} (h : QV w X vs q) (hb : Ext w w') : QV w' X vs q :=
  ⟨h.1, fun i v hv => by obtain ⟨bs, h1, h2⟩ := h.2 i v hv; exact ⟨bs, h1, h2.up hb⟩⟩
theorem QV.set {vs : List Value} {q : List (List UInt8)} (h : QV w X vs q) {g i : Nat} (hg : X g) (u : Value) : QV (w.setCell ⟨g, i, none⟩ u) X vs q :=
  ⟨h.1, fun i v hv => by obtain ⟨bs, h1, h2⟩ := h.2 i v hv; exact ⟨bs, h1, h2.set hg u⟩⟩
theorem QV.fresh {vs : List Value} {q : List (List UInt8)} (h : QV w X vs q) (hX : ∀ b, X' b → X b ∨ w.heap.size ≤ b) : QV w X' vs q :=
  ⟨h.1, fun i v hv => by obtain ⟨bs, h1, h2⟩ := h.2 i v hv; exact ⟨bs, h1, h2.fresh hX⟩⟩
theorem QRd.up {q : List (List UInt8)} (h : QRd w X A n q) (hb : Ext w w') : QRd w' X A n q := by
  obtain ⟨vs, h1, h2, h3⟩ := h
  exact ⟨vs, h1.up hb, h2, h3.up hb⟩
theorem QRd.set {q : List (List UInt8)} (h : QRd w X A n q) {g i : Nat} (hg : X g) (u : Value) : QRd (w.setCell ⟨g, i, none⟩ u) X A n q := by
  obtain ⟨vs, h1, h2, h3⟩ := h
  exact ⟨vs, h1.set h2 hg u, h2, h3.set hg u⟩
theorem QRd.fresh {q : List (List UInt8)} (h : QRd w X A n q) (hX : ∀ b, X' b → X b ∨ w.heap.size ≤ b) : QRd w X' A n q := by
  obtain ⟨vs, h1, h2, h3⟩ := h
  exact ⟨vs, h1, h2.fresh h1.lt hX, h3.fresh hX⟩
theorem QRd.len {q : List (List UInt8)} (h : QRd w X A n q) : q.length = n := by
  obtain ⟨vs, h1, _, h2⟩ := h
  rw [← h2.1, h1.1]; omega
theorem QV.append {vs ws : List Value} {q r : List (List UInt8)} (h : QV w X vs q) (k : QV w X ws r) : QV w X (vs ++ ws) (q ++ r) := by
  refine ⟨by simp [h.1, k.1], fun i v hv => ?_⟩
  rcases Nat.lt_or_ge i vs.length with hi | hi
  · rw [List.getElem?_append_left hi] at hv
    obtain ⟨bs, h1, h2⟩ := h.2 i v hv
    exact ⟨bs, by rw [List.getElem?_append_left (by rw [← h.1]; exact hi)]; exact h1, h2⟩
  · rw [List.getElem?_append_right hi] at hv
    obtain ⟨bs, h1, h2⟩ := k.2 _ v hv
    exact ⟨bs, by rw [List.getElem?_append_right (by rw [← h.1]; exact hi), ← h.1]; exact h1, h2⟩
theorem QV.take {vs : List Value} {q : List (List UInt8)} (h : QV w X vs q) (k : Nat) : QV w X (vs.take k) (q.take k) := by
  refine ⟨by simp [h.1], fun i v hv => ?_⟩
  rw [List.getElem?_take] at hv
  split at hv
  · rename_i hi
    obtain ⟨bs, h1, h2⟩ := h.2 i v hv
    exact ⟨bs, by rw [List.getElem?_take_of_lt hi]; exact h1, h2⟩
  · cases hv
theorem QV.drop {vs : List Value} {q : List (List UInt8)} (h : QV w X vs q) (k : Nat) : QV w X (vs.drop k) (q.drop k) := by
  refine ⟨by simp [h.1], fun i v hv => ?_⟩
  rw [List.getElem?_drop] at hv
  obtain ⟨bs, h1, h2⟩ := h.2 _ v hv
  exact ⟨bs, by rw [List.getElem?_drop]; exact h1, h2⟩
theorem QV.one {v : Value} {bs : List UInt8} (h : BV w X v bs) : QV w X [v] [bs] :=
  ⟨rfl, fun i u hu => by match i, hu with | 0, hu => cases hu; exact ⟨bs, rfl, h⟩⟩
theorem QV.nil_ : QV w X [] [] := ⟨rfl, fun i v hv => by simp at hv⟩
theorem QRd.nil_ : QRd w X none 0 [] := ⟨[], Flat.nil_, (fun h => absurd h (by omega)), QV.nil_⟩
theorem QV.one_cell {vs : List Value} {q : List (List UInt8)} (h : QV w X vs q) : ∀ u ∈ vs, u.oneCell' = true := by
  intro u hu
  obtain ⟨i, hi⟩ := List.mem_iff_getElem?.1 hu
  obtain ⟨bs, _, A, n, c, rfl, _⟩ := h.2 i u hi
  rfl
/-- one of them -/
theorem QRd.at_ {k : Nat} {q : List (List UInt8)} (h : QRd w X A n q) (hk : k < n) : ∃ b o A' n' c' bs, A = some ⟨b, o, none⟩ ∧ b < w.heap.size ∧ q[k]? = some bs ∧ w.cell? ⟨b, o + k, none⟩ = some (.slice A' n' c') ∧
    (A' = none → c' = 0) ∧ n' ≤ c' ∧ Byts w A' n' bs ∧ Off X A' n' := by
  obtain ⟨vs, h1, _, h2⟩ := h
  obtain ⟨b, o, rfl, hb, hc⟩ := h1.2 (by omega)
  obtain ⟨v, hv⟩ := getElem?_lt_some (l := vs) (k := k) (by rw [h1.1]; omega)
  obtain ⟨bs, hq, A', n', c', rfl, h3, h4, h5, h6⟩ := h2.2 k v hv
  exact ⟨b, o, A', n', c', bs, rfl, hb, hq, hc k _ hv, h3, h4, h5, h6⟩
end

/-- one new cell in a block of its own -/
theorem one_flat (w : World) (v : Value) (t : TypeId) : Flat (w.alloc (.cells #[v] t)) 1 (some ⟨w.heap.size, 0, none⟩) 1 [v] :=
  ⟨rfl, fun _ => ⟨w.heap.size, 0, rfl, by simp, fun j u hu => by
    have := cell_one_new w v t j u hu
    rw [← this]
    congr 1
    unfold Addr.add
    split <;> simp_all⟩⟩
/-- an owned row of bytes, as an element -/
theorem BV.of_own {w : World} {base n : Nat} {e : TypeId} {v : Value} {bs : List UInt8} (h : w.ownsRow base e 1 v n (bs.map byteV)) {X : Nat → Prop} (hX : ∀ b, X b → b < base) : BV w X v bs := by
  have hlt := h.lt
  obtain ⟨A, c, rfl, hn, _, hA, hf⟩ := own_flat h
  refine ⟨A, n, c, rfl, hA, hn, hf.byts, fun hp b o e hx => ?_⟩
  subst e
  have := (hlt b rfl).1
  have := hX b hx
  omega
theorem clone_bv (A : Option Addr) (n c : Nat) (bs : List UInt8) (w : World) (hA : Byts w A n bs) (hc : A = none → c = 0) (hn : n ≤ 140737488355328) :
    Calls Try.prog 67 #[.slice A n c] w fun e w' => ∃ A' c', e = .returned (.slice A' n c') ∧ (∀ X : Nat → Prop, (∀ b, X b → b < w.heap.size) → BV w' X (.slice A' n c') bs) ∧ Ext w w' :=
  (clone_any A n c bs w hA hc hn).mono fun e w' ⟨v, he, hown, hx⟩ => by
    obtain ⟨A', c', rfl, _⟩ := own_flat hown
    exact ⟨A', c', he, fun X hX => BV.of_own hown hX, hx⟩

/-- a link's queue -/
def LinkR (w : World) (X : Nat → Prop) (A : Option Addr) (n c : Nat) (q : List (List UInt8)) : Prop := QRd w X A n q ∧ (A = none → c = 0) ∧ n ≤ c
theorem LinkR.nil_ {w : World} {X : Nat → Prop} : LinkR w X none 0 0 [] := ⟨QRd.nil_, fun _ => rfl, Nat.le_refl _⟩

/-! ### Plain functions -/
def okL (ep : Int) (n : Nat) : Bool := decide (0 ≤ ep) && decide (ep ≤ 2147483647) && decide ((n : Int) ≤ 32)

/-! ### Walks -/
set_option maxHeartbeats 400000 in
theorem linkSane_any (ep : Int) (A : Option Addr) (n c : Nat) (w : World) :
    Calls Try.prog 29 #[.agg #[.int .i64 ep, .slice A n c]] w fun e w' => e = .returned (.bool (okL ep n)) ∧ Ext w w' := by
  by_cases h1 : 0 ≤ ep
  · by_cases h2 : ep ≤ 2147483647
    · have H : Hid (okL ep n = decide ((n : Int) ≤ 32)) := Lib.hid (by simp [okL, h1, h2])
      go_enter Try.func29, Try.ntmps29
      go_wp2_with fail
      go_ret
      exact ⟨by rw [H.out]; rfl, Ext.new _ _⟩
    · have H : Hid (okL ep n = false) := Lib.hid (by simp [okL, h1, h2])
      go_enter Try.func29, Try.ntmps29
      go_wp2_with fail
      go_ret
      exact ⟨by rw [H.out]; rfl, Ext.new _ _⟩
  · have H : Hid (okL ep n = false) := Lib.hid (by simp [okL, h1])
    go_enter Try.func29, Try.ntmps29
    go_wp2_with fail
    go_ret
    exact ⟨by rw [H.out]; rfl, Ext.new _ _⟩

structure Lk where
  ep : Int
  q : List (List UInt8)
def Lk.ok (l : Lk) : Bool := okL l.ep l.q.length
def Lk.sane (l : Lk) : Lk := if l.ok = true then l else ⟨0, []⟩
theorem Lk.sane_len (l : Lk) : l.sane.q.length ≤ 32 := by
  unfold Lk.sane
  split
  · rename_i h
    simp [Lk.ok, okL] at h
    omega
  · simp
theorem Lk.sane_of {l : Lk} (h : l.ok = true) : l.sane = l := by unfold Lk.sane; rw [if_pos h]
def Lk.send (l : Lk) (b : List UInt8) : Lk × Int := if 32 ≤ l.sane.q.length then (l.sane, 8) else (⟨l.sane.ep, l.sane.q ++ [b]⟩, 0)
def placeN (n : Nat) (i : Int) : Nat := (max 0 i % n).toNat
def Lk.take (l : Lk) (i : Int) : Lk × List UInt8 × Int :=
  if l.sane.q.length = 0 then (l.sane, [], 10) else (⟨l.sane.ep, l.sane.q.take (placeN l.sane.q.length i) ++ l.sane.q.drop (placeN l.sane.q.length i + 1)⟩, (l.sane.q[placeN l.sane.q.length i]?).getD [], 0)
def Lk.again (l : Lk) (i : Int) : Lk × Int := if l.sane.q.length = 0 then (l.sane, 10) else l.sane.send ((l.sane.q[placeN l.sane.q.length i]?).getD [])
def Lk.late (l : Lk) (i : Int) : Lk × Int := if (l.take i).2.2 = 0 then (l.take i).1.send (l.take i).2.1 else ((l.take i).1, (l.take i).2.2)
def Lk.reset (l : Lk) : Lk × Int := if l.sane.ep = 2147483647 then (l.sane, 14) else (⟨l.sane.ep + 1, []⟩, 0)

/-- a link in memory: its value's address, length, capacity -/
def LkR (w : World) (X : Nat → Prop) (ep : Int) (A : Option Addr) (n c : Nat) (l : Lk) : Prop := l.ep = ep ∧ LinkR w X A n c l.q
section
variable {w w' : World} {X X' : Nat → Prop} {ep : Int} {A : Option Addr} {n c : Nat} {l : Lk}
theorem LkR.up (h : LkR w X ep A n c l) (hb : Ext w w') : LkR w' X ep A n c l := ⟨h.1, h.2.1.up hb, h.2.2⟩
theorem LkR.set (h : LkR w X ep A n c l) {g i : Nat} (hg : X g) (u : Value) : LkR (w.setCell ⟨g, i, none⟩ u) X ep A n c l := ⟨h.1, h.2.1.set hg u, h.2.2⟩
theorem LkR.fresh (h : LkR w X ep A n c l) (hX : ∀ b, X' b → X b ∨ w.heap.size ≤ b) : LkR w X' ep A n c l := ⟨h.1, h.2.1.fresh hX, h.2.2⟩
theorem LkR.len (h : LkR w X ep A n c l) : l.q.length = n := h.2.1.len
end
/-- a new queue: the old one and one more -/
theorem link_snoc {W w2 w3 : World} {X : Nat → Prop} {vs : List Value} {q : List (List UInt8)} {v : Value} {bs : List UInt8} {base : Nat} {e : TypeId} {A3 : Option Addr} {m c3 : Nat} (hQ : QV W X vs q) (hE : Ext W w3) (hbv : BV w2 X v bs) (hE2 : Ext w2 w3)
    (hown : w3.ownsRow base e 1 (.slice A3 m c3) m (vs ++ [v])) (hX : ∀ b, X b → b < base) : LinkR w3 X A3 m c3 (q ++ [bs]) := by
  have hlt := hown.lt
  obtain ⟨A, c, he, hn, _, hA, hf⟩ := own_flat hown
  injection he with e1 _ e3
  subst e1 e3
  refine ⟨⟨_, hf, fun _ b o e hx => ?_, (hQ.up hE).append (QV.one (hbv.up hE2))⟩, hA, hn⟩
  subst e
  have := (hlt b rfl).1
  have := hX b hx
  omega

/-- what a call that hands a link back leaves -/
def GivesLk (w : World) (X : Nat → Prop) (f : Int → Option Addr → Nat → Nat → Value) (l : Lk) (e : Ending) (w' : World) : Prop := ∃ ep A n c, e = .returned (f ep A n c) ∧ LkR w' X ep A n c l ∧ Ext w w'
/-- X and two boxes more -/
def With2 (X : Nat → Prop) (g : Nat) (b : Nat) : Prop := X b ∨ b = g ∨ b = g + 1

set_option maxHeartbeats 400000 in
theorem linksane_any (X : Nat → Prop) (ep : Int) (A : Option Addr) (n c : Nat) (l : Lk) (w : World) (h : LkR w X ep A n c l) (hX : ∀ b, X b → b < w.heap.size) :
    Calls Try.prog 66 #[.agg #[.int .i64 ep, .slice A n c]] w (GivesLk w X (fun ep A n c => .agg #[.int .i64 ep, .slice A n c]) l.sane) := by
  have hlen : l.ok = okL ep n := by unfold Lk.ok; rw [h.1, h.len]
  by_cases hk : okL ep n = true
  · have HS : Hid (l.sane = l) := Lib.hid (Lk.sane_of (hlen.trans hk))
    have H := Lib.hid h
    have HX := Lib.hid hX
    clear hlen h hX
    go_enter Try.func66, Try.ntmps66
    go_wp2_with (go_at_call 29; refine (linkSane_any _ _ _ _ _).mono ?_; rintro e w1 ⟨rfl, hb1⟩; obtain ⟨hc1, hf1⟩ := bcell hb1)
    have hx : Ext w ((w1.setCell ⟨w.heap.size + 1, 0, none⟩ (.int .i64 ep)).setCell ⟨w.heap.size + 1, 1, none⟩ (.slice A n c)) :=
      ((((Ext.new _ _).alloc _).trans hb1).set (Nat.le_add_right _ _) _).set (Nat.le_add_right _ _) _
    exact bodyPost_ret (v := .agg #[.int .i64 ep, .slice A n c]) (by simp [results, Try.results66, go_sem, hc1]) rfl ⟨ep, A, n, c, rfl, by rw [HS.out]; exact H.out.up hx, hx⟩
  · have HS : Hid (l.sane = ⟨0, []⟩) := Lib.hid (by unfold Lk.sane; rw [if_neg (by rw [hlen]; exact hk)])
    have hk' : okL ep n = false := by simpa using hk
    clear hlen h hk hX
    go_enter Try.func66, Try.ntmps66
    go_wp2_with (go_at_call 29; refine (linkSane_any _ _ _ _ _).mono ?_; rintro e w1 ⟨rfl, hb1⟩; obtain ⟨hc1, hf1⟩ := bcell hb1)
    have hx : Ext w ((w1.setCell ⟨w.heap.size + 1, 0, none⟩ (.int .i64 0)).setCell ⟨w.heap.size + 1, 1, none⟩ (.slice none 0 0)) :=
      ((((Ext.new _ _).alloc _).trans hb1).set (Nat.le_add_right _ _) _).set (Nat.le_add_right _ _) _
    exact bodyPost_ret (v := .agg #[.int .i64 0, .slice none 0 0]) (by simp [results, Try.results66, go_sem, hc1]) rfl ⟨0, none, 0, 0, rfl, by rw [HS.out]; exact ⟨rfl, LinkR.nil_⟩, hx⟩

theorem with2_lt {X : Nat → Prop} {w w1 : World} (hX : ∀ b, X b → b < w.heap.size) (h : w.heap.size + 1 < w1.heap.size) : ∀ b, With2 X w.heap.size b → b < w1.heap.size := by
  intro b hb
  rcases hb with hb | hb | hb
  · have := hX b hb; omega
  · omega
  · omega
theorem with2_of {X : Nat → Prop} {w : World} : ∀ b, With2 X w.heap.size b → X b ∨ w.heap.size ≤ b := by
  intro b hb
  rcases hb with hb | hb | hb
  · exact .inl hb
  · exact .inr (by omega)
  · exact .inr (by omega)

set_option maxHeartbeats 1600000 in
theorem linkSend_any (X : Nat → Prop) (ep : Int) (A : Option Addr) (n c : Nat) (l : Lk) (Ab : Option Addr) (nb cb : Nat) (bs : List UInt8) (w : World) (h : LkR w X ep A n c l) (hX : ∀ b, X b → b < w.heap.size) (hb : Byts w Ab nb bs) (hcb : Ab = none → cb = 0) (hnb : nb ≤ 1000000) :
    Calls Try.prog 31 #[.agg #[.int .i64 ep, .slice A n c], .slice Ab nb cb] w (GivesLk w X (fun ep A n c => .tuple #[.agg #[.int .i64 ep, .slice A n c], .int .i64 (l.send bs).2]) (l.send bs).1) := by
  have HS := Lib.hid l.sane_len
  have H := Lib.hid h
  have HX := Lib.hid hX
  have HB := Lib.hid hb
  clear h hX hb
  go_enter Try.func31, Try.ntmps31
  go_wp2_with fail
  refine (linksane_any (With2 X w.heap.size) _ _ _ _ _ _ ((H.out.fresh with2_of).up ((Ext.new _ _).alloc _)) (with2_lt HX.out (by simp))).mono ?_
  rintro e w1 ⟨ep1, A1, n1, c1, rfl, hl1, hb1⟩
  obtain ⟨hx0, hy0, hx1, hy1, hz1⟩ := box2 hb1
  have hn1 : n1 ≤ 32 := by rw [← hl1.len]; exact HS.out
  have hn1c : n1 ≤ c1 := hl1.2.2.2
  have hwb := box2b hb1
  have HE := Lib.hid (((Ext.new w _).alloc _).trans hb1)
  have HB1 := Lib.hid (ArrR.up HB.out HE.out)
  have HK := Lib.hid hwb
  have HL := Lib.hid hl1
  clear hl1 hwb hb1
  by_cases hfull : 32 ≤ n1
  · have HQ : Hid (l.send bs = (l.sane, 8)) := Lib.hid (by unfold Lk.send; rw [if_pos (by rw [HL.out.len]; exact hfull)])
    go_wp2_with fail
    refine bodyPost_ret (v := .tuple #[.agg #[.int .i64 ep1, .slice A1 n1 c1], .int .i64 8]) (by simp [results, Try.results31, go_sem, hx1]) rfl ⟨ep1, A1, n1, c1, by rw [HQ.out], ?_, ?_⟩
    · rw [HQ.out]
      exact (((((HL.out.set (.inr (.inl rfl)) _).set (.inr (.inl rfl)) _).set (.inr (.inr rfl)) _).set (.inr (.inr rfl)) _)).fresh fun b hb => .inl (.inl hb)
    · exact (((HE.out.set (Nat.le_refl _) _).set (Nat.le_refl _) _).set (Nat.le_add_right _ _) _).set (Nat.le_add_right _ _) _
  · have HQ : Hid (l.send bs = (⟨l.sane.ep, l.sane.q ++ [bs]⟩, 0)) := Lib.hid (by unfold Lk.send; rw [if_neg (by rw [HL.out.len]; exact hfull)])
    go_wp2_with fail
    generalize hW : (w1.setCell _ (Value.int IntKind.i64 ep1)).setCell _ (Value.slice A1 n1 c1) = W
    have k0 : W.heap[w.heap.size]? = some (.cells #[.int .i64 ep1, .slice A1 n1 c1] 40 (0, 0)) := by rw [← hW]; exact blk_set (blk_set HK.out.1 _) _
    have k1 : W.heap[w.heap.size + 1]? = some (.cells #[.int .i64 0, .slice none 0 0] 40 (0, 0)) := by rw [← hW, blk_far (by omega), blk_far (by omega)]; exact HK.out.2.1
    have hzW : w.heap.size + 1 < W.heap.size := by rw [← hW]; simpa [World.setCell] using HK.out.2.2
    have HLW : Hid (LkR W (With2 X w.heap.size) ep1 A1 n1 c1 l.sane) := by rw [← hW]; exact (HL.out.set (.inr (.inl rfl)) _).set (.inr (.inl rfl)) _
    have HEW : Hid (Ext w W) := by rw [← hW]; exact (HE.out.set (Nat.le_refl _) _).set (Nat.le_refl _) _
    have HBW : Hid (Byts W Ab nb bs) := Lib.hid (ArrR.up HB.out HEW.out)
    clear hW hx0 hy0 hx1 hy1 hz1 HL HK HB1 HE
    obtain ⟨hw0, hwf⟩ := blk_rules k0
    have hzW' : w.heap.size < W.heap.size := by omega
    have hw1 : W.cell? ⟨w.heap.size, 1, none⟩ = some (.slice A1 n1 c1) := hw0 1
    obtain ⟨vs, hF, hO, hQ⟩ := HLW.out.2.1
    have hnone' : A1 = none → n1 = 0 := fun h => by have := HLW.out.2.2.1 h; omega
    have K0 := Lib.hid k0
    have K1 := Lib.hid k1
    clear hw0 k0 k1
    have i1 : (0 : Int) ≤ (n1 : Int) := by omega
    have i2 : (n1 : Int) ≤ (c1 : Int) := by omega
    go_region_law (first
        | ((show if Region.wanted ⟨some 23, _, _, _, _, _⟩ _ = true then _ else _); obtain ⟨v3, w3, hrun, hown3, hg3⟩ := run_append_full elem_bytes 35 (hF.up (((Ext.refl W).drew.trans hE2).alloc (.cells #[.slice A2 nb c2] 42))) (fun h => by simpa using hnone' h) 1 (one_flat w2 (.slice A2 nb c2) 42) (by simp [Value.oneCell']) (by omega) (by omega) (by omega) (by omega); obtain ⟨A3, c3, rfl, hv3⟩ := own_flat hown3; have hE23 := Ext.grown_none (Ext.new w2 _) hg3; have hE3 := ((Ext.refl W).drew.trans hE2).trans hE23; have hk3 := (hE3.cell hzW').trans hw1; have hj3 := (hE3.frozen (o := 1) hzW').trans (hwf 1); refine step_append_run rfl _ _ _ _ rfl (by rfl) (by rfl) hrun ?_)
        | (go_simp; go_at_call 67; refine (clone_bv _ _ _ bs _ (ArrR.up HBW.out (Ext.refl W).drew) hcb (by omega)).mono ?_; rintro e w2 ⟨A2, c2, rfl, hbv, hE2⟩; have hk2 := (hE2.cell (o := 1) hzW').trans hw1; have hk2a := ((((Ext.refl W).drew.trans hE2).alloc (.cells #[.slice A2 nb c2] 42)).cell (o := 1) hzW').trans hw1)
        | fail)
    all_goals
      have b0 := blk_set ((hE3.block hzW').trans K0.out) (i := 1) (.slice A3 (n1 + 1) c3)
      have b1 := (blk_far (i := 1) (show w.heap.size + 1 ≠ w.heap.size by omega) (.slice A3 (n1 + 1) c3)).trans ((hE3.block hzW).trans K1.out)
      generalize hW4 : w3.setCell _ (Value.slice A3 (n1 + 1) c3) = W4
      rw [hW4] at b0 b1
      obtain ⟨p0, -⟩ := blk_rules b0
      obtain ⟨p1, p2⟩ := blk_rules b1
      have hW4' := Lib.hid hW4
      clear hW4
      go_wp2_with fail
      refine bodyPost_ret (v := .tuple #[.agg #[.int .i64 ep1, .slice A3 (n1 + 1) c3], .int .i64 0]) (by simp [results, Try.results31, go_sem, p1]) rfl ⟨ep1, A3, n1 + 1, c3, by rw [HQ.out], ?_, ?_⟩
      · rw [HQ.out]
        have hL : LkR w3 (With2 X w.heap.size) ep1 A3 (n1 + 1) c3 ⟨l.sane.ep, l.sane.q ++ [bs]⟩ := ⟨HLW.out.1, link_snoc hQ hE3 (hbv _ (with2_lt HX.out hzW)) hE23 hown3 (by have := hE2.size; have hh := with2_lt HX.out hzW; intro b hb; have := hh b hb; simp; simp at *; omega)⟩
        rw [← hW4'.out]
        exact (((hL.set (.inr (.inl rfl)) _).set (.inr (.inr rfl)) _).set (.inr (.inr rfl)) _).fresh fun b hb => .inl (.inl hb)
      · rw [← hW4'.out]
        exact (((HEW.out.trans hE3).set (Nat.le_refl _) _).set (Nat.le_add_right _ _) _).set (Nat.le_add_right _ _) _
end Go.Proofs.Ytjomoannlpadnaa
