/- Plain: configurations: lists of resources in the order of their keys. -/
import Derived.Test.YtfdjbnofcniodaaGreatDoorQPlain
namespace Go.Proofs.YtfdjbnofcniodaaGreatDoor
open Lib (hid)
set_option linter.unusedVariables false
theorem cmpI_iff (a b : Int) : (cmpI a b = -1 ↔ a < b) ∧ (cmpI a b = 0 ↔ a = b) ∧ (cmpI a b = 1 ↔ b < a) := by
 unfold cmpI
 split
 ·refine ⟨⟨fun _ => by omega, fun _ => rfl⟩, ⟨fun h => by omega, fun h => by omega⟩, ⟨fun h => by omega, fun h => by omega⟩⟩
 ·split
  ·refine ⟨⟨fun h => by omega, fun h => by omega⟩, ⟨fun h => by omega, fun h => by omega⟩, ⟨fun h => by omega, fun _ => rfl⟩⟩
  ·refine ⟨⟨fun h => by omega, fun h => by omega⟩, ⟨fun h => by omega, fun _ => rfl⟩, ⟨fun h => by omega, fun h => by omega⟩⟩
theorem ky_eq {a b : Ky} (h1 : a.kind = b.kind) (h2 : tx a.name = tx b.name) : a = b := by cases a; cases b; simp only at h1 h2; subst h1; rw [tx_inj h2]
theorem cmpK_zero (a b : Ky) : cmpK a b = 0 ↔ a = b := by
 unfold cmpK
 constructor
 ·intro h
  split at h
  ·rename_i h0; exact absurd h h0
  ·rename_i h0
   exact ky_eq ((cmpI_iff _ _).2.1.1 (Classical.not_not.1 h0)) (cb_zero.1 h)
 ·rintro rfl
  rw [if_neg (by rw [(cmpI_iff _ _).2.1.2 rfl]; simp)]
  exact cb_zero.2 rfl
def ltK (a b : Ky) : Prop := cmpK a b = -1
theorem ltK_irrefl (a : Ky) : ¬ ltK a a := by unfold ltK; rw [(cmpK_zero a a).2 rfl]; decide
theorem ltK_trans {a b c : Ky} (h1 : ltK a b) (h2 : ltK b c) : ltK a c := by
 unfold ltK at *
 unfold cmpK at *
 have hI : ∀ x y : Int, cmpI x y ≠ 0 → cmpI x y = -1 → x < y := fun x y _ h => (cmpI_iff x y).1.1 h
 have cb3 : ∀ x y z : List UInt8, Lib.compareBytes x y = -1 → Lib.compareBytes y z = -1 → Lib.compareBytes x z = -1 := fun x y z p q => by
  have h := cb_trans (a := x) (b := y) (c := z) (by omega) (by omega)
  rcases cb_range x z with h' | h' | h'
  ·exact h'
  ·have e := cb_zero.1 h'
   subst e
   have := cb_anti x y
   omega
  ·omega
 by_cases p : cmpI a.kind b.kind = 0
 ·rw [if_neg (by simpa using p)] at h1
  have ep := (cmpI_iff _ _).2.1.1 p
  by_cases q : cmpI b.kind c.kind = 0
  ·rw [if_neg (by simpa using q)] at h2
   have eq := (cmpI_iff _ _).2.1.1 q
   rw [if_neg (by rw [ep, q]; simp)]
   exact cb3 _ _ _ h1 h2
  ·rw [if_pos q] at h2
   rw [ep, if_pos q]; exact h2
 ·rw [if_pos p] at h1
  have l1 := (cmpI_iff _ _).1.1 h1
  by_cases q : cmpI b.kind c.kind = 0
  ·have eq := (cmpI_iff _ _).2.1.1 q
   rw [← eq, if_pos p]; exact h1
  ·rw [if_pos q] at h2
   have l2 := (cmpI_iff _ _).1.1 h2
   have : cmpI a.kind c.kind = -1 := (cmpI_iff _ _).1.2 (by omega)
   rw [this]; rfl
theorem ltK_asymm {a b : Ky} (h : ltK a b) : ¬ ltK b a := fun h' => ltK_irrefl _ (ltK_trans h h')
def Srt (l : List Rs) : Prop := l.Pairwise (fun x y => ltK x.key y.key)
def portsOk (l : List Rs) : Bool := goFrom (fun pre x => !pre.contains x) [] ((l.filter (fun r => decide (r.kind = 0))).map Rs.port)
def ordB : List Rs → Bool
 | [] => true
 | x :: r => (match r with | [] => true | y :: _ => decide (cmpK x.key y.key < 0)) && ordB r
def firstE {α : Type} (f : α → Int) : List α → Int
 | [] => 0
 | x :: r => if f x ≠ 0 then f x else firstE f r
def saneT (l : List Rs) : Int := if 64 < l.length then 3 else if firstE saneR l ≠ 0 then firstE saneR l else if ordB l = false then 2 else if portsOk l = false then 13 else 0
def getT (l : List Rs) (k : Ky) : Option Rs := l.find? (fun r => decide (r.key = k))
def belowT (l : List Rs) (k : Ky) : List Rs := l.filter (fun x => decide (cmpK x.key k = -1))
def aboveT (l : List Rs) (k : Ky) : List Rs := l.filter (fun x => decide (cmpK x.key k = 1))
def withT (l : List Rs) (r : Rs) : List Rs := belowT l r.key ++ [r] ++ aboveT l r.key
def withoutT (l : List Rs) (k : Ky) : List Rs := l.filter (fun x => !decide (x.key = k))
def kindT (l : List Rs) (k : Int) : List Rs := l.filter (fun r => decide (r.kind = k))
def addsT (a b : List Rs) : List Rs := b.filter (fun r => match getT a r.key with | none => true | some x => !sameR x r)
def goneT (a b : List Rs) : List Ky := (a.map Rs.key).filter (fun k => !(getT b k).isSome)
def patchT (l adds : List Rs) (gone : List Ky) : List Rs := adds.foldl withT (gone.foldl withoutT l)
theorem firstE_zero {α : Type} (f : α → Int) (l : List α) : firstE f l = 0 ↔ ∀ x ∈ l, f x = 0 := by
 induction l with
 | nil => simp [firstE]
 | cons x r ih =>
  unfold firstE
  by_cases h : f x = 0
  ·rw [if_neg (by simpa using h), ih]; simp [h]
  ·rw [if_pos h]; simp [h]
structure SaneT (l : List Rs) : Prop where
 len : l.length ≤ 64
 each : ∀ x ∈ l, saneR x = 0
 ord : Srt l
 ports : ((l.filter (fun r => decide (r.kind = 0))).map Rs.port).Nodup
theorem Srt.filter {l : List Rs} (h : Srt l) (p : Rs → Bool) : Srt (l.filter p) := List.Pairwise.filter p h
theorem Srt.ext {l m : List Rs} (hl : Srt l) (hm : Srt m) (h : ∀ x, x ∈ l ↔ x ∈ m) : l = m := by
 induction l generalizing m with
 | nil =>
  cases m with
  | nil => rfl
  | cons y m => exact absurd ((h y).2 (by simp)) (by simp)
 | cons x l ih =>
  cases m with
  | nil => exact absurd ((h x).1 (by simp)) (by simp)
  | cons y m =>
   obtain ⟨l1, l2⟩ := List.pairwise_cons.1 hl
   obtain ⟨m1, m2⟩ := List.pairwise_cons.1 hm
   have hxy : x = y := by
    rcases List.mem_cons.1 ((h x).1 (by simp)) with e | hx
    ·exact e
    rcases List.mem_cons.1 ((h y).2 (by simp)) with e | hy
    ·exact e.symm
    exact absurd (m1 x hx) (ltK_asymm (l1 y hy))
   subst hxy
   congr 1
   refine ih l2 m2 fun z => ?_
   constructor
   ·intro hz
    rcases List.mem_cons.1 ((h z).1 (List.mem_cons_of_mem _ hz)) with e | hz'
    ·subst e; exact absurd (l1 z hz) (ltK_irrefl _)
    ·exact hz'
   ·intro hz
    rcases List.mem_cons.1 ((h z).2 (List.mem_cons_of_mem _ hz)) with e | hz'
    ·subst e; exact absurd (m1 z hz) (ltK_irrefl _)
    ·exact hz'
end Go.Proofs.YtfdjbnofcniodaaGreatDoor
