/- Plain: frames, and their bytes. -/
import Derived.Test.YtfdjbnofcniodaaGreatDoorQPlain
import Derived.Test.YtfdjbnofcniodaaGreatDoorQTablePlain
namespace Go.Proofs.YtfdjbnofcniodaaGreatDoor
open Lib (hid)
set_option linter.unusedVariables false
structure Fr where
 typ : Int
 epoch : Int
 kind : Int
 nonce : Int
 turn : Int
 adds : List Rs
 gone : List Ky
 err : Int
 hav : List (Ky × Int)
 held : List Ky
deriving DecidableEq
def fr0 : Fr := ⟨0, 0, 0, 0, 0, [], [], 0, [], []⟩
def mOk (m : Ky × Int) : Bool := inB m.2 2147483647
def smallF (f : Fr) : Bool := (decide (f.adds.length ≤ 64) && decide (f.gone.length ≤ 64) && decide (f.hav.length ≤ 64) && decide (f.held.length ≤ 64)) && f.hav.all mOk && inB f.epoch 2147483647 && inB f.nonce 2147483647 && inB f.turn 2147483647 && inB f.err 15
def bareF (f : Fr) : Fr :=
 if f.typ = 0 then ⟨f.typ, 0, f.kind, f.nonce, f.turn, f.adds, f.gone, f.err, [], f.held⟩
 else if f.typ = 1 then ⟨f.typ, 0, 0, 0, f.turn, [], [], f.err, f.hav, f.held⟩
 else if f.typ = 2 then ⟨f.typ, 0, 0, 0, 0, f.adds, f.gone, 0, f.hav, []⟩
 else if f.typ = 3 then ⟨f.typ, 0, f.kind, f.nonce, 0, f.adds, f.gone, f.err, f.hav, []⟩
 else ⟨f.typ, 0, f.kind, f.nonce, f.turn, f.adds, f.gone, f.err, f.hav, f.held⟩
def shapedF (f : Fr) : Bool := decide (bareF f = ⟨f.typ, 0, 0, 0, 0, [], [], 0, [], []⟩)
def namedF (f : Fr) : Bool := f.gone.all goodK && f.held.all goodK && f.hav.all (fun m => goodK m.1)
def kindF (f : Fr) : Bool := f.adds.all (fun r => decide (r.kind = f.kind)) && f.gone.all (fun k => decide (k.kind = f.kind))
def saneF (f : Fr) : Int :=
 if (inB f.typ 3 && inB f.kind 3) = false then 4 else if smallF f = false then 3 else if shapedF f = false then 2 else if namedF f = false then 5
 else if firstE saneR f.adds ≠ 0 then firstE saneR f.adds else if kindF f = false then 2 else 0
structure SaneF (f : Fr) : Prop where
 typ : 0 ≤ f.typ ∧ f.typ ≤ 3
 kind : 0 ≤ f.kind ∧ f.kind ≤ 3
 small : smallF f = true
 shaped : shapedF f = true
 named : namedF f = true
 adds : ∀ x ∈ f.adds, saneR x = 0
 kinds : kindF f = true
theorem saneF_iff (f : Fr) : saneF f = 0 ↔ SaneF f := by
 unfold saneF
 constructor
 ·intro h
  split at h
  ·cases h
  split at h
  ·cases h
  split at h
  ·cases h
  split at h
  ·cases h
  split at h
  ·rename_i h1; exact absurd h h1
  split at h
  ·cases h
  rename_i h1 h2 h3 h4 h5 h6
  have h1' : inB f.typ 3 = true ∧ inB f.kind 3 = true := by simpa using h1
  unfold inB at h1'
  simp only [Bool.and_eq_true, decide_eq_true_eq] at h1'
  exact ⟨h1'.1, h1'.2, by simpa using h2, by simpa using h3, by simpa using h4, (firstE_zero _ _).1 (Classical.not_not.1 h5), by simpa using h6⟩
 ·rintro ⟨h1, h2, h3, h4, h5, h6, h7⟩
  have e1 : (inB f.typ 3 && inB f.kind 3) = true := by unfold inB; simp [h1, h2]
  rw [e1, h3, h4, h5, h7, if_neg (by decide), if_neg (by decide), if_neg (by decide), if_neg (by decide), if_neg (by rw [(firstE_zero _ _).2 h6]; simp), if_neg (by decide)]
def putM (m : Ky × Int) : List UInt8 := putK m.1 ++ enc (bnd m.2)
def putFB (f : Fr) : List UInt8 :=
 if f.typ = 0 then enc f.hav.length ++ f.hav.flatMap putM
 else if f.typ = 1 then enc (bnd f.kind) ++ (enc (bnd f.nonce) ++ (putAll f.adds ++ putKeys f.gone))
 else if f.typ = 2 then enc (bnd f.kind) ++ (enc (bnd f.nonce) ++ (enc (bnd f.err) ++ (enc (bnd f.turn) ++ putKeys f.held)))
 else enc (bnd f.turn) ++ putKeys f.held
def putF0 (f : Fr) : List UInt8 := enc (bnd f.typ) ++ (enc (bnd f.epoch) ++ putFB f)
def putF (f : Fr) : List UInt8 := if saneF f = 0 then putF0 f else []
def takeM : Rd → Rd × (Ky × Int) := bindP takeK fun k => bindP (fun r => r.num 2147483647) fun v => pureP (k, (v : Int))
def takeKN (g : Nat → Nat → Rd → Rd × Fr) : Rd → Rd × Fr := bindP (fun r => r.num 3) fun k => bindP (fun r => r.num 2147483647) fun n => g k n
def takeFB (t e : Nat) : Rd → Rd × Fr :=
 if t = 0 then bindP (someB takeM 64) fun l => pureP ⟨t, e, 0, 0, 0, [], [], 0, l, []⟩
 else if t = 1 then takeKN fun k n => bindP (someB takeR 64) fun a => bindP (someB takeK 64) fun g => pureP ⟨t, e, k, n, 0, a, g, 0, [], []⟩
 else if t = 2 then takeKN fun k n => bindP (fun r => r.num 15) fun er => bindP (fun r => r.num 2147483647) fun u => bindP (someB takeK 64) fun h => pureP ⟨t, e, k, n, u, [], [], er, [], h⟩
 else bindP (fun r => r.num 2147483647) fun u => bindP (someB takeK 64) fun h => pureP ⟨t, e, 0, 0, u, [], [], 0, [], h⟩
def takeF0 : Rd → Rd × Fr := bindP (fun r => r.num 3) fun t => bindP (fun r => r.num 2147483647) fun e => takeFB t e
def getF (b : List UInt8) : Fr × Int :=
 if (takeF0 ⟨b, 0⟩).1.done ≠ 0 then (fr0, (takeF0 ⟨b, 0⟩).1.done)
 else if saneF (takeF0 ⟨b, 0⟩).2 ≠ 0 then (fr0, saneF (takeF0 ⟨b, 0⟩).2) else ((takeF0 ⟨b, 0⟩).2, 0)
theorem bnd15 : bnd 15 = 15 := rfl
theorem codec_m : Codec takeM putM (fun m => goodK m.1 = true ∧ 0 ≤ m.2 ∧ m.2 ≤ 2147483647) := by
 have h2 : ∀ k : Ky, Codec (bindP (fun r => r.num 2147483647) fun v => pureP (k, (v : Int))) (fun y => enc y.2.toNat ++ []) (fun y : Ky × Int => y.2.toNat ≤ bnd 2147483647 ∧ y = (k, (y.2.toNat : Int))) := fun k =>
  Codec.bind (fst := fun y : Ky × Int => y.2.toNat) (Codec.num _) (fun n => Codec.pure (k, (n : Int))) (fun n y e => by rw [e]; simp)
 refine (Codec.bind (fst := Prod.fst) codec_k h2 (fun k y e => by rw [e.2])).as (fun _ => rfl) (fun y hy => ?_) (fun y => ?_)
 ·obtain ⟨a, b, c⟩ := hy
  rw [bndMax] at b
  have h0 : 0 ≤ y.2 := by rw [c]; simp only []; omega
  unfold putM
  rw [List.append_nil, bnd_int h0 (by omega)]
 ·rw [bndMax]
  constructor
  ·rintro ⟨a, b, c⟩; exact ⟨a, by omega, Prod.ext rfl (by simp only []; omega)⟩
  ·rintro ⟨a, b, c⟩
   refine ⟨a, ?_, ?_⟩
   ·rw [c]; simp only []; omega
   ·omega
def keysOk (l : List Ky) : Prop := l.length ≤ 64 ∧ ∀ x ∈ l, goodK x = true
def fbOk (f : Fr) : Prop :=
 (f.typ = 0 ∧ (f.hav.length ≤ 64 ∧ ∀ m ∈ f.hav, goodK m.1 = true ∧ 0 ≤ m.2 ∧ m.2 ≤ 2147483647) ∧ f.kind = 0 ∧ f.nonce = 0 ∧ f.turn = 0 ∧ f.adds = [] ∧ f.gone = [] ∧ f.err = 0 ∧ f.held = []) ∨
 (f.typ = 1 ∧ (0 ≤ f.kind ∧ f.kind ≤ 3) ∧ (0 ≤ f.nonce ∧ f.nonce ≤ 2147483647) ∧ (f.adds.length ≤ 64 ∧ ∀ x ∈ f.adds, saneR x = 0) ∧ keysOk f.gone ∧ f.turn = 0 ∧ f.err = 0 ∧ f.hav = [] ∧ f.held = []) ∨
 (f.typ = 2 ∧ (0 ≤ f.kind ∧ f.kind ≤ 3) ∧ (0 ≤ f.nonce ∧ f.nonce ≤ 2147483647) ∧ (0 ≤ f.err ∧ f.err ≤ 15) ∧ (0 ≤ f.turn ∧ f.turn ≤ 2147483647) ∧ keysOk f.held ∧ f.adds = [] ∧ f.gone = [] ∧ f.hav = []) ∨
 (f.typ = 3 ∧ (0 ≤ f.turn ∧ f.turn ≤ 2147483647) ∧ keysOk f.held ∧ f.kind = 0 ∧ f.nonce = 0 ∧ f.adds = [] ∧ f.gone = [] ∧ f.err = 0 ∧ f.hav = [])
theorem keys_put {l : List Ky} (h : keysOk l) : putKeys l = enc l.length ++ l.flatMap putK := putKeys_of h.1 h.2
theorem codec_fb (t e : Nat) (ht : t ≤ 3) : Codec (takeFB t e) putFB (fun y => fbOk y ∧ y.typ = t ∧ y.epoch = e) := by
 have ht4 : t = 0 ∨ t = 1 ∨ t = 2 ∨ t = 3 := by omega
 unfold takeFB
 rcases ht4 with rfl | rfl | rfl | rfl
 ·rw [if_pos rfl]
  refine (Codec.bind (fst := Fr.hav) (codec_m.some_ 64) (fun l => Codec.pure (⟨(0 : Nat), e, 0, 0, 0, [], [], 0, l, []⟩ : Fr)) (fun l y e => by rw [e])).as (fun _ => rfl) (fun y hy => ?_) (fun y => ?_)
  ·have hk : y.typ = 0 := by rw [hy.2]; rfl
   unfold putFB; rw [if_pos hk, List.append_nil]
  ·rw [bnd64]
   constructor
   ·rintro ⟨h1, h2, h3⟩
    rcases h1 with ⟨a, b, c1, c2, c3, c4, c5, c6, c7⟩ | ⟨a, _⟩ | ⟨a, _⟩ | ⟨a, _⟩
    ·refine ⟨b, ?_⟩
     cases y; simp only at *
     subst c1 c2 c3 c4 c5 c6 c7 h2 h3
     rfl
    all_goals (rw [a] at h2; omega)
   ·rintro ⟨a, c⟩
    exact ⟨.inl ⟨by rw [c]; rfl, a, by rw [c], by rw [c], by rw [c], by rw [c], by rw [c], by rw [c], by rw [c]⟩, by rw [c], by rw [c]⟩
 ·rw [if_neg (by decide), if_pos rfl]
  unfold takeKN
  have h4 : ∀ (k n : Nat) (a : List Rs), Codec (bindP (someB takeK 64) fun g => pureP (⟨(1 : Nat), e, k, n, 0, a, g, 0, [], []⟩ : Fr)) (fun y => (enc y.gone.length ++ y.gone.flatMap putK) ++ []) (fun y => (y.gone.length ≤ 64 ∧ ∀ x ∈ y.gone, goodK x = true) ∧ y = ⟨(1 : Nat), e, k, n, 0, a, y.gone, 0, [], []⟩) := fun k n a =>
   Codec.bind (fst := Fr.gone) codec_keys (fun g => Codec.pure _) (fun g y e => by rw [e])
  have h3 : ∀ (k n : Nat), Codec (bindP (someB takeR 64) fun a => bindP (someB takeK 64) fun g => pureP (⟨(1 : Nat), e, k, n, 0, a, g, 0, [], []⟩ : Fr)) (fun y => (enc y.adds.length ++ y.adds.flatMap putR) ++ ((enc y.gone.length ++ y.gone.flatMap putK) ++ [])) (fun y => (y.adds.length ≤ 64 ∧ ∀ x ∈ y.adds, saneR x = 0) ∧ ((y.gone.length ≤ 64 ∧ ∀ x ∈ y.gone, goodK x = true) ∧ y = ⟨(1 : Nat), e, k, n, 0, y.adds, y.gone, 0, [], []⟩)) := fun k n =>
   Codec.bind (fst := Fr.adds) codec_all (fun a => h4 k n a) (fun a y e => by rw [e.2])
  have h2 : ∀ (k : Nat), Codec (bindP (fun r => r.num 2147483647) fun n => bindP (someB takeR 64) fun a => bindP (someB takeK 64) fun g => pureP (⟨(1 : Nat), e, k, n, 0, a, g, 0, [], []⟩ : Fr)) (fun y => enc y.nonce.toNat ++ ((enc y.adds.length ++ y.adds.flatMap putR) ++ ((enc y.gone.length ++ y.gone.flatMap putK) ++ [])))
    (fun y => y.nonce.toNat ≤ bnd 2147483647 ∧ ((y.adds.length ≤ 64 ∧ ∀ x ∈ y.adds, saneR x = 0) ∧ ((y.gone.length ≤ 64 ∧ ∀ x ∈ y.gone, goodK x = true) ∧ y = ⟨(1 : Nat), e, k, (y.nonce.toNat : Int), 0, y.adds, y.gone, 0, [], []⟩))) := fun k =>
   Codec.bind (fst := fun y : Fr => y.nonce.toNat) (Codec.num _) (fun n => h3 k n) (fun n y e => by rw [e.2.2]; simp)
  refine (Codec.bind (fst := fun y : Fr => y.kind.toNat) (Codec.num 3) h2 (fun k y e => by rw [e.2.2.2]; simp)).as (fun _ => rfl) (fun y hy => ?_) (fun y => ?_)
  ·obtain ⟨a, b, c, d, hy⟩ := hy
   rw [bnd3] at a
   rw [bndMax] at b
   have hk : y.typ = 1 := by rw [hy]; rfl
   have k0 : 0 ≤ y.kind := by rw [hy]; simp only []; omega
   have n0 : 0 ≤ y.nonce := by rw [hy]; simp only []; omega
   unfold putFB
   rw [if_neg (by omega), if_pos hk, List.append_nil, bnd_int k0 (by omega), bnd_int n0 (by omega), putAll_of c.1 c.2, keys_put d]
  ·rw [bnd3, bndMax]
   constructor
   ·rintro ⟨h1, h2, h3⟩
    rcases h1 with ⟨a, _⟩ | ⟨a, b, c, d, k, c1, c2, c3, c4⟩ | ⟨a, _⟩ | ⟨a, _⟩
    ·rw [a] at h2; omega
    ·refine ⟨by omega, by omega, d, k, ?_⟩
     cases y; simp only at *
     subst c1 c2 c3 c4 h2 h3
     simp only [Fr.mk.injEq, true_and, and_true]
     omega
    all_goals (rw [a] at h2; omega)
   ·rintro ⟨a, b, c, d, hy⟩
    have k0 : 0 ≤ y.kind := by rw [hy]; simp only []; omega
    have n0 : 0 ≤ y.nonce := by rw [hy]; simp only []; omega
    exact ⟨.inr (.inl ⟨by rw [hy]; rfl, ⟨k0, by omega⟩, ⟨n0, by omega⟩, c, d, by rw [hy], by rw [hy], by rw [hy], by rw [hy]⟩), by rw [hy], by rw [hy]⟩
 ·rw [if_neg (by decide), if_neg (by decide), if_pos rfl]
  unfold takeKN
  have h5 : ∀ (k n er u : Nat), Codec (bindP (someB takeK 64) fun h => pureP (⟨(2 : Nat), e, k, n, u, [], [], er, [], h⟩ : Fr)) (fun y => (enc y.held.length ++ y.held.flatMap putK) ++ []) (fun y => (y.held.length ≤ 64 ∧ ∀ x ∈ y.held, goodK x = true) ∧ y = ⟨(2 : Nat), e, k, n, u, [], [], er, [], y.held⟩) := fun k n er u =>
   Codec.bind (fst := Fr.held) codec_keys (fun g => Codec.pure _) (fun g y e => by rw [e])
  have h4 : ∀ (k n er : Nat), Codec (bindP (fun r => r.num 2147483647) fun u => bindP (someB takeK 64) fun h => pureP (⟨(2 : Nat), e, k, n, u, [], [], er, [], h⟩ : Fr)) (fun y => enc y.turn.toNat ++ ((enc y.held.length ++ y.held.flatMap putK) ++ [])) (fun y => y.turn.toNat ≤ bnd 2147483647 ∧ ((y.held.length ≤ 64 ∧ ∀ x ∈ y.held, goodK x = true) ∧ y = ⟨(2 : Nat), e, k, n, (y.turn.toNat : Int), [], [], er, [], y.held⟩)) := fun k n er =>
   Codec.bind (fst := fun y : Fr => y.turn.toNat) (Codec.num _) (fun u => h5 k n er u) (fun g y e => by rw [e.2]; simp)
  have h3 : ∀ (k n : Nat), Codec (bindP (fun r => r.num 15) fun er => bindP (fun r => r.num 2147483647) fun u => bindP (someB takeK 64) fun h => pureP (⟨(2 : Nat), e, k, n, u, [], [], er, [], h⟩ : Fr)) (fun y => enc y.err.toNat ++ (enc y.turn.toNat ++ ((enc y.held.length ++ y.held.flatMap putK) ++ [])))
    (fun y => y.err.toNat ≤ bnd 15 ∧ (y.turn.toNat ≤ bnd 2147483647 ∧ ((y.held.length ≤ 64 ∧ ∀ x ∈ y.held, goodK x = true) ∧ y = ⟨(2 : Nat), e, k, n, (y.turn.toNat : Int), [], [], (y.err.toNat : Int), [], y.held⟩))) := fun k n =>
   Codec.bind (fst := fun y : Fr => y.err.toNat) (Codec.num 15) (fun er => h4 k n er) (fun g y e => by rw [e.2.2]; simp)
  have h2 : ∀ (k : Nat), Codec (bindP (fun r => r.num 2147483647) fun n => bindP (fun r => r.num 15) fun er => bindP (fun r => r.num 2147483647) fun u => bindP (someB takeK 64) fun h => pureP (⟨(2 : Nat), e, k, n, u, [], [], er, [], h⟩ : Fr)) (fun y => enc y.nonce.toNat ++ (enc y.err.toNat ++ (enc y.turn.toNat ++ ((enc y.held.length ++ y.held.flatMap putK) ++ []))))
    (fun y => y.nonce.toNat ≤ bnd 2147483647 ∧ (y.err.toNat ≤ bnd 15 ∧ (y.turn.toNat ≤ bnd 2147483647 ∧ ((y.held.length ≤ 64 ∧ ∀ x ∈ y.held, goodK x = true) ∧ y = ⟨(2 : Nat), e, k, (y.nonce.toNat : Int), (y.turn.toNat : Int), [], [], (y.err.toNat : Int), [], y.held⟩)))) := fun k =>
   Codec.bind (fst := fun y : Fr => y.nonce.toNat) (Codec.num _) (fun n => h3 k n) (fun n y e => by rw [e.2.2.2]; simp)
  refine (Codec.bind (fst := fun y : Fr => y.kind.toNat) (Codec.num 3) h2 (fun k y e => by rw [e.2.2.2.2]; simp)).as (fun _ => rfl) (fun y hy => ?_) (fun y => ?_)
  ·obtain ⟨a, b, c, d, f, hy⟩ := hy
   rw [bnd3] at a
   rw [bndMax] at b d
   rw [bnd15] at c
   have hk : y.typ = 2 := by rw [hy]; rfl
   have k0 : 0 ≤ y.kind := by rw [hy]; simp only []; omega
   have n0 : 0 ≤ y.nonce := by rw [hy]; simp only []; omega
   have e0 : 0 ≤ y.err := by rw [hy]; simp only []; omega
   have t0 : 0 ≤ y.turn := by rw [hy]; simp only []; omega
   unfold putFB
   rw [if_neg (by omega), if_neg (by omega), if_pos hk, List.append_nil, bnd_int k0 (by omega), bnd_int n0 (by omega), bnd_int e0 (by omega), bnd_int t0 (by omega), keys_put f]
  ·rw [bnd3, bndMax, bnd15]
   constructor
   ·rintro ⟨h1, h2, h3⟩
    rcases h1 with ⟨a, _⟩ | ⟨a, _⟩ | ⟨a, b, c, d, k, f, c1, c2, c3⟩ | ⟨a, _⟩
    ·rw [a] at h2; omega
    ·rw [a] at h2; omega
    ·refine ⟨by omega, by omega, by omega, by omega, f, ?_⟩
     cases y; simp only at *
     subst c1 c2 c3 h2 h3
     simp only [Fr.mk.injEq, true_and, and_true]
     refine ⟨?_, ?_, ?_, ?_⟩ <;> omega
    ·rw [a] at h2; omega
   ·rintro ⟨a, b, c, d, f, hy⟩
    have k0 : 0 ≤ y.kind := by rw [hy]; simp only []; omega
    have n0 : 0 ≤ y.nonce := by rw [hy]; simp only []; omega
    have e0 : 0 ≤ y.err := by rw [hy]; simp only []; omega
    have t0 : 0 ≤ y.turn := by rw [hy]; simp only []; omega
    exact ⟨.inr (.inr (.inl ⟨by rw [hy]; rfl, ⟨k0, by omega⟩, ⟨n0, by omega⟩, ⟨e0, by omega⟩, ⟨t0, by omega⟩, f, by rw [hy], by rw [hy], by rw [hy]⟩)), by rw [hy], by rw [hy]⟩
 ·rw [if_neg (by decide), if_neg (by decide), if_neg (by decide)]
  have h5 : ∀ (u : Nat), Codec (bindP (someB takeK 64) fun h => pureP (⟨(3 : Nat), e, 0, 0, u, [], [], 0, [], h⟩ : Fr)) (fun y => (enc y.held.length ++ y.held.flatMap putK) ++ []) (fun y => (y.held.length ≤ 64 ∧ ∀ x ∈ y.held, goodK x = true) ∧ y = ⟨(3 : Nat), e, 0, 0, u, [], [], 0, [], y.held⟩) := fun u =>
   Codec.bind (fst := Fr.held) codec_keys (fun g => Codec.pure _) (fun g y e => by rw [e])
  refine (Codec.bind (fst := fun y : Fr => y.turn.toNat) (Codec.num _) h5 (fun u y e => by rw [e.2]; simp)).as (fun _ => rfl) (fun y hy => ?_) (fun y => ?_)
  ·obtain ⟨d, f, hy⟩ := hy
   rw [bndMax] at d
   have hk : y.typ = 3 := by rw [hy]; rfl
   have t0 : 0 ≤ y.turn := by rw [hy]; simp only []; omega
   unfold putFB
   rw [if_neg (by omega), if_neg (by omega), if_neg (by omega), List.append_nil, bnd_int t0 (by omega), keys_put f]
  ·rw [bndMax]
   constructor
   ·rintro ⟨h1, h2, h3⟩
    rcases h1 with ⟨a, _⟩ | ⟨a, _⟩ | ⟨a, _⟩ | ⟨a, k, f, c1, c2, c3, c4, c5, c6⟩
    ·rw [a] at h2; omega
    ·rw [a] at h2; omega
    ·rw [a] at h2; omega
    ·refine ⟨by omega, f, ?_⟩
     cases y; simp only at *
     subst c1 c2 c3 c4 c5 c6 h2 h3
     simp only [Fr.mk.injEq, true_and, and_true]
     omega
   ·rintro ⟨d, f, hy⟩
    have t0 : 0 ≤ y.turn := by rw [hy]; simp only []; omega
    exact ⟨.inr (.inr (.inr ⟨by rw [hy]; rfl, ⟨t0, by omega⟩, f, by rw [hy], by rw [hy], by rw [hy], by rw [hy], by rw [hy], by rw [hy]⟩)), by rw [hy], by rw [hy]⟩
theorem takeFB_err (t e : Nat) (r : Rd) (h : r.e ≠ 0) : (takeFB t e r).1 = r := by
 rcases Nat.lt_or_ge 3 t with hk | hk
 ·have : takeFB t e = bindP (fun r => r.num 2147483647) fun u => bindP (someB takeK 64) fun h => pureP ⟨t, e, 0, 0, u, [], [], 0, [], h⟩ := by
   unfold takeFB; rw [if_neg (by omega), if_neg (by omega), if_neg (by omega)]
  rw [this]; unfold bindP pureP
  simp only []
  rw [Rd.num_err h]
  exact codec_keys.err r h
 ·exact (codec_fb t e hk).err r h
def frOk (f : Fr) : Prop := (0 ≤ f.epoch ∧ f.epoch ≤ 2147483647) ∧ fbOk f
theorem codec_f0 : Codec takeF0 putF0 frOk := by
 have h2 : ∀ t : Nat, t ≤ bnd 3 → Codec (bindP (fun r => r.num 2147483647) fun e => takeFB t e) (fun y => enc y.epoch.toNat ++ putFB y) (fun y => y.epoch.toNat ≤ bnd 2147483647 ∧ (fbOk y ∧ y.typ = t ∧ y.epoch = (y.epoch.toNat : Int))) := fun t ht =>
  Codec.bind (fst := fun y : Fr => y.epoch.toNat) (Codec.num _) (fun e => codec_fb t e ht) (fun n y e => by rw [e.2.2]; simp)
 have herr : ∀ (t : Nat) (r : Rd), r.e ≠ 0 → (bindP (fun r => r.num 2147483647) (fun e => takeFB t e) r).1 = r := fun t r hr => by
  unfold bindP
  simp only []
  rw [Rd.num_err hr]
  exact takeFB_err _ _ _ hr
 refine (Codec.bindB (fst := fun y : Fr => y.typ.toNat) (Codec.num 3) herr h2 (fun k y e => by rw [e.2.2.1]; simp)).as (fun _ => rfl) (fun y hy => ?_) (fun y => ?_)
 ·obtain ⟨a, b, c, d, e⟩ := hy
  rw [bnd3] at a
  rw [bndMax] at b
  unfold putF0
  rw [bnd_int (x := y.typ) (by omega) (by omega), bnd_int (x := y.epoch) (by omega) (by omega)]
 ·rw [bnd3, bndMax]
  constructor
  ·rintro ⟨⟨a, b⟩, d⟩
   have hk : 0 ≤ y.typ ∧ y.typ ≤ 3 := by rcases d with ⟨e, _⟩ | ⟨e, _⟩ | ⟨e, _⟩ | ⟨e, _⟩ <;> omega
   exact ⟨by omega, by omega, d, by omega, by omega⟩
  ·rintro ⟨a, b, c, d, e⟩
   exact ⟨⟨by omega, by omega⟩, c⟩
theorem sane_frOk {f : Fr} (h : saneF f = 0) : frOk f := by
 obtain ⟨ht, hk, hs, hh, hn, ha, hki⟩ := (saneF_iff f).1 h
 unfold smallF inB at hs
 simp only [Bool.and_eq_true, decide_eq_true_eq, List.all_eq_true] at hs
 obtain ⟨⟨⟨⟨⟨⟨⟨⟨l1, l2⟩, l3⟩, l4⟩, hm⟩, he⟩, hno⟩, htu⟩, her⟩ := hs
 unfold namedF at hn
 simp only [Bool.and_eq_true, List.all_eq_true] at hn
 obtain ⟨⟨n1, n2⟩, n3⟩ := hn
 unfold shapedF bareF at hh
 rw [decide_eq_true_eq] at hh
 refine ⟨he, ?_⟩
 have hk4 : f.typ = 0 ∨ f.typ = 1 ∨ f.typ = 2 ∨ f.typ = 3 := by omega
 rcases hk4 with e | e | e | e
 ·rw [if_pos e] at hh
  simp only [Fr.mk.injEq, true_and] at hh
  obtain ⟨h1, h2, h3, h4, h5, h6, h7⟩ := hh
  refine .inl ⟨e, ⟨l3, fun m hm' => ⟨n3 m hm', ?_⟩⟩, h1, h2, h3, h4, h5, h6, h7⟩
  have := hm m hm'
  unfold mOk inB at this
  simpa using this
 ·rw [if_neg (by omega), if_pos e] at hh
  simp only [Fr.mk.injEq, true_and] at hh
  obtain ⟨h1, h2, h3, h4⟩ := hh
  exact .inr (.inl ⟨e, hk, hno, ⟨l1, ha⟩, ⟨l2, n1⟩, h1, h2, h3, h4⟩)
 ·rw [if_neg (by omega), if_neg (by omega), if_pos e] at hh
  simp only [Fr.mk.injEq, true_and, and_true] at hh
  obtain ⟨h1, h2, h3⟩ := hh
  exact .inr (.inr (.inl ⟨e, hk, hno, her, htu, ⟨l4, n2⟩, h1, h2, h3⟩))
 ·rw [if_neg (by omega), if_neg (by omega), if_neg (by omega), if_pos e] at hh
  simp only [Fr.mk.injEq, true_and, and_true] at hh
  obtain ⟨h1, h2, h3, h4, h5, h6⟩ := hh
  exact .inr (.inr (.inr ⟨e, htu, ⟨l4, n2⟩, h1, h2, h3, h4, h5, h6⟩))
theorem get_put {f : Fr} (h : saneF f = 0) : getF (putF f) = (f, 0) := by
 have hb := codec_f0.back f [] (sane_frOk h)
 rw [List.append_nil] at hb
 unfold getF putF
 rw [if_pos h, hb]
 simp [Rd.done, h]
set_option linter.unusedVariables false
theorem putF_eq {f : Fr} (h : saneF f = 0) : putF f = putF0 f := by unfold putF; rw [if_pos h]
def atEp (f : Fr) (e : Int) : Fr := ⟨f.typ, e, f.kind, f.nonce, f.turn, f.adds, f.gone, f.err, f.hav, f.held⟩
def frAw : Fr := ⟨3, 5, 0, 0, 1, [], [], 0, [], []⟩
theorem aw_sane : saneF frAw = 0 := by decide
theorem aw_put : putF frAw = [3, 5, 1, 0] := by rw [putF_eq aw_sane]; decide
theorem aw_get : getF [3, 5, 1, 0] = (frAw, 0) := by rw [← aw_put]; exact get_put aw_sane
theorem takeM_fst (rd : Rd) : (takeM rd).1 = ((takeK rd).1.num 2147483647).1 := rfl
theorem takeM_snd (rd : Rd) : (takeM rd).2 = ((takeK rd).2, (((takeK rd).1.num 2147483647).2 : Int)) := rfl
def f0R (b : List UInt8) : Rd := (((Rd.mk b 0).num 3).1.num 2147483647).1
def f0T (b : List UInt8) : Nat := ((Rd.mk b 0).num 3).2
def f0E (b : List UInt8) : Nat := (((Rd.mk b 0).num 3).1.num 2147483647).2
theorem f0T_le (b : List UInt8) : f0T b ≤ 3 := by have := Rd.num_le (Rd.mk b 0) 3; rw [bnd3] at this; exact this
theorem takeF0_eq (b : List UInt8) : takeF0 ⟨b, 0⟩ = takeFB (f0T b) (f0E b) (f0R b) := rfl
theorem f0_hello {b : List UInt8} (h : f0T b = 0) : takeF0 ⟨b, 0⟩ = ((someB takeM 64 (f0R b)).1, ⟨0, f0E b, 0, 0, 0, [], [], 0, (someB takeM 64 (f0R b)).2, []⟩) := by
 rw [takeF0_eq, h]; rfl
theorem f0_push {b : List UInt8} (h : f0T b = 1) : takeF0 ⟨b, 0⟩ = ((someB takeK 64 (someB takeR 64 (((f0R b).num 3).1.num 2147483647).1).1).1,
  ⟨1, f0E b, ((f0R b).num 3).2, (((f0R b).num 3).1.num 2147483647).2, 0, (someB takeR 64 (((f0R b).num 3).1.num 2147483647).1).2, (someB takeK 64 (someB takeR 64 (((f0R b).num 3).1.num 2147483647).1).1).2, 0, [], []⟩) := by
 rw [takeF0_eq, h]; rfl
theorem f0_ack {b : List UInt8} (h : f0T b = 2) : takeF0 ⟨b, 0⟩ = ((someB takeK 64 (((((f0R b).num 3).1.num 2147483647).1.num 15).1.num 2147483647).1).1,
  ⟨2, f0E b, ((f0R b).num 3).2, (((f0R b).num 3).1.num 2147483647).2, (((((f0R b).num 3).1.num 2147483647).1.num 15).1.num 2147483647).2, [], [], ((((f0R b).num 3).1.num 2147483647).1.num 15).2, [], (someB takeK 64 (((((f0R b).num 3).1.num 2147483647).1.num 15).1.num 2147483647).1).2⟩) := by
 rw [takeF0_eq, h]; rfl
theorem f0_drain {b : List UInt8} (h : f0T b = 3) : takeF0 ⟨b, 0⟩ = ((someB takeK 64 ((f0R b).num 2147483647).1).1,
  ⟨3, f0E b, 0, 0, ((f0R b).num 2147483647).2, [], [], 0, [], (someB takeK 64 ((f0R b).num 2147483647).1).2⟩) := by
 rw [takeF0_eq, h]; rfl
theorem getF_of {b : List UInt8} {r : Rd} {f : Fr} (h : takeF0 ⟨b, 0⟩ = (r, f)) : getF b = if r.done ≠ 0 then (fr0, r.done) else if saneF f ≠ 0 then (fr0, saneF f) else (f, 0) := by
 unfold getF; rw [h]
end Go.Proofs.YtfdjbnofcniodaaGreatDoor
