/- Plain: steps of a script, and their bytes. -/
import Derived.Test.YtfdjbnofcniodaaGreatDoorPlain
import Derived.Test.YtfdjbnofcniodaaGreatDoorTablePlain
namespace Go.Proofs.YtfdjbnofcniodaaGreatDoor
set_option linter.unusedVariables false

structure Ak where
  port : Int
  host : ByteArray
  path : ByteArray
  first : Int
  other : Int
deriving DecidableEq
def ak0 : Ak := ⟨0, ⟨#[]⟩, ⟨#[]⟩, 0, 0⟩
structure Sp where
  kind : Int
  side : Int
  way : Int
  n : Int
  adds : List Rs
  gone : List Ky
  a : Ak
deriving DecidableEq
def smallS (s : Sp) : Bool :=
  (decide (s.a.host.size ≤ 40) && decide (s.a.path.size ≤ 40) && decide (s.adds.length ≤ 64) && decide (s.gone.length ≤ 64)) && inB s.way 1 && inB s.a.port 65535 &&
  (inB s.side 2147483647 && inB s.n 2147483647 && inB s.a.first 2147483647 && inB s.a.other 2147483647)
def shapedS (s : Sp) : Bool := (decide (s.kind = 0) || decide (s.adds.length + s.gone.length = 0)) && (decide (s.kind = 7) || decide (s.a = ak0))
def saneS (s : Sp) : Int :=
  if inB s.kind 9 = false then 4 else if smallS s = false then 3 else if shapedS s = false then 2 else if firstE saneR s.adds ≠ 0 then firstE saneR s.adds
  else if s.gone.all goodK = false then 5 else 0
structure SaneS (s : Sp) : Prop where
  kind : 0 ≤ s.kind ∧ s.kind ≤ 9
  small : smallS s = true
  shaped : shapedS s = true
  adds : ∀ x ∈ s.adds, saneR x = 0
  gone : ∀ k ∈ s.gone, goodK k = true
theorem saneS_iff (s : Sp) : saneS s = 0 ↔ SaneS s := by
  unfold saneS
  constructor
  · intro h
    split at h
    · cases h
    split at h
    · cases h
    split at h
    · cases h
    split at h
    · rename_i h1; exact absurd h h1
    split at h
    · cases h
    rename_i h1 h2 h3 h4 h5
    have h1' : inB s.kind 9 = true := by simpa using h1
    unfold inB at h1'
    simp only [Bool.and_eq_true, decide_eq_true_eq] at h1'
    exact ⟨h1', by simpa using h2, by simpa using h3, (firstE_zero _ _).1 (Classical.not_not.1 h4), List.all_eq_true.1 (by simpa using h5)⟩
  · rintro ⟨h1, h2, h3, h4, h5⟩
    have e1 : inB s.kind 9 = true := by unfold inB; simp [h1]
    have e5 : s.gone.all goodK = true := List.all_eq_true.2 h5
    rw [e1, h2, h3, e5, if_neg (by decide), if_neg (by decide), if_neg (by decide), if_neg (by rw [(firstE_zero _ _).2 h4]; simp), if_neg (by decide)]

/-! ### bytes -/
def putSB (s : Sp) : List UInt8 := enc (bnd s.n) ++
  (if s.kind = 0 then putAll s.adds ++ putKeys s.gone
   else if s.kind = 7 then enc (bnd s.a.port) ++ (encT (tx s.a.host) ++ (encT (tx s.a.path) ++ (enc (bnd s.a.first) ++ enc (bnd s.a.other)))) else [])
def putS0 (s : Sp) : List UInt8 := enc (bnd s.kind) ++ (enc (bnd s.side) ++ (enc (bnd s.way) ++ putSB s))
def putS (s : Sp) : List UInt8 := if saneS s = 0 then putS0 s else []
def putSs (l : List Sp) : List UInt8 := l.flatMap putS
def headS (k s w : Nat) : Sp := ⟨k, s, w, 0, [], [], ak0⟩
def takeSB (k s w : Nat) : Rd → Rd × Sp := bindP (fun r => r.num 2147483647) fun n =>
  if k = 0 then bindP (someB takeR 64) fun a => bindP (someB takeK 64) fun g => pureP ⟨k, s, w, n, a, g, ak0⟩
  else if k = 7 then bindP (fun r => r.num 65535) fun p => bindP (fun r => r.txt 40) fun h => bindP (fun r => r.txt 40) fun q => bindP (fun r => r.num 2147483647) fun f => bindP (fun r => r.num 2147483647) fun o => pureP ⟨k, s, w, n, [], [], ⟨p, mkS h, mkS q, f, o⟩⟩
  else pureP ⟨k, s, w, n, [], [], ak0⟩
def oneB (b : List UInt8) : Nat := (b.headD 0).toNat
def kindB (b : List UInt8) : Nat := oneB b % 10
def sideB (b : List UInt8) : Nat := oneB (b.drop 1) % 4
def wayB (b : List UInt8) : Nat := oneB (b.drop 2) % 2
def stepB (b : List UInt8) : Rd × Sp := takeSB (kindB b) (sideB b) (wayB b) ⟨b.drop 3, 0⟩
def getS : Nat → List UInt8 → List Sp → List Sp
  | 0, _, acc => acc
  | f + 1, b, acc => if b.length = 0 ∨ 400 ≤ acc.length then acc else if (stepB b).1.e ≠ 0 then acc ++ [headS (kindB b) (sideB b) (wayB b)] else getS f (stepB b).1.b (acc ++ [(stepB b).2])
def getSs (b : List UInt8) : List Sp := getS b.length b []

/-- a step's parts behind its head -/
def sbOk (s : Sp) : Prop := (0 ≤ s.n ∧ s.n ≤ 2147483647) ∧
  ((s.kind = 0 ∧ (s.adds.length ≤ 64 ∧ ∀ x ∈ s.adds, saneR x = 0) ∧ (s.gone.length ≤ 64 ∧ ∀ x ∈ s.gone, goodK x = true) ∧ s.a = ak0) ∨
   (s.kind = 7 ∧ s.adds = [] ∧ s.gone = [] ∧ (0 ≤ s.a.port ∧ s.a.port ≤ 65535) ∧ (tx s.a.host).length ≤ 40 ∧ (tx s.a.path).length ≤ 40 ∧ (0 ≤ s.a.first ∧ s.a.first ≤ 2147483647) ∧ (0 ≤ s.a.other ∧ s.a.other ≤ 2147483647)) ∨
   (s.kind ≠ 0 ∧ s.kind ≠ 7 ∧ s.adds = [] ∧ s.gone = [] ∧ s.a = ak0))
theorem codec_sb (k s w : Nat) : Codec (takeSB k s w) putSB (fun y => sbOk y ∧ y.kind = k ∧ y.side = s ∧ y.way = w) := by
  unfold takeSB
  by_cases h0 : k = 0
  · subst h0
    have h3 : ∀ (n : Nat) (a : List Rs), Codec (bindP (someB takeK 64) fun g => pureP (⟨(0 : Nat), s, w, n, a, g, ak0⟩ : Sp)) (fun y => (enc y.gone.length ++ y.gone.flatMap putK) ++ []) (fun y => (y.gone.length ≤ 64 ∧ ∀ x ∈ y.gone, goodK x = true) ∧ y = ⟨(0 : Nat), s, w, n, a, y.gone, ak0⟩) := fun n a =>
      Codec.bind (fst := Sp.gone) codec_keys (fun g => Codec.pure _) (fun g y e => by rw [e])
    have h2 : ∀ (n : Nat), Codec (if (0 : Nat) = 0 then bindP (someB takeR 64) fun a => bindP (someB takeK 64) fun g => pureP (⟨(0 : Nat), s, w, n, a, g, ak0⟩ : Sp)
        else if (0 : Nat) = 7 then bindP (fun r => r.num 65535) fun p => bindP (fun r => r.txt 40) fun h => bindP (fun r => r.txt 40) fun q => bindP (fun r => r.num 2147483647) fun f => bindP (fun r => r.num 2147483647) fun o => pureP ⟨(0 : Nat), s, w, n, [], [], ⟨p, mkS h, mkS q, f, o⟩⟩
        else pureP ⟨(0 : Nat), s, w, n, [], [], ak0⟩) (fun y => (enc y.adds.length ++ y.adds.flatMap putR) ++ ((enc y.gone.length ++ y.gone.flatMap putK) ++ [])) (fun y => (y.adds.length ≤ 64 ∧ ∀ x ∈ y.adds, saneR x = 0) ∧ ((y.gone.length ≤ 64 ∧ ∀ x ∈ y.gone, goodK x = true) ∧ y = ⟨(0 : Nat), s, w, n, y.adds, y.gone, ak0⟩)) := fun n => by
      rw [if_pos rfl]
      exact Codec.bind (fst := Sp.adds) codec_all (fun a => h3 n a) (fun g y e => by rw [e.2])
    refine (Codec.bind (fst := fun y : Sp => y.n.toNat) (Codec.num _) h2 (fun n y e => by rw [e.2.2]; simp)).as (fun _ => rfl) (fun y hy => ?_) (fun y => ?_)
    · obtain ⟨a, b, c, hy⟩ := hy
      rw [bndMax] at a
      have hk : y.kind = 0 := by rw [hy]; rfl
      have n0 : 0 ≤ y.n := by rw [hy]; simp only []; omega
      unfold putSB
      rw [if_pos hk, List.append_nil, bnd_int n0 (by omega), putAll_of b.1 b.2, putKeys_of c.1 c.2]
    · rw [bndMax]
      constructor
      · rintro ⟨⟨hn, h1⟩, q2, q3, q4⟩
        rcases h1 with ⟨a, b, c, d⟩ | ⟨a, _⟩ | ⟨a, _⟩
        · refine ⟨by omega, b, c, ?_⟩
          cases y; simp only at *
          subst d q2 q3 q4
          simp only [Sp.mk.injEq, true_and, and_true]
          omega
        · rw [a] at q2; omega
        · exact absurd q2 a
      · rintro ⟨a, b, c, hy⟩
        have n0 : 0 ≤ y.n := by rw [hy]; simp only []; omega
        exact ⟨⟨⟨n0, by omega⟩, .inl ⟨by rw [hy]; rfl, b, c, by rw [hy]⟩⟩, by rw [hy], by rw [hy], by rw [hy]⟩
  by_cases h7 : k = 7
  · subst h7
    have g5 : ∀ (n p : Nat) (h q : List UInt8) (f : Nat), Codec (bindP (fun r => r.num 2147483647) fun o => pureP (⟨(7 : Nat), s, w, n, [], [], ⟨p, mkS h, mkS q, f, o⟩⟩ : Sp)) (fun y => enc y.a.other.toNat ++ []) (fun y => y.a.other.toNat ≤ bnd 2147483647 ∧ y = ⟨(7 : Nat), s, w, n, [], [], ⟨p, mkS h, mkS q, f, (y.a.other.toNat : Int)⟩⟩) := fun n p h q f =>
      Codec.bind (fst := fun y : Sp => y.a.other.toNat) (Codec.num _) (fun o => Codec.pure _) (fun o y e => by rw [e]; simp)
    have g4 : ∀ (n p : Nat) (h q : List UInt8), Codec (bindP (fun r => r.num 2147483647) fun f => bindP (fun r => r.num 2147483647) fun o => pureP (⟨(7 : Nat), s, w, n, [], [], ⟨p, mkS h, mkS q, f, o⟩⟩ : Sp)) (fun y => enc y.a.first.toNat ++ (enc y.a.other.toNat ++ [])) (fun y => y.a.first.toNat ≤ bnd 2147483647 ∧ (y.a.other.toNat ≤ bnd 2147483647 ∧ y = ⟨(7 : Nat), s, w, n, [], [], ⟨p, mkS h, mkS q, (y.a.first.toNat : Int), (y.a.other.toNat : Int)⟩⟩)) := fun n p h q =>
      Codec.bind (fst := fun y : Sp => y.a.first.toNat) (Codec.num _) (fun f => g5 n p h q f) (fun o y e => by rw [e.2]; simp)
    have g3 : ∀ (n p : Nat) (h : List UInt8), Codec (bindP (fun r => r.txt 40) fun q => bindP (fun r => r.num 2147483647) fun f => bindP (fun r => r.num 2147483647) fun o => pureP (⟨(7 : Nat), s, w, n, [], [], ⟨p, mkS h, mkS q, f, o⟩⟩ : Sp)) (fun y => encT (tx y.a.path) ++ (enc y.a.first.toNat ++ (enc y.a.other.toNat ++ []))) (fun y => (tx y.a.path).length ≤ bnd 40 ∧ (y.a.first.toNat ≤ bnd 2147483647 ∧ (y.a.other.toNat ≤ bnd 2147483647 ∧ y = ⟨(7 : Nat), s, w, n, [], [], ⟨p, mkS h, mkS (tx y.a.path), (y.a.first.toNat : Int), (y.a.other.toNat : Int)⟩⟩))) := fun n p h =>
      Codec.bind (fst := fun y : Sp => tx y.a.path) (Codec.txt 40) (fun q => g4 n p h q) (fun o y e => by rw [e.2.2]; rfl)
    have g2 : ∀ (n p : Nat), Codec (bindP (fun r => r.txt 40) fun h => bindP (fun r => r.txt 40) fun q => bindP (fun r => r.num 2147483647) fun f => bindP (fun r => r.num 2147483647) fun o => pureP (⟨(7 : Nat), s, w, n, [], [], ⟨p, mkS h, mkS q, f, o⟩⟩ : Sp)) (fun y => encT (tx y.a.host) ++ (encT (tx y.a.path) ++ (enc y.a.first.toNat ++ (enc y.a.other.toNat ++ [])))) (fun y => (tx y.a.host).length ≤ bnd 40 ∧ ((tx y.a.path).length ≤ bnd 40 ∧ (y.a.first.toNat ≤ bnd 2147483647 ∧ (y.a.other.toNat ≤ bnd 2147483647 ∧ y = ⟨(7 : Nat), s, w, n, [], [], ⟨p, mkS (tx y.a.host), mkS (tx y.a.path), (y.a.first.toNat : Int), (y.a.other.toNat : Int)⟩⟩)))) := fun n p =>
      Codec.bind (fst := fun y : Sp => tx y.a.host) (Codec.txt 40) (fun h => g3 n p h) (fun o y e => by rw [e.2.2.2]; rfl)
    have g1 : ∀ (n : Nat), Codec (if (7 : Nat) = 0 then bindP (someB takeR 64) fun a => bindP (someB takeK 64) fun g => pureP (⟨(7 : Nat), s, w, n, a, g, ak0⟩ : Sp)
        else if (7 : Nat) = 7 then bindP (fun r => r.num 65535) fun p => bindP (fun r => r.txt 40) fun h => bindP (fun r => r.txt 40) fun q => bindP (fun r => r.num 2147483647) fun f => bindP (fun r => r.num 2147483647) fun o => pureP ⟨(7 : Nat), s, w, n, [], [], ⟨p, mkS h, mkS q, f, o⟩⟩
        else pureP ⟨(7 : Nat), s, w, n, [], [], ak0⟩) (fun y => enc y.a.port.toNat ++ (encT (tx y.a.host) ++ (encT (tx y.a.path) ++ (enc y.a.first.toNat ++ (enc y.a.other.toNat ++ [])))))
        (fun y => y.a.port.toNat ≤ bnd 65535 ∧ ((tx y.a.host).length ≤ bnd 40 ∧ ((tx y.a.path).length ≤ bnd 40 ∧ (y.a.first.toNat ≤ bnd 2147483647 ∧ (y.a.other.toNat ≤ bnd 2147483647 ∧ y = ⟨(7 : Nat), s, w, n, [], [], ⟨(y.a.port.toNat : Int), mkS (tx y.a.host), mkS (tx y.a.path), (y.a.first.toNat : Int), (y.a.other.toNat : Int)⟩⟩))))) := fun n => by
      rw [if_neg (by decide), if_pos rfl]
      exact Codec.bind (fst := fun y : Sp => y.a.port.toNat) (Codec.num _) (fun p => g2 n p) (fun o y e => by rw [e.2.2.2.2]; simp)
    refine (Codec.bind (fst := fun y : Sp => y.n.toNat) (Codec.num _) g1 (fun n y e => by rw [e.2.2.2.2.2]; simp)).as (fun _ => rfl) (fun y hy => ?_) (fun y => ?_)
    · obtain ⟨a, b, c, d, e, f, hy⟩ := hy
      rw [bndMax] at a e f
      rw [bnd65535] at b
      have hk : y.kind = 7 := by rw [hy]; rfl
      have n0 : 0 ≤ y.n := by rw [hy]; simp only []; omega
      have p0 : 0 ≤ y.a.port := by rw [hy]; simp only []; omega
      have f0 : 0 ≤ y.a.first := by rw [hy]; simp only []; omega
      have o0 : 0 ≤ y.a.other := by rw [hy]; simp only []; omega
      unfold putSB
      rw [if_neg (by omega), if_pos hk, List.append_nil, bnd_int n0 (by omega), bnd_int p0 (by omega), bnd_int f0 (by omega), bnd_int o0 (by omega)]
    · rw [bndMax, bnd65535, bnd40]
      constructor
      · rintro ⟨⟨hn, h1⟩, q2, q3, q4⟩
        rcases h1 with ⟨a, _⟩ | ⟨a, b, c, d, e, f, g, h⟩ | ⟨_, a, _⟩
        · rw [a] at q2; omega
        · refine ⟨by omega, by omega, e, f, by omega, by omega, ?_⟩
          cases y with | mk k' s' w' n' ad go ask => cases ask; simp only at *; subst b c q2 q3 q4; simp only [Sp.mk.injEq, Ak.mk.injEq, true_and]; exact ⟨by omega, by omega, rfl, rfl, by omega, by omega⟩
        · exact absurd q2 a
      · rintro ⟨a, b, c, d, e, f, hy⟩
        have n0 : 0 ≤ y.n := by rw [hy]; simp only []; omega
        have p0 : 0 ≤ y.a.port := by rw [hy]; simp only []; omega
        have f0 : 0 ≤ y.a.first := by rw [hy]; simp only []; omega
        have o0 : 0 ≤ y.a.other := by rw [hy]; simp only []; omega
        exact ⟨⟨⟨n0, by omega⟩, .inr (.inl ⟨by rw [hy]; rfl, by rw [hy], by rw [hy], ⟨p0, by omega⟩, c, d, ⟨f0, by omega⟩, ⟨o0, by omega⟩⟩)⟩, by rw [hy], by rw [hy], by rw [hy]⟩
  · have h2 : ∀ (n : Nat), Codec (if k = 0 then bindP (someB takeR 64) fun a => bindP (someB takeK 64) fun g => pureP (⟨k, s, w, n, a, g, ak0⟩ : Sp)
        else if k = 7 then bindP (fun r => r.num 65535) fun p => bindP (fun r => r.txt 40) fun h => bindP (fun r => r.txt 40) fun q => bindP (fun r => r.num 2147483647) fun f => bindP (fun r => r.num 2147483647) fun o => pureP ⟨k, s, w, n, [], [], ⟨p, mkS h, mkS q, f, o⟩⟩
        else pureP ⟨k, s, w, n, [], [], ak0⟩) (fun y => []) (fun y => y = ⟨k, s, w, n, [], [], ak0⟩) := fun n => by
      rw [if_neg h0, if_neg h7]
      exact Codec.pure _
    refine (Codec.bind (fst := fun y : Sp => y.n.toNat) (Codec.num _) h2 (fun n y e => by rw [e]; simp)).as (fun _ => rfl) (fun y hy => ?_) (fun y => ?_)
    · obtain ⟨a, hy⟩ := hy
      rw [bndMax] at a
      have hk : y.kind = k := by rw [hy]
      have n0 : 0 ≤ y.n := by rw [hy]; simp only []; omega
      unfold putSB
      rw [if_neg (by omega), if_neg (by omega), bnd_int n0 (by omega)]
    · rw [bndMax]
      constructor
      · rintro ⟨⟨hn, h1⟩, q2, q3, q4⟩
        rcases h1 with ⟨a, _⟩ | ⟨a, _⟩ | ⟨_, _, a, b, c⟩
        · rw [a] at q2; omega
        · rw [a] at q2; omega
        · refine ⟨by omega, ?_⟩
          cases y; simp only at *
          subst a b c q2 q3 q4
          simp only [Sp.mk.injEq, true_and, and_true]
          omega
      · rintro ⟨a, hy⟩
        have n0 : 0 ≤ y.n := by rw [hy]; simp only []; omega
        have hk : y.kind = k := by rw [hy]
        exact ⟨⟨⟨n0, by omega⟩, .inr (.inr ⟨by omega, by omega, by rw [hy], by rw [hy], by rw [hy]⟩)⟩, by rw [hy], by rw [hy], by rw [hy]⟩
/-- a step of a sidecar that there is -/
def ours (s : Sp) : Prop := saneS s = 0 ∧ s.side ≤ 3
theorem sane_sbOk {s : Sp} (h : saneS s = 0) : sbOk s ∧ (0 ≤ s.kind ∧ s.kind ≤ 9) ∧ 0 ≤ s.side ∧ (0 ≤ s.way ∧ s.way ≤ 1) := by
  obtain ⟨hk, hs, hh, ha, hg⟩ := (saneS_iff s).1 h
  unfold smallS inB at hs
  simp only [Bool.and_eq_true, decide_eq_true_eq] at hs
  obtain ⟨⟨⟨⟨⟨⟨l1, l2⟩, l3⟩, l4⟩, hw⟩, hp⟩, ⟨⟨hsd, hn⟩, hf⟩, ho⟩ := hs
  unfold shapedS at hh
  simp only [Bool.and_eq_true, Bool.or_eq_true, decide_eq_true_eq] at hh
  refine ⟨⟨hn, ?_⟩, hk, hsd.1, hw⟩
  by_cases h0 : s.kind = 0
  · refine .inl ⟨h0, ⟨l3, ha⟩, ⟨l4, hg⟩, ?_⟩
    rcases hh.2 with e | e
    · omega
    · exact e
  have e1 : s.adds = [] := List.eq_nil_of_length_eq_zero (by rcases hh.1 with e | e; exact absurd e h0; omega)
  have e2 : s.gone = [] := List.eq_nil_of_length_eq_zero (by rcases hh.1 with e | e; exact absurd e h0; omega)
  by_cases h7 : s.kind = 7
  · exact .inr (.inl ⟨h7, e1, e2, hp, by rw [tx_len]; exact l1, by rw [tx_len]; exact l2, hf, ho⟩)
  · refine .inr (.inr ⟨h0, h7, e1, e2, ?_⟩)
    rcases hh.2 with e | e
    · exact absurd e h7
    · exact e
theorem sbOk_sane {s : Sp} (h : sbOk s) (hk : 0 ≤ s.kind ∧ s.kind ≤ 9) (hs : 0 ≤ s.side ∧ s.side ≤ 3) (hw : 0 ≤ s.way ∧ s.way ≤ 1) : saneS s = 0 := by
  rw [saneS_iff]
  obtain ⟨hn, h⟩ := h
  rcases h with ⟨a, b, c, d⟩ | ⟨a, b, c, d, e, f, g, i⟩ | ⟨a, b, c, d, e⟩
  · refine ⟨hk, ?_, ?_, b.2, c.2⟩
    · unfold smallS inB
      rw [d]
      simp only [Bool.and_eq_true, decide_eq_true_eq]
      exact ⟨⟨⟨⟨⟨⟨by decide, by decide⟩, b.1⟩, c.1⟩, hw⟩, ⟨by decide, by decide⟩⟩, ⟨⟨⟨hs.1, by omega⟩, hn⟩, ⟨by decide, by decide⟩⟩, ⟨by decide, by decide⟩⟩
    · unfold shapedS; rw [d]; simp [a]
  · refine ⟨hk, ?_, ?_, by rw [b]; simp, by rw [c]; simp⟩
    · unfold smallS inB
      rw [b, c]
      rw [tx_len] at e f
      simp only [Bool.and_eq_true, decide_eq_true_eq, List.length_nil]
      exact ⟨⟨⟨⟨⟨⟨e, f⟩, by decide⟩, by decide⟩, hw⟩, d⟩, ⟨⟨⟨hs.1, by omega⟩, hn⟩, g⟩, i⟩
    · unfold shapedS; rw [b, c]; simp [a]
  · refine ⟨hk, ?_, ?_, by rw [c]; simp, by rw [d]; simp⟩
    · unfold smallS inB
      rw [c, d, e]
      simp only [Bool.and_eq_true, decide_eq_true_eq, List.length_nil]
      exact ⟨⟨⟨⟨⟨⟨by decide, by decide⟩, by decide⟩, by decide⟩, hw⟩, ⟨by decide, by decide⟩⟩, ⟨⟨⟨hs.1, by omega⟩, hn⟩, ⟨by decide, by decide⟩⟩, ⟨by decide, by decide⟩⟩
    · unfold shapedS; rw [c, d, e]; simp
theorem enc_one {n : Nat} (h : n < 128) : enc n = [UInt8.ofNat n] := encF_lt h
/-- the head of what is laid -/
theorem put_head {s : Sp} (h : ours s) (rest : List UInt8) : putS s ++ rest = UInt8.ofNat s.kind.toNat :: UInt8.ofNat s.side.toNat :: UInt8.ofNat s.way.toNat :: (putSB s ++ rest) := by
  obtain ⟨hb, hk, hs, hw⟩ := sane_sbOk h.1
  have h3 := h.2
  unfold putS putS0
  rw [if_pos h.1, bnd_int hk.1 (by omega), bnd_int hs (by omega), bnd_int hw.1 (by omega), enc_one (by omega), enc_one (by omega), enc_one (by omega)]
  simp
theorem step_put {s : Sp} (h : ours s) (rest : List UInt8) : stepB (putS s ++ rest) = (⟨rest, 0⟩, s) := by
  obtain ⟨hb, hk, hs, hw⟩ := sane_sbOk h.1
  have h3 := h.2
  rw [put_head h rest]
  unfold stepB kindB sideB wayB oneB
  simp only [List.headD_cons, List.drop_succ_cons, List.drop_zero]
  rw [ofNat_lt (by omega), ofNat_lt (by omega), ofNat_lt (by omega), Nat.mod_eq_of_lt (by omega), Nat.mod_eq_of_lt (by omega), Nat.mod_eq_of_lt (by omega)]
  exact (codec_sb _ _ _).back s rest ⟨hb, by omega, by omega, by omega⟩
theorem putS_pos {s : Sp} (h : ours s) : 0 < (putS s).length := by
  have := put_head h []
  rw [List.append_nil] at this
  rw [this]; simp
/-- steps that were put are got -/
theorem getS_put : ∀ (l : List Sp) (f : Nat) (acc : List Sp), (∀ s ∈ l, ours s) → acc.length + l.length ≤ 400 → l.length ≤ f → getS f (putSs l) acc = acc ++ l
  | [], f, acc, _, _, _ => by
    cases f with
    | zero => simp [getS]
    | succ f => unfold getS putSs; rw [if_pos (.inl (by simp))]; simp
  | s :: l, f, acc, h, hl, hf => by
    match f, hf with
    | f + 1, hf =>
      have hs := h s (by simp)
      have hp := putS_pos hs
      simp only [List.length_cons] at hl hf
      have e : putSs (s :: l) = putS s ++ putSs l := by unfold putSs; rw [List.flatMap_cons]
      unfold getS
      rw [if_neg (by rw [e, List.length_append]; omega), e, step_put hs, if_neg (by simp)]
      simp only []
      rw [getS_put l f (acc ++ [s]) (fun x hx => h x (List.mem_cons_of_mem _ hx)) (by simp; omega) (by omega)]
      simp
theorem putSs_len {l : List Sp} (h : ∀ s ∈ l, ours s) : l.length ≤ (putSs l).length := by
  induction l with
  | nil => simp
  | cons s l ih =>
    have hp := putS_pos (h s (by simp))
    have := ih fun x hx => h x (List.mem_cons_of_mem _ hx)
    unfold putSs at this ⊢
    rw [List.flatMap_cons, List.length_append, List.length_cons]
    omega
theorem getSs_put {l : List Sp} (h : ∀ s ∈ l, ours s) (hl : l.length ≤ 400) : getSs (putSs l) = l := by
  unfold getSs
  rw [getS_put l _ [] h (by simpa using hl) (putSs_len h)]
  rfl
/-- whatever is got may be -/
theorem step_ours {b : List UInt8} (h : (stepB b).1.e = 0) : ours (stepB b).2 ∧ (stepB b).1.b.length ≤ b.length - 3 := by
  unfold stepB at h ⊢
  obtain ⟨⟨h1, h2, h3, h4⟩, h5⟩ := (codec_sb (kindB b) (sideB b) (wayB b)).once _ h
  have k1 : kindB b < 10 := Nat.mod_lt _ (by decide)
  have k2 : sideB b < 4 := Nat.mod_lt _ (by decide)
  have k3 : wayB b < 2 := Nat.mod_lt _ (by decide)
  refine ⟨⟨sbOk_sane h1 (by omega) (by omega) (by omega), by omega⟩, ?_⟩
  have := congrArg List.length h5
  rw [List.length_drop, List.length_append] at this
  omega
theorem head_ours (b : List UInt8) : ours (headS (kindB b) (sideB b) (wayB b)) := by
  have k1 : kindB b < 10 := Nat.mod_lt _ (by decide)
  have k2 : sideB b < 4 := Nat.mod_lt _ (by decide)
  have k3 : wayB b < 2 := Nat.mod_lt _ (by decide)
  have hk : (headS (kindB b) (sideB b) (wayB b)).kind = (kindB b : Int) := rfl
  refine ⟨sbOk_sane ⟨⟨Int.le_refl _, (by decide : (0:Int) ≤ 2147483647)⟩, ?_⟩ (by simp only [headS]; omega) (by simp only [headS]; omega) (by simp only [headS]; omega), by simp only [headS]; omega⟩
  by_cases h0 : kindB b = 0
  · exact .inl ⟨by rw [hk, h0]; rfl, ⟨by simp [headS], by simp [headS]⟩, ⟨by simp [headS], by simp [headS]⟩, rfl⟩
  by_cases h7 : kindB b = 7
  · exact .inr (.inl ⟨by rw [hk, h7]; rfl, rfl, rfl, by simp [headS, ak0], by simp [headS, ak0, tx], by simp [headS, ak0, tx], by simp [headS, ak0], by simp [headS, ak0]⟩)
  · exact .inr (.inr ⟨by rw [hk]; omega, by rw [hk]; omega, rfl, rfl, rfl⟩)
theorem getS_good : ∀ (f : Nat) (b : List UInt8) (acc : List Sp), (∀ s ∈ acc, ours s) → acc.length ≤ 400 → (∀ s ∈ getS f b acc, ours s) ∧ (getS f b acc).length ≤ 400 ∧ (getS f b acc).length ≤ acc.length + b.length ∧ (0 < b.length → 0 < f → acc.length < 400 → acc.length < (getS f b acc).length) ∧ acc.length ≤ (getS f b acc).length
  | 0, b, acc, h, hl => ⟨h, hl, by unfold getS; omega, fun _ h => absurd h (by omega), Nat.le_refl _⟩
  | f + 1, b, acc, h, hl => by
    unfold getS
    split
    · rename_i h1
      exact ⟨h, hl, by omega, fun a _ c => by omega, Nat.le_refl _⟩
    rename_i h1
    split
    · refine ⟨fun s hs => ?_, by simp; omega, by simp; omega, fun _ _ _ => by simp, by simp⟩
      rcases List.mem_append.1 hs with hs | hs
      · exact h s hs
      · simp at hs; subst hs; exact head_ours b
    · rename_i h2
      obtain ⟨o1, o2⟩ := step_ours (Classical.not_not.1 h2)
      obtain ⟨i1, i2, i3, _, i5⟩ := getS_good f (stepB b).1.b (acc ++ [(stepB b).2]) (fun s hs => by
        rcases List.mem_append.1 hs with hs | hs
        · exact h s hs
        · simp at hs; subst hs; exact o1) (by simp; omega)
      simp only [List.length_append, List.length_singleton] at i3 i5
      exact ⟨i1, i2, by omega, fun _ _ _ => by omega, by omega⟩
theorem getSs_good (b : List UInt8) : (∀ s ∈ getSs b, ours s) ∧ (getSs b).length ≤ 400 ∧ (getSs b).length ≤ b.length ∧ ((getSs b).length = 0 ↔ b.length = 0) := by
  obtain ⟨h1, h2, h3, h4, _⟩ := getS_good b.length b [] (by simp) (by simp)
  simp only [List.length_nil, Nat.zero_add] at h3 h4
  refine ⟨h1, h2, h3, ?_⟩
  have : (getSs b) = getS b.length b [] := rfl
  rw [this]
  constructor
  · intro h
    rcases Nat.eq_zero_or_pos b.length with hb | hb
    · exact hb
    · have := h4 hb hb (by omega); omega
  · intro h; omega
end Go.Proofs.YtfdjbnofcniodaaGreatDoor
