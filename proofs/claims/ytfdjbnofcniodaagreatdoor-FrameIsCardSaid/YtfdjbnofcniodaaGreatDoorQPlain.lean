/- Plain: which resources may be, what is the same, which key comes first. -/
import Derived.Test.YtfdjbnofcniodaaGreatDoorQGround
import Derived.Test.YtfdjbnofcniodaaGreatDoorQNames
namespace Go.Proofs.YtfdjbnofcniodaaGreatDoor
open Lib (hid)
set_option linter.unusedVariables false
def inB (n m : Int) : Bool := decide (0 ≤ n) && decide (n ≤ m)
def wOk (p : ByteArray × Int) : Bool := inB p.2 100
def smallRl (x : Rl) : Bool := decide (x.ws.length ≤ 4) && x.ws.all wOk
def smallR (r : Rs) : Bool := inB r.ver 2147483647 && inB r.port 65535 && decide (r.rules.length ≤ 8) && decide (r.hosts.length ≤ 8) && (r.hosts.all (fun h => inB h 2147483647) && r.rules.all smallRl)
def noPort (r : Rs) : Bool := decide (r.port = 0) || decide (r.kind = 0)
def noTo (r : Rs) : Bool := decide (r.to.size = 0) || decide (r.kind = 0) || decide (r.kind = 2)
def noRules (r : Rs) : Bool := decide (r.rules.length = 0) || decide (r.kind = 1)
def noHosts (r : Rs) : Bool := decide (r.hosts.length = 0) || decide (r.kind = 3)
def shapedR (r : Rs) : Bool := noPort r && noTo r && noRules r && noHosts r
def wNm (p : ByteArray × Int) : Bool := saneN (tx p.1)
def nmRl (x : Rl) : Bool := hostB (tx x.host) && pathB (tx x.pre) && x.ws.all wNm
def namedR (r : Rs) : Bool := (!(decide (r.kind = 0) || decide (r.kind = 2)) || saneN (tx r.to)) && r.rules.all nmRl
def weighsB (x : Rl) : Bool := x.ws.any (fun p => decide (0 < p.2))
def sameHP (x y : Rl) : Bool := decide (tx x.host = tx y.host) && decide (tx x.pre = tx y.pre)
def goFrom {α : Type} (p : List α → α → Bool) : List α → List α → Bool
 | _, [] => true
 | pre, x :: r => p pre x && goFrom p (pre ++ [x]) r
def rlNew (pre : List Rl) (x : Rl) : Bool := weighsB x && !pre.any (fun y => sameHP x y)
def hostNew (pre : List Int) (x : Int) : Bool := !pre.contains x
def singleR (r : Rs) : Bool := goFrom rlNew [] r.rules && goFrom hostNew [] r.hosts
def saneR (r : Rs) : Int :=
 if inB r.kind 3 = false then 4 else if saneN (tx r.name) = false then 5 else if smallR r = false then 3 else if shapedR r = false then 2
 else if namedR r = false then 5 else if singleR r = false then 2 else 0
theorem goFrom_step {α : Type} (p : List α → α → Bool) {l : List α} {k : Nat} {x : α} (h : l[k]? = some x) : goFrom p (l.take k) (l.drop k) = (p (l.take k) x && goFrom p (l.take (k + 1)) (l.drop (k + 1))) := by
 rw [drop_of h, take_snoc_of h]; rfl
theorem goFrom_end {α : Type} (p : List α → α → Bool) {l : List α} {k : Nat} (h : l.length ≤ k) : goFrom p (l.take k) (l.drop k) = true := by
 rw [List.drop_eq_nil_of_le h]; rfl
structure SaneR (r : Rs) : Prop where
 kind : 0 ≤ r.kind ∧ r.kind ≤ 3
 name : saneN (tx r.name) = true
 small : smallR r = true
 shaped : shapedR r = true
 named : namedR r = true
 single : singleR r = true
theorem sane_iff (r : Rs) : saneR r = 0 ↔ SaneR r := by
 unfold saneR
 constructor
 ·intro h
  split at h
  ·cases h
  split at h
  ·cases h
  split at h
  ·cases h
  split at h
  ·cases h
  split at h
  ·cases h
  split at h
  ·cases h
  rename_i h1 h2 h3 h4 h5 h6
  refine ⟨?_, by simpa using h2, by simpa using h3, by simpa using h4, by simpa using h5, by simpa using h6⟩
  simpa [inB] using h1
 ·rintro ⟨h1, h2, h3, h4, h5, h6⟩
  have : inB r.kind 3 = true := by simpa [inB] using h1
  rw [this, h2, h3, h4, h5, h6]
  simp
def cmpK (a b : Ky) : Int := if cmpI a.kind b.kind ≠ 0 then cmpI a.kind b.kind else Lib.compareBytes (tx a.name) (tx b.name)
def alikeR (a b : Rs) : Bool := decide (a.key = b.key) && decide (a.port = b.port) && decide (a.to = b.to) && decide (a.hosts = b.hosts) && decide (a.rules = b.rules)
def sameR (a b : Rs) : Bool := decide (a.ver = b.ver) && alikeR a b
theorem same_iff (a b : Rs) : sameR a b = true ↔ a = b := by
 unfold sameR alikeR Rs.key
 cases a; cases b
 simp
 constructor
 ·rintro ⟨rfl, ⟨⟨⟨⟨rfl, rfl⟩, rfl⟩, rfl⟩, rfl⟩, rfl⟩; simp
 ·rintro ⟨rfl, rfl, rfl, rfl, rfl, rfl, rfl⟩; simp
set_option linter.unusedVariables false
def putW (p : ByteArray × Int) : List UInt8 := encT (tx p.1) ++ enc (bnd p.2)
def putRl (x : Rl) : List UInt8 := encT (tx x.host) ++ (encT (tx x.pre) ++ (enc x.ws.length ++ x.ws.flatMap putW))
def putH (h : Int) : List UInt8 := enc (bnd h)
def putBody (r : Rs) : List UInt8 :=
 if r.kind = 0 then enc (bnd r.port) ++ encT (tx r.to)
 else if r.kind = 1 then enc r.rules.length ++ r.rules.flatMap putRl
 else if r.kind = 2 then encT (tx r.to)
 else enc r.hosts.length ++ r.hosts.flatMap putH
def putR0 (r : Rs) : List UInt8 := enc (bnd r.kind) ++ (encT (tx r.name) ++ (enc (bnd r.ver) ++ putBody r))
def putR (r : Rs) : List UInt8 := if saneR r = 0 then putR0 r else []
def goodK (k : Ky) : Bool := inB k.kind 3 && saneN (tx k.name)
def putK0 (k : Ky) : List UInt8 := enc (bnd k.kind) ++ encT (tx k.name)
def putK (k : Ky) : List UInt8 := if goodK k = true then putK0 k else []
def okR (r : Rs) : Bool := decide (saneR r = 0)
def putAll (l : List Rs) : List UInt8 := enc ((l.filter okR).take 64).length ++ ((l.filter okR).take 64).flatMap putR
def putKeys (l : List Ky) : List UInt8 := enc ((l.filter goodK).take 64).length ++ ((l.filter goodK).take 64).flatMap putK
def takeW : Rd → Rd × (ByteArray × Int) := bindP (fun r => r.txt 12) fun c => bindP (fun r => r.num 100) fun n => pureP (mkS c, (n : Int))
def takeRl : Rd → Rd × Rl := bindP (fun r => r.txt 40) fun h => bindP (fun r => r.txt 40) fun p => bindP (someB takeW 4) fun l => pureP ⟨mkS h, mkS p, l⟩
def takeH : Rd → Rd × Int := bindP (fun r => r.num 2147483647) fun n => pureP (n : Int)
def takeBody (k : Nat) (nm : List UInt8) (v : Nat) : Rd → Rd × Rs :=
 if k = 0 then bindP (fun r => r.num 65535) fun p => bindP (fun r => r.txt 12) fun t => pureP ⟨k, mkS nm, v, p, mkS t, [], []⟩
 else if k = 1 then bindP (someB takeRl 8) fun l => pureP ⟨k, mkS nm, v, 0, ⟨#[]⟩, l, []⟩
 else if k = 2 then bindP (fun r => r.txt 12) fun t => pureP ⟨k, mkS nm, v, 0, mkS t, [], []⟩
 else bindP (someB takeH 8) fun l => pureP ⟨k, mkS nm, v, 0, ⟨#[]⟩, [], l⟩
def takeR0 : Rd → Rd × Rs := bindP (fun r => r.num 3) fun k => bindP (fun r => r.txt 12) fun nm => bindP (fun r => r.num 2147483647) fun v => takeBody k nm v
def takeR : Rd → Rd × Rs := checkP takeR0 saneR rs0
def chkK (k : Ky) : Int := if goodK k = true then 0 else 5
def takeK0 : Rd → Rd × Ky := bindP (fun r => r.num 3) fun k => bindP (fun r => r.txt 12) fun nm => pureP ⟨k, mkS nm⟩
def takeK : Rd → Rd × Ky := checkP takeK0 chkK ky0
def wSm (p : ByteArray × Int) : Prop := (tx p.1).length ≤ 12 ∧ 0 ≤ p.2 ∧ p.2 ≤ 100
theorem bnd_int {x : Int} (h : 0 ≤ x) (h2 : x ≤ 2147483647) : bnd x = x.toNat := by unfold bnd; omega
theorem bnd12 : bnd 12 = 12 := rfl
theorem bnd40 : bnd 40 = 40 := rfl
theorem bnd100 : bnd 100 = 100 := rfl
theorem bnd3 : bnd 3 = 3 := rfl
theorem bnd4 : bnd 4 = 4 := rfl
theorem bnd8 : bnd 8 = 8 := rfl
theorem bnd64 : bnd 64 = 64 := rfl
theorem bnd65535 : bnd 65535 = 65535 := rfl
theorem bndMax : bnd 2147483647 = 2147483647 := rfl
theorem codec_w : Codec takeW putW wSm := by
 have h2 : ∀ c : List UInt8, Codec (bindP (fun r => r.num 100) fun n => pureP (mkS c, (n : Int))) (fun y => enc y.2.toNat ++ []) (fun y : ByteArray × Int => y.2.toNat ≤ bnd 100 ∧ y = (mkS c, (y.2.toNat : Int))) := fun c =>
  Codec.bind (fst := fun y : ByteArray × Int => y.2.toNat) (Codec.num 100) (fun n => Codec.pure (mkS c, (n : Int))) (fun n y e => by rw [e]; simp)
 refine (Codec.bind (fst := fun y : ByteArray × Int => tx y.1) (Codec.txt 12) h2 (fun c y hy => by rw [hy.2]; rfl)).as (fun _ => rfl) (fun y hy => ?_) (fun y => ?_)
 ·obtain ⟨a, b, c⟩ := hy
  unfold putW
  rw [List.append_nil, bnd_int (by rw [c]; simp only []; omega) (by rw [bnd100] at b; omega)]
 ·rw [bnd12, bnd100]
  constructor
  ·rintro ⟨a, b, c⟩
   exact ⟨a, by omega, Prod.ext rfl (by simp only []; omega)⟩
  ·rintro ⟨a, b, c⟩
   refine ⟨a, ?_, ?_⟩
   ·rw [c]; simp only []; omega
   ·omega
def rlSm (x : Rl) : Prop := (tx x.host).length ≤ 40 ∧ (tx x.pre).length ≤ 40 ∧ x.ws.length ≤ 4 ∧ ∀ p ∈ x.ws, wSm p
theorem codec_rl : Codec takeRl putRl rlSm := by
 have h3 : ∀ h p : List UInt8, Codec (bindP (someB takeW 4) fun l => pureP (⟨mkS h, mkS p, l⟩ : Rl)) (fun y => (enc y.ws.length ++ y.ws.flatMap putW) ++ []) (fun y : Rl => (y.ws.length ≤ bnd 4 ∧ ∀ q ∈ y.ws, wSm q) ∧ y = ⟨mkS h, mkS p, y.ws⟩) := fun h p =>
  Codec.bind (fst := Rl.ws) (codec_w.some_ 4) (fun l => Codec.pure (⟨mkS h, mkS p, l⟩ : Rl)) (fun l y e => by rw [e])
 have h2 : ∀ h : List UInt8, Codec (bindP (fun r => r.txt 40) fun p => bindP (someB takeW 4) fun l => pureP (⟨mkS h, mkS p, l⟩ : Rl)) (fun y => encT (tx y.pre) ++ ((enc y.ws.length ++ y.ws.flatMap putW) ++ [])) (fun y : Rl => (tx y.pre).length ≤ bnd 40 ∧ ((y.ws.length ≤ bnd 4 ∧ ∀ q ∈ y.ws, wSm q) ∧ y = ⟨mkS h, mkS (tx y.pre), y.ws⟩)) := fun h =>
  Codec.bind (fst := fun y : Rl => tx y.pre) (Codec.txt 40) (fun p => h3 h p) (fun p y e => by rw [e.2]; rfl)
 refine (Codec.bind (fst := fun y : Rl => tx y.host) (Codec.txt 40) h2 (fun p y e => by rw [e.2.2]; rfl)).as (fun _ => rfl) (fun y hy => ?_) (fun y => ?_)
 ·unfold putRl; rw [List.append_nil]
 ·rw [bnd40, bnd4]
  exact ⟨fun ⟨a, b, c, d⟩ => ⟨a, b, ⟨c, d⟩, rfl⟩, fun ⟨a, b, ⟨c, d⟩, _⟩ => ⟨a, b, c, d⟩⟩
theorem codec_h : Codec takeH putH (fun h => 0 ≤ h ∧ h ≤ 2147483647) := by
 refine (Codec.bind (fst := fun y : Int => y.toNat) (Codec.num 2147483647) (fun n => Codec.pure (n : Int)) (fun n y e => by rw [e]; simp)).as (fun _ => rfl) (fun y hy => ?_) (fun y => ?_)
 ·obtain ⟨a, b⟩ := hy
  rw [bndMax] at a
  unfold putH
  rw [List.append_nil, bnd_int (by omega) (by omega)]
 ·rw [bndMax]; exact ⟨fun ⟨a, b⟩ => ⟨by omega, by omega⟩, fun ⟨a, b⟩ => ⟨by omega, by omega⟩⟩
def bodyOk (y : Rs) : Prop :=
 (y.kind = 0 ∧ (0 ≤ y.port ∧ y.port ≤ 65535) ∧ (tx y.to).length ≤ 12 ∧ y.rules = [] ∧ y.hosts = []) ∨
 (y.kind = 1 ∧ y.port = 0 ∧ y.to = ⟨#[]⟩ ∧ (y.rules.length ≤ 8 ∧ ∀ x ∈ y.rules, rlSm x) ∧ y.hosts = []) ∨
 (y.kind = 2 ∧ y.port = 0 ∧ (tx y.to).length ≤ 12 ∧ y.rules = [] ∧ y.hosts = []) ∨
 (y.kind = 3 ∧ y.port = 0 ∧ y.to = ⟨#[]⟩ ∧ y.rules = [] ∧ (y.hosts.length ≤ 8 ∧ ∀ h ∈ y.hosts, 0 ≤ h ∧ h ≤ 2147483647))
def rOk (y : Rs) : Prop := (0 ≤ y.ver ∧ y.ver ≤ 2147483647) ∧ (tx y.name).length ≤ 12 ∧ bodyOk y
theorem codec_body (k : Nat) (nm : List UInt8) (v : Nat) (hk : k ≤ 3) : Codec (takeBody k nm v) putBody (fun y => bodyOk y ∧ y.kind = k ∧ y.name = mkS nm ∧ y.ver = v) := by
 unfold takeBody
 have hk4 : k = 0 ∨ k = 1 ∨ k = 2 ∨ k = 3 := by omega
 rcases hk4 with rfl | rfl | rfl | rfl
 ·rw [if_pos rfl]
  have h2 : ∀ p : Nat, Codec (bindP (fun r => r.txt 12) fun t => pureP (⟨(0 : Nat), mkS nm, v, p, mkS t, [], []⟩ : Rs)) (fun y => encT (tx y.to) ++ []) (fun y : Rs => (tx y.to).length ≤ bnd 12 ∧ y = ⟨(0 : Nat), mkS nm, v, p, mkS (tx y.to), [], []⟩) := fun p =>
   Codec.bind (fst := fun y : Rs => tx y.to) (Codec.txt 12) (fun t => Codec.pure (⟨(0 : Nat), mkS nm, v, p, mkS t, [], []⟩ : Rs)) (fun t y e => by rw [e]; rfl)
  refine (Codec.bind (fst := fun y : Rs => y.port.toNat) (Codec.num 65535) h2 (fun p y e => by rw [e.2]; simp)).as (fun _ => rfl) (fun y hy => ?_) (fun y => ?_)
  ·obtain ⟨a, b, c⟩ := hy
   rw [bnd65535] at a
   have hk0 : y.kind = 0 := by rw [c]; rfl
   have hp0 : 0 ≤ y.port := by rw [c]; simp only []; omega
   unfold putBody
   rw [if_pos hk0, List.append_nil, bnd_int hp0 (by omega)]
  ·rw [bnd65535, bnd12]
   constructor
   ·rintro ⟨h1, h2, h3, h4⟩
    rcases h1 with ⟨a, b, c, d, e⟩ | ⟨a, _⟩ | ⟨a, _⟩ | ⟨a, _⟩
    ·refine ⟨by omega, c, ?_⟩
     cases y; simp only at *
     subst d e h3 h4 h2
     simp only [Rs.mk.injEq, true_and, and_true]
     exact ⟨by omega, rfl⟩
    all_goals (rw [a] at h2; omega)
   ·rintro ⟨a, b, c⟩
    have hp0 : 0 ≤ y.port := by rw [c]; simp only []; omega
    exact ⟨.inl ⟨by rw [c]; rfl, ⟨hp0, by omega⟩, b, by rw [c], by rw [c]⟩, by rw [c], by rw [c], by rw [c]⟩
 ·rw [if_neg (by decide), if_pos rfl]
  refine (Codec.bind (fst := Rs.rules) (codec_rl.some_ 8) (fun l => Codec.pure (⟨(1 : Nat), mkS nm, v, 0, ⟨#[]⟩, l, []⟩ : Rs)) (fun l y e => by rw [e])).as (fun _ => rfl) (fun y hy => ?_) (fun y => ?_)
  ·have hk0 : y.kind = 1 := by rw [hy.2]; rfl
   unfold putBody
   rw [if_neg (by omega), if_pos hk0, List.append_nil]
  ·rw [bnd8]
   constructor
   ·rintro ⟨h1, h2, h3, h4⟩
    rcases h1 with ⟨a, _⟩ | ⟨a, b, c, d, e⟩ | ⟨a, _⟩ | ⟨a, _⟩
    ·rw [a] at h2; omega
    ·refine ⟨d, ?_⟩
     cases y; simp only at *
     subst b c e h3 h4 h2
     rfl
    all_goals (rw [a] at h2; omega)
   ·rintro ⟨a, c⟩
    exact ⟨.inr (.inl ⟨by rw [c]; rfl, by rw [c], by rw [c], a, by rw [c]⟩), by rw [c], by rw [c], by rw [c]⟩
 ·rw [if_neg (by decide), if_neg (by decide), if_pos rfl]
  refine (Codec.bind (fst := fun y : Rs => tx y.to) (Codec.txt 12) (fun t => Codec.pure (⟨(2 : Nat), mkS nm, v, 0, mkS t, [], []⟩ : Rs)) (fun t y e => by rw [e]; rfl)).as (fun _ => rfl) (fun y hy => ?_) (fun y => ?_)
  ·have hk0 : y.kind = 2 := by rw [hy.2]; rfl
   unfold putBody
   rw [if_neg (by omega), if_neg (by omega), if_pos hk0, List.append_nil]
  ·rw [bnd12]
   constructor
   ·rintro ⟨h1, h2, h3, h4⟩
    rcases h1 with ⟨a, _⟩ | ⟨a, _⟩ | ⟨a, b, c, d, e⟩ | ⟨a, _⟩
    ·rw [a] at h2; omega
    ·rw [a] at h2; omega
    ·refine ⟨c, ?_⟩
     cases y; simp only at *
     subst b d e h3 h4 h2
     rfl
    ·rw [a] at h2; omega
   ·rintro ⟨a, c⟩
    exact ⟨.inr (.inr (.inl ⟨by rw [c]; rfl, by rw [c], a, by rw [c], by rw [c]⟩)), by rw [c], by rw [c], by rw [c]⟩
 ·rw [if_neg (by decide), if_neg (by decide), if_neg (by decide)]
  refine (Codec.bind (fst := Rs.hosts) (codec_h.some_ 8) (fun l => Codec.pure (⟨(3 : Nat), mkS nm, v, 0, ⟨#[]⟩, [], l⟩ : Rs)) (fun l y e => by rw [e])).as (fun _ => rfl) (fun y hy => ?_) (fun y => ?_)
  ·have hk0 : y.kind = 3 := by rw [hy.2]; rfl
   unfold putBody
   rw [if_neg (by omega), if_neg (by omega), if_neg (by omega), List.append_nil]
  ·rw [bnd8]
   constructor
   ·rintro ⟨h1, h2, h3, h4⟩
    rcases h1 with ⟨a, _⟩ | ⟨a, _⟩ | ⟨a, _⟩ | ⟨a, b, c, d, e⟩
    ·rw [a] at h2; omega
    ·rw [a] at h2; omega
    ·rw [a] at h2; omega
    ·refine ⟨e, ?_⟩
     cases y; simp only at *
     subst b c d h3 h4 h2
     rfl
   ·rintro ⟨a, c⟩
    exact ⟨.inr (.inr (.inr ⟨by rw [c]; rfl, by rw [c], by rw [c], by rw [c], a⟩)), by rw [c], by rw [c], by rw [c]⟩
theorem Codec.bindB {α β : Type} {t1 : Rd → Rd × α} {t2 : α → Rd → Rd × β} {p1 : α → List UInt8} {p2 : α → β → List UInt8} {ok1 : α → Prop} {ok2 : α → β → Prop} {fst : β → α}
  (h1 : Codec t1 p1 ok1) (herr : ∀ x r, r.e ≠ 0 → (t2 x r).1 = r) (h2 : ∀ x, ok1 x → Codec (t2 x) (p2 x) (ok2 x)) (hf : ∀ x y, ok2 x y → fst y = x) :
  Codec (bindP t1 t2) (fun y => p1 (fst y) ++ p2 (fst y) y) (fun y => ok1 (fst y) ∧ ok2 (fst y) y) := by
 refine ⟨fun y rest ⟨a, b⟩ => ?_, fun b hb => ?_, fun y j ⟨a, b⟩ hj => ?_, fun r hr => ?_⟩
 ·unfold bindP
  rw [List.append_assoc, h1.back _ _ a]
  exact (h2 _ a).back _ _ b
 ·unfold bindP at hb ⊢
  by_cases he : (t1 ⟨b, 0⟩).1.e = 0
  ·obtain ⟨a1, a2⟩ := h1.once b he
   rw [rd_zero he] at hb ⊢
   obtain ⟨b1, b2⟩ := (h2 (t1 ⟨b, 0⟩).2 a1).once _ hb
   have hfx := hf _ _ b1
   refine ⟨by rw [hfx]; exact ⟨a1, b1⟩, ?_⟩
   rw [hfx, List.append_assoc, ← b2]
   exact a2
  ·rw [herr _ _ he] at hb
   exact absurd hb he
 ·unfold bindP
  rcases Nat.lt_or_ge j (p1 (fst y)).length with hlt | hge
  ·have hs := h1.short _ j a hlt
   have ht : (p1 (fst y) ++ p2 (fst y) y).take j = (p1 (fst y)).take j := by rw [List.take_append_of_le_length (by omega)]
   rw [ht, herr _ _ (by rw [hs]; decide)]
   exact hs
  ·have ht : (p1 (fst y) ++ p2 (fst y) y).take j = p1 (fst y) ++ (p2 (fst y) y).take (j - (p1 (fst y)).length) := by
    rw [List.take_append, List.take_of_length_le hge]
   rw [ht, h1.back _ _ a]
   have hj' : j < (p1 (fst y) ++ p2 (fst y) y).length := hj
   rw [List.length_append] at hj'
   refine (h2 _ a).short _ _ b ?_
   show _ < (p2 (fst y) y).length
   omega
 ·unfold bindP
  have e1 := h1.err r hr
  rw [herr _ _ (by rw [e1]; exact hr), e1]
theorem takeBody_err (k : Nat) (nm : List UInt8) (v : Nat) (r : Rd) (h : r.e ≠ 0) : (takeBody k nm v r).1 = r := by
 rcases Nat.lt_or_ge 3 k with hk | hk
 ·have : takeBody k nm v = bindP (someB takeH 8) fun l => pureP ⟨k, mkS nm, v, 0, ⟨#[]⟩, [], l⟩ := by
   unfold takeBody; rw [if_neg (by omega), if_neg (by omega), if_neg (by omega)]
  rw [this]; unfold bindP pureP; exact (codec_h.some_ 8).err r h
 ·exact (codec_body k nm v hk).err r h
theorem codec_r0 : Codec takeR0 putR0 rOk := by
 have h3 : ∀ k : Nat, k ≤ bnd 3 → ∀ nm : List UInt8, Codec (bindP (fun r => r.num 2147483647) fun v => takeBody k nm v) (fun y => enc y.ver.toNat ++ putBody y) (fun y => y.ver.toNat ≤ bnd 2147483647 ∧ (bodyOk y ∧ y.kind = k ∧ y.name = mkS nm ∧ y.ver = (y.ver.toNat : Int))) := fun k hk nm =>
  Codec.bind (fst := fun y : Rs => y.ver.toNat) (Codec.num 2147483647) (fun v => codec_body k nm v hk) (fun v y e => by rw [e.2.2.2]; simp)
 have h2 : ∀ k : Nat, k ≤ bnd 3 → Codec (bindP (fun r => r.txt 12) fun nm => bindP (fun r => r.num 2147483647) fun v => takeBody k nm v) (fun y => encT (tx y.name) ++ (enc y.ver.toNat ++ putBody y)) (fun y => (tx y.name).length ≤ bnd 12 ∧ (y.ver.toNat ≤ bnd 2147483647 ∧ (bodyOk y ∧ y.kind = k ∧ y.name = mkS (tx y.name) ∧ y.ver = (y.ver.toNat : Int)))) := fun k hk =>
  Codec.bind (fst := fun y : Rs => tx y.name) (Codec.txt 12) (h3 k hk) (fun nm y e => by rw [e.2.2.2.1]; rfl)
 have herr : ∀ (k : Nat) (r : Rd), r.e ≠ 0 → (bindP (fun r => r.txt 12) (fun nm => bindP (fun r => r.num 2147483647) fun v => takeBody k nm v) r).1 = r := fun k r hr => by
  unfold bindP
  simp only []
  rw [Rd.txt_err hr, Rd.num_err hr]
  exact takeBody_err _ _ _ _ hr
 refine (Codec.bindB (fst := fun y : Rs => y.kind.toNat) (Codec.num 3) herr h2 (fun k y e => by rw [e.2.2.2.1]; simp)).as (fun _ => rfl) (fun y hy => ?_) (fun y => ?_)
 ·obtain ⟨a, b, c, d, e, f, g⟩ := hy
  rw [bnd3] at a
  rw [bndMax] at c
  unfold putR0
  rw [bnd_int (x := y.kind) (by omega) (by omega), bnd_int (x := y.ver) (by omega) (by omega)]
 ·rw [bnd3, bnd12, bndMax]
  constructor
  ·rintro ⟨⟨a, b⟩, c, d⟩
   have hk : 0 ≤ y.kind ∧ y.kind ≤ 3 := by rcases d with ⟨e, _⟩ | ⟨e, _⟩ | ⟨e, _⟩ | ⟨e, _⟩ <;> omega
   exact ⟨by omega, c, by omega, d, by omega, rfl, by omega⟩
  ·rintro ⟨a, b, c, d, e, f, g⟩
   exact ⟨⟨by omega, by omega⟩, b, d⟩
theorem tx_nil {s : ByteArray} (h : s.size = 0) : s = ⟨#[]⟩ := by
 apply ByteArray.ext
 apply Array.eq_empty_of_size_eq_zero
 exact h
theorem hostB_len {l : List UInt8} (h : hostB l = true) : l.length ≤ 40 := by unfold hostB at h; simp only [Bool.and_eq_true, decide_eq_true_eq] at h; exact h.1
theorem pathB_len {l : List UInt8} (h : pathB l = true) : l.length ≤ 40 := by unfold pathB at h; simp only [Bool.and_eq_true, decide_eq_true_eq] at h; exact h.1.2
theorem sane_rOk {r : Rs} (h : saneR r = 0) : rOk r := by
 obtain ⟨hk, hn, hs, hh, hm, hi⟩ := (sane_iff r).1 h
 unfold smallR inB at hs
 simp only [Bool.and_eq_true, decide_eq_true_eq, List.all_eq_true] at hs
 obtain ⟨⟨⟨⟨⟨v0, v1⟩, p0, p1⟩, l1⟩, l2⟩, a1, a2⟩ := hs
 unfold shapedR noPort noTo noRules noHosts at hh
 simp only [Bool.and_eq_true, Bool.or_eq_true, decide_eq_true_eq] at hh
 obtain ⟨⟨⟨s1, s2⟩, s3⟩, s4⟩ := hh
 unfold namedR at hm
 simp only [Bool.and_eq_true, Bool.or_eq_true, Bool.not_eq_true', List.all_eq_true, Bool.or_eq_false_iff, decide_eq_false_iff_not] at hm
 obtain ⟨m1, m2⟩ := hm
 have hrl : ∀ x ∈ r.rules, rlSm x := fun x hx => by
  have h1 := a2 x hx
  have h2 := m2 x hx
  unfold smallRl wOk inB at h1
  simp only [Bool.and_eq_true, decide_eq_true_eq, List.all_eq_true] at h1
  unfold nmRl at h2
  simp only [Bool.and_eq_true, List.all_eq_true] at h2
  refine ⟨hostB_len h2.1.1, pathB_len h2.1.2, h1.1, fun p hp => ⟨(sane_len (h2.2 p hp)).2, h1.2 p hp⟩⟩
 refine ⟨⟨v0, v1⟩, (sane_len hn).2, ?_⟩
 have hk4 : r.kind = 0 ∨ r.kind = 1 ∨ r.kind = 2 ∨ r.kind = 3 := by omega
 rcases hk4 with e | e | e | e
 ·refine .inl ⟨e, ⟨p0, p1⟩, ?_, List.eq_nil_of_length_eq_zero (by omega), List.eq_nil_of_length_eq_zero (by omega)⟩
  rcases m1 with m1 | m1
  ·exact absurd e m1.1
  ·exact (sane_len m1).2
 ·exact .inr (.inl ⟨e, by omega, tx_nil (by omega), ⟨l1, hrl⟩, List.eq_nil_of_length_eq_zero (by omega)⟩)
 ·refine .inr (.inr (.inl ⟨e, by omega, ?_, List.eq_nil_of_length_eq_zero (by omega), List.eq_nil_of_length_eq_zero (by omega)⟩))
  rcases m1 with m1 | m1
  ·exact absurd e m1.2
  ·exact (sane_len m1).2
 ·exact .inr (.inr (.inr ⟨e, by omega, tx_nil (by omega), List.eq_nil_of_length_eq_zero (by omega), ⟨l2, fun h hh => a1 h hh⟩⟩))
theorem codec_r : Codec takeR putR (fun r => saneR r = 0) :=
 (codec_r0.check saneR rs0).as (fun _ => rfl) (fun x hx => by unfold putR; rw [if_pos hx.2]) (fun x => ⟨fun h => ⟨sane_rOk h, h⟩, fun h => h.2⟩)
theorem good_iff (k : Ky) : goodK k = true ↔ (0 ≤ k.kind ∧ k.kind ≤ 3) ∧ saneN (tx k.name) = true := by
 unfold goodK inB; simp
theorem codec_k : Codec takeK putK (fun k => goodK k = true) := by
 have h2 : ∀ k : Nat, Codec (bindP (fun r => r.txt 12) fun nm => pureP (⟨k, mkS nm⟩ : Ky)) (fun y => encT (tx y.name) ++ []) (fun y : Ky => (tx y.name).length ≤ bnd 12 ∧ y = ⟨k, mkS (tx y.name)⟩) := fun k =>
  Codec.bind (fst := fun y : Ky => tx y.name) (Codec.txt 12) (fun nm => Codec.pure (⟨k, mkS nm⟩ : Ky)) (fun nm y e => by rw [e]; rfl)
 have h0 := Codec.bind (fst := fun y : Ky => y.kind.toNat) (Codec.num 3) h2 (fun k y e => by rw [e.2]; simp)
 refine (h0.check chkK ky0).as (fun _ => rfl) (fun x hx => ?_) (fun x => ?_)
 ·obtain ⟨⟨a, b, c⟩, d⟩ := hx
  have hg : goodK x = true := by
   unfold chkK at d; by_cases h : goodK x = true
   ·exact h
   ·rw [if_neg h] at d; cases d
  have hk := (good_iff x).1 hg
  unfold putK putK0
  rw [if_pos hg, List.append_nil, bnd_int hk.1.1 (by omega)]
 ·rw [bnd3, bnd12]
  constructor
  ·intro hg
   have hk := (good_iff x).1 hg
   refine ⟨⟨by omega, (sane_len hk.2).2, ?_⟩, by unfold chkK; rw [if_pos hg]⟩
   cases x
   simp only [Ky.mk.injEq]
   simp only at hk
   exact ⟨by omega, rfl⟩
  ·rintro ⟨_, d⟩
   unfold chkK at d; by_cases h : goodK x = true
   ·exact h
   ·rw [if_neg h] at d; cases d
theorem codec_all : Codec (someB takeR 64) (fun l => enc l.length ++ l.flatMap putR) (fun l => l.length ≤ 64 ∧ ∀ x ∈ l, saneR x = 0) := codec_r.some_ 64
theorem codec_keys : Codec (someB takeK 64) (fun l => enc l.length ++ l.flatMap putK) (fun l => l.length ≤ 64 ∧ ∀ x ∈ l, goodK x = true) := codec_k.some_ 64
theorem encT_len (s : List UInt8) : (encT s).length ≤ s.length + 5 := by unfold encT; rw [List.length_append]; have := enc_len s.length; omega
theorem flatMap_len {α : Type} (f : α → List UInt8) (M : Nat) : ∀ (l : List α), (∀ x ∈ l, (f x).length ≤ M) → (l.flatMap f).length ≤ l.length * M
 | [], _ => by simp
 | x :: l, h => by
  have h1 := h x (by simp)
  have h2 := flatMap_len f M l (fun y hy => h y (List.mem_cons_of_mem _ hy))
  rw [List.flatMap_cons, List.length_append, List.length_cons, Nat.succ_mul]
  omega
theorem putW_len {p : ByteArray × Int} (h : wSm p) : (putW p).length ≤ 22 := by
 unfold putW; rw [List.length_append]
 have h1 := encT_len (tx p.1); have h2 := enc_len (bnd p.2); have := h.1; omega
theorem putRl_len {x : Rl} (h : rlSm x) : (putRl x).length ≤ 183 := by
 obtain ⟨a, b, c, d⟩ := h
 unfold putRl
 simp only [List.length_append]
 have h1 := encT_len (tx x.host); have h2 := encT_len (tx x.pre); have h3 := enc_len x.ws.length
 have h4 := flatMap_len putW 22 x.ws (fun p hp => putW_len (d p hp))
 have : x.ws.length * 22 ≤ 88 := by omega
 omega
theorem putR_len (r : Rs) : (putR r).length ≤ 1600 := by
 unfold putR
 split
 ·rename_i h
  obtain ⟨⟨v0, v1⟩, n, hb⟩ := sane_rOk h
  unfold putR0
  simp only [List.length_append]
  have h1 := enc_len (bnd r.kind); have h2 := encT_len (tx r.name); have h3 := enc_len (bnd r.ver)
  have hB : (putBody r).length ≤ 1550 := by
   unfold putBody
   rcases hb with ⟨e, _, t, _⟩ | ⟨e, _, _, ⟨l, hl⟩, _⟩ | ⟨e, _, t, _⟩ | ⟨e, _, _, _, l, hl⟩
   ·rw [if_pos e, List.length_append]
    have := enc_len (bnd r.port); have := encT_len (tx r.to); omega
   ·rw [if_neg (by omega), if_pos e, List.length_append]
    have := enc_len r.rules.length
    have h4 := flatMap_len putRl 183 r.rules (fun x hx => putRl_len (hl x hx))
    have : r.rules.length * 183 ≤ 1464 := by omega
    omega
   ·rw [if_neg (by omega), if_neg (by omega), if_pos e]
    have := encT_len (tx r.to); omega
   ·rw [if_neg (by omega), if_neg (by omega), if_neg (by omega), List.length_append]
    have := enc_len r.hosts.length
    have h4 := flatMap_len putH 5 r.hosts (fun x hx => enc_len _)
    have : r.hosts.length * 5 ≤ 40 := by omega
    omega
  omega
 ·simp
theorem putK_len (k : Ky) : (putK k).length ≤ 22 := by
 unfold putK
 split
 ·rename_i h
  have hk := (good_iff k).1 h
  unfold putK0; rw [List.length_append]
  have h1 := enc_len (bnd k.kind); have h2 := encT_len (tx k.name); have := (sane_len hk.2).2; omega
 ·simp
theorem putAll_len (l : List Rs) : (putAll l).length ≤ 102405 := by
 unfold putAll
 rw [List.length_append]
 have h1 := enc_len ((l.filter okR).take 64).length
 have h2 := flatMap_len putR 1600 ((l.filter okR).take 64) (fun x _ => putR_len x)
 have h3 : ((l.filter okR).take 64).length ≤ 64 := by rw [List.length_take]; omega
 have : ((l.filter okR).take 64).length * 1600 ≤ 102400 := by omega
 omega
theorem putKeys_len (l : List Ky) : (putKeys l).length ≤ 1413 := by
 unfold putKeys
 rw [List.length_append]
 have h1 := enc_len ((l.filter goodK).take 64).length
 have h2 := flatMap_len putK 22 ((l.filter goodK).take 64) (fun x _ => putK_len x)
 have h3 : ((l.filter goodK).take 64).length ≤ 64 := by rw [List.length_take]; omega
 have : ((l.filter goodK).take 64).length * 22 ≤ 1408 := by omega
 omega
set_option linter.unusedVariables false
def Shrinks {α : Type} (t : Rd → Rd × α) : Prop := ∀ r : Rd, (t r).1.b.length ≤ r.b.length
theorem Shrinks.num (lim : Int) : Shrinks (fun r => r.num lim) := fun r => by
 simp only []
 unfold Rd.num
 split
 ·exact Nat.le_refl _
 ·split
  ·exact Nat.le_refl _
  ·split
   ·exact Nat.le_refl _
   ·simp only [List.length_drop]; omega
theorem Shrinks.txt (lim : Int) : Shrinks (fun r => r.txt lim) := fun r => by
 have h := Shrinks.num lim r
 simp only [] at h ⊢
 unfold Rd.txt
 split
 ·exact h
 ·split
  ·exact h
  ·simp only [List.length_drop]; omega
theorem Shrinks.pure {α : Type} (v : α) : Shrinks (pureP v) := fun r => Nat.le_refl _
theorem Shrinks.bind {α β : Type} {t1 : Rd → Rd × α} {t2 : α → Rd → Rd × β} (h1 : Shrinks t1) (h2 : ∀ x, Shrinks (t2 x)) : Shrinks (bindP t1 t2) := fun r => Nat.le_trans (h2 _ _) (h1 r)
theorem Shrinks.check {α : Type} {t : Rd → Rd × α} (h : Shrinks t) (chk : α → Int) (z : α) : Shrinks (checkP t chk z) := fun r => by
 have := h r
 unfold checkP
 split
 ·split
  ·exact this
  ·exact this
 ·exact this
theorem Shrinks.someL {α : Type} {t : Rd → Rd × α} (h : Shrinks t) : ∀ (n : Nat) (r : Rd) (acc : List α), (someL t n r acc).1.b.length ≤ r.b.length
 | 0, r, acc => Nat.le_refl _
 | n + 1, r, acc => by
  unfold Proofs.YtfdjbnofcniodaaGreatDoor.someL
  split
  ·exact h r
  ·exact Nat.le_trans (Shrinks.someL h n _ _) (h r)
theorem Shrinks.some_ {α : Type} {t : Rd → Rd × α} (h : Shrinks t) (most : Int) : Shrinks (someB t most) := fun r => Nat.le_trans (Shrinks.someL h _ _ _) (Shrinks.num most r)
theorem someL_zero {α : Type} {t : Rd → Rd × α} (herr : ∀ r : Rd, r.e ≠ 0 → (t r).1 = r) : ∀ (n : Nat) (r : Rd) (acc : List α), 0 < n ∨ acc = [] → (someL t n r acc).1.e ≠ 0 → (someL t n r acc).2 = []
 | 0, r, acc, h, he => by rcases h with h | h; omega; exact h
 | n + 1, r, acc, _, he => by
  unfold someL at he ⊢
  split
  ·rfl
  ·rename_i h0
   rw [if_neg h0] at he
   rcases Nat.eq_zero_or_pos n with hn | hn
   ·subst hn; exact absurd he h0
   ·exact someL_zero herr n _ _ (.inl hn) he
theorem filter_all {α : Type} {p : α → Bool} {l : List α} (h : ∀ x ∈ l, p x = true) : l.filter p = l := List.filter_eq_self.2 h
theorem putAll_of {l : List Rs} (hl : l.length ≤ 64) (h : ∀ x ∈ l, saneR x = 0) : putAll l = enc l.length ++ l.flatMap putR := by
 unfold putAll
 rw [filter_all (p := okR) (fun x hx => by unfold okR; exact decide_eq_true (h x hx)), List.take_of_length_le hl]
theorem putKeys_of {l : List Ky} (hl : l.length ≤ 64) (h : ∀ x ∈ l, goodK x = true) : putKeys l = enc l.length ++ l.flatMap putK := by
 unfold putKeys
 rw [filter_all h, List.take_of_length_le hl]
def clE (nm : ByteArray) : Rs := ⟨2, nm, 0, 0, ⟨#[101]⟩, [], []⟩
set_option linter.unusedVariables false
open Go.RowKit
open Go.Lib
theorem u8_lt {a b : UInt8} : a < b ↔ a.toNat < b.toNat := UInt8.lt_iff_toNat_lt
theorem cb_range (a b : List UInt8) : compareBytes a b = -1 ∨ compareBytes a b = 0 ∨ compareBytes a b = 1 := by
 induction a generalizing b with
 | nil => cases b <;> simp [compareBytes]
 | cons x a ih =>
  cases b with
  | nil => simp [compareBytes]
  | cons y b => unfold compareBytes; split
                ·exact .inl rfl
                ·split
                 ·exact .inr (.inr rfl)
                 ·exact ih b
theorem cb_anti (a b : List UInt8) : compareBytes a b = - compareBytes b a := by
 induction a generalizing b with
 | nil => cases b <;> simp [compareBytes]
 | cons x a ih =>
  cases b with
  | nil => simp [compareBytes]
  | cons y b =>
   unfold compareBytes
   by_cases h1 : x < y
   ·have h2 : ¬ y < x := by rw [u8_lt] at h1 ⊢; omega
    simp [h1, h2]
   ·by_cases h2 : y < x
    ·simp [h1, h2]
    ·simp only [h1, h2, if_false]; exact ih b
theorem cb_zero {a b : List UInt8} : compareBytes a b = 0 ↔ a = b := by
 induction a generalizing b with
 | nil => cases b <;> simp [compareBytes]
 | cons x a ih =>
  cases b with
  | nil => simp [compareBytes]
  | cons y b =>
   unfold compareBytes
   by_cases h1 : x < y
   ·have : x ≠ y := by rintro rfl; rw [u8_lt] at h1; omega
    simp [h1, this]
   ·by_cases h2 : y < x
    ·have : x ≠ y := by rintro rfl; rw [u8_lt] at h2; omega
     simp [h1, h2, this]
    ·have : x = y := by rw [u8_lt] at h1 h2; exact UInt8.toNat_inj.1 (by omega)
     rw [if_neg h1, if_neg h2, List.cons.injEq]; simp only [this, true_and]; exact ih
theorem cb_trans {a b c : List UInt8} (h1 : compareBytes a b ≤ 0) (h2 : compareBytes b c ≤ 0) : compareBytes a c ≤ 0 := by
 induction a generalizing b c with
 | nil => cases c <;> simp [compareBytes]
 | cons x a ih =>
  cases b with
  | nil => simp [compareBytes] at h1
  | cons y b =>
   cases c with
   | nil => simp [compareBytes] at h2
   | cons z c =>
    unfold compareBytes at h1 h2 ⊢
    simp only [u8_lt] at h1 h2 ⊢
    by_cases p1 : x.toNat < y.toNat
    ·by_cases p2 : y.toNat < z.toNat
     ·rw [if_pos (by omega)]; decide
     ·rw [if_neg p2] at h2
      by_cases p3 : z.toNat < y.toNat
      ·rw [if_pos p3] at h2; omega
      ·rw [if_pos (by omega)]; decide
    ·rw [if_neg p1] at h1
     by_cases p1' : y.toNat < x.toNat
     ·rw [if_pos p1'] at h1; omega
     ·rw [if_neg p1'] at h1
      by_cases p2 : y.toNat < z.toNat
      ·rw [if_pos (by omega)]; decide
      ·rw [if_neg p2] at h2
       by_cases p3 : z.toNat < y.toNat
       ·rw [if_pos p3] at h2; omega
       ·rw [if_neg p3] at h2
        rw [if_neg (by omega), if_neg (by omega)]
        exact ih h1 h2
end Go.Proofs.YtfdjbnofcniodaaGreatDoor
