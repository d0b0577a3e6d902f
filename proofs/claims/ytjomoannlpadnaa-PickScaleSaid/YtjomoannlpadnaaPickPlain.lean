/- Plain law: of as many draws as all weigh, each cluster is chosen as often as it weighs. -/
import Derived.Test.YtjomoannlpadnaaPick
namespace Go.Proofs.Ytjomoannlpadnaa
open Go.RowKit

def sumF (g : Nat → Int) (a : Nat) : Nat → Int
  | 0 => 0
  | k + 1 => sumF g a k + g (a + k)
theorem sumF_shift (g : Nat → Int) (a k : Nat) : sumF g (a + 1) k + g a = sumF g a (k + 1) := by
  induction k with
  | zero => simp [sumF]
  | succ k ih => rw [sumF, sumF, ← ih, show a + (k + 1) = a + 1 + k by omega]; omega
theorem sumF_period (g : Nat → Int) (n : Nat) (h : ∀ i, g (i + n) = g i) (m : Nat) : sumF g m n = sumF g 0 n := by
  induction m with
  | zero => rfl
  | succ m ih =>
    have h1 := sumF_shift g m n
    rw [sumF, h m, ih] at h1
    omega
theorem sumF_add (g : Nat → Int) (a x y : Nat) : sumF g a (x + y) = sumF g a x + sumF g (a + x) y := by
  induction y with
  | zero => simp [sumF]
  | succ y ih => rw [← Nat.add_assoc, sumF, ih, sumF, Nat.add_assoc a x y]; omega
theorem sumF_const (g : Nat → Int) (c : Int) (a n : Nat) (h : ∀ i, i < n → g (a + i) = c) : sumF g a n = n * c := by
  induction n with
  | zero => simp [sumF]
  | succ n ih => rw [sumF, ih fun i hi => h i (by omega), h n (by omega), Int.natCast_add, Int.add_mul]; simp
theorem sumF_move (g f : Nat → Int) (a n : Nat) (h : ∀ i, i < n → g (a + i) = f i) : sumF g a n = sumF f 0 n := by
  induction n with
  | zero => rfl
  | succ n ih => rw [sumF, sumF, ih fun i hi => h i (by omega), h n (by omega), Nat.zero_add]

def hitO (s : ByteArray) (o : Option ByteArray) : Int := if ((o.getD ⟨#[]⟩).toList == s.toList) = true then 1 else 0
def wantS (l : List (ByteArray × Int)) (s : ByteArray) : Int := (l.map fun p => if (p.1.toList == s.toList) = true then wt p.2 else 0).sum
theorem wantS_snoc (l : List (ByteArray × Int)) (s : ByteArray) (p : ByteArray × Int) : wantS (l ++ [p]) s = wantS l s + if (p.1.toList == s.toList) = true then wt p.2 else 0 := by simp [wantS]
theorem wantS_bd (l : List (ByteArray × Int)) (s : ByteArray) : 0 ≤ wantS l s ∧ wantS l s ≤ l.length * 100 := by
  induction l with
  | nil => simp [wantS]
  | cons p l ih =>
    have := wt_bd p.2
    have e : wantS (p :: l) s = (if (p.1.toList == s.toList) = true then wt p.2 else 0) + wantS l s := by simp [wantS]
    rw [e, List.length_cons]
    split <;> omega
def hitS (l : List (ByteArray × Int)) (s : ByteArray) (d : Int) : Int := if ((cluS l d).toList == s.toList) = true then 1 else 0
def cntS (l : List (ByteArray × Int)) (s : ByteArray) (m k : Nat) : Int := sumF (fun i => hitS l s (i : Int)) m k
theorem cntS_zero (l : List (ByteArray × Int)) (s : ByteArray) (m : Nat) : cntS l s m 0 = 0 := rfl
theorem cntS_succ (l : List (ByteArray × Int)) (s : ByteArray) (m k : Nat) : cntS l s m (k + 1) = cntS l s m k + if ((cluS l ((m : Int) + (k : Int))).toList == s.toList) = true then 1 else 0 := by
  unfold cntS
  rw [sumF]
  simp only [hitS, Int.natCast_add]
theorem cntS_bd (l : List (ByteArray × Int)) (s : ByteArray) (m k : Nat) : 0 ≤ cntS l s m k ∧ cntS l s m k ≤ k := by
  induction k with
  | zero => simp [cntS_zero]
  | succ k ih => rw [cntS_succ]; split <;> omega

theorem pick_all (s : ByteArray) : ∀ (l : List (ByteArray × Int)) (N : Nat), tot l = N → sumF (fun r => hitO s (pickC l (r : Int))) 0 N = wantS l s := by
  intro l
  induction l with
  | nil => intro N hN; obtain rfl : N = 0 := by simp [tot] at hN; omega
           rfl
  | cons p l ih =>
    intro N hN
    have h1 := wt_bd p.2
    have h2 := (tot_bd l).1
    rw [tot_cons] at hN
    obtain ⟨a, ha⟩ : ∃ a : Nat, wt p.2 = a := ⟨(wt p.2).toNat, by omega⟩
    obtain ⟨c, hc⟩ : ∃ c : Nat, tot l = c := ⟨(tot l).toNat, by omega⟩
    obtain rfl : N = a + c := by omega
    have e : wantS (p :: l) s = (if (p.1.toList == s.toList) = true then wt p.2 else 0) + wantS l s := by simp [wantS]
    rw [sumF_add, e, ← ih c hc]
    congr 1
    · rw [sumF_const _ (hitO s (some p.1)) 0 a]
      · unfold hitO
        simp only [Option.getD_some]
        split <;> simp [ha]
      · intro i hi
        simp only [Nat.zero_add]
        rw [pickC, if_pos (by omega)]
    · refine sumF_move _ _ _ _ fun i hi => ?_
      simp only [Nat.zero_add]
      rw [pickC, if_neg (by simp; omega)]
      congr 2
      simp; omega

theorem clu_of_lt {l : List (ByteArray × Int)} {N : Nat} (hN : tot l = N) (hp : 0 < N) (r : Nat) : clu l (r : Int) = pickC l ((r % N : Nat) : Int) := by
  rw [clu_pos (by omega), Int.max_eq_right (by omega), hN]; rfl
theorem cnt_all {l : List (ByteArray × Int)} (s : ByteArray) (m : Nat) {N : Nat} (hN : tot l = N) (hp : 0 < N) : cntS l s m N = wantS l s := by
  unfold cntS
  rw [sumF_period, ← pick_all s l N hN]
  · refine sumF_move _ _ _ _ fun i hi => ?_
    simp only [Nat.zero_add]
    unfold hitS hitO cluS
    rw [clu_of_lt hN hp, Nat.mod_eq_of_lt hi]
  · intro i
    unfold hitS cluS
    rw [clu_of_lt hN hp, clu_of_lt hN hp, Nat.add_mod_right]
theorem pickC_some : ∀ (l : List (ByteArray × Int)) (d : Int), 0 ≤ d → d < tot l → (pickC l d).isSome = true := by
  intro l
  induction l with
  | nil => intro d h0 h1; simp [tot] at h1; omega
  | cons p l ih =>
    intro d h0 h1
    rw [pickC]
    split
    · rfl
    · exact ih _ (by omega) (by rw [tot_cons] at h1; omega)
theorem cluB_true {l : List (ByteArray × Int)} (h : 0 < tot l) (d : Int) : cluB l d = true := by
  unfold cluB
  rw [clu_pos (by omega)]
  exact pickC_some _ _ (Int.emod_nonneg _ (by omega)) (Int.emod_lt_of_pos _ h)
theorem cluB_false {l : List (ByteArray × Int)} (h : tot l = 0) (d : Int) : cluB l d = false := by
  unfold cluB
  rw [clu_zero h]; rfl
end Go.Proofs.Ytjomoannlpadnaa
