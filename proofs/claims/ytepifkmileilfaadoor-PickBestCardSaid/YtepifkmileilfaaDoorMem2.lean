/- More on memory, over whatever program: one new cell, bytes behind an owned row. -/
import Derived.Test.YtepifkmileilfaaDoorMem
namespace Go.Proofs.YtepifkmileilfaaDoor
open Go.RowKit

/-- one new cell in a block of its own -/
theorem flat_one (w : World) (v : Value) (t : TypeId) : Flat (w.alloc (.cells #[v] t)) 1 (some ⟨w.heap.size, 0, none⟩) 1 [v] :=
  ⟨rfl, fun _ => ⟨w.heap.size, 0, rfl, by simp, fun j u hu => by
    have := cell_one_new w v t j u hu
    rw [← this]
    congr 1
    unfold Addr.add
    split <;> simp_all⟩⟩
theorem byteV_ofNat {n : Nat} (h : n < 256) : byteV (UInt8.ofNat n) = .int .u8 (n : Int) := by
  unfold byteV
  rw [UInt8.toNat_ofNat', Nat.mod_eq_of_lt (by omega)]
/-- an owned row of bytes, read -/
theorem own_byts {w : World} {base n : Nat} {e : TypeId} {v : Value} {bs : List UInt8} (h : w.ownsRow base e 1 v n (bs.map byteV)) : ∃ A c, v = .slice A n c ∧ n ≤ c ∧ c ≤ maxLen ∧ (A = none → c = 0) ∧ Byts w A n bs ∧ (∀ b o, A = some ⟨b, o, none⟩ → base ≤ b) := by
  have hlt := h.lt
  obtain ⟨A, c, rfl, hn, hm, hA, hf⟩ := own_flat h
  exact ⟨A, c, rfl, hn, hm, hA, hf.byts, fun b o e => by subst e; exact (hlt b rfl).1⟩
end Go.Proofs.YtepifkmileilfaaDoor
