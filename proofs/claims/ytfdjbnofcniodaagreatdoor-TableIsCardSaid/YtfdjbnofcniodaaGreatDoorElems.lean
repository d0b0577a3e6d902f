/- Elements of rows: what each is made of. -/
import Derived.Test.YtfdjbnofcniodaaGreatDoorIndex
import Derived.Test.YtfdjbnofcniodaaGreatDoorGround
namespace Go.Proofs.YtfdjbnofcniodaaGreatDoor
set_option linter.unusedVariables false
open Go.RowKit

theorem size_set (w : World) (p : Addr) (u : Value) : (w.setCell p u).heap.size = w.heap.size := by simp [World.setCell]
theorem flat_k (w : World) (cs : List Value) (t : TypeId) {k : Nat} (h : cs.length = k) : Flat (w.alloc (.cells cs.toArray t)) k (some ⟨w.heap.size, 0, none⟩) 1 cs :=
  ⟨by rw [h, Nat.one_mul], fun _ => ⟨w.heap.size, 0, rfl, by simp, fun j u hu => by
    rw [cell_of_row _ _ _ cs.toArray t (0, 0) (heap_alloc_new w _), Nat.zero_add]; simpa using hu⟩⟩
theorem elem_wt : ElemOk Tryz.prog 109 166 (.agg #[.string ⟨#[]⟩, .int .i64 0]) 2 24 := ElemOk.mk Tryz.underlying109 (by kernel_rfl) rfl (by omega)
theorem elem_rl : ElemOk Tryz.prog 31 111 (.agg #[.string ⟨#[]⟩, .string ⟨#[]⟩, .slice none 0 0]) 3 56 := ElemOk.mk Tryz.underlying31 (by kernel_rfl) rfl (by omega)
theorem elem_int : ElemOk Tryz.prog 32 3 (.int .i64 0) 1 8 := ElemOk.mk Tryz.underlying32 (by kernel_rfl) rfl (by omega)
theorem elem_res : ElemOk Tryz.prog 42 34 (.agg #[.int .i64 0, .string ⟨#[]⟩, .int .i64 0, .int .i64 0, .string ⟨#[]⟩, .slice none 0 0, .slice none 0 0]) 7 104 := ElemOk.mk Tryz.underlying42 (by kernel_rfl) rfl (by omega)
theorem elem_key : ElemOk Tryz.prog 46 38 (.agg #[.int .i64 0, .string ⟨#[]⟩]) 2 24 := ElemOk.mk Tryz.underlying46 (by kernel_rfl) rfl (by omega)
end Go.Proofs.YtfdjbnofcniodaaGreatDoor
