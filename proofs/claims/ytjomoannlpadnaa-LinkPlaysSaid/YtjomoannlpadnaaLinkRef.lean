/- What the reference's functions on links compute: Sane, sane. (Printed by mk_linkref.py out of the program's walks.) -/
import Derived.Test.YtjomoannlpadnaaLinkOrder
namespace Go.Proofs.Ytjomoannlpadnaa
open Go.RowKit
attribute [local go_sem ↓] run_max2 run_min2
attribute [local go_sem ↓] Go.wp_at_zero Go.wp_at_succ

set_option maxHeartbeats 400000 in
theorem refSane12_any (ep : Int) (A : Option Addr) (n c : Nat) (w : World) :
    Calls Try.prog 47 #[.agg #[.int .i64 ep, .slice A n c]] w fun e w' => e = .returned (.bool (okL ep n)) ∧ Ext w w' := by
  by_cases h1 : 0 ≤ ep
  · by_cases h2 : ep ≤ 2147483647
    · have H : Hid (okL ep n = decide ((n : Int) ≤ 32)) := Lib.hid (by simp [okL, h1, h2])
      go_enter Try.func47, Try.ntmps47
      go_wp2_with fail
      go_ret
      exact ⟨by rw [H.out]; rfl, Ext.new _ _⟩
    · have H : Hid (okL ep n = false) := Lib.hid (by simp [okL, h1, h2])
      go_enter Try.func47, Try.ntmps47
      go_wp2_with fail
      go_ret
      exact ⟨by rw [H.out]; rfl, Ext.new _ _⟩
  · have H : Hid (okL ep n = false) := Lib.hid (by simp [okL, h1])
    go_enter Try.func47, Try.ntmps47
    go_wp2_with fail
    go_ret
    exact ⟨by rw [H.out]; rfl, Ext.new _ _⟩

set_option maxHeartbeats 400000 in
theorem refsane12_any (X : Nat → Prop) (ep : Int) (A : Option Addr) (n c : Nat) (l : Lk) (w : World) (h : LkR w X ep A n c l) (hX : ∀ b, X b → b < w.heap.size) :
    Calls Try.prog 84 #[.agg #[.int .i64 ep, .slice A n c]] w (GivesLk w X (fun ep A n c => .agg #[.int .i64 ep, .slice A n c]) l.sane) := by
  have hlen : l.ok = okL ep n := by unfold Lk.ok; rw [h.1, h.len]
  by_cases hk : okL ep n = true
  · have HS : Hid (l.sane = l) := Lib.hid (Lk.sane_of (hlen.trans hk))
    have H := Lib.hid h
    have HX := Lib.hid hX
    clear hlen h hX
    go_enter Try.func84, Try.ntmps84
    go_wp2_with (go_at_call 47; refine (refSane12_any _ _ _ _ _).mono ?_; rintro e w1 ⟨rfl, hb1⟩; obtain ⟨hc1, hf1⟩ := bcell hb1)
    have hx : Ext w ((w1.setCell ⟨w.heap.size + 1, 0, none⟩ (.int .i64 ep)).setCell ⟨w.heap.size + 1, 1, none⟩ (.slice A n c)) :=
      ((((Ext.new _ _).alloc _).trans hb1).set (Nat.le_add_right _ _) _).set (Nat.le_add_right _ _) _
    exact bodyPost_ret (v := .agg #[.int .i64 ep, .slice A n c]) (by simp [results, Try.results84, go_sem, hc1]) rfl ⟨ep, A, n, c, rfl, by rw [HS.out]; exact H.out.up hx, hx⟩
  · have HS : Hid (l.sane = ⟨0, []⟩) := Lib.hid (by unfold Lk.sane; rw [if_neg (by rw [hlen]; exact hk)])
    have hk' : okL ep n = false := by simpa using hk
    clear hlen h hk hX
    go_enter Try.func84, Try.ntmps84
    go_wp2_with (go_at_call 47; refine (refSane12_any _ _ _ _ _).mono ?_; rintro e w1 ⟨rfl, hb1⟩; obtain ⟨hc1, hf1⟩ := bcell hb1)
    have hx : Ext w ((w1.setCell ⟨w.heap.size + 1, 0, none⟩ (.int .i64 0)).setCell ⟨w.heap.size + 1, 1, none⟩ (.slice none 0 0)) :=
      ((((Ext.new _ _).alloc _).trans hb1).set (Nat.le_add_right _ _) _).set (Nat.le_add_right _ _) _
    exact bodyPost_ret (v := .agg #[.int .i64 0, .slice none 0 0]) (by simp [results, Try.results84, go_sem, hc1]) rfl ⟨0, none, 0, 0, rfl, by rw [HS.out]; exact ⟨rfl, LinkR.nil_⟩, hx⟩

end Go.Proofs.Ytjomoannlpadnaa
