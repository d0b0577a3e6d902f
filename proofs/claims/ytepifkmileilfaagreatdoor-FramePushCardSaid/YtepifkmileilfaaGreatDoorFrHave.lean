/- What frame's have takes. -/
import Derived.Test.YtepifkmileilfaaGreatDoorFrPlainAll
import Derived.Test.YtepifkmileilfaaGreatDoorFrQ
import Derived.Test.YtepifkmileilfaaGreatDoorTakeAll
namespace Go.Proofs.YtepifkmileilfaaGreatDoor
set_option linter.unusedVariables false
open Go.RowKit

theorem own_set {w : World} {base size n p i : Nat} {e : TypeId} {v : Value} {xs : List Value} {u : Value} (h : w.ownsRow base e size v n xs) (hp : ∀ b, v.ownBlock = some b → b ≠ p) : (w.setCell ⟨p, i, none⟩ u).ownsRow base e size v n xs := by
  refine ⟨h.1, ?_⟩
  rcases h.2 with hn | ⟨b, cap, cur, rfl, hb, hh, rest⟩
  · exact .inl hn
  · exact .inr ⟨b, cap, cur, rfl, hb, (blk_far (hp b rfl) u).trans hh, rest⟩
def SomeM (g : Nat) (w : World) (res : Rd × List (Ky × Int)) (e : Ending) (w' : World) : Prop :=
  ∃ A n c, e = .returned (.slice A n c) ∧ SlW A n c ∧ ArrQ (fun b => w.heap.size ≤ b) w' 3 MkQ A n res.2 ∧ RdAt w' g res.1 ∧ Only g w w'

set_option maxRecDepth 100000 in
set_option maxHeartbeats 4000000 in
theorem frHave_any (g : Nat) (rd : Rd) (w : World) (hR : RdAt w g rd) :
    Calls Tryz.prog 140 #[.pointer (some ⟨g, 0, none⟩)] w (SomeM g w (someB takeM 64 rd)) := by
  have HR := Lib.hid hR
  have hg : g < w.heap.size := hR.lt
  clear hR
  go_enter Tryz.func140, Tryz.ntmps140
  go_wp2_with fail
  refine (num_any g rd 64 _ HR.out).mono ?_
  rintro e w1 ⟨rfl, hr1, ho1⟩
  have hN := Rd.num_le rd 64
  rw [bnd64] at hN
  obtain ⟨N, hNe⟩ : ∃ N, N = (rd.num 64).2 := ⟨_, rfl⟩
  obtain ⟨r1, hre⟩ : ∃ r1, r1 = (rd.num 64).1 := ⟨_, rfl⟩
  rw [← hre] at hr1
  rw [← hNe] at hN ⊢
  have HS : Hid (someB takeM 64 rd = someL takeM N r1 []) := Lib.hid (by unfold someB; rw [← hNe, ← hre])
  have HR1 := Lib.hid hr1
  have HO1 := Lib.hid ho1
  clear hNe hre hr1 ho1
  go_wp2_with fail
  go_loopw [3, 7] (fun v i wr => ∃ (k : Nat) (rk : Rd) (acc : List (Ky × Int)) (us : List Value), k ≤ N ∧ i = .int .i64 k ∧ Hid (someL takeM (N - k) rk acc = someL takeM N r1 []) ∧ Hid (acc.length = k) ∧ Hid (wr.ownsRow w.heap.size 154 3 v k us) ∧ Hid (RowsOf MkQ 3 us acc) ∧ Hid (RdAt wr g rk) ∧ Hid (Only g w wr)) (fun _ i _ => N - (intOf i).toNat)
  case atStart => exact ⟨0, r1, [], [], Nat.zero_le _, rfl, Lib.hid (by rw [Nat.sub_zero]), Lib.hid rfl, Lib.hid own_nil, Lib.hid rfl, HR1, HO1⟩
  case round =>
    obtain ⟨k, rk, acc, us, hk, rfl, HL, HA, HW, HU, HRk, HO⟩ := hrel
    have hlr : w.heap.size ≤ wr.heap.size := HO.out.size
    by_cases hlt : k < N
    · have HSt := Lib.hid (@some_stop _ takeM N k rk acc hlt)
      have HNx := Lib.hid (@some_next _ takeM N k rk acc hlt)
      go_wp2_with fail
      refine ((takeKey_takes g).2 rk _ HRk.out).mono ?_
      rintro e w2 ⟨rfl, hsz, hr2, ho2⟩
      have HM1 := takeM_fst rk
      have HM2 := takeM_snd rk
      obtain ⟨y, hy⟩ : ∃ y, y = (takeK rk).2 := ⟨_, rfl⟩
      obtain ⟨r2, hr2e⟩ : ∃ r2, r2 = (takeK rk).1 := ⟨_, rfl⟩
      rw [← hr2e] at hr2 HM1 HM2
      rw [← hy] at hsz HM2 ⊢
      have HM1 := Lib.hid HM1
      have HM2 := Lib.hid HM2
      have HSZ := Lib.hid hsz
      have HR2 := Lib.hid hr2
      have HO2 := Lib.hid (HO.out.trans ho2)
      have HW2 := Lib.hid (own_only HW.out ho2 hg)
      have hl2 : w.heap.size ≤ w2.heap.size := Nat.le_trans hlr ho2.size
      have hgl : g < w2.heap.size := by omega
      clear hy hr2e ho2 hsz hr2
      go_wp2_with fail
      refine (num_any g r2 2147483647 _ (HR2.out.up (Ext.new _ _))).mono ?_
      rintro e w3 ⟨rfl, hr3, ho3⟩
      obtain ⟨r3, hr3e⟩ : ∃ r3, r3 = (r2.num 2147483647).1 := ⟨_, rfl⟩
      obtain ⟨v3, hv3e⟩ : ∃ v3 : Int, v3 = (((r2.num 2147483647).2 : Nat) : Int) := ⟨_, rfl⟩
      have HM1x : Hid ((takeM rk).1 = r3) := Lib.hid (by rw [HM1.out, hr3e])
      have HM2x : Hid ((takeM rk).2 = (y, v3)) := Lib.hid (by rw [HM2.out, hv3e])
      rw [← hr3e] at hr3
      rw [← hv3e]
      have HR3 := Lib.hid hr3
      have HK3 : Hid (w3.heap[w2.heap.size]? = some (.cells #[.int .i64 y.kind, .string y.name, .int .i64 0] 154 (0, 0))) := Lib.hid ((ho3.blk (b := w2.heap.size) (by simp) (by omega)).trans (heap_alloc_new w2 _))
      have HO3 := Lib.hid ((HO2.out.trans (Only.of_ext (Ext.new w2 (.cells #[.int .i64 y.kind, .string y.name, .int .i64 0] 154)))).trans ho3)
      have HW3 := Lib.hid (own_only (own_up HW2.out (Ext.new w2 (.cells #[.int .i64 y.kind, .string y.name, .int .i64 0] 154))) ho3 hg)
      have hz3 : w2.heap.size < w3.heap.size := by have := ho3.size; simp at this; omega
      clear hr3e hv3e hr3 ho3
      obtain ⟨q0, q1⟩ := blk_rules HK3.out
      obtain ⟨A0, n0, c0, hg0, -, -, -, -, -⟩ := HR3.out
      obtain ⟨p0, p1⟩ := blk_rules hg0
      clear hg0
      have HR4 := Lib.hid (HR3.out.setFar (p := w2.heap.size) (i := 2) (by omega) (.int .i64 v3))
      have HO4 := Lib.hid (HO3.out.setNew (p := w2.heap.size) (i := 2) (by omega) (.int .i64 v3))
      have hgl3 : g < w3.heap.size := by omega
      have hne : g ≠ w2.heap.size := by omega
      have hne' : w2.heap.size ≠ g := by omega
      have hkz : k < 4294967296 := by omega
      by_cases he : r3.e = 0
      · have hb1 : (r3.e != 0) = false := by simpa using he
        have HNx2 : Hid (someL takeM (N - k) rk acc = someL takeM (N - (k + 1)) r3 (acc ++ [(y, v3)])) := Lib.hid (by rw [HNx.out (by rw [HM1x.out]; exact he), HM1x.out, HM2x.out])
        clear he
        have HW4 := Lib.hid (own_set (p := w2.heap.size) (i := 2) (u := .int .i64 v3) HW3.out (fun b hb => by have := (HW2.out.lt b hb).2; omega))
        have hFk := flat_k (w3.setCell ⟨w2.heap.size, 2, none⟩ (.int .i64 v3)) [.int .i64 y.kind, .string y.name, .int .i64 v3] 154 rfl
        rw [size_set] at hFk
        have hOW := own_up HW4.out (Ext.new (w3.setCell ⟨w2.heap.size, 2, none⟩ (.int .i64 v3)) (.cells #[.int .i64 y.kind, .string y.name, .int .i64 v3] 154))
        obtain ⟨v', w5, hrun, hown5, hg5, hnw⟩ := run_append_flat elem_mark 91 hOW 1 hFk (by simp [Value.oneCell']) (by omega) (by omega) (by rw [World.size_alloc, size_set]; omega) (fun h => by cases h)
        have HRUN := Lib.hid hrun
        have HO5 : Hid (Only g w w5) := Lib.hid (only_grown HO4.out (Ext.new (w3.setCell ⟨w2.heap.size, 2, none⟩ (.int .i64 v3)) (.cells #[.int .i64 y.kind, .string y.name, .int .i64 v3] 154)) hg5 hOW (Nat.le_refl _))
        have HR5 : Hid (RdAt w5 g r3) := Lib.hid (rdat_grown (HR4.out.up (Ext.new (w3.setCell ⟨w2.heap.size, 2, none⟩ (.int .i64 v3)) (.cells #[.int .i64 y.kind, .string y.name, .int .i64 v3] 154))) hg5 hOW hg)
        have HU5 : Hid (RowsOf MkQ 3 (us ++ [.int .i64 y.kind, .string y.name, .int .i64 v3]) (acc ++ [(y, v3)])) := Lib.hid (RowsOf.snoc (R := MkQ) (cs := [.int .i64 y.kind, .string y.name, .int .i64 v3]) rfl (show MkQ _ (y, v3) from ⟨rfl, HSZ.out⟩) HU.out)
        have HA5 : Hid ((acc ++ [(y, v3)]).length = k + 1) := Lib.hid (by rw [List.length_append, HA.out]; rfl)
        have HL5 : Hid (someL takeM (N - (k + 1)) r3 (acc ++ [(y, v3)]) = someL takeM N r1 []) := Lib.hid (by rw [← HNx2.out]; exact HL.out)
        have HW5 := Lib.hid hown5
        clear hown5 hg5 hrun hnw hOW hFk
        go_wp2_with (refine Lib.wpList_append_run _ rfl _ _ _ _ rfl _ _ rfl rfl v' w5 HRUN.out ?_)
        clear q0 q1 p0 p1
        go_roundw
        case rel => exact ⟨k + 1, r3, acc ++ [(y, v3)], _, by omega, by go_num, HL5, HA5, HW5, HU5, HR5, HO5⟩
        case measure => simp [intOf]; omega
      · have hb1 : (r3.e != 0) = true := by simpa using he
        have HE : Hid (someB takeM 64 rd = (r3, [])) := Lib.hid (by rw [HS.out, ← HL.out, HSt.out (by rw [HM1x.out]; exact he), HM1x.out])
        clear he
        go_wp2_with fail
        go_ret
        rw [HE.out]
        exact ⟨none, 0, 0, rfl, SlW.nil_, ArrQ.nil_, HR4.out, HO4.out⟩
    · obtain rfl : k = N := by omega
      have HE : Hid (someB takeM 64 rd = (rk, acc)) := Lib.hid (by rw [HS.out, ← HL.out, Nat.sub_self]; rfl)
      have HLT := Lib.hid HW.out.lt
      obtain ⟨A, c, rfl, h1, h2, h3, hF⟩ := own_flat HW.out
      have HFl := Lib.hid hF
      have HSl : Hid (SlW A k c) := Lib.hid ⟨h1, h2, h3⟩
      clear hF h1 h2 h3
      go_wp2_with fail
      go_ret
      rw [HE.out]
      exact ⟨A, k, c, rfl, HSl.out, HFl.out.arrQ HU.out (by omega) (fun b o e hb => by subst e; exact (HLT.out b rfl).1), HRk.out, HO.out⟩
end Go.Proofs.YtepifkmileilfaaGreatDoor
