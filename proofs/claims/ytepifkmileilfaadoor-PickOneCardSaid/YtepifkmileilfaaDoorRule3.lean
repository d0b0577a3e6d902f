/- What groyneref07's SameRule computes of a rule and itself. -/
import Derived.Test.YtepifkmileilfaaDoorRule2
namespace Go.Proofs.YtepifkmileilfaaDoor
set_option linter.unusedVariables false
open Go.RowKit

def GivesSame (a b : Ru) (w : World) (e : Ending) (w' : World) : Prop := ∃ v, e = .returned (.bool v) ∧ (a = b → v = true) ∧ (v = true → (a.host.toList = b.host.toList ∧ a.pre.toList = b.pre.toList)) ∧ Ext w w'

set_option maxHeartbeats 2000000 in
theorem same07_some (a b : Ru) (A A' : Option Addr) (n c n' c' : Nat) (w0 w : World) (h0 : Ext w0 w) (hn : n ≤ 9223372036854775807) (hn' : n' ≤ 9223372036854775807) (hA : ArrR w0 2 WtR A n a.ws) (hB : ArrR w0 2 WtR A' n' b.ws) :
    Calls Tryd.prog 21 #[.agg #[.string a.host, .string a.pre, .slice A n c], .agg #[.string b.host, .string b.pre, .slice A' n' c']] w (GivesSame a b w) := by
  obtain ⟨ha, pa, wa⟩ := a
  obtain ⟨hb, pb, wb⟩ := b
  simp only at hA hB ⊢
  have HA := Lib.hid hA
  have HB := Lib.hid hB
  have H0 := Lib.hid h0
  clear hA hB h0
  have HL : Hid ((⟨ha, pa, wa⟩ : Ru) = ⟨hb, pb, wb⟩ → (ha.toList == hb.toList) = true ∧ (pa.toList == pb.toList) = true ∧ n = n') := Lib.hid fun e => by
    injection e with e1 e2 e3
    subst e1 e2 e3
    exact ⟨by simp, by simp, HA.out.len.symm.trans HB.out.len⟩
  have g3 : ∀ (x y : ByteArray), (x.toList != y.toList) = !(x.toList == y.toList) := fun _ _ => rfl
  have EW : Hid (Ext w ((w.alloc (.cells #[.string ha, .string pa, .slice A n c] 27)).alloc (.cells #[.string hb, .string pb, .slice A' n' c'] 27))) := Lib.hid (((Ext.refl w).alloc _).alloc _)
  cases g1 : ha.toList == hb.toList with
  | false =>
    have g2 : (ha.toList != hb.toList) = true := by simp [bne, g1]
    go_enter Tryd.func21, Tryd.ntmps21
    go_wp2_with fail
    go_ret
    exact ⟨false, rfl, fun e => by (have := (HL.out e).1; rw [g1] at this; cases this), fun e => by (cases e), EW.out⟩
  | true =>
    have g2 : (ha.toList != hb.toList) = false := by simp [bne, g1]
    cases p1 : pa.toList == pb.toList with
    | false =>
      have p2 : (pa.toList != pb.toList) = true := by simp [bne, p1]
      go_enter Tryd.func21, Tryd.ntmps21
      go_wp2_with fail
      go_ret
      exact ⟨false, rfl, fun e => by (have := (HL.out e).2.1; rw [p1] at this; cases this), fun e => by (cases e), EW.out⟩
    | true =>
      have p2 : (pa.toList != pb.toList) = false := by simp [bne, p1]
      by_cases hnn : n = n'
      · subst hnn
        have n2 : ((n : Int) != (n : Int)) = false := by simp
        have HT : Hid (ha.toList = hb.toList ∧ pa.toList = pb.toList) := Lib.hid ⟨by simpa using g1, by simpa using p1⟩
        go_enter Tryd.func21, Tryd.ntmps21
        go_wp2_with fail
        obtain ⟨kA, kB⟩ := two_blocks w (.cells #[.string ha, .string pa, .slice A n c] 27) (.cells #[.string hb, .string pb, .slice A' n c'] 27)
        generalize hW : (w.alloc (.cells #[.string ha, .string pa, .slice A n c] 27)).alloc (.cells #[.string hb, .string pb, .slice A' n c'] 27) = W at *
        clear hW
        have KA := Lib.hid kA
        have KB := Lib.hid kB
        clear kA kB
        go_loopw [5] (fun i wr => ∃ k : Nat, k ≤ n ∧ i = .int .i64 k ∧ Hid (Ext W wr)) (fun i _ => n - (intOf i).toNat)
        case atStart => exact ⟨0, Nat.zero_le _, rfl, Lib.hid (Ext.refl _)⟩
        case round =>
          obtain ⟨k, hk, rfl, HW⟩ := hrel
          obtain ⟨q0, -⟩ := blk_rules ((HW.out.block (Array.getElem?_eq_some_iff.1 KA.out).1).trans KA.out)
          obtain ⟨q1, -⟩ := blk_rules ((HW.out.block (Array.getElem?_eq_some_iff.1 KB.out).1).trans KB.out)
          by_cases hlt : k < n
          · obtain ⟨b, o, s, x, rfl, hbB, hlk, d1, d2⟩ := WtR.at_ HA.out hlt
            obtain ⟨b', o', s', x', rfl, hbB', hlk', d3, d4⟩ := WtR.at_ HB.out hlt
            have E := (H0.out.trans EW.out).trans HW.out
            have e1 := (E.cell hbB).trans d1
            have e2 := (E.cell hbB).trans d2
            have e3 := (E.cell hbB').trans d3
            have e4 := (E.cell hbB').trans d4
            have HQ : Hid ((⟨ha, pa, wa⟩ : Ru) = ⟨hb, pb, wb⟩ → s = s' ∧ x = x') := Lib.hid fun e => by
              injection e with f1 f2 f3
              subst f3
              rw [hlk] at hlk'
              injection hlk' with hh
              injection hh with h1 h2
              exact ⟨h1, h2⟩
            have i1 : (0 : Int) ≤ (k : Int) := by omega
            have i2 : (k : Int) < (n : Int) := by omega
            clear d1 d2 d3 d4 hlk hlk' E
            by_cases hs : s.toList = s'.toList
            · by_cases hx : x = x'
              · clear HQ
                subst hx
                go_wp2_with fail
                go_region
                go_wp2_with fail
                exact ⟨⟨k + 1, by omega, by go_num, Lib.hid HW.out.drew⟩, by simp [intOf]; omega⟩
              · have HQ2 : Hid ((⟨ha, pa, wa⟩ : Ru) = ⟨hb, pb, wb⟩ → False) := Lib.hid fun e => hx (HQ.out e).2
                clear HQ
                go_wp2_with fail
                go_region
                go_wp2_with fail
                go_ret
                exact ⟨false, rfl, fun e => (HQ2.out e).elim, fun e => by (cases e), EW.out.trans HW.out.drew⟩
            · have HQ2 : Hid ((⟨ha, pa, wa⟩ : Ru) = ⟨hb, pb, wb⟩ → False) := Lib.hid fun e => hs (by rw [(HQ.out e).1])
              clear HQ
              go_wp2_with fail
              go_region
              go_wp2_with fail
              go_ret
              exact ⟨false, rfl, fun e => (HQ2.out e).elim, fun e => by (cases e), EW.out.trans HW.out.drew⟩
          · go_wp2_with fail
            go_ret
            exact ⟨true, rfl, fun _ => rfl, fun _ => HT.out, EW.out.trans HW.out⟩
      · have n2 : ((n : Int) != (n' : Int)) = true := by simp [bne]; omega
        go_enter Tryd.func21, Tryd.ntmps21
        go_wp2_with fail
        go_ret
        exact ⟨false, rfl, fun e => absurd (HL.out e).2.2 hnn, fun e => by (cases e), EW.out⟩
end Go.Proofs.YtepifkmileilfaaDoor
