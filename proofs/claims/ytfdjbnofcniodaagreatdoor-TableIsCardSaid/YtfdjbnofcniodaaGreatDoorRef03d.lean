/- What the document's twice and Sane of layer 3 compute. -/
import Derived.Test.YtfdjbnofcniodaaGreatDoorRef03c
namespace Go.Proofs.YtfdjbnofcniodaaGreatDoor
set_option linter.unusedVariables false
open Go.RowKit

theorem single_rl {r : Rs} {k : Nat} {x : Rl} (hx : r.rules[k]? = some x) (hg : goFrom rlNew [] r.rules = goFrom rlNew (r.rules.take k) (r.rules.drop k)) (h : rlNew (r.rules.take k) x = false) : (!singleR r) = true := by
  unfold singleR
  rw [hg, goFrom_step rlNew hx, h]; rfl
theorem single3_host {r : Rs} {k : Nat} {x : Int} (hx : r.hosts[k]? = some x) (hg : goFrom hostNew [] r.hosts = goFrom hostNew (r.hosts.take k) (r.hosts.drop k)) (h : hostNew (r.hosts.take k) x = false) : (!singleR r) = true := by
  unfold singleR
  rw [hg, goFrom_step hostNew hx, h]; simp
theorem single_end {r : Rs} (h1 : goFrom rlNew [] r.rules = true) (h2 : goFrom hostNew [] r.hosts = true) : (!singleR r) = false := by
  unfold singleR; rw [h1, h2]; rfl
theorem weigh_no {x : Rl} (h : ∀ p ∈ x.ws, ¬ 0 < p.2) (pre : List Rl) : rlNew pre x = false := by
  unfold rlNew weighsB
  rw [show x.ws.any (fun p => decide (0 < p.2)) = false from by rw [List.any_eq_false]; intro p hp; simpa using h p hp]; rfl
theorem weigh_yes {x : Rl} (h : ¬ ∀ p ∈ x.ws, ¬ 0 < p.2) : weighsB x = true := by
  cases hw : weighsB x with
  | true => rfl
  | false =>
    refine (h fun p hp => ?_).elim
    unfold weighsB at hw
    rw [List.any_eq_false] at hw
    simpa using hw p hp
theorem new_same {l : List Rl} {x y : Rl} {k p : Nat} (hp : p < k) (hy : l[p]? = some y) (h : sameHP x y = true) : rlNew (l.take k) x = false := by
  unfold rlNew
  rw [show (l.take k).any (fun z => sameHP x z) = true from List.any_eq_true.2 ⟨y, List.mem_of_getElem? (i := p) (by rw [List.getElem?_take, if_pos hp]; exact hy), h⟩]; simp
theorem upto_take {α : Type} {P : α → Prop} {l : List α} {k : Nat} (h : Upto P l k) : ∀ x ∈ l.take k, P x := fun x hx => by
  obtain ⟨j, hj⟩ := List.mem_iff_getElem?.1 hx
  rw [List.getElem?_take] at hj
  split at hj
  · rename_i h1; exact h j x h1 hj
  · cases hj
theorem new_good {l : List Rl} {x : Rl} {k : Nat} (hw : weighsB x = true) (h : Upto (fun y => sameHP x y = false) l k) : rlNew (l.take k) x = true := by
  unfold rlNew
  rw [hw, show (l.take k).any (fun z => sameHP x z) = false from by rw [List.any_eq_false]; intro y hy; rw [upto_take h y hy]; simp]; rfl
theorem host_same {l : List Int} {x : Int} {k p : Nat} (hp : p < k) (hy : l[p]? = some x) : hostNew (l.take k) x = false := by
  unfold hostNew
  rw [show (l.take k).contains x = true from List.contains_iff_mem.2 (List.mem_of_getElem? (i := p) (by rw [List.getElem?_take, if_pos hp]; exact hy))]; rfl
theorem host_good {l : List Int} {x : Int} {k : Nat} (h : Upto (fun y => ¬ x = y) l k) : hostNew (l.take k) x = true := by
  unfold hostNew
  rw [show (l.take k).contains x = false from by rw [Bool.eq_false_iff]; intro hc; exact upto_take h x (List.contains_iff_mem.1 hc) rfl]; rfl
theorem hp_of {x y : Rl} (h1 : tx x.host = tx y.host) (h2 : tx x.pre = tx y.pre) : sameHP x y = true := by unfold sameHP; rw [decide_eq_true h1, decide_eq_true h2]; rfl
theorem hp_no1 {x y : Rl} (h1 : ¬ tx x.host = tx y.host) : sameHP x y = false := by unfold sameHP; rw [decide_eq_false h1]; rfl
theorem hp_no2 {x y : Rl} (h2 : ¬ tx x.pre = tx y.pre) : sameHP x y = false := by unfold sameHP; rw [decide_eq_false h2]; simp
set_option maxRecDepth 100000 in
set_option maxHeartbeats 4000000 in
theorem refTwice_any (S : Nat → Prop) (r : Rs) (A A' : Option Addr) (n c n' c' : Nat) (w : World) (hV : RsV S w r A n c A' n' c') (hsm : SmallR r) :
    Calls Tryz.prog 168 #[rsVal r A n c A' n' c'] w fun e w' => e = .returned (.bool (!singleR r)) ∧ Ext w w' := by
  have hm : n ≤ 9223372036854775807 := by have h1 := hV.sl.1; have h2 := hV.sl.2.1; unfold maxLen at h2; omega
  have hm' : n' ≤ 9223372036854775807 := by have h1 := hV.sl'.1; have h2 := hV.sl'.2.1; unfold maxLen at h2; omega
  have hL : r.rules.length = n := hV.arr.len
  have hL' : r.hosts.length = n' := hV.arr'.len
  have HV := Lib.hid hV
  clear hV
  have HSM := Lib.hid hsm
  have hn8 : n ≤ 8 := by have := hsm.rules; omega
  have hn8' : n' ≤ 8 := by have := hsm.hosts; omega
  clear hsm
  unfold rsVal
  go_enter Tryz.func168, Tryz.ntmps168
  go_wp2_with fail
  have kA := heap_alloc_new w (.cells #[.int .i64 r.kind, .string r.name, .int .i64 r.ver, .int .i64 r.port, .string r.to, .slice A n c, .slice A' n' c'] 34)
  have EW := Lib.hid (Ext.new w (.cells #[.int .i64 r.kind, .string r.name, .int .i64 r.ver, .int .i64 r.port, .string r.to, .slice A n c, .slice A' n' c'] 34))
  generalize w.alloc (.cells #[.int .i64 r.kind, .string r.name, .int .i64 r.ver, .int .i64 r.port, .string r.to, .slice A n c, .slice A' n' c'] 34) = W at kA EW ⊢
  have hzW : w.heap.size < W.heap.size := (Array.getElem?_eq_some_iff.1 kA).1
  obtain ⟨q, -⟩ := blk_rules kA
  have q5 := q 5
  have q6 := q 6
  clear q kA
  go_loopw [3] (fun i wr => ∃ k : Nat, k ≤ n ∧ i = .int .i64 k ∧ Hid (Ext W wr) ∧ Hid (goFrom rlNew [] r.rules = goFrom rlNew (r.rules.take k) (r.rules.drop k))) (fun i _ => n - (intOf i).toNat)
  case atStart => exact ⟨0, Nat.zero_le _, by go_num, Lib.hid (Ext.refl _), Lib.hid rfl⟩
  case round =>
    obtain ⟨k, hk, rfl, HE, HG⟩ := hrel
    have r5 : wr.cell? ⟨w.heap.size, 5, none⟩ = some (.slice A n c) := (HE.out.cell hzW).trans q5
    by_cases hlt : k < n
    · obtain ⟨b, ob, x, B, m, d, rfl, hbB, -, hlk, hv, hc0, hc1, hc2⟩ := RlL.at_ HV.out.arr hlt
      have d2 : wr.cell? ⟨b, ob + k * 3 + 2, none⟩ = some (.slice B m d) := ((EW.out.trans HE.out).cell hbB).trans hc2
      have i1 : (0 : Int) ≤ (k : Int) := by omega
      have i2 : (k : Int) < (n : Int) := by omega
      have HX := Lib.hid hlk
      have HVx := Lib.hid hv
      have HC0 := Lib.hid hc0
      have HC1 := Lib.hid hc1
      have hlw : x.ws.length = m := hv.arr.len
      have hsx := (smallRl_iff x).1 (HSM.out.rl x (List.mem_of_getElem? hlk))
      have HSX := Lib.hid hsx
      have hm4 : m ≤ 4 := by have := hsx.1; omega
      clear hc0 hc1 hc2 hlk hv hsx
      go_wp2_with fail
      go_loop [4, 5] (fun s j => ∃ (q : Nat) (t : Int), q ≤ m ∧ s = .int .i64 t ∧ j = .int .i64 q ∧ 0 ≤ t ∧ t ≤ 100 * q ∧ Hid (t = 0 ↔ Upto (fun p : ByteArray × Int => ¬ 0 < p.2) x.ws q)) (fun _ j => m - (intOf j).toNat)
      case atStart => exact ⟨0, 0, Nat.zero_le _, by go_num, by go_num, by omega, by omega, Lib.hid ⟨fun _ => Upto.nil, fun _ => rfl⟩⟩
      case round =>
        obtain ⟨q, t, hq, rfl, rfl, ht0, ht1, HT⟩ := hrel
        by_cases hlq : q < m
        · obtain ⟨b1, o1, s, y, rfl, hbB1, -, hl1, -, hd0, hd1⟩ := WtL.at_ HVx.out.arr hlq
          have f1 : wr.cell? ⟨b1, o1 + q * 2 + 1, none⟩ = some (.int .i64 y) := ((EW.out.trans HE.out).cell hbB1).trans hd1
          have j1 : (0 : Int) ≤ (q : Int) := by omega
          have j2 : (q : Int) < (m : Int) := by omega
          have hy := HSX.out.2 (s, y) (List.mem_of_getElem? hl1)
          have hy0 : 0 ≤ y := hy.1
          have hy1 : y ≤ 100 := hy.2
          have hwr : IntKind.i64.wrap (t + y) = t + y := by rw [IntKind.wrap_i64]; omega
          have HT2 : Hid (t + y = 0 ↔ Upto (fun p : ByteArray × Int => ¬ 0 < p.2) x.ws (q + 1)) := Lib.hid (by
            constructor
            · intro h0
              exact Upto.step (HT.out.1 (by omega)) hl1 (by show ¬ 0 < y; omega)
            · intro hu
              have h1 : t = 0 := HT.out.2 (fun j z hj hz => hu j z (by omega) hz)
              have h2 : ¬ 0 < y := hu q (s, y) (by omega) hl1
              omega)
          clear hd0 hd1 hl1 hy HT
          go_wp2_with fail
          go_round
          case rel => exact ⟨q + 1, t + y, by omega, by go_num, by go_num, by omega, by push_cast; omega, HT2⟩
          case measure => simp [intOf]; omega
        · obtain rfl : q = m := by omega
          by_cases hz : t = 0
          · have H : Hid ((!singleR r) = true) := Lib.hid (single_rl HX.out HG.out (weigh_no ((HT.out.1 hz).all (by omega)) _))
            subst hz
            go_wp2_with fail
            go_ret
            exact ⟨by rw [H.out]; first | rfl | (simp; done) | (simp; omega), EW.out.trans HE.out⟩
          have HWE := Lib.hid (weigh_yes (x := x) (fun h => hz (HT.out.2 (fun j z hj hz => h z (List.mem_of_getElem? hz)))))
          have hz1 : (t == 0) = false := by rw [beq_eq_false_iff_ne]; exact hz
          clear HT
          go_wp2_with fail
          clear r5 d2
          go_loopw [6] (fun i wv => ∃ p : Nat, p ≤ k ∧ i = .int .i64 p ∧ Hid (Ext W wv) ∧ Hid (Upto (fun y => sameHP x y = false) r.rules p)) (fun i _ => k - (intOf i).toNat)
          case atStart => exact ⟨0, Nat.zero_le _, by go_num, HE, Lib.hid Upto.nil⟩
          case round =>
            clear HE
            obtain ⟨p, hp, rfl, HE, HU⟩ := hrel
            have r5 : wr.cell? ⟨w.heap.size, 5, none⟩ = some (.slice (some ⟨b, ob, none⟩) n c) := (HE.out.cell hzW).trans q5
            by_cases hlp : p < k
            · obtain ⟨b', ob', y, B', m', d', hAe, -, -, hly, -, he0, he1, -⟩ := RlL.at_ HV.out.arr (show p < n by omega)
              injection hAe with hAe
              injection hAe with z1 z2
              subst z1 z2
              have d0 : wr.cell? ⟨b, ob + k * 3, none⟩ = some (.string x.host) := ((EW.out.trans HE.out).cell hbB).trans HC0.out
              have d1 : wr.cell? ⟨b, ob + k * 3 + 1, none⟩ = some (.string x.pre) := ((EW.out.trans HE.out).cell hbB).trans HC1.out
              have e0 : wr.cell? ⟨b, ob + p * 3, none⟩ = some (.string y.host) := ((EW.out.trans HE.out).cell hbB).trans he0
              have e1 : wr.cell? ⟨b, ob + p * 3 + 1, none⟩ = some (.string y.pre) := ((EW.out.trans HE.out).cell hbB).trans he1
              have j1 : (0 : Int) ≤ (p : Int) := by omega
              have j2 : (p : Int) < (n : Int) := by omega
              have j3 : (p : Int) < (k : Int) := by omega
              have HLY := Lib.hid hly
              clear he0 he1 hly
              by_cases h1 : tx x.host = tx y.host
              · have hq1 := beq_of h1
                by_cases h2 : tx x.pre = tx y.pre
                · have hq2 := beq_of h2
                  have H : Hid ((!singleR r) = true) := Lib.hid (single_rl HX.out HG.out (new_same hlp HLY.out (hp_of h1 h2)))
                  clear h1 h2
                  go_wp2_with fail
                  go_region
                  go_wp2_with fail
                  go_ret
                  exact ⟨by rw [H.out]; first | rfl | (simp; done) | (simp; omega), (EW.out.trans HE.out).drew⟩
                · have hq2 := beq_not h2
                  have HU2 := Lib.hid (HU.out.step HLY.out (hp_no2 h2))
                  clear h1 h2
                  go_wp2_with fail
                  go_region
                  go_wp2_with fail
                  go_roundw
                  case rel => exact ⟨p + 1, by omega, by go_num, Lib.hid HE.out.drew, HU2⟩
                  case measure => simp [intOf]; omega
              · have hq1 := beq_not h1
                have HU2 := Lib.hid (HU.out.step HLY.out (hp_no1 h1))
                clear h1
                go_wp2_with fail
                go_region
                go_wp2_with fail
                go_roundw
                case rel => exact ⟨p + 1, by omega, by go_num, Lib.hid HE.out.drew, HU2⟩
                case measure => simp [intOf]; omega
            · obtain rfl : p = k := by omega
              have HG2 : Hid (goFrom rlNew [] r.rules = goFrom rlNew (r.rules.take (p + 1)) (r.rules.drop (p + 1))) := Lib.hid (by rw [HG.out, goFrom_step rlNew HX.out, new_good HWE.out HU.out, Bool.true_and])
              go_wp2_with fail
              go_roundw
              case rel => exact ⟨p + 1, by omega, by go_num, HE, HG2⟩
              case measure => simp [intOf]; omega
    · have HGR : Hid (goFrom rlNew [] r.rules = true) := Lib.hid (by rw [HG.out, goFrom_end rlNew (by omega)])
      go_wp2_with fail
      clear r5 HG
      go_loopw [7] (fun i wv => ∃ k : Nat, k ≤ n' ∧ i = .int .i64 k ∧ Hid (Ext W wv) ∧ Hid (goFrom hostNew [] r.hosts = goFrom hostNew (r.hosts.take k) (r.hosts.drop k))) (fun i _ => n' - (intOf i).toNat)
      case atStart => exact ⟨0, Nat.zero_le _, by go_num, HE, Lib.hid rfl⟩
      case round =>
        clear HE hlt hk
        obtain ⟨k2, hk, rfl, HE, HG⟩ := hrel
        have r6 : wr.cell? ⟨w.heap.size, 6, none⟩ = some (.slice A' n' c') := (HE.out.cell hzW).trans q6
        by_cases hlt : k2 < n'
        · obtain ⟨b, ob, x, rfl, hbB, -, hlk, hc0⟩ := HostL.at_ HV.out.arr' hlt
          have i1 : (0 : Int) ≤ (k2 : Int) := by omega
          have i2 : (k2 : Int) < (n' : Int) := by omega
          have HX := Lib.hid hlk
          have HC0 := Lib.hid hc0
          clear hc0 hlk
          go_wp2_with fail
          clear r6
          go_loopw [8] (fun i wv => ∃ p : Nat, p ≤ k2 ∧ i = .int .i64 p ∧ Hid (Ext W wv) ∧ Hid (Upto (fun y => ¬ x = y) r.hosts p)) (fun i _ => k2 - (intOf i).toNat)
          case atStart => exact ⟨0, Nat.zero_le _, by go_num, HE, Lib.hid Upto.nil⟩
          case round =>
            clear HE
            obtain ⟨p, hp, rfl, HE, HU⟩ := hrel
            have r6 : wr.cell? ⟨w.heap.size, 6, none⟩ = some (.slice (some ⟨b, ob, none⟩) n' c') := (HE.out.cell hzW).trans q6
            by_cases hlp : p < k2
            · obtain ⟨b', ob', y, hAe, -, -, hly, he0⟩ := HostL.at_ HV.out.arr' (show p < n' by omega)
              injection hAe with hAe
              injection hAe with z1 z2
              subst z1 z2
              have d0 : wr.cell? ⟨b, ob + k2, none⟩ = some (.int .i64 x) := ((EW.out.trans HE.out).cell hbB).trans HC0.out
              have e0 : wr.cell? ⟨b, ob + p, none⟩ = some (.int .i64 y) := ((EW.out.trans HE.out).cell hbB).trans he0
              have j1 : (0 : Int) ≤ (p : Int) := by omega
              have j2 : (p : Int) < (n' : Int) := by omega
              have j3 : (p : Int) < (k2 : Int) := by omega
              have HLY := Lib.hid hly
              clear he0 hly
              by_cases h1 : x = y
              · have H : Hid ((!singleR r) = true) := Lib.hid (single3_host HX.out HG.out (host_same hlp (h1 ▸ HLY.out)))
                have hq1 : (x == y) = true := by rw [h1]; simp
                clear h1
                go_wp2_with fail
                go_region
                go_wp2_with fail
                go_ret
                exact ⟨by rw [H.out]; first | rfl | (simp; done) | (simp; omega), (EW.out.trans HE.out).drew⟩
              · have hq1 : (x == y) = false := by rw [beq_eq_false_iff_ne]; exact h1
                have HU2 := Lib.hid (HU.out.step HLY.out h1)
                clear h1
                go_wp2_with fail
                go_region
                go_wp2_with fail
                go_roundw
                case rel => exact ⟨p + 1, by omega, by go_num, Lib.hid HE.out.drew, HU2⟩
                case measure => simp [intOf]; omega
            · obtain rfl : p = k2 := by omega
              have HG2 : Hid (goFrom hostNew [] r.hosts = goFrom hostNew (r.hosts.take (p + 1)) (r.hosts.drop (p + 1))) := Lib.hid (by rw [HG.out, goFrom_step hostNew HX.out, host_good HU.out, Bool.true_and])
              go_wp2_with fail
              go_roundw
              case rel => exact ⟨p + 1, by omega, by go_num, HE, HG2⟩
              case measure => simp [intOf]; omega
        · have H : Hid ((!singleR r) = false) := Lib.hid (single_end HGR.out (by rw [HG.out, goFrom_end hostNew (by omega)]))
          go_wp2_with fail
          go_ret
          exact ⟨by rw [H.out]; first | rfl | (simp; done) | (simp; omega), EW.out.trans HE.out⟩
end Go.Proofs.YtfdjbnofcniodaaGreatDoor
