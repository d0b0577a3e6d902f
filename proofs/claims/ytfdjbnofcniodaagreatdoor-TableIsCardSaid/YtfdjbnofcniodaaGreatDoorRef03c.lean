/- What the document's big, names, twice and Sane of layer 3 compute. -/
import Derived.Test.YtfdjbnofcniodaaGreatDoorRef01
import Derived.Test.YtfdjbnofcniodaaGreatDoorIndex
namespace Go.Proofs.YtfdjbnofcniodaaGreatDoor
set_option linter.unusedVariables false
open Go.RowKit

structure SmallR (r : Rs) : Prop where
  ver : 0 ≤ r.ver ∧ r.ver ≤ 2147483647
  port : 0 ≤ r.port ∧ r.port ≤ 65535
  rules : r.rules.length ≤ 8
  hosts : r.hosts.length ≤ 8
  each : ∀ h ∈ r.hosts, 0 ≤ h ∧ h ≤ 2147483647
  rl : ∀ x ∈ r.rules, smallRl x = true
theorem small_iff (r : Rs) : smallR r = true ↔ SmallR r := by
  unfold smallR inB
  simp only [Bool.and_eq_true, decide_eq_true_eq, List.all_eq_true]
  exact ⟨fun ⟨⟨⟨⟨h1, h2⟩, h3⟩, h4⟩, h5, h6⟩ => ⟨h1, h2, h3, h4, h5, h6⟩, fun h => ⟨⟨⟨⟨h.ver, h.port⟩, h.rules⟩, h.hosts⟩, h.each, h.rl⟩⟩
theorem small_not {r : Rs} (h : SmallR r → False) : (!smallR r) = true := by
  cases hs : smallR r with
  | false => rfl
  | true => exact (h ((small_iff r).1 hs)).elim
/-- the first k elements have it -/
def Upto {α : Type} (P : α → Prop) (l : List α) (k : Nat) : Prop := ∀ (j : Nat) (x : α), j < k → l[j]? = some x → P x
theorem Upto.nil {α : Type} {P : α → Prop} {l : List α} : Upto P l 0 := fun j x h => absurd h (by omega)
theorem Upto.step {α : Type} {P : α → Prop} {l : List α} {k : Nat} (h : Upto P l k) {x : α} (hx : l[k]? = some x) (hp : P x) : Upto P l (k + 1) := fun j y hj hy => by
  rcases Nat.lt_or_ge j k with h1 | h1
  · exact h j y h1 hy
  · obtain rfl : j = k := by omega
    rw [hx] at hy; injection hy with hy; subst hy; exact hp
theorem Upto.all {α : Type} {P : α → Prop} {l : List α} {k : Nat} (h : Upto P l k) (hk : l.length ≤ k) : ∀ x ∈ l, P x := fun x hx => by
  obtain ⟨j, hj⟩ := List.mem_iff_getElem?.1 hx
  exact h j x (Nat.lt_of_lt_of_le (List.getElem?_eq_some_iff.1 hj).1 hk) hj
theorem smallRl_iff (x : Rl) : smallRl x = true ↔ x.ws.length ≤ 4 ∧ ∀ p ∈ x.ws, 0 ≤ p.2 ∧ p.2 ≤ 100 := by
  unfold smallRl wOk inB
  simp only [Bool.and_eq_true, decide_eq_true_eq, List.all_eq_true]
set_option maxRecDepth 100000 in
set_option maxHeartbeats 2000000 in
theorem refBig_any (S : Nat → Prop) (r : Rs) (A A' : Option Addr) (n c n' c' : Nat) (w : World) (hV : RsV S w r A n c A' n' c') :
    Calls Tryz.prog 166 #[rsVal r A n c A' n' c'] w fun e w' => e = .returned (.bool (!smallR r)) ∧ Ext w w' := by
  have hm : n ≤ 9223372036854775807 := by have h1 := hV.sl.1; have h2 := hV.sl.2.1; unfold maxLen at h2; omega
  have hm' : n' ≤ 9223372036854775807 := by have h1 := hV.sl'.1; have h2 := hV.sl'.2.1; unfold maxLen at h2; omega
  have hL : r.rules.length = n := hV.arr.len
  have hL' : r.hosts.length = n' := hV.arr'.len
  have HV := Lib.hid hV
  clear hV
  unfold rsVal
  go_enter Tryz.func166, Tryz.ntmps166
  have EW0 := Lib.hid (Ext.new w (.cells #[.int .i64 r.kind, .string r.name, .int .i64 r.ver, .int .i64 r.port, .string r.to, .slice A n c, .slice A' n' c'] 34))
  by_cases g : r.ver < 0
  · have H : Hid ((!smallR r) = true) := Lib.hid (small_not fun h => by have := h.ver; omega)
    go_wp2_with fail
    go_ret
    exact ⟨by rw [H.out]; first | rfl | (simp; done) | (simp; omega), EW0.out⟩
  by_cases g : 2147483647 < r.ver
  · have H : Hid ((!smallR r) = true) := Lib.hid (small_not fun h => by have := h.ver; omega)
    go_wp2_with fail
    go_ret
    exact ⟨by rw [H.out]; first | rfl | (simp; done) | (simp; omega), EW0.out⟩
  by_cases g : r.port < 0
  · have H : Hid ((!smallR r) = true) := Lib.hid (small_not fun h => by have := h.port; omega)
    go_wp2_with fail
    go_ret
    exact ⟨by rw [H.out]; first | rfl | (simp; done) | (simp; omega), EW0.out⟩
  by_cases g : 65535 < r.port
  · have H : Hid ((!smallR r) = true) := Lib.hid (small_not fun h => by have := h.port; omega)
    go_wp2_with fail
    go_ret
    exact ⟨by rw [H.out]; first | rfl | (simp; done) | (simp; omega), EW0.out⟩
  by_cases g : 8 < n
  · have H : Hid ((!smallR r) = true) := Lib.hid (small_not fun h => by have := h.rules; omega)
    go_wp2_with fail
    go_ret
    exact ⟨by rw [H.out]; first | rfl | (simp; done) | (simp; omega), EW0.out⟩
  by_cases g : 8 < n'
  · have H : Hid ((!smallR r) = true) := Lib.hid (small_not fun h => by have := h.hosts; omega)
    go_wp2_with fail
    go_ret
    exact ⟨by rw [H.out]; first | rfl | (simp; done) | (simp; omega), EW0.out⟩
  go_wp2_with fail
  have kA := heap_alloc_new w (.cells #[.int .i64 r.kind, .string r.name, .int .i64 r.ver, .int .i64 r.port, .string r.to, .slice A n c, .slice A' n' c'] 34)
  have EW := Lib.hid (Ext.new w (.cells #[.int .i64 r.kind, .string r.name, .int .i64 r.ver, .int .i64 r.port, .string r.to, .slice A n c, .slice A' n' c'] 34))
  generalize w.alloc (.cells #[.int .i64 r.kind, .string r.name, .int .i64 r.ver, .int .i64 r.port, .string r.to, .slice A n c, .slice A' n' c'] 34) = W at kA EW ⊢
  obtain ⟨q, -⟩ := blk_rules kA
  have q5 := q 5
  have q6 := q 6
  clear q kA
  go_loop [3] (fun i => ∃ k : Nat, k ≤ n' ∧ i = .int .i64 k ∧ Hid (Upto (fun h : Int => 0 ≤ h ∧ h ≤ 2147483647) r.hosts k)) (fun i => n' - (intOf i).toNat)
  case atStart => exact ⟨0, Nat.zero_le _, by go_num, Lib.hid Upto.nil⟩
  case round =>
    obtain ⟨k, hk, rfl, HU⟩ := hrel
    by_cases hlt : k < n'
    · obtain ⟨b, ob, x, rfl, hbB, -, hlk, hc⟩ := HostL.at_ HV.out.arr' hlt
      have d0 : W.cell? ⟨b, ob + k, none⟩ = some (.int .i64 x) := (EW.out.cell hbB).trans hc
      have i1 : (0 : Int) ≤ (k : Int) := by omega
      have i2 : (k : Int) < (n' : Int) := by omega
      have HX := Lib.hid hlk
      clear hc hlk
      by_cases g : x < 0
      · have H : Hid ((!smallR r) = true) := Lib.hid (small_not fun h => by have := h.each x (List.mem_of_getElem? HX.out); omega)
        go_wp2_with fail
        go_ret
        exact ⟨by rw [H.out]; first | rfl | (simp; done) | (simp; omega), EW.out⟩
      by_cases g' : 2147483647 < x
      · have H : Hid ((!smallR r) = true) := Lib.hid (small_not fun h => by have := h.each x (List.mem_of_getElem? HX.out); omega)
        go_wp2_with fail
        go_ret
        exact ⟨by rw [H.out]; first | rfl | (simp; done) | (simp; omega), EW.out⟩
      have HU2 := Lib.hid (HU.out.step HX.out (show 0 ≤ x ∧ x ≤ 2147483647 by omega))
      go_wp2_with fail
      go_round
      case rel => exact ⟨k + 1, by omega, by go_num, HU2⟩
      case measure => simp [intOf]; omega
    · have HH := Lib.hid (HU.out.all (by omega))
      clear HU
      go_wp2_with fail
      go_loop [4] (fun i => ∃ k : Nat, k ≤ n ∧ i = .int .i64 k ∧ Hid (Upto (fun x : Rl => smallRl x = true) r.rules k)) (fun i => n - (intOf i).toNat)
      case atStart => exact ⟨0, Nat.zero_le _, by go_num, Lib.hid Upto.nil⟩
      case round =>
        clear hlt
        obtain ⟨k2, hk2, rfl, HU⟩ := hrel
        by_cases hlt : k2 < n
        · obtain ⟨b, ob, x, B, m, d, rfl, hbB, -, hlk, hv, hc0, hc1, hc2⟩ := RlL.at_ HV.out.arr hlt
          have d2 : W.cell? ⟨b, ob + k2 * 3 + 2, none⟩ = some (.slice B m d) := (EW.out.cell hbB).trans hc2
          have i1 : (0 : Int) ≤ (k2 : Int) := by omega
          have i2 : (k2 : Int) < (n : Int) := by omega
          have HX := Lib.hid hlk
          have HVx := Lib.hid hv
          have hlw : x.ws.length = m := hv.arr.len
          clear hc0 hc1 hc2 hlk hv
          by_cases g : 4 < m
          · have H : Hid ((!smallR r) = true) := Lib.hid (small_not fun h => by have := ((smallRl_iff x).1 (h.rl x (List.mem_of_getElem? HX.out))).1; omega)
            go_wp2_with fail
            go_ret
            exact ⟨by rw [H.out]; first | rfl | (simp; done) | (simp; omega), EW.out⟩
          go_wp2_with fail
          go_loop [5] (fun i => ∃ q : Nat, q ≤ m ∧ i = .int .i64 q ∧ Hid (Upto (fun p : ByteArray × Int => 0 ≤ p.2 ∧ p.2 ≤ 100) x.ws q)) (fun i => m - (intOf i).toNat)
          case atStart => exact ⟨0, Nat.zero_le _, by go_num, Lib.hid Upto.nil⟩
          case round =>
            obtain ⟨q, hq, rfl, HQ⟩ := hrel
            by_cases hlq : q < m
            · obtain ⟨b1, o1, s, y, rfl, hbB1, -, hl1, -, hd0, hd1⟩ := WtL.at_ HVx.out.arr hlq
              have f1 : W.cell? ⟨b1, o1 + q * 2 + 1, none⟩ = some (.int .i64 y) := (EW.out.cell hbB1).trans hd1
              have j1 : (0 : Int) ≤ (q : Int) := by omega
              have j2 : (q : Int) < (m : Int) := by omega
              have HL1 := Lib.hid hl1
              clear hd0 hd1 hl1
              by_cases g1 : y < 0
              · have H : Hid ((!smallR r) = true) := Lib.hid (small_not fun h => by have := ((smallRl_iff x).1 (h.rl x (List.mem_of_getElem? HX.out))).2 (s, y) (List.mem_of_getElem? HL1.out); omega)
                go_wp2_with fail
                go_ret
                exact ⟨by rw [H.out]; first | rfl | (simp; done) | (simp; omega), EW.out⟩
              by_cases g2 : 100 < y
              · have H : Hid ((!smallR r) = true) := Lib.hid (small_not fun h => by have := ((smallRl_iff x).1 (h.rl x (List.mem_of_getElem? HX.out))).2 (s, y) (List.mem_of_getElem? HL1.out); omega)
                go_wp2_with fail
                go_ret
                exact ⟨by rw [H.out]; first | rfl | (simp; done) | (simp; omega), EW.out⟩
              have HQ2 := Lib.hid (HQ.out.step HL1.out (show 0 ≤ y ∧ y ≤ 100 by omega))
              go_wp2_with fail
              go_round
              case rel => exact ⟨q + 1, by omega, by go_num, HQ2⟩
              case measure => simp [intOf]; omega
            · have HU2 := Lib.hid (HU.out.step HX.out ((smallRl_iff x).2 ⟨by omega, HQ.out.all (by omega)⟩))
              go_wp2_with fail
              go_round
              case rel => exact ⟨k2 + 1, by omega, by go_num, HU2⟩
              case measure => simp [intOf]; omega
        · have H : Hid ((!smallR r) = false) := Lib.hid (by rw [(small_iff r).2 ⟨by omega, by omega, by omega, by omega, HH.out, HU.out.all (by omega)⟩]; rfl)
          go_wp2_with fail
          go_ret
          exact ⟨by rw [H.out]; first | rfl | (simp; done) | (simp; omega), EW.out⟩
theorem kinds4 {r : Rs} (h : 0 ≤ r.kind ∧ r.kind ≤ 3) : r.kind = 0 ∨ r.kind = 1 ∨ r.kind = 2 ∨ r.kind = 3 := by omega
theorem named_even {r : Rs} (h : r.kind = 0 ∨ r.kind = 2) : namedR r = (saneN (tx r.to) && r.rules.all nmRl) := by
  unfold namedR; rcases h with h | h <;> simp [h]
theorem named_odd {r : Rs} (h : r.kind = 1 ∨ r.kind = 3) : namedR r = r.rules.all nmRl := by
  unfold namedR; rcases h with h | h <;> simp [h]
theorem all_not {l : List Rl} {x : Rl} (hx : x ∈ l) (h : nmRl x = false) : l.all nmRl = false := by
  rw [List.all_eq_false]; exact ⟨x, hx, by rw [h]; simp⟩
theorem nm3_host {x : Rl} (h : hostB (tx x.host) = false) : nmRl x = false := by unfold nmRl; rw [h]; rfl
theorem nm3_path {x : Rl} (h : pathB (tx x.pre) = false) : nmRl x = false := by unfold nmRl; rw [h]; simp
theorem nm_ws {x : Rl} {p : ByteArray × Int} (hp : p ∈ x.ws) (h : saneN (tx p.1) = false) : nmRl x = false := by
  unfold nmRl
  rw [show x.ws.all wNm = false from by rw [List.all_eq_false]; exact ⟨p, hp, by unfold wNm; rw [h]; simp⟩]; simp
theorem nm_good {x : Rl} (h1 : hostB (tx x.host) = true) (h2 : pathB (tx x.pre) = true) (h3 : ∀ p ∈ x.ws, saneN (tx p.1) = true) : nmRl x = true := by
  unfold nmRl
  rw [h1, h2, List.all_eq_true.2 (fun p hp => by unfold wNm; exact h3 p hp)]; rfl
set_option maxRecDepth 100000 in
set_option maxHeartbeats 4000000 in
theorem refNames_any (S : Nat → Prop) (r : Rs) (A A' : Option Addr) (n c n' c' : Nat) (w : World) (hV : RsV S w r A n c A' n' c') (hkd : 0 ≤ r.kind ∧ r.kind ≤ 3) :
    Calls Tryz.prog 167 #[rsVal r A n c A' n' c'] w fun e w' => e = .returned (.bool (namedR r)) ∧ Ext w w' := by
  have hm : n ≤ 9223372036854775807 := by have h1 := hV.sl.1; have h2 := hV.sl.2.1; unfold maxLen at h2; omega
  have hm' : n' ≤ 9223372036854775807 := by have h1 := hV.sl'.1; have h2 := hV.sl'.2.1; unfold maxLen at h2; omega
  have hL : r.rules.length = n := hV.arr.len
  have hL' : r.hosts.length = n' := hV.arr'.len
  have HV := Lib.hid hV
  clear hV
  have HK := Lib.hid (kinds4 hkd)
  clear hkd
  unfold rsVal
  go_enter Tryz.func167, Tryz.ntmps167
  rcases HK.out with hk | hk | hk | hk
  · have HNM0 := Lib.hid (named_even (.inl hk))
    go_wp2_with fail
    have kA := heap_alloc_new w (.cells #[.int .i64 0, .string r.name, .int .i64 r.ver, .int .i64 r.port, .string r.to, .slice A n c, .slice A' n' c'] 34)
    have EW := Lib.hid (Ext.new w (.cells #[.int .i64 0, .string r.name, .int .i64 r.ver, .int .i64 r.port, .string r.to, .slice A n c, .slice A' n' c'] 34))
    generalize w.alloc (.cells #[.int .i64 0, .string r.name, .int .i64 r.ver, .int .i64 r.port, .string r.to, .slice A n c, .slice A' n' c'] 34) = W at kA EW ⊢
    obtain ⟨q, -⟩ := blk_rules kA
    have q5 := q 5
    clear q kA hk
    refine (refSaneN_any r.to _ HV.out.to).mono ?_
    rintro e w' ⟨rfl, rfl⟩
    cases h1 : saneN (tx r.to) with
    | false =>
      have H : Hid (namedR r = false) := Lib.hid (by rw [HNM0.out, h1]; rfl)
      clear h1
      go_wp2_with fail
      go_ret
      exact ⟨by rw [H.out]; first | rfl | (simp; done) | (simp; omega), EW.out⟩
    | true =>
    have HNM : Hid (namedR r = r.rules.all nmRl) := Lib.hid (by rw [HNM0.out, h1, Bool.true_and])
    clear h1
    go_wp2_with fail
    go_loop [3] (fun i => ∃ k : Nat, k ≤ n ∧ i = .int .i64 k ∧ Hid (Upto (fun x : Rl => nmRl x = true) r.rules k)) (fun i => n - (intOf i).toNat)
    case atStart => exact ⟨0, Nat.zero_le _, by go_num, Lib.hid Upto.nil⟩
    case round =>
      obtain ⟨k, hk, rfl, HU⟩ := hrel
      by_cases hlt : k < n
      · obtain ⟨b, ob, x, B, m, d, rfl, hbB, -, hlk, hv, hc0, hc1, hc2⟩ := RlL.at_ HV.out.arr hlt
        have d0 : W.cell? ⟨b, ob + k * 3, none⟩ = some (.string x.host) := (EW.out.cell hbB).trans hc0
        have d1 : W.cell? ⟨b, ob + k * 3 + 1, none⟩ = some (.string x.pre) := (EW.out.cell hbB).trans hc1
        have d2 : W.cell? ⟨b, ob + k * 3 + 2, none⟩ = some (.slice B m d) := (EW.out.cell hbB).trans hc2
        have i1 : (0 : Int) ≤ (k : Int) := by omega
        have i2 : (k : Int) < (n : Int) := by omega
        have hmm : m ≤ 9223372036854775807 := by have h1 := hv.sl.1; have h2 := hv.sl.2.1; unfold maxLen at h2; omega
        have HX := Lib.hid hlk
        have HVx := Lib.hid hv
        have hlw : x.ws.length = m := hv.arr.len
        have HBD : Hid (nmRl x = false → namedR r = false) := Lib.hid fun h => by rw [HNM.out, all_not (List.mem_of_getElem? hlk) h]
        clear hc0 hc1 hc2 hlk hv
        go_wp2_with fail
        refine (refHost_any x.host _ HVx.out.h).mono ?_
        rintro e w' ⟨rfl, rfl⟩
        cases h1 : hostB (tx x.host) with
        | false =>
          have H : Hid (namedR r = false) := Lib.hid (HBD.out (nm3_host h1))
          clear h1
          go_wp2_with fail
          go_ret
          exact ⟨by rw [H.out]; first | rfl | (simp; done) | (simp; omega), EW.out⟩
        | true =>
        have H1 := Lib.hid h1
        clear h1
        go_wp2_with fail
        refine (refPath_any x.pre _ HVx.out.p).mono ?_
        rintro e w' ⟨rfl, rfl⟩
        cases h1 : pathB (tx x.pre) with
        | false =>
          have H : Hid (namedR r = false) := Lib.hid (HBD.out (nm3_path h1))
          clear h1
          go_wp2_with fail
          go_ret
          exact ⟨by rw [H.out]; first | rfl | (simp; done) | (simp; omega), EW.out⟩
        | true =>
        have H2 := Lib.hid h1
        clear h1
        go_wp2_with fail
        go_loop [4] (fun i => ∃ q : Nat, q ≤ m ∧ i = .int .i64 q ∧ Hid (Upto (fun p : ByteArray × Int => saneN (tx p.1) = true) x.ws q)) (fun i => m - (intOf i).toNat)
        case atStart => exact ⟨0, Nat.zero_le _, by go_num, Lib.hid Upto.nil⟩
        case round =>
          obtain ⟨q, hq, rfl, HQ⟩ := hrel
          by_cases hlq : q < m
          · obtain ⟨b1, o1, s, y, rfl, hbB1, -, hl1, hsz, hd0, hd1⟩ := WtL.at_ HVx.out.arr hlq
            have f0 : W.cell? ⟨b1, o1 + q * 2, none⟩ = some (.string s) := (EW.out.cell hbB1).trans hd0
            have j1 : (0 : Int) ≤ (q : Int) := by omega
            have j2 : (q : Int) < (m : Int) := by omega
            have HL1 := Lib.hid hl1
            have HSZ := Lib.hid hsz
            clear hd0 hd1 hl1 hsz
            go_wp2_with fail
            refine (refSaneN_any s _ HSZ.out).mono ?_
            rintro e w' ⟨rfl, rfl⟩
            cases h1 : saneN (tx s) with
            | false =>
              have H : Hid (namedR r = false) := Lib.hid (HBD.out (nm_ws (List.mem_of_getElem? HL1.out) h1))
              clear h1
              go_wp2_with fail
              go_ret
              exact ⟨by rw [H.out]; first | rfl | (simp; done) | (simp; omega), EW.out⟩
            | true =>
            have HQ2 := Lib.hid (HQ.out.step HL1.out h1)
            clear h1
            go_wp2_with fail
            go_round
            case rel => exact ⟨q + 1, by omega, by go_num, HQ2⟩
            case measure => simp [intOf]; omega
          · have HU2 := Lib.hid (HU.out.step HX.out (nm_good H1.out H2.out (HQ.out.all (by omega))))
            go_wp2_with fail
            go_round
            case rel => exact ⟨k + 1, by omega, by go_num, HU2⟩
            case measure => simp [intOf]; omega
      · have H : Hid (namedR r = true) := Lib.hid (by rw [HNM.out]; exact List.all_eq_true.2 (HU.out.all (by omega)))
        go_wp2_with fail
        go_ret
        exact ⟨by rw [H.out]; first | rfl | (simp; done) | (simp; omega), EW.out⟩
  · have HNM0 := Lib.hid (named_odd (.inl hk))
    go_wp2_with fail
    have kA := heap_alloc_new w (.cells #[.int .i64 1, .string r.name, .int .i64 r.ver, .int .i64 r.port, .string r.to, .slice A n c, .slice A' n' c'] 34)
    have EW := Lib.hid (Ext.new w (.cells #[.int .i64 1, .string r.name, .int .i64 r.ver, .int .i64 r.port, .string r.to, .slice A n c, .slice A' n' c'] 34))
    generalize w.alloc (.cells #[.int .i64 1, .string r.name, .int .i64 r.ver, .int .i64 r.port, .string r.to, .slice A n c, .slice A' n' c'] 34) = W at kA EW ⊢
    obtain ⟨q, -⟩ := blk_rules kA
    have q5 := q 5
    clear q kA hk
    have HNM := HNM0
    go_loop [3] (fun i => ∃ k : Nat, k ≤ n ∧ i = .int .i64 k ∧ Hid (Upto (fun x : Rl => nmRl x = true) r.rules k)) (fun i => n - (intOf i).toNat)
    case atStart => exact ⟨0, Nat.zero_le _, by go_num, Lib.hid Upto.nil⟩
    case round =>
      obtain ⟨k, hk, rfl, HU⟩ := hrel
      by_cases hlt : k < n
      · obtain ⟨b, ob, x, B, m, d, rfl, hbB, -, hlk, hv, hc0, hc1, hc2⟩ := RlL.at_ HV.out.arr hlt
        have d0 : W.cell? ⟨b, ob + k * 3, none⟩ = some (.string x.host) := (EW.out.cell hbB).trans hc0
        have d1 : W.cell? ⟨b, ob + k * 3 + 1, none⟩ = some (.string x.pre) := (EW.out.cell hbB).trans hc1
        have d2 : W.cell? ⟨b, ob + k * 3 + 2, none⟩ = some (.slice B m d) := (EW.out.cell hbB).trans hc2
        have i1 : (0 : Int) ≤ (k : Int) := by omega
        have i2 : (k : Int) < (n : Int) := by omega
        have hmm : m ≤ 9223372036854775807 := by have h1 := hv.sl.1; have h2 := hv.sl.2.1; unfold maxLen at h2; omega
        have HX := Lib.hid hlk
        have HVx := Lib.hid hv
        have hlw : x.ws.length = m := hv.arr.len
        have HBD : Hid (nmRl x = false → namedR r = false) := Lib.hid fun h => by rw [HNM.out, all_not (List.mem_of_getElem? hlk) h]
        clear hc0 hc1 hc2 hlk hv
        go_wp2_with fail
        refine (refHost_any x.host _ HVx.out.h).mono ?_
        rintro e w' ⟨rfl, rfl⟩
        cases h1 : hostB (tx x.host) with
        | false =>
          have H : Hid (namedR r = false) := Lib.hid (HBD.out (nm3_host h1))
          clear h1
          go_wp2_with fail
          go_ret
          exact ⟨by rw [H.out]; first | rfl | (simp; done) | (simp; omega), EW.out⟩
        | true =>
        have H1 := Lib.hid h1
        clear h1
        go_wp2_with fail
        refine (refPath_any x.pre _ HVx.out.p).mono ?_
        rintro e w' ⟨rfl, rfl⟩
        cases h1 : pathB (tx x.pre) with
        | false =>
          have H : Hid (namedR r = false) := Lib.hid (HBD.out (nm3_path h1))
          clear h1
          go_wp2_with fail
          go_ret
          exact ⟨by rw [H.out]; first | rfl | (simp; done) | (simp; omega), EW.out⟩
        | true =>
        have H2 := Lib.hid h1
        clear h1
        go_wp2_with fail
        go_loop [4] (fun i => ∃ q : Nat, q ≤ m ∧ i = .int .i64 q ∧ Hid (Upto (fun p : ByteArray × Int => saneN (tx p.1) = true) x.ws q)) (fun i => m - (intOf i).toNat)
        case atStart => exact ⟨0, Nat.zero_le _, by go_num, Lib.hid Upto.nil⟩
        case round =>
          obtain ⟨q, hq, rfl, HQ⟩ := hrel
          by_cases hlq : q < m
          · obtain ⟨b1, o1, s, y, rfl, hbB1, -, hl1, hsz, hd0, hd1⟩ := WtL.at_ HVx.out.arr hlq
            have f0 : W.cell? ⟨b1, o1 + q * 2, none⟩ = some (.string s) := (EW.out.cell hbB1).trans hd0
            have j1 : (0 : Int) ≤ (q : Int) := by omega
            have j2 : (q : Int) < (m : Int) := by omega
            have HL1 := Lib.hid hl1
            have HSZ := Lib.hid hsz
            clear hd0 hd1 hl1 hsz
            go_wp2_with fail
            refine (refSaneN_any s _ HSZ.out).mono ?_
            rintro e w' ⟨rfl, rfl⟩
            cases h1 : saneN (tx s) with
            | false =>
              have H : Hid (namedR r = false) := Lib.hid (HBD.out (nm_ws (List.mem_of_getElem? HL1.out) h1))
              clear h1
              go_wp2_with fail
              go_ret
              exact ⟨by rw [H.out]; first | rfl | (simp; done) | (simp; omega), EW.out⟩
            | true =>
            have HQ2 := Lib.hid (HQ.out.step HL1.out h1)
            clear h1
            go_wp2_with fail
            go_round
            case rel => exact ⟨q + 1, by omega, by go_num, HQ2⟩
            case measure => simp [intOf]; omega
          · have HU2 := Lib.hid (HU.out.step HX.out (nm_good H1.out H2.out (HQ.out.all (by omega))))
            go_wp2_with fail
            go_round
            case rel => exact ⟨k + 1, by omega, by go_num, HU2⟩
            case measure => simp [intOf]; omega
      · have H : Hid (namedR r = true) := Lib.hid (by rw [HNM.out]; exact List.all_eq_true.2 (HU.out.all (by omega)))
        go_wp2_with fail
        go_ret
        exact ⟨by rw [H.out]; first | rfl | (simp; done) | (simp; omega), EW.out⟩
  · have HNM0 := Lib.hid (named_even (.inr hk))
    go_wp2_with fail
    have kA := heap_alloc_new w (.cells #[.int .i64 2, .string r.name, .int .i64 r.ver, .int .i64 r.port, .string r.to, .slice A n c, .slice A' n' c'] 34)
    have EW := Lib.hid (Ext.new w (.cells #[.int .i64 2, .string r.name, .int .i64 r.ver, .int .i64 r.port, .string r.to, .slice A n c, .slice A' n' c'] 34))
    generalize w.alloc (.cells #[.int .i64 2, .string r.name, .int .i64 r.ver, .int .i64 r.port, .string r.to, .slice A n c, .slice A' n' c'] 34) = W at kA EW ⊢
    obtain ⟨q, -⟩ := blk_rules kA
    have q5 := q 5
    clear q kA hk
    refine (refSaneN_any r.to _ HV.out.to).mono ?_
    rintro e w' ⟨rfl, rfl⟩
    cases h1 : saneN (tx r.to) with
    | false =>
      have H : Hid (namedR r = false) := Lib.hid (by rw [HNM0.out, h1]; rfl)
      clear h1
      go_wp2_with fail
      go_ret
      exact ⟨by rw [H.out]; first | rfl | (simp; done) | (simp; omega), EW.out⟩
    | true =>
    have HNM : Hid (namedR r = r.rules.all nmRl) := Lib.hid (by rw [HNM0.out, h1, Bool.true_and])
    clear h1
    go_wp2_with fail
    go_loop [3] (fun i => ∃ k : Nat, k ≤ n ∧ i = .int .i64 k ∧ Hid (Upto (fun x : Rl => nmRl x = true) r.rules k)) (fun i => n - (intOf i).toNat)
    case atStart => exact ⟨0, Nat.zero_le _, by go_num, Lib.hid Upto.nil⟩
    case round =>
      obtain ⟨k, hk, rfl, HU⟩ := hrel
      by_cases hlt : k < n
      · obtain ⟨b, ob, x, B, m, d, rfl, hbB, -, hlk, hv, hc0, hc1, hc2⟩ := RlL.at_ HV.out.arr hlt
        have d0 : W.cell? ⟨b, ob + k * 3, none⟩ = some (.string x.host) := (EW.out.cell hbB).trans hc0
        have d1 : W.cell? ⟨b, ob + k * 3 + 1, none⟩ = some (.string x.pre) := (EW.out.cell hbB).trans hc1
        have d2 : W.cell? ⟨b, ob + k * 3 + 2, none⟩ = some (.slice B m d) := (EW.out.cell hbB).trans hc2
        have i1 : (0 : Int) ≤ (k : Int) := by omega
        have i2 : (k : Int) < (n : Int) := by omega
        have hmm : m ≤ 9223372036854775807 := by have h1 := hv.sl.1; have h2 := hv.sl.2.1; unfold maxLen at h2; omega
        have HX := Lib.hid hlk
        have HVx := Lib.hid hv
        have hlw : x.ws.length = m := hv.arr.len
        have HBD : Hid (nmRl x = false → namedR r = false) := Lib.hid fun h => by rw [HNM.out, all_not (List.mem_of_getElem? hlk) h]
        clear hc0 hc1 hc2 hlk hv
        go_wp2_with fail
        refine (refHost_any x.host _ HVx.out.h).mono ?_
        rintro e w' ⟨rfl, rfl⟩
        cases h1 : hostB (tx x.host) with
        | false =>
          have H : Hid (namedR r = false) := Lib.hid (HBD.out (nm3_host h1))
          clear h1
          go_wp2_with fail
          go_ret
          exact ⟨by rw [H.out]; first | rfl | (simp; done) | (simp; omega), EW.out⟩
        | true =>
        have H1 := Lib.hid h1
        clear h1
        go_wp2_with fail
        refine (refPath_any x.pre _ HVx.out.p).mono ?_
        rintro e w' ⟨rfl, rfl⟩
        cases h1 : pathB (tx x.pre) with
        | false =>
          have H : Hid (namedR r = false) := Lib.hid (HBD.out (nm3_path h1))
          clear h1
          go_wp2_with fail
          go_ret
          exact ⟨by rw [H.out]; first | rfl | (simp; done) | (simp; omega), EW.out⟩
        | true =>
        have H2 := Lib.hid h1
        clear h1
        go_wp2_with fail
        go_loop [4] (fun i => ∃ q : Nat, q ≤ m ∧ i = .int .i64 q ∧ Hid (Upto (fun p : ByteArray × Int => saneN (tx p.1) = true) x.ws q)) (fun i => m - (intOf i).toNat)
        case atStart => exact ⟨0, Nat.zero_le _, by go_num, Lib.hid Upto.nil⟩
        case round =>
          obtain ⟨q, hq, rfl, HQ⟩ := hrel
          by_cases hlq : q < m
          · obtain ⟨b1, o1, s, y, rfl, hbB1, -, hl1, hsz, hd0, hd1⟩ := WtL.at_ HVx.out.arr hlq
            have f0 : W.cell? ⟨b1, o1 + q * 2, none⟩ = some (.string s) := (EW.out.cell hbB1).trans hd0
            have j1 : (0 : Int) ≤ (q : Int) := by omega
            have j2 : (q : Int) < (m : Int) := by omega
            have HL1 := Lib.hid hl1
            have HSZ := Lib.hid hsz
            clear hd0 hd1 hl1 hsz
            go_wp2_with fail
            refine (refSaneN_any s _ HSZ.out).mono ?_
            rintro e w' ⟨rfl, rfl⟩
            cases h1 : saneN (tx s) with
            | false =>
              have H : Hid (namedR r = false) := Lib.hid (HBD.out (nm_ws (List.mem_of_getElem? HL1.out) h1))
              clear h1
              go_wp2_with fail
              go_ret
              exact ⟨by rw [H.out]; first | rfl | (simp; done) | (simp; omega), EW.out⟩
            | true =>
            have HQ2 := Lib.hid (HQ.out.step HL1.out h1)
            clear h1
            go_wp2_with fail
            go_round
            case rel => exact ⟨q + 1, by omega, by go_num, HQ2⟩
            case measure => simp [intOf]; omega
          · have HU2 := Lib.hid (HU.out.step HX.out (nm_good H1.out H2.out (HQ.out.all (by omega))))
            go_wp2_with fail
            go_round
            case rel => exact ⟨k + 1, by omega, by go_num, HU2⟩
            case measure => simp [intOf]; omega
      · have H : Hid (namedR r = true) := Lib.hid (by rw [HNM.out]; exact List.all_eq_true.2 (HU.out.all (by omega)))
        go_wp2_with fail
        go_ret
        exact ⟨by rw [H.out]; first | rfl | (simp; done) | (simp; omega), EW.out⟩
  · have HNM0 := Lib.hid (named_odd (.inr hk))
    go_wp2_with fail
    have kA := heap_alloc_new w (.cells #[.int .i64 3, .string r.name, .int .i64 r.ver, .int .i64 r.port, .string r.to, .slice A n c, .slice A' n' c'] 34)
    have EW := Lib.hid (Ext.new w (.cells #[.int .i64 3, .string r.name, .int .i64 r.ver, .int .i64 r.port, .string r.to, .slice A n c, .slice A' n' c'] 34))
    generalize w.alloc (.cells #[.int .i64 3, .string r.name, .int .i64 r.ver, .int .i64 r.port, .string r.to, .slice A n c, .slice A' n' c'] 34) = W at kA EW ⊢
    obtain ⟨q, -⟩ := blk_rules kA
    have q5 := q 5
    clear q kA hk
    have HNM := HNM0
    go_loop [3] (fun i => ∃ k : Nat, k ≤ n ∧ i = .int .i64 k ∧ Hid (Upto (fun x : Rl => nmRl x = true) r.rules k)) (fun i => n - (intOf i).toNat)
    case atStart => exact ⟨0, Nat.zero_le _, by go_num, Lib.hid Upto.nil⟩
    case round =>
      obtain ⟨k, hk, rfl, HU⟩ := hrel
      by_cases hlt : k < n
      · obtain ⟨b, ob, x, B, m, d, rfl, hbB, -, hlk, hv, hc0, hc1, hc2⟩ := RlL.at_ HV.out.arr hlt
        have d0 : W.cell? ⟨b, ob + k * 3, none⟩ = some (.string x.host) := (EW.out.cell hbB).trans hc0
        have d1 : W.cell? ⟨b, ob + k * 3 + 1, none⟩ = some (.string x.pre) := (EW.out.cell hbB).trans hc1
        have d2 : W.cell? ⟨b, ob + k * 3 + 2, none⟩ = some (.slice B m d) := (EW.out.cell hbB).trans hc2
        have i1 : (0 : Int) ≤ (k : Int) := by omega
        have i2 : (k : Int) < (n : Int) := by omega
        have hmm : m ≤ 9223372036854775807 := by have h1 := hv.sl.1; have h2 := hv.sl.2.1; unfold maxLen at h2; omega
        have HX := Lib.hid hlk
        have HVx := Lib.hid hv
        have hlw : x.ws.length = m := hv.arr.len
        have HBD : Hid (nmRl x = false → namedR r = false) := Lib.hid fun h => by rw [HNM.out, all_not (List.mem_of_getElem? hlk) h]
        clear hc0 hc1 hc2 hlk hv
        go_wp2_with fail
        refine (refHost_any x.host _ HVx.out.h).mono ?_
        rintro e w' ⟨rfl, rfl⟩
        cases h1 : hostB (tx x.host) with
        | false =>
          have H : Hid (namedR r = false) := Lib.hid (HBD.out (nm3_host h1))
          clear h1
          go_wp2_with fail
          go_ret
          exact ⟨by rw [H.out]; first | rfl | (simp; done) | (simp; omega), EW.out⟩
        | true =>
        have H1 := Lib.hid h1
        clear h1
        go_wp2_with fail
        refine (refPath_any x.pre _ HVx.out.p).mono ?_
        rintro e w' ⟨rfl, rfl⟩
        cases h1 : pathB (tx x.pre) with
        | false =>
          have H : Hid (namedR r = false) := Lib.hid (HBD.out (nm3_path h1))
          clear h1
          go_wp2_with fail
          go_ret
          exact ⟨by rw [H.out]; first | rfl | (simp; done) | (simp; omega), EW.out⟩
        | true =>
        have H2 := Lib.hid h1
        clear h1
        go_wp2_with fail
        go_loop [4] (fun i => ∃ q : Nat, q ≤ m ∧ i = .int .i64 q ∧ Hid (Upto (fun p : ByteArray × Int => saneN (tx p.1) = true) x.ws q)) (fun i => m - (intOf i).toNat)
        case atStart => exact ⟨0, Nat.zero_le _, by go_num, Lib.hid Upto.nil⟩
        case round =>
          obtain ⟨q, hq, rfl, HQ⟩ := hrel
          by_cases hlq : q < m
          · obtain ⟨b1, o1, s, y, rfl, hbB1, -, hl1, hsz, hd0, hd1⟩ := WtL.at_ HVx.out.arr hlq
            have f0 : W.cell? ⟨b1, o1 + q * 2, none⟩ = some (.string s) := (EW.out.cell hbB1).trans hd0
            have j1 : (0 : Int) ≤ (q : Int) := by omega
            have j2 : (q : Int) < (m : Int) := by omega
            have HL1 := Lib.hid hl1
            have HSZ := Lib.hid hsz
            clear hd0 hd1 hl1 hsz
            go_wp2_with fail
            refine (refSaneN_any s _ HSZ.out).mono ?_
            rintro e w' ⟨rfl, rfl⟩
            cases h1 : saneN (tx s) with
            | false =>
              have H : Hid (namedR r = false) := Lib.hid (HBD.out (nm_ws (List.mem_of_getElem? HL1.out) h1))
              clear h1
              go_wp2_with fail
              go_ret
              exact ⟨by rw [H.out]; first | rfl | (simp; done) | (simp; omega), EW.out⟩
            | true =>
            have HQ2 := Lib.hid (HQ.out.step HL1.out h1)
            clear h1
            go_wp2_with fail
            go_round
            case rel => exact ⟨q + 1, by omega, by go_num, HQ2⟩
            case measure => simp [intOf]; omega
          · have HU2 := Lib.hid (HU.out.step HX.out (nm_good H1.out H2.out (HQ.out.all (by omega))))
            go_wp2_with fail
            go_round
            case rel => exact ⟨k + 1, by omega, by go_num, HU2⟩
            case measure => simp [intOf]; omega
      · have H : Hid (namedR r = true) := Lib.hid (by rw [HNM.out]; exact List.all_eq_true.2 (HU.out.all (by omega)))
        go_wp2_with fail
        go_ret
        exact ⟨by rw [H.out]; first | rfl | (simp; done) | (simp; omega), EW.out⟩
end Go.Proofs.YtfdjbnofcniodaaGreatDoor
