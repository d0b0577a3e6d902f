/- What groyneref23's Same, at equal steps, Few and Sane compute. -/
import Derived.Test.YtfdjbnofcniodaaGreatDoorSc1
import Derived.Test.YtfdjbnofcniodaaGreatDoorSc0
import Derived.Test.YtfdjbnofcniodaaGreatDoorRef03e
import Derived.Test.YtfdjbnofcniodaaGreatDoorRefAll
namespace Go.Proofs.YtfdjbnofcniodaaGreatDoor
set_option linter.unusedVariables false
open Go.RowKit

set_option maxRecDepth 100000 in
set_option maxHeartbeats 8000000 in
theorem refSame23_eq (S S' U U' : Nat → Prop) (l : List Sp) (A B : Option Addr) (n c d : Nat) (w : World) (hm : n ≤ maxLen) (hA : ArrQ U w 11 (SpQ S w) A n l) (hB : ArrQ U' w 11 (SpQ S' w) B n l) :
    Calls Tryz.prog 54 #[.slice A n c, .slice B n d] w fun e w' => e = .returned (.bool true) ∧ Ext w w' := by
  unfold maxLen at hm
  have HA := Lib.hid hA
  have HB := Lib.hid hB
  clear hA hB
  go_enter Tryz.func54, Tryz.ntmps54
  go_wp2_with fail
  go_loopw [5] (fun i wr => ∃ k : Nat, k ≤ n ∧ i = .int .i64 k ∧ Hid (Ext w wr)) (fun i _ => n - (intOf i).toNat)
  case atStart => exact ⟨0, Nat.zero_le _, rfl, Lib.hid (Ext.refl _)⟩
  case round =>
    obtain ⟨k, hk, rfl, HX⟩ := hrel
    by_cases hlt : k < n
    · obtain ⟨b, o, s, B, m, d, B', m', d', rfl, hbB, -, hlk, hv, hc0, hc1, hc2, hc3, hc4, hc5, hc6, hc7, hc8, hc9, hc10⟩ := SpL.at_ HA.out hlt
      obtain ⟨b', o', s', C, p, f, C', p', f', rfl, hbB', -, hlk', hv', kc0, kc1, kc2, kc3, kc4, kc5, kc6, kc7, kc8, kc9, kc10⟩ := SpL.at_ HB.out hlt
      obtain rfl : s = s' := by rw [hlk] at hlk'; injection hlk'
      have i1 : (0 : Int) ≤ (k : Int) := by omega
      have i2 : (k : Int) < (n : Int) := by omega
      have HV := Lib.hid hv
      have HV' := Lib.hid hv'
      have t0 : wr.cell? ⟨b, o + k * 11, none⟩ = some (.int .i64 s.kind) := (HX.out.cell hbB).trans hc0
      have s0 : wr.cell? ⟨b', o' + k * 11, none⟩ = some (.int .i64 s.kind) := (HX.out.cell hbB').trans kc0
      have t1 : wr.cell? ⟨b, o + k * 11 + 1, none⟩ = some (.int .i64 s.side) := (HX.out.cell hbB).trans hc1
      have s1 : wr.cell? ⟨b', o' + k * 11 + 1, none⟩ = some (.int .i64 s.side) := (HX.out.cell hbB').trans kc1
      have t2 : wr.cell? ⟨b, o + k * 11 + 2, none⟩ = some (.int .i64 s.way) := (HX.out.cell hbB).trans hc2
      have s2 : wr.cell? ⟨b', o' + k * 11 + 2, none⟩ = some (.int .i64 s.way) := (HX.out.cell hbB').trans kc2
      have t3 : wr.cell? ⟨b, o + k * 11 + 3, none⟩ = some (.int .i64 s.n) := (HX.out.cell hbB).trans hc3
      have s3 : wr.cell? ⟨b', o' + k * 11 + 3, none⟩ = some (.int .i64 s.n) := (HX.out.cell hbB').trans kc3
      have t4 : wr.cell? ⟨b, o + k * 11 + 4, none⟩ = some (.slice B m d) := (HX.out.cell hbB).trans hc4
      have s4 : wr.cell? ⟨b', o' + k * 11 + 4, none⟩ = some (.slice C p f) := (HX.out.cell hbB').trans kc4
      have t5 : wr.cell? ⟨b, o + k * 11 + 5, none⟩ = some (.slice B' m' d') := (HX.out.cell hbB).trans hc5
      have s5 : wr.cell? ⟨b', o' + k * 11 + 5, none⟩ = some (.slice C' p' f') := (HX.out.cell hbB').trans kc5
      have t6 : wr.cell? ⟨b, o + k * 11 + 6, none⟩ = some (.int .i64 s.a.port) := (HX.out.cell hbB).trans hc6
      have s6 : wr.cell? ⟨b', o' + k * 11 + 6, none⟩ = some (.int .i64 s.a.port) := (HX.out.cell hbB').trans kc6
      have t7 : wr.cell? ⟨b, o + k * 11 + 7, none⟩ = some (.string s.a.host) := (HX.out.cell hbB).trans hc7
      have s7 : wr.cell? ⟨b', o' + k * 11 + 7, none⟩ = some (.string s.a.host) := (HX.out.cell hbB').trans kc7
      have t8 : wr.cell? ⟨b, o + k * 11 + 8, none⟩ = some (.string s.a.path) := (HX.out.cell hbB).trans hc8
      have s8 : wr.cell? ⟨b', o' + k * 11 + 8, none⟩ = some (.string s.a.path) := (HX.out.cell hbB').trans kc8
      have t9 : wr.cell? ⟨b, o + k * 11 + 9, none⟩ = some (.int .i64 s.a.first) := (HX.out.cell hbB).trans hc9
      have s9 : wr.cell? ⟨b', o' + k * 11 + 9, none⟩ = some (.int .i64 s.a.first) := (HX.out.cell hbB').trans kc9
      have t10 : wr.cell? ⟨b, o + k * 11 + 10, none⟩ = some (.int .i64 s.a.other) := (HX.out.cell hbB).trans hc10
      have s10 : wr.cell? ⟨b', o' + k * 11 + 10, none⟩ = some (.int .i64 s.a.other) := (HX.out.cell hbB').trans kc10
      have hb1 : b < wr.heap.size := Nat.lt_of_lt_of_le hbB HX.out.size
      have hb2 : b' < wr.heap.size := Nat.lt_of_lt_of_le hbB' HX.out.size
      clear hlk hlk' hv hv' hc0 hc1 hc2 hc3 hc4 hc5 hc6 hc7 hc8 hc9 hc10 kc0 kc1 kc2 kc3 kc4 kc5 kc6 kc7 kc8 kc9 kc10
      go_wp2_with fail
      obtain rfl : m = p := HV.out.adds.len.symm.trans HV'.out.adds.len
      have E2 := Lib.hid ((HX.out.alloc (.cells #[.int .i64 s.kind, .int .i64 s.side, .int .i64 s.way, .int .i64 s.n, .slice B m d, .slice B' m' d', .int .i64 s.a.port, .string s.a.host, .string s.a.path, .int .i64 s.a.first, .int .i64 s.a.other] 73)).alloc (.cells #[.int .i64 s.kind, .int .i64 s.side, .int .i64 s.way, .int .i64 s.n, .slice C m f, .slice C' p' f', .int .i64 s.a.port, .string s.a.host, .string s.a.path, .int .i64 s.a.first, .int .i64 s.a.other] 73))
      refine (refAll_eq _ _ _ _ s.adds B C m d f _ (Nat.le_trans HV.out.sa.1 HV.out.sa.2.1) (ResL.keep HV.out.adds E2.out.keep) (ResL.keep HV'.out.adds E2.out.keep)).mono ?_
      rintro e w1 ⟨rfl, hb3⟩
      obtain ⟨k1, k2, hz⟩ := box2b hb3
      obtain ⟨x0, x1⟩ := blk_rules k1
      obtain ⟨y0, y1⟩ := blk_rules k2
      have E3 := Lib.hid (E2.out.trans hb3)
      clear t0 t1 t2 t3 t4 t5 t6 t7 t8 t9 t10 s0 s1 s2 s3 s4 s5 s6 s7 s8 s9 s10 hb3 k1 k2 hb1 hb2
      go_wp2_with fail
      obtain rfl : m' = p' := HV.out.gone.len.symm.trans HV'.out.gone.len
      refine (refKeys_eq _ _ s.gone B' C' m' d' f' _ (Nat.le_trans HV.out.sg.1 HV.out.sg.2.1) (KeyL.keep HV.out.gone E3.out.keep) (KeyL.keep HV'.out.gone E3.out.keep)).mono ?_
      rintro e w2 ⟨rfl, hb4⟩
      have E4 := Lib.hid (E3.out.trans hb4)
      clear hb4 x0 x1 y0 y1
      go_wp2_with fail
      go_roundw
      case rel => exact ⟨k + 1, by omega, by go_num, E4⟩
      case measure => simp [intOf]; omega
    · go_wp2_with fail
      go_ret
      exact ⟨rfl, HX.out⟩

set_option maxRecDepth 100000 in
set_option maxHeartbeats 4000000 in
theorem few23_any (S : Nat → Prop) (l : List Sp) (A : Option Addr) (n c : Nat) (w : World) (hm : n ≤ maxLen) (hA : SpL S w A n l) :
    Calls Tryz.prog 52 #[.slice A n c] w (SomeB (n ≤ 60) w) := by
  unfold maxLen at hm
  have HA := Lib.hid hA
  clear hA
  go_enter Tryz.func52, Tryz.ntmps52
  go_wp2_with fail
  go_loopw [3] (fun i wr => ∃ k : Nat, k ≤ n ∧ i = .int .i64 k ∧ Hid (Ext w wr)) (fun i _ => n - (intOf i).toNat)
  case atStart => exact ⟨0, Nat.zero_le _, rfl, Lib.hid (Ext.refl _)⟩
  case round =>
    obtain ⟨k, hk, rfl, HX⟩ := hrel
    by_cases hlt : k < n
    · obtain ⟨b, o, s, B, m, d, B', m', d', rfl, hbB, -, hlk, hv, hc0, hc1, hc2, hc3, hc4, hc5, hc6, hc7, hc8, hc9, hc10⟩ := SpL.at_ HA.out hlt
      have i1 : (0 : Int) ≤ (k : Int) := by omega
      have i2 : (k : Int) < (n : Int) := by omega
      have HV := Lib.hid hv
      have t4 : wr.cell? ⟨b, o + k * 11 + 4, none⟩ = some (.slice B m d) := (HX.out.cell hbB).trans hc4
      have hb1 : b < wr.heap.size := Nat.lt_of_lt_of_le hbB HX.out.size
      go_wp2_with fail
      refine (few04_any S s.adds B m d _ (Nat.le_trans HV.out.sa.1 HV.out.sa.2.1) (ResL.keep HV.out.adds HX.out.keep)).mono ?_
      rintro e w1 ⟨v, rfl, -, hb3⟩
      have E3 := Lib.hid (HX.out.trans hb3)
      have u5 : w1.cell? ⟨b, o + k * 11 + 5, none⟩ = some (.slice B' m' d') := (E3.out.cell hbB).trans hc5
      have u7 : w1.cell? ⟨b, o + k * 11 + 7, none⟩ = some (.string s.a.host) := (E3.out.cell hbB).trans hc7
      have u8 : w1.cell? ⟨b, o + k * 11 + 8, none⟩ = some (.string s.a.path) := (E3.out.cell hbB).trans hc8
      clear hlk hv hc0 hc1 hc2 hc3 hc4 hc5 hc6 hc7 hc8 hc9 hc10 hb3 t4
      cases v with
      | false =>
        go_wp2_with fail
        go_ret
        exact ⟨false, rfl, fun h => (by cases h), E3.out⟩
      | true =>
      by_cases g1 : 80 < m'
      · go_wp2_with fail
        go_ret
        exact ⟨false, rfl, fun h => (by cases h), E3.out⟩
      by_cases g2 : 100 < s.a.host.size
      · go_wp2_with fail
        go_ret
        exact ⟨false, rfl, fun h => (by cases h), E3.out⟩
      by_cases g3 : 100 < s.a.path.size
      · go_wp2_with fail
        go_ret
        exact ⟨false, rfl, fun h => (by cases h), E3.out⟩
      go_wp2_with fail
      go_roundw
      case rel => exact ⟨k + 1, by omega, by go_num, E3⟩
      case measure => simp [intOf]; omega
    · go_wp2_with fail
      go_ret
      exact ⟨_, rfl, fun h => (by have := of_decide_eq_true h; omega), HX.out⟩

theorem smallS_ref (s : Sp) {n m : Nat} (h1 : s.adds.length = n) (h2 : s.gone.length = m) : smallS s = (inB s.side 2147483647 && (inB s.n 2147483647 && (inB s.a.first 2147483647 && (inB s.a.other 2147483647 && (inB s.way 1 && (inB s.a.port 65535 && (decide (s.a.host.size ≤ 40) && (decide (s.a.path.size ≤ 40) && (decide (n ≤ 64) && decide (m ≤ 64)))))))))) := by
  unfold smallS
  rw [h1, h2, Bool.eq_iff_iff]
  simp only [Bool.and_eq_true]
  constructor
  · rintro ⟨⟨⟨⟨⟨⟨a, b⟩, c⟩, d⟩, e⟩, f⟩, ⟨⟨g, h⟩, i⟩, j⟩; exact ⟨g, h, i, j, e, f, a, b, c, d⟩
  · rintro ⟨g, h, i, j, e, f, a, b, c, d⟩; exact ⟨⟨⟨⟨⟨⟨a, b⟩, c⟩, d⟩, e⟩, f⟩, ⟨⟨g, h⟩, i⟩, j⟩
theorem saneS_bad {s : Sp} {k : Nat} {y : Ky} (h : inB s.kind 9 = true) (h2 : smallS s = true) (h3 : shapedS s = true) (h4 : firstE saneR s.adds = 0) (hy : s.gone[k]? = some y) (hg : goodK y = false) : saneS s = 5 := by
  rw [saneS_rest h h2 h3 h4, if_pos (List.any_eq_true.2 ⟨y, List.mem_of_getElem? hy, by rw [hg]; rfl⟩)]
theorem saneS_ok {s : Sp} (h : inB s.kind 9 = true) (h2 : smallS s = true) (h3 : shapedS s = true) (h4 : firstE saneR s.adds = 0) (hg : s.gone.all goodK = true) : saneS s = 0 := by
  rw [saneS_rest h h2 h3 h4, if_neg]
  rw [List.any_eq_true]
  rintro ⟨x, hx, hn⟩
  rw [List.all_eq_true.1 hg x hx] at hn
  cases hn
theorem all_snoc {l : List Ky} {k : Nat} {y : Ky} (hy : l[k]? = some y) (h : (l.take k).all goodK = true) (hg : goodK y = true) : (l.take (k + 1)).all goodK = true := by
  rw [take_snoc_of hy, List.all_append, h]; simp [hg]

set_option maxRecDepth 100000 in
set_option maxHeartbeats 16000000 in
theorem refSane23_any (S : Nat → Prop) (s : Sp) (A : Option Addr) (n c : Nat) (B : Option Addr) (m d : Nat) (w : World) (hV : SpV S w s A n c B m d) :
    Calls Tryz.prog 53 #[spVal s A n c B m d] w fun e w' => e = .returned (.int .i64 (saneS s)) ∧ Ext w w' := by
  have HV := Lib.hid hV
  have HSM := Lib.hid (smallS_ref s hV.adds.len hV.gone.len)
  have HSH := Lib.hid (shapedS_of s hV.adds.len hV.gone.len)
  have h1m := hV.hh
  have h2m := hV.hp
  have h3m := hV.sa.1
  have h4m := hV.sg.1
  have h5m := hV.sa.2.1
  have h6m := hV.sg.2.1
  unfold maxLen at h1m h2m h5m h6m
  clear hV
  unfold spVal
  go_enter Tryz.func53, Tryz.ntmps53
  go_wp2_with fail
  have K0 := Lib.hid (heap_alloc_new w (.cells #[.int .i64 s.kind, .int .i64 s.side, .int .i64 s.way, .int .i64 s.n, .slice A n c, .slice B m d, .int .i64 s.a.port, .string s.a.host, .string s.a.path, .int .i64 s.a.first, .int .i64 s.a.other] 73))
  have E0 := Lib.hid (Ext.new w (.cells #[.int .i64 s.kind, .int .i64 s.side, .int .i64 s.way, .int .i64 s.n, .slice A n c, .slice B m d, .int .i64 s.a.port, .string s.a.host, .string s.a.path, .int .i64 s.a.first, .int .i64 s.a.other] 73))
  have hz0 : w.heap.size < (w.alloc (.cells #[.int .i64 s.kind, .int .i64 s.side, .int .i64 s.way, .int .i64 s.n, .slice A n c, .slice B m d, .int .i64 s.a.port, .string s.a.host, .string s.a.path, .int .i64 s.a.first, .int .i64 s.a.other] 73)).heap.size := by simp
  generalize w.alloc (.cells #[.int .i64 s.kind, .int .i64 s.side, .int .i64 s.way, .int .i64 s.n, .slice A n c, .slice B m d, .int .i64 s.a.port, .string s.a.host, .string s.a.path, .int .i64 s.a.first, .int .i64 s.a.other] 73) = w0 at K0 E0 hz0 ⊢
  obtain ⟨p0, p1⟩ := blk_rules K0.out
  refine (refIn23_any _ _ _).mono ?_
  rintro e wx ⟨rfl, rfl⟩
  cases k1 : inB s.kind 9 with
  | false =>
    have HR := Lib.hid (saneS_kind k1)
    go_wp2_with fail
    go_ret
    exact ⟨ret_int HR.out.symm, E0.out⟩
  | true =>
  have K1 := Lib.hid k1
  clear k1
  obtain ⟨Z, hZ⟩ : ∃ Z, Z = smallS s := ⟨_, rfl⟩
  rw [← hZ] at HSM
  have HZ := Lib.hid hZ
  clear hZ
  go_wp2_with fail
  refine (refIn23_any _ _ _).mono ?_
  rintro e wx ⟨rfl, rfl⟩
  cases k1 : inB s.side 2147483647 with
  | false =>
    have HR := Lib.hid (saneS_small K1.out (by rw [← HZ.out, HSM.out, k1]; rfl))
    go_wp2_with fail
    go_ret
    exact ⟨ret_int HR.out.symm, E0.out⟩
  | true =>
  have HSM1 : Hid (Z = (inB s.n 2147483647 && (inB s.a.first 2147483647 && (inB s.a.other 2147483647 && (inB s.way 1 && (inB s.a.port 65535 && (decide (s.a.host.size ≤ 40) && (decide (s.a.path.size ≤ 40) && (decide (n ≤ 64) && (decide (m ≤ 64))))))))))) := Lib.hid (by rw [HSM.out, k1]; rfl)
  clear k1
  go_wp2_with fail
  refine (refIn23_any _ _ _).mono ?_
  rintro e wx ⟨rfl, rfl⟩
  cases k1 : inB s.n 2147483647 with
  | false =>
    have HR := Lib.hid (saneS_small K1.out (by rw [← HZ.out, HSM1.out, k1]; rfl))
    go_wp2_with fail
    go_ret
    exact ⟨ret_int HR.out.symm, E0.out⟩
  | true =>
  have HSM2 : Hid (Z = (inB s.a.first 2147483647 && (inB s.a.other 2147483647 && (inB s.way 1 && (inB s.a.port 65535 && (decide (s.a.host.size ≤ 40) && (decide (s.a.path.size ≤ 40) && (decide (n ≤ 64) && (decide (m ≤ 64)))))))))) := Lib.hid (by rw [HSM1.out, k1]; rfl)
  clear k1
  go_wp2_with fail
  refine (refIn23_any _ _ _).mono ?_
  rintro e wx ⟨rfl, rfl⟩
  cases k1 : inB s.a.first 2147483647 with
  | false =>
    have HR := Lib.hid (saneS_small K1.out (by rw [← HZ.out, HSM2.out, k1]; rfl))
    go_wp2_with fail
    go_ret
    exact ⟨ret_int HR.out.symm, E0.out⟩
  | true =>
  have HSM3 : Hid (Z = (inB s.a.other 2147483647 && (inB s.way 1 && (inB s.a.port 65535 && (decide (s.a.host.size ≤ 40) && (decide (s.a.path.size ≤ 40) && (decide (n ≤ 64) && (decide (m ≤ 64))))))))) := Lib.hid (by rw [HSM2.out, k1]; rfl)
  clear k1
  go_wp2_with fail
  refine (refIn23_any _ _ _).mono ?_
  rintro e wx ⟨rfl, rfl⟩
  cases k1 : inB s.a.other 2147483647 with
  | false =>
    have HR := Lib.hid (saneS_small K1.out (by rw [← HZ.out, HSM3.out, k1]; rfl))
    go_wp2_with fail
    go_ret
    exact ⟨ret_int HR.out.symm, E0.out⟩
  | true =>
  have HSM4 : Hid (Z = (inB s.way 1 && (inB s.a.port 65535 && (decide (s.a.host.size ≤ 40) && (decide (s.a.path.size ≤ 40) && (decide (n ≤ 64) && (decide (m ≤ 64)))))))) := Lib.hid (by rw [HSM3.out, k1]; rfl)
  clear k1
  go_wp2_with fail
  refine (refIn23_any _ _ _).mono ?_
  rintro e wx ⟨rfl, rfl⟩
  cases k1 : inB s.way 1 with
  | false =>
    have HR := Lib.hid (saneS_small K1.out (by rw [← HZ.out, HSM4.out, k1]; rfl))
    go_wp2_with fail
    go_ret
    exact ⟨ret_int HR.out.symm, E0.out⟩
  | true =>
  have HSM5 : Hid (Z = (inB s.a.port 65535 && (decide (s.a.host.size ≤ 40) && (decide (s.a.path.size ≤ 40) && (decide (n ≤ 64) && (decide (m ≤ 64))))))) := Lib.hid (by rw [HSM4.out, k1]; rfl)
  clear k1
  go_wp2_with fail
  refine (refIn23_any _ _ _).mono ?_
  rintro e wx ⟨rfl, rfl⟩
  cases k1 : inB s.a.port 65535 with
  | false =>
    have HR := Lib.hid (saneS_small K1.out (by rw [← HZ.out, HSM5.out, k1]; rfl))
    go_wp2_with fail
    go_ret
    exact ⟨ret_int HR.out.symm, E0.out⟩
  | true =>
  have HSM6 : Hid (Z = (decide (s.a.host.size ≤ 40) && (decide (s.a.path.size ≤ 40) && (decide (n ≤ 64) && (decide (m ≤ 64)))))) := Lib.hid (by rw [HSM5.out, k1]; rfl)
  clear k1
  by_cases g0 : 40 < s.a.host.size
  · have HR := Lib.hid (saneS_small K1.out (by rw [← HZ.out, HSM6.out, show decide (s.a.host.size ≤ 40) = false from decide_eq_false (by omega)]; simp))
    go_wp2_with fail
    go_ret
    exact ⟨ret_int HR.out.symm, E0.out⟩
  by_cases g1 : 40 < s.a.path.size
  · have HR := Lib.hid (saneS_small K1.out (by rw [← HZ.out, HSM6.out, show decide (s.a.path.size ≤ 40) = false from decide_eq_false (by omega)]; simp))
    go_wp2_with fail
    go_ret
    exact ⟨ret_int HR.out.symm, E0.out⟩
  by_cases g2 : 64 < n
  · have HR := Lib.hid (saneS_small K1.out (by rw [← HZ.out, HSM6.out, show decide (n ≤ 64) = false from decide_eq_false (by omega)]; simp))
    go_wp2_with fail
    go_ret
    exact ⟨ret_int HR.out.symm, E0.out⟩
  by_cases g3 : 64 < m
  · have HR := Lib.hid (saneS_small K1.out (by rw [← HZ.out, HSM6.out, show decide (m ≤ 64) = false from decide_eq_false (by omega)]; simp))
    go_wp2_with fail
    go_ret
    exact ⟨ret_int HR.out.symm, E0.out⟩
  have S2 : Hid (smallS s = true) := Lib.hid (by rw [← HZ.out, HSM6.out, decide_eq_true (show s.a.host.size ≤ 40 by omega), decide_eq_true (show s.a.path.size ≤ 40 by omega), decide_eq_true (show n ≤ 64 by omega), decide_eq_true (show m ≤ 64 by omega)]; rfl)
  clear HSM1 HSM2 HSM3 HSM4 HSM5 HSM6 HSM HZ
  by_cases z0 : s.kind = 0
  · have b0 : (s.kind != 0) = false := by simpa using z0
    have b7 : (s.kind != 7) = true := by rw [z0]; rfl
    have Z0 := Lib.hid z0
    clear z0
    by_cases hak : s.a = ak0
    · have S3 : Hid (shapedS s = true) := Lib.hid (by rw [HSH.out, decide_eq_true Z0.out, decide_eq_true hak]; simp)
      have ha : s.a.port = 0 ∧ s.a.host.toList = [] ∧ s.a.path.toList = [] ∧ s.a.first = 0 ∧ s.a.other = 0 := by have h9 := ak_eq s.a; rw [decide_eq_true hak] at h9; simpa [and_assoc] using h9.symm
      obtain ⟨a1, a2, a3, a4, a5⟩ := ha
      clear hak
      go_wp2_with fail
      clear p0 p1 a1 a2 a3 a4 a5
      go_loopw [3] (fun i wr => ∃ k : Nat, k ≤ n ∧ i = .int .i64 k ∧ Hid (firstE saneR s.adds = firstE saneR (s.adds.drop k)) ∧ Hid (Ext w0 wr)) (fun i _ => n - (intOf i).toNat)
      case atStart => exact ⟨0, Nat.zero_le _, by go_num, Lib.hid rfl, Lib.hid (Ext.refl _)⟩
      case round =>
        obtain ⟨k, hk, rfl, HS, HX⟩ := hrel
        have HE := Lib.hid (E0.out.trans HX.out)
        have KR := Lib.hid ((HX.out.block hz0).trans K0.out)
        have hzr : w.heap.size < wr.heap.size := Nat.lt_of_lt_of_le hz0 HX.out.size
        obtain ⟨q0, q1⟩ := blk_rules KR.out
        by_cases hlt : k < n
        · obtain ⟨b, o, r, C, p, f, C', p', f', rfl, hbB, -, hlk, hv, hc0, hc1, hc2, hc3, hc4, hc5, hc6⟩ := ResL.at_ HV.out.adds hlt
          have d0 : wr.cell? ⟨b, o + k * 7, none⟩ = some (.int .i64 r.kind) := (HE.out.cell hbB).trans hc0
          have d1 : wr.cell? ⟨b, o + k * 7 + 1, none⟩ = some (.string r.name) := (HE.out.cell hbB).trans hc1
          have d2 : wr.cell? ⟨b, o + k * 7 + 2, none⟩ = some (.int .i64 r.ver) := (HE.out.cell hbB).trans hc2
          have d3 : wr.cell? ⟨b, o + k * 7 + 3, none⟩ = some (.int .i64 r.port) := (HE.out.cell hbB).trans hc3
          have d4 : wr.cell? ⟨b, o + k * 7 + 4, none⟩ = some (.string r.to) := (HE.out.cell hbB).trans hc4
          have d5 : wr.cell? ⟨b, o + k * 7 + 5, none⟩ = some (.slice C p f) := (HE.out.cell hbB).trans hc5
          have d6 : wr.cell? ⟨b, o + k * 7 + 6, none⟩ = some (.slice C' p' f') := (HE.out.cell hbB).trans hc6
          have HL := Lib.hid hlk
          have HVr := Lib.hid hv
          have i1 : (0 : Int) ≤ (k : Int) := by omega
          have i2 : (k : Int) < (n : Int) := by omega
          clear hlk hv hc0 hc1 hc2 hc3 hc4 hc5 hc6
          go_wp2_with fail
          refine (refSane_any S r C C' p f p' f' _ (HVr.out.up HE.out)).mono ?_
          rintro e w1 ⟨rfl, hb1⟩
          have HX1 := Lib.hid (HX.out.trans hb1)
          clear hb1 d0 d1 d2 d3 d4 d5 d6 q0 q1
          obtain ⟨x, hx⟩ : ∃ x, x = saneR r := ⟨_, rfl⟩
          rw [← hx]
          have HSt : Hid (firstE saneR (s.adds.drop k) = if x ≠ 0 then x else firstE saneR (s.adds.drop (k + 1))) := Lib.hid (by rw [hx, drop_of HL.out]; rfl)
          clear hx
          by_cases h0 : x = 0
          · subst h0
            have HS2 : Hid (firstE saneR s.adds = firstE saneR (s.adds.drop (k + 1))) := Lib.hid (by rw [HS.out, HSt.out, if_neg (by simp)])
            go_wp2_with fail
            go_roundw
            case rel => exact ⟨k + 1, by omega, by go_num, HS2, HX1⟩
            case measure => simp [intOf]; omega
          · have hq : (x != 0) = true := by simpa using h0
            have HR : Hid (saneS s = x) := Lib.hid (by
              have h9 : firstE saneR s.adds = x := by rw [HS.out, HSt.out, if_pos h0]
              rw [saneS_adds K1.out S2.out S3.out (by rw [h9]; exact h0), h9])
            go_wp2_with fail
            go_ret
            exact ⟨ret_int HR.out.symm, E0.out.trans HX1.out⟩
        · have HF : Hid (firstE saneR s.adds = 0) := Lib.hid (by rw [HS.out, List.drop_eq_nil_of_le (by have := HV.out.adds.len; omega)]; rfl)
          go_wp2_with fail
          clear q0 q1
          go_loopw [5] (fun i wy => ∃ k : Nat, k ≤ m ∧ i = .int .i64 k ∧ Hid ((s.gone.take k).all goodK = true) ∧ Hid (Ext wr wy)) (fun i _ => m - (intOf i).toNat)
          case atStart => exact ⟨0, Nat.zero_le _, by go_num, Lib.hid rfl, Lib.hid (Ext.refl _)⟩
          case round =>
            obtain ⟨j, hj, rfl, HG, HY⟩ := hrel
            have HEY := Lib.hid (HE.out.trans HY.out)
            have KY := Lib.hid ((HY.out.block hzr).trans KR.out)
            have hzy : w.heap.size < wr.heap.size := Nat.lt_of_lt_of_le hzr HY.out.size
            obtain ⟨q0, q1⟩ := blk_rules KY.out
            by_cases hlj : j < m
            · obtain ⟨b, o, y, rfl, hbB, -, hly, hsz, hc0, hc1⟩ := KeyL.at_ HV.out.gone hlj
              have d0 : wr.cell? ⟨b, o + j * 2, none⟩ = some (.int .i64 y.kind) := (HEY.out.cell hbB).trans hc0
              have d1 : wr.cell? ⟨b, o + j * 2 + 1, none⟩ = some (.string y.name) := (HEY.out.cell hbB).trans hc1
              have HLY := Lib.hid hly
              have i1 : (0 : Int) ≤ (j : Int) := by omega
              have i2 : (j : Int) < (m : Int) := by omega
              clear hly hc0 hc1
              go_wp2_with fail
              refine ((refPutKey_lay none 0 0 [] y _ ArrR.nil_ (fun _ => rfl) (by omega) hsz).mono fun _ _ h => LayN.of h).mono ?_
              rintro e w2 ⟨Q, N, cq, rfl, hN, -, -, -, hb2⟩
              have HY2 := Lib.hid (HY.out.trans hb2)
              clear d0 d1 q0 q1 hb2
              cases hg : goodK y with
              | false =>
                have hzN : N = 0 := by have := hN.out; have h2 := goodK_0 hg; omega
                have HR := Lib.hid (saneS_bad K1.out S2.out S3.out HF.out HLY.out hg)
                subst hzN
                clear hN hg
                go_wp2_with fail
                go_ret
                exact ⟨ret_int HR.out.symm, HE.out.trans HY2.out⟩
              | true =>
                have hzN : 0 < N := by have := hN.out; have h2 := goodK_1 hg; omega
                have HG2 := Lib.hid (all_snoc HLY.out HG.out hg)
                clear hN hg
                go_wp2_with fail
                go_roundw
                case rel => exact ⟨j + 1, by omega, by go_num, HG2, HY2⟩
                case measure => simp [intOf]; omega
            · have HR := Lib.hid (saneS_ok K1.out S2.out S3.out HF.out (by have := HG.out; rwa [List.take_of_length_le (by have := HV.out.gone.len; omega)] at this))
              go_wp2_with fail
              go_ret
              exact ⟨ret_int HR.out.symm, HEY.out⟩
    · have HR := Lib.hid (saneS_shaped K1.out S2.out (by rw [HSH.out, decide_eq_false hak, show decide (s.kind = 7) = false from decide_eq_false (by simpa using b7)]; simp))
      have ha : ¬ (s.a.port = 0 ∧ s.a.host.toList = [] ∧ s.a.path.toList = [] ∧ s.a.first = 0 ∧ s.a.other = 0) := by
        intro h
        have h9 := ak_eq s.a
        rw [decide_eq_false hak] at h9
        obtain ⟨a, b, c, d, e⟩ := h
        simp [a, b, c, d, e] at h9
      clear hak
      go_wp2_with fail
      all_goals first
        | (go_ret; exact ⟨ret_int HR.out.symm, E0.out⟩)
        | (exfalso; apply ha; simp [*])
  have b0 : (s.kind != 0) = true := by simpa using z0
  by_cases hnm : 0 < n + m
  · have HR := Lib.hid (saneS_shaped K1.out S2.out (by rw [HSH.out, decide_eq_false z0, show decide ((n : Int) + (m : Int) = 0) = false from decide_eq_false (by omega)]; rfl))
    have i0 : (0 : Int) < (n : Int) + (m : Int) := by omega
    go_wp2_with fail
    go_ret
    exact ⟨ret_int HR.out.symm, E0.out⟩
  have i0 : ¬ (0 : Int) < (n : Int) + (m : Int) := by omega
  by_cases z7 : s.kind = 7
  · have b7 : (s.kind != 7) = false := by simpa using z7
    have Z7 := Lib.hid z7
    clear z7
    have S3 : Hid (shapedS s = true) := Lib.hid (by rw [HSH.out, decide_eq_true Z7.out, show decide ((n : Int) + (m : Int) = 0) = true from decide_eq_true (by omega)]; simp)
    go_wp2_with fail
    clear p0 p1
    go_loopw [3] (fun i wr => ∃ k : Nat, k ≤ n ∧ i = .int .i64 k ∧ Hid (firstE saneR s.adds = firstE saneR (s.adds.drop k)) ∧ Hid (Ext w0 wr)) (fun i _ => n - (intOf i).toNat)
    case atStart => exact ⟨0, Nat.zero_le _, by go_num, Lib.hid rfl, Lib.hid (Ext.refl _)⟩
    case round =>
      obtain ⟨k, hk, rfl, HS, HX⟩ := hrel
      have HE := Lib.hid (E0.out.trans HX.out)
      have KR := Lib.hid ((HX.out.block hz0).trans K0.out)
      have hzr : w.heap.size < wr.heap.size := Nat.lt_of_lt_of_le hz0 HX.out.size
      obtain ⟨q0, q1⟩ := blk_rules KR.out
      by_cases hlt : k < n
      · exact absurd hlt (by omega)
      · have HF : Hid (firstE saneR s.adds = 0) := Lib.hid (by rw [HS.out, List.drop_eq_nil_of_le (by have := HV.out.adds.len; omega)]; rfl)
        go_wp2_with fail
        clear q0 q1
        go_loopw [5] (fun i wy => ∃ k : Nat, k ≤ m ∧ i = .int .i64 k ∧ Hid ((s.gone.take k).all goodK = true) ∧ Hid (Ext wr wy)) (fun i _ => m - (intOf i).toNat)
        case atStart => exact ⟨0, Nat.zero_le _, by go_num, Lib.hid rfl, Lib.hid (Ext.refl _)⟩
        case round =>
          obtain ⟨j, hj, rfl, HG, HY⟩ := hrel
          have HEY := Lib.hid (HE.out.trans HY.out)
          have KY := Lib.hid ((HY.out.block hzr).trans KR.out)
          have hzy : w.heap.size < wr.heap.size := Nat.lt_of_lt_of_le hzr HY.out.size
          obtain ⟨q0, q1⟩ := blk_rules KY.out
          by_cases hlj : j < m
          · exact absurd hlj (by omega)
          · have HR := Lib.hid (saneS_ok K1.out S2.out S3.out HF.out (by have := HG.out; rwa [List.take_of_length_le (by have := HV.out.gone.len; omega)] at this))
            go_wp2_with fail
            go_ret
            exact ⟨ret_int HR.out.symm, HEY.out⟩
  have b7 : (s.kind != 7) = true := by simpa using z7
  by_cases hak : s.a = ak0
  · have S3 : Hid (shapedS s = true) := Lib.hid (by rw [HSH.out, decide_eq_true hak, show decide ((n : Int) + (m : Int) = 0) = true from decide_eq_true (by omega)]; simp)
    have ha : s.a.port = 0 ∧ s.a.host.toList = [] ∧ s.a.path.toList = [] ∧ s.a.first = 0 ∧ s.a.other = 0 := by have h9 := ak_eq s.a; rw [decide_eq_true hak] at h9; simpa [and_assoc] using h9.symm
    obtain ⟨a1, a2, a3, a4, a5⟩ := ha
    clear hak
    go_wp2_with fail
    clear p0 p1 a1 a2 a3 a4 a5
    go_loopw [3] (fun i wr => ∃ k : Nat, k ≤ n ∧ i = .int .i64 k ∧ Hid (firstE saneR s.adds = firstE saneR (s.adds.drop k)) ∧ Hid (Ext w0 wr)) (fun i _ => n - (intOf i).toNat)
    case atStart => exact ⟨0, Nat.zero_le _, by go_num, Lib.hid rfl, Lib.hid (Ext.refl _)⟩
    case round =>
      obtain ⟨k, hk, rfl, HS, HX⟩ := hrel
      have HE := Lib.hid (E0.out.trans HX.out)
      have KR := Lib.hid ((HX.out.block hz0).trans K0.out)
      have hzr : w.heap.size < wr.heap.size := Nat.lt_of_lt_of_le hz0 HX.out.size
      obtain ⟨q0, q1⟩ := blk_rules KR.out
      by_cases hlt : k < n
      · exact absurd hlt (by omega)
      · have HF : Hid (firstE saneR s.adds = 0) := Lib.hid (by rw [HS.out, List.drop_eq_nil_of_le (by have := HV.out.adds.len; omega)]; rfl)
        go_wp2_with fail
        clear q0 q1
        go_loopw [5] (fun i wy => ∃ k : Nat, k ≤ m ∧ i = .int .i64 k ∧ Hid ((s.gone.take k).all goodK = true) ∧ Hid (Ext wr wy)) (fun i _ => m - (intOf i).toNat)
        case atStart => exact ⟨0, Nat.zero_le _, by go_num, Lib.hid rfl, Lib.hid (Ext.refl _)⟩
        case round =>
          obtain ⟨j, hj, rfl, HG, HY⟩ := hrel
          have HEY := Lib.hid (HE.out.trans HY.out)
          have KY := Lib.hid ((HY.out.block hzr).trans KR.out)
          have hzy : w.heap.size < wr.heap.size := Nat.lt_of_lt_of_le hzr HY.out.size
          obtain ⟨q0, q1⟩ := blk_rules KY.out
          by_cases hlj : j < m
          · exact absurd hlj (by omega)
          · have HR := Lib.hid (saneS_ok K1.out S2.out S3.out HF.out (by have := HG.out; rwa [List.take_of_length_le (by have := HV.out.gone.len; omega)] at this))
            go_wp2_with fail
            go_ret
            exact ⟨ret_int HR.out.symm, HEY.out⟩
  · have HR := Lib.hid (saneS_shaped K1.out S2.out (by rw [HSH.out, decide_eq_false hak, show decide (s.kind = 7) = false from decide_eq_false (by simpa using b7)]; simp))
    have ha : ¬ (s.a.port = 0 ∧ s.a.host.toList = [] ∧ s.a.path.toList = [] ∧ s.a.first = 0 ∧ s.a.other = 0) := by
      intro h
      have h9 := ak_eq s.a
      rw [decide_eq_false hak] at h9
      obtain ⟨a, b, c, d, e⟩ := h
      simp [a, b, c, d, e] at h9
    clear hak
    go_wp2_with fail
    all_goals first
      | (go_ret; exact ⟨ret_int HR.out.symm, E0.out⟩)
      | (exfalso; apply ha; simp [*])
end Go.Proofs.YtfdjbnofcniodaaGreatDoor
