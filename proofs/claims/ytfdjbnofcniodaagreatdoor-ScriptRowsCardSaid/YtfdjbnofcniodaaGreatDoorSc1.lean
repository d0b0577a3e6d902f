/- What script's small functions compute. -/
import Derived.Test.YtfdjbnofcniodaaGreatDoorScQ
import Derived.Test.YtfdjbnofcniodaaGreatDoorIdxH
import Derived.Test.YtfdjbnofcniodaaGreatDoorConK
import Derived.Test.YtfdjbnofcniodaaGreatDoorResAll
import Derived.Test.YtfdjbnofcniodaaGreatDoorFirstAll
namespace Go.Proofs.YtfdjbnofcniodaaGreatDoor
set_option linter.unusedVariables false
open Go.RowKit

set_option maxHeartbeats 400000 in
theorem scWithin_any (n m : Int) (w : World) : Calls Tryz.prog 129 #[.int .i64 n, .int .i64 m] w fun e w' => e = .returned (.bool (inB n m)) ∧ w = w' := by
  by_cases h1 : 0 ≤ n
  · by_cases h2 : n ≤ m
    · have H := Lib.hid (in_tt h1 h2)
      go_enter Tryz.func129, Tryz.ntmps129
      go_wp2_with fail
      go_ret
      exact ⟨ret_bool H.out.symm, rfl⟩
    · have H := Lib.hid (in_tf h1 h2)
      go_enter Tryz.func129, Tryz.ntmps129
      go_wp2_with fail
      go_ret
      exact ⟨ret_bool H.out.symm, rfl⟩
  · have H := Lib.hid (in_ff (m := m) h1)
    go_enter Tryz.func129, Tryz.ntmps129
    go_wp2_with fail
    go_ret
    exact ⟨ret_bool H.out.symm, rfl⟩

set_option maxHeartbeats 400000 in
theorem refIn23_any (n m : Int) (w : World) : Calls Tryz.prog 125 #[.int .i64 n, .int .i64 m] w fun e w' => e = .returned (.bool (inB n m)) ∧ w = w' := by
  by_cases h1 : 0 ≤ n
  · by_cases h2 : n ≤ m
    · have H := Lib.hid (in_tt h1 h2)
      go_enter Tryz.func125, Tryz.ntmps125
      go_wp2_with fail
      go_ret
      exact ⟨ret_bool H.out.symm, rfl⟩
    · have H := Lib.hid (in_tf h1 h2)
      go_enter Tryz.func125, Tryz.ntmps125
      go_wp2_with fail
      go_ret
      exact ⟨ret_bool H.out.symm, rfl⟩
  · have H := Lib.hid (in_ff (m := m) h1)
    go_enter Tryz.func125, Tryz.ntmps125
    go_wp2_with fail
    go_ret
    exact ⟨ret_bool H.out.symm, rfl⟩

/-- a number that a step may not have -/
theorem scNum_pred (S : Nat → Prop) (w0 : World) : PredH S w0 187 #[] (fun x => !inB x 2147483647) := by
  refine ⟨Tryz.call187, fun x w hx _ => ?_⟩
  show Calls _ _ #[.int .i64 x] w _
  go_enter Tryz.func187, Tryz.ntmps187
  go_wp2_with fail
  refine (scWithin_any _ _ _).mono ?_
  rintro e w1 ⟨rfl, rfl⟩
  go_wp2_with fail
  go_ret
  exact ⟨rfl, Ext.refl _⟩

theorem boxS_up {w w1 : World} {c1 : Array Value} {t1 : TypeId} (h : Ext (w.alloc (.cells c1 t1)) w1) : w1.heap[w.heap.size]? = some (.cells c1 t1 (0, 0)) := (box1b h).1
theorem four_ints {W : World} {g : Nat} {a b c d : Int} {t : TypeId} {mk : Nat × Nat} (hg : W.heap[g]? = some (.cells #[.int .i64 a, .int .i64 b, .int .i64 c, .int .i64 d] t mk)) : ArrR W 1 (IntR .i64) (some ⟨g, 0, none⟩) 4 [a, b, c, d] :=
  ArrR.of_block hg rfl fun k x hx => by
    have hk : k < 4 := (List.getElem?_eq_some_iff.1 hx).1
    refine ⟨[.int .i64 x], rfl, rfl, fun j u hu => ?_⟩
    have hj : j = 0 := by have := (List.getElem?_eq_some_iff.1 hu).1; simpa using this
    subst hj
    have hk4 : k = 0 ∨ k = 1 ∨ k = 2 ∨ k = 3 := by omega
    rcases hk4 with rfl | rfl | rfl | rfl <;> (simp at hx hu; subst hx hu; rfl)
theorem smallS_of (s : Sp) {n m : Nat} (h1 : s.adds.length = n) (h2 : s.gone.length = m) : smallS s = ((decide (s.a.host.size ≤ 40) && decide (s.a.path.size ≤ 40) && decide (n ≤ 64) && decide (m ≤ 64)) && inB s.way 1 && inB s.a.port 65535 && !([s.side, s.n, s.a.first, s.a.other].any fun x => !inB x 2147483647)) := by
  unfold smallS
  rw [h1, h2]
  congr 1
  simp [Bool.and_assoc]

set_option maxRecDepth 100000 in
set_option maxHeartbeats 4000000 in
theorem scSmall_any (S : Nat → Prop) (s : Sp) (A : Option Addr) (n c : Nat) (B : Option Addr) (m d : Nat) (w : World) (hV : SpV S w s A n c B m d) :
    Calls Tryz.prog 130 #[spVal s A n c B m d] w fun e w' => e = .returned (.bool (smallS s)) ∧ Ext w w' := by
  have HB := Lib.hid (smallS_of s hV.adds.len hV.gone.len)
  have h1m := hV.hh
  have h2m := hV.hp
  have h3m := hV.sa.1
  have h4m := hV.sg.1
  have h5m := hV.sa.2.1
  have h6m := hV.sg.2.1
  unfold maxLen at h1m h2m h5m h6m
  clear hV
  obtain ⟨Z, hZ⟩ : ∃ Z, Z = smallS s := ⟨_, rfl⟩
  rw [← hZ] at HB ⊢
  clear hZ
  unfold spVal
  go_enter Tryz.func130, Tryz.ntmps130
  by_cases g1 : 40 < s.a.host.size
  · have HR : Hid (Z = false) := Lib.hid (by rw [HB.out, show decide (s.a.host.size ≤ 40) = false from decide_eq_false (by omega)]; rfl)
    go_wp2_with fail
    go_ret
    exact ⟨ret_bool HR.out.symm, (Ext.new w _).alloc _⟩
  by_cases g2 : 40 < s.a.path.size
  · have HR : Hid (Z = false) := Lib.hid (by rw [HB.out, show decide (s.a.path.size ≤ 40) = false from decide_eq_false (by omega)]; simp)
    go_wp2_with fail
    go_ret
    exact ⟨ret_bool HR.out.symm, (Ext.new w _).alloc _⟩
  by_cases g3 : 64 < n
  · have HR : Hid (Z = false) := Lib.hid (by rw [HB.out, show decide (n ≤ 64) = false from decide_eq_false (by omega)]; simp)
    go_wp2_with fail
    go_ret
    exact ⟨ret_bool HR.out.symm, (Ext.new w _).alloc _⟩
  by_cases g4 : 64 < m
  · have HR : Hid (Z = false) := Lib.hid (by rw [HB.out, show decide (m ≤ 64) = false from decide_eq_false (by omega)]; simp)
    go_wp2_with fail
    go_ret
    exact ⟨ret_bool HR.out.symm, (Ext.new w _).alloc _⟩
  have HB2 : Hid (Z = (inB s.way 1 && inB s.a.port 65535 && !([s.side, s.n, s.a.first, s.a.other].any fun x => !inB x 2147483647))) := Lib.hid (by
    rw [HB.out, decide_eq_true (show s.a.host.size ≤ 40 by omega), decide_eq_true (show s.a.path.size ≤ 40 by omega), decide_eq_true (show n ≤ 64 by omega), decide_eq_true (show m ≤ 64 by omega)]; rfl)
  clear HB
  go_wp2_with fail
  refine (scWithin_any _ _ _).mono ?_
  rintro e wx ⟨rfl, rfl⟩
  cases k1 : inB s.way 1 with
  | false =>
    have HR : Hid (Z = false) := Lib.hid (by rw [HB2.out, k1]; rfl)
    go_wp2_with fail
    go_ret
    exact ⟨ret_bool HR.out.symm, (Ext.new w _).alloc _⟩
  | true =>
  have HB3 : Hid (Z = (inB s.a.port 65535 && !([s.side, s.n, s.a.first, s.a.other].any fun x => !inB x 2147483647))) := Lib.hid (by rw [HB2.out, k1]; rfl)
  clear k1 HB2
  go_wp2_with fail
  refine (scWithin_any _ _ _).mono ?_
  rintro e wx ⟨rfl, rfl⟩
  cases k1 : inB s.a.port 65535 with
  | false =>
    have HR : Hid (Z = false) := Lib.hid (by rw [HB3.out, k1]; rfl)
    go_wp2_with fail
    go_ret
    exact ⟨ret_bool HR.out.symm, (Ext.new w _).alloc _⟩
  | true =>
  have HB4 : Hid (Z = !([s.side, s.n, s.a.first, s.a.other].any fun x => !inB x 2147483647)) := Lib.hid (by rw [HB3.out, k1]; rfl)
  clear k1 HB3
  go_wp2_with fail
  have hb2 := (two_blocks w (.cells #[.int .i64 s.kind, .int .i64 s.side, .int .i64 s.way, .int .i64 s.n, .slice A n c, .slice B m d, .int .i64 s.a.port, .string s.a.host, .string s.a.path, .int .i64 s.a.first, .int .i64 s.a.other] 82) (.cells #[.int .i64 s.side, .int .i64 s.n, .int .i64 s.a.first, .int .i64 s.a.other] 3)).2
  have hl : ArrQ (fun _ => True) ((w.alloc (.cells #[.int .i64 s.kind, .int .i64 s.side, .int .i64 s.way, .int .i64 s.n, .slice A n c, .slice B m d, .int .i64 s.a.port, .string s.a.host, .string s.a.path, .int .i64 s.a.first, .int .i64 s.a.other] 82)).alloc (.cells #[.int .i64 s.side, .int .i64 s.n, .int .i64 s.a.first, .int .i64 s.a.other] 3)) 1 (IntR .i64) (some ⟨w.heap.size + 1, 0, none⟩) 4 [s.side, s.n, s.a.first, s.a.other] :=
    ArrQ.weak (ArrR.q (four_ints hb2)) (fun _ _ h => h) (fun _ _ _ => trivial)
  refine (containsH_any (T := fun _ => True) (fun _ => True) 187 #[] (fun x => !inB x 2147483647) _ 4 4 [s.side, s.n, s.a.first, s.a.other] _ (by decide) hl (scNum_pred _ _)).mono ?_
  rintro e w1 ⟨rfl, hb1⟩
  obtain ⟨Y, hY⟩ : ∃ Y, Y = ([s.side, s.n, s.a.first, s.a.other].any fun x => !inB x 2147483647) := ⟨_, rfl⟩
  rw [← hY] at HB4 ⊢
  clear hY hl hb2
  go_wp2_with fail
  go_ret
  have e1 : decide ((40 : Int) < (s.a.host.size : Int)) = false := decide_eq_false (by omega)
  have e2 : decide ((40 : Int) < (s.a.path.size : Int)) = false := decide_eq_false (by omega)
  have e3 : decide ((64 : Int) < (n : Int)) = false := decide_eq_false (by omega)
  have e4 : decide ((64 : Int) < (m : Int)) = false := decide_eq_false (by omega)
  exact ⟨ret_bool (by rw [HB4.out, e1, e2, e3, e4]; simp), ((Ext.new w _).alloc _).trans hb1⟩

theorem shapedS_of (s : Sp) {n m : Nat} (h1 : s.adds.length = n) (h2 : s.gone.length = m) : shapedS s = ((decide (s.kind = 0) || decide ((n : Int) + (m : Int) = 0)) && (decide (s.kind = 7) || decide (s.a = ak0))) := by
  unfold shapedS
  rw [h1, h2, show decide (n + m = 0) = decide ((n : Int) + (m : Int) = 0) from by rw [Bool.eq_iff_iff]; simp only [decide_eq_true_eq]; omega]
theorem str_nil (s : ByteArray) : s = ⟨#[]⟩ ↔ s.toList = [] := by
  rw [Lib.toList_data]
  constructor
  · intro h; rw [h]
  · intro h
    cases s with | mk d => simpa using h
theorem ak_eq (a : Ak) : decide (a = ak0) = (decide (a.port = 0) && decide (a.host.toList = []) && decide (a.path.toList = []) && decide (a.first = 0) && decide (a.other = 0)) := by
  have h1 := str_nil a.host
  have h2 := str_nil a.path
  cases a
  unfold ak0
  simp only at h1 h2
  rw [Bool.eq_iff_iff]
  simp [and_assoc, h1, h2]
set_option maxRecDepth 100000 in
set_option maxHeartbeats 4000000 in
theorem scShaped_any (S : Nat → Prop) (s : Sp) (A : Option Addr) (n c : Nat) (B : Option Addr) (m d : Nat) (w : World) (hV : SpV S w s A n c B m d) (hn : n ≤ 64) (hm : m ≤ 64) :
    Calls Tryz.prog 131 #[spVal s A n c B m d] w fun e w' => e = .returned (.bool (shapedS s)) ∧ Ext w w' := by
  have HB := Lib.hid (shapedS_of s hV.adds.len hV.gone.len)
  have h3m := hV.sa.1
  have h4m := hV.sg.1
  have h5m := hV.sa.2.1
  have h6m := hV.sg.2.1
  unfold maxLen at h5m h6m
  clear hV
  obtain ⟨Z, hZ⟩ : ∃ Z, Z = shapedS s := ⟨_, rfl⟩
  rw [← hZ] at HB ⊢
  clear hZ
  unfold spVal
  go_enter Tryz.func131, Tryz.ntmps131
  go_wp2_with fail
  all_goals go_ret
  all_goals exact ⟨ret_bool (by rw [HB.out, ak_eq]; simp [*]), Ext.new _ _⟩

theorem goodK_0 {k : Ky} (h : goodK k = false) : (putK k).length = 0 := by rw [putK_not h]; rfl
theorem goodK_1 {k : Ky} (h : goodK k = true) : 0 < (putK k).length := by rw [putK_is h, List.length_append]; have := enc_pos (bnd k.kind); omega
set_option maxHeartbeats 1000000 in
theorem scGone_pred (S : Nat → Prop) (w0 : World) : PredK S w0 133 #[] (fun k => !goodK k) := by
  refine ⟨Tryz.call133, fun y w hx hs => ?_⟩
  show Calls _ _ #[.agg #[.int .i64 y.kind, .string y.name]] w _
  go_enter Tryz.func133, Tryz.ntmps133
  go_wp2_with fail
  refine (((putKey_lay (fun _ => True) w).2 none 0 0 [] y _ (Ext.new w _) ArrR.nil_ (fun _ => rfl) (by omega) trivial hs).mono fun _ _ h => LayN.of h).mono ?_
  rintro e w1 ⟨A, N, c, rfl, hN, -, -, -, hb1⟩
  cases hg : goodK y with
  | false =>
    have hz : N = 0 := by have := hN.out; have h2 := goodK_0 hg; omega
    subst hz
    go_wp2_with fail
    go_ret
    exact ⟨ret_bool (by rw [hg]; rfl), (Ext.new w _).trans hb1⟩
  | true =>
    have hz : 0 < N := by have := hN.out; have h2 := goodK_1 hg; omega
    go_wp2_with fail
    go_ret
    exact ⟨ret_bool (by rw [hg, show ((N : Int) == 0) = false from by rw [beq_eq_false_iff_ne]; omega]; rfl), (Ext.new w _).trans hb1⟩

theorem saneS_kind {s : Sp} (h : inB s.kind 9 = false) : saneS s = 4 := by unfold saneS; rw [if_pos h]
theorem saneS_small {s : Sp} (h : inB s.kind 9 = true) (h2 : smallS s = false) : saneS s = 3 := by unfold saneS; rw [if_neg (by rw [h]; decide), if_pos h2]
theorem saneS_shaped {s : Sp} (h : inB s.kind 9 = true) (h2 : smallS s = true) (h3 : shapedS s = false) : saneS s = 2 := by unfold saneS; rw [if_neg (by rw [h]; decide), if_neg (by rw [h2]; decide), if_pos h3]
theorem saneS_adds {s : Sp} (h : inB s.kind 9 = true) (h2 : smallS s = true) (h3 : shapedS s = true) (h4 : firstE saneR s.adds ≠ 0) : saneS s = firstE saneR s.adds := by unfold saneS; rw [if_neg (by rw [h]; decide), if_neg (by rw [h2]; decide), if_neg (by rw [h3]; decide), if_pos h4]
theorem saneS_rest {s : Sp} (h : inB s.kind 9 = true) (h2 : smallS s = true) (h3 : shapedS s = true) (h4 : firstE saneR s.adds = 0) : saneS s = if (s.gone.any fun k => !goodK k) = true then 5 else 0 := by
  have e : (s.gone.all goodK = false) ↔ ((s.gone.any fun k => !goodK k) = true) := by
    rw [List.any_eq_true, List.all_eq_false]
    constructor
    · rintro ⟨x, a, b⟩; exact ⟨x, a, by simpa using b⟩
    · rintro ⟨x, a, b⟩; exact ⟨x, a, by simpa using b⟩
  unfold saneS
  rw [if_neg (by rw [h]; decide), if_neg (by rw [h2]; decide), if_neg (by rw [h3]; decide), if_neg (by rw [h4]; decide)]
  by_cases hc : (s.gone.any fun k => !goodK k) = true
  · rw [if_pos hc, if_pos (e.2 hc)]
  · rw [if_neg hc, if_neg (fun h => hc (e.1 h))]
theorem smallS_lens {s : Sp} (h : smallS s = true) : s.adds.length ≤ 64 ∧ s.gone.length ≤ 64 ∧ s.a.host.size ≤ 40 ∧ s.a.path.size ≤ 40 := by
  unfold smallS at h
  simp only [Bool.and_eq_true, decide_eq_true_eq] at h
  obtain ⟨⟨⟨⟨⟨⟨a, b⟩, c⟩, d⟩, -⟩, -⟩, -⟩ := h
  exact ⟨c, d, a, b⟩

set_option maxRecDepth 100000 in
set_option maxHeartbeats 4000000 in
theorem scSane_any (S : Nat → Prop) (s : Sp) (A : Option Addr) (n c : Nat) (B : Option Addr) (m d : Nat) (w : World) (hV : SpV S w s A n c B m d) :
    Calls Tryz.prog 59 #[spVal s A n c B m d] w fun e w' => e = .returned (.int .i64 (saneS s)) ∧ Ext w w' := by
  have HV := Lib.hid hV
  clear hV
  unfold spVal
  go_enter Tryz.func59, Tryz.ntmps59
  go_wp2_with fail
  refine (scWithin_any _ _ _).mono ?_
  rintro e wx ⟨rfl, rfl⟩
  cases k1 : inB s.kind 9 with
  | false =>
    have HR := Lib.hid (saneS_kind k1)
    go_wp2_with fail
    go_ret
    exact ⟨ret_int HR.out.symm, Ext.new w _⟩
  | true =>
  have K1 := Lib.hid k1
  clear k1
  go_wp2_with fail
  refine (scSmall_any S s A n c B m d _ (HV.out.up (Ext.new _ _))).mono ?_
  rintro e w2 ⟨rfl, hb2⟩
  have K2 := Lib.hid (boxS_up hb2)
  have E2 := Lib.hid ((Ext.new w _).trans hb2)
  clear hb2
  obtain ⟨q0, q1⟩ := blk_rules K2.out
  cases k2 : smallS s with
  | false =>
    have HR := Lib.hid (saneS_small K1.out k2)
    go_wp2_with fail
    go_ret
    exact ⟨ret_int HR.out.symm, E2.out⟩
  | true =>
  have S2 := Lib.hid k2
  have hn64 : n ≤ 64 := by have h1 := (smallS_lens k2).1; have h2 := HV.out.adds.len; omega
  have hm64 : m ≤ 64 := by have h1 := (smallS_lens k2).2.1; have h2 := HV.out.gone.len; omega
  clear k2
  go_wp2_with fail
  refine (scShaped_any S s A n c B m d _ (HV.out.up E2.out) hn64 hm64).mono ?_
  rintro e w3 ⟨rfl, hb3⟩
  have hz2 : w.heap.size < w2.heap.size := (Array.getElem?_eq_some_iff.1 K2.out).1
  have K3 := Lib.hid ((hb3.block hz2).trans K2.out)
  have E3 := Lib.hid (E2.out.trans hb3)
  have hz3 : w.heap.size < w3.heap.size := Nat.lt_of_lt_of_le hz2 hb3.size
  clear hb3 q0 q1
  cases k3 : shapedS s with
  | false =>
    have HR := Lib.hid (saneS_shaped K1.out S2.out k3)
    go_wp2_with fail
    go_ret
    exact ⟨ret_int HR.out.symm, E3.out⟩
  | true =>
  have S3 := Lib.hid k3
  clear k3
  obtain ⟨q0, q1⟩ := blk_rules K3.out
  go_wp2_with fail
  clear q0 q1
  go_loopw [22] (fun i wr => ∃ k : Nat, k ≤ n ∧ i = .int .i64 k ∧ Hid (firstE saneR s.adds = firstE saneR (s.adds.drop k)) ∧ Hid (Ext w3 wr)) (fun i _ => n - (intOf i).toNat)
  case atStart => exact ⟨0, Nat.zero_le _, by go_num, Lib.hid rfl, Lib.hid (Ext.refl _)⟩
  case round =>
    obtain ⟨k, hk, rfl, HS, HX⟩ := hrel
    have HE := Lib.hid (E3.out.trans HX.out)
    have KR := Lib.hid ((HX.out.block hz3).trans K3.out)
    by_cases hlt : k < n
    · obtain ⟨b, o, r, C, p, f, C', p', f', rfl, hbB, -, hlk, hv, hc0, hc1, hc2, hc3, hc4, hc5, hc6⟩ := ResL.at_ HV.out.adds hlt
      have d0 : wr.cell? ⟨b, o + k * 7, none⟩ = some (.int .i64 r.kind) := (HE.out.cell hbB).trans hc0
      have d1 : wr.cell? ⟨b, o + k * 7 + 1, none⟩ = some (.string r.name) := (HE.out.cell hbB).trans hc1
      have d2 : wr.cell? ⟨b, o + k * 7 + 2, none⟩ = some (.int .i64 r.ver) := (HE.out.cell hbB).trans hc2
      have d3 : wr.cell? ⟨b, o + k * 7 + 3, none⟩ = some (.int .i64 r.port) := (HE.out.cell hbB).trans hc3
      have d4 : wr.cell? ⟨b, o + k * 7 + 4, none⟩ = some (.string r.to) := (HE.out.cell hbB).trans hc4
      have d5 : wr.cell? ⟨b, o + k * 7 + 5, none⟩ = some (.slice C p f) := (HE.out.cell hbB).trans hc5
      have d6 : wr.cell? ⟨b, o + k * 7 + 6, none⟩ = some (.slice C' p' f') := (HE.out.cell hbB).trans hc6
      have HL := Lib.hid hlk
      have HVr := Lib.hid hv
      have hbw := Nat.lt_of_lt_of_le hbB HE.out.size
      clear hlk hv hc0 hc1 hc2 hc3 hc4 hc5 hc6
      go_wp2_with fail
      refine (resSane_any S r C C' p f p' f' _ (HVr.out.up (HE.out.alloc _))).mono ?_
      rintro e w1 ⟨rfl, hb1⟩
      have HX1 := Lib.hid ((HX.out.alloc _).trans hb1)
      clear hb1 d0 d1 d2 d3 d4 d5 d6
      obtain ⟨x, hx⟩ : ∃ x, x = saneR r := ⟨_, rfl⟩
      rw [← hx]
      have HSt : Hid (firstE saneR (s.adds.drop k) = if x ≠ 0 then x else firstE saneR (s.adds.drop (k + 1))) := Lib.hid (by rw [hx, drop_of HL.out]; rfl)
      clear hx
      by_cases h0 : x = 0
      · subst h0
        have HS2 : Hid (firstE saneR s.adds = firstE saneR (s.adds.drop (k + 1))) := Lib.hid (by rw [HS.out, HSt.out, if_neg (by simp)])
        go_wp2_with fail
        go_roundw
        case rel => exact ⟨k + 1, by omega, by go_num, HS2, HX1⟩
        case measure => simp [intOf]; omega
      · have hq : (x != 0) = true := by simpa using h0
        have HR : Hid (saneS s = x) := Lib.hid (by
          have h9 : firstE saneR s.adds = x := by rw [HS.out, HSt.out, if_pos h0]
          rw [saneS_adds K1.out S2.out S3.out (by rw [h9]; exact h0), h9])
        go_wp2_with fail
        go_ret
        exact ⟨ret_int HR.out.symm, E3.out.trans HX1.out⟩
    · have HR : Hid (saneS s = if (s.gone.any fun k => !goodK k) = true then 5 else 0) := Lib.hid (saneS_rest K1.out S2.out S3.out (by rw [HS.out, List.drop_eq_nil_of_le (by have := HV.out.adds.len; omega)]; rfl))
      obtain ⟨q0, q1⟩ := blk_rules KR.out
      go_wp2_with fail
      refine (containsK_any (T := S) S 133 #[] (fun k => !goodK k) B m d s.gone _ (Nat.le_trans HV.out.sg.1 HV.out.sg.2.1) (KeyL.keep HV.out.gone HE.out.keep) (scGone_pred _ _)).mono ?_
      rintro e w4 ⟨rfl, hb4⟩
      have E4 := Lib.hid (HE.out.trans hb4)
      obtain ⟨Y, hY⟩ : ∃ Y, Y = (s.gone.any fun k => !goodK k) := ⟨_, rfl⟩
      rw [← hY] at HR ⊢
      clear hb4 hY q0 q1
      cases Y with
      | true =>
        go_wp2_with fail
        go_ret
        exact ⟨ret_int HR.out.symm, E4.out⟩
      | false =>
        go_wp2_with fail
        go_ret
        exact ⟨ret_int HR.out.symm, E4.out⟩
end Go.Proofs.YtfdjbnofcniodaaGreatDoor
