/- The laws CodeNone, CodeSizes, CodeSticks: their walks. -/
import Derived.Test.YtjomoannlpadnaaCodeLaw
import Derived.Outline
namespace Go.Proofs.Ytjomoannlpadnaa
open Go.RowKit
attribute [local go_sem ↓] run_max2 run_min2

set_option maxRecDepth 100000 in
set_option maxHeartbeats 400000 in
theorem codeNone_any (most : Int) (w : World) : Calls Try.prog 9 #[.int .i64 most] w fun e w' => e = .returned (.bool true) ∧ Ext w w' := by
  go_enter Try.func9, Try.ntmps9
  go_wp2_with fail
  refine (awake02 _).mono ?_
  rintro e w1 ⟨rfl, hb1⟩
  go_wp2_with fail
  refine (num_nil _ _).mono ?_
  rintro e w2 ⟨rfl, rfl⟩
  go_wp2_with fail
  refine (txt_nil _ _).mono ?_
  rintro e w2 ⟨rfl, rfl⟩
  rw [show bstr ([] : List UInt8) = ⟨#[]⟩ from rfl]
  go_wp2_with fail
  refine (done_nil _).mono ?_
  rintro e w2 ⟨rfl, rfl⟩
  go_wp2_with fail
  go_ret
  exact ⟨rfl, hb1⟩

set_option maxRecDepth 100000 in
set_option maxHeartbeats 400000 in
theorem codeSizes_big (a b : Int) (s : ByteArray) (w : World) (hs : 500 < s.size) : Calls Try.prog 12 #[.int .i64 a, .int .i64 b, .string s] w fun e w' => e = .returned (.bool true) ∧ Ext w w' := by
  go_enter Try.func12, Try.ntmps12
  go_wp2_with fail
  refine (awake02 _).mono ?_
  rintro e w1 ⟨rfl, hb1⟩
  go_wp2_with fail
  go_ret
  exact ⟨rfl, hb1⟩

set_option maxRecDepth 100000 in
set_option maxHeartbeats 800000 in
theorem codeSizes_any (a b : Int) (s : ByteArray) (w : World) (hs : s.size ≤ 500) : Calls Try.prog 12 #[.int .i64 a, .int .i64 b, .string s] w fun e w' => e = .returned (.bool true) ∧ Ext w w' := by
  have HB := Lib.hid (bnd_cast a)
  go_enter Try.func12, Try.ntmps12
  go_wp2_with fail
  refine (awake02 _).mono ?_
  rintro e w1 ⟨rfl, hb1⟩
  have hbl := bnd_le a
  have hb := bnd_cast a
  go_wp2_with fail
  clear hb
  go_loop [9, 10] (fun k x => ∃ (f m j : Nat), x = .int .i64 (m / 128 : Nat) ∧ Hid (m < 128 ^ (f + 1)) ∧ m ≤ 2147483647 ∧ k = .int .i64 j ∧ j ≤ 5 ∧ Hid (j + (encF f m).length = 1 + (enc (bnd a)).length)) (fun _ x => (intOf x).toNat)
  case atStart => exact ⟨4, bnd a, 1, by rw [Int.natCast_ediv]; rfl, Lib.hid (pow5 hbl), hbl, rfl, by omega, rfl⟩
  case round =>
    obtain ⟨f, m, j, rfl, HM, hm, rfl, hj, HJ⟩ := hrel
    obtain ⟨q, hq⟩ : ∃ q, q = m / 128 := ⟨_, rfl⟩
    rw [← hq]
    have HQ := Lib.hid hq
    have hqm : q ≤ 2147483647 := by omega
    by_cases hlt : 0 < q
    · clear hq
      go_wp2_with fail
      go_round
      case rel =>
        have hq := HQ.out
        have hm2 : 128 ≤ m := by omega
        obtain ⟨f', rfl⟩ : ∃ f', f = f' + 1 := ⟨f - 1, by
          have h1 := HM.out
          rcases Nat.eq_zero_or_pos f with h0 | h0
          · subst h0; simp at h1; omega
          · omega⟩
        have h1 := HJ.out
        rw [encF_ge hm2, List.length_cons] at h1
        have h2 := encF_pos f' (m / 128)
        have h3 := enc_len (bnd a)
        exact ⟨f', m / 128, j + 1, by rw [Int.natCast_ediv, hq]; rfl, div_pow HM.out, by omega, by go_num, by omega, Lib.hid (by omega)⟩
      case measure => simp [intOf]; omega
    · have h1 := HJ.out
      rw [encF_lt (by omega)] at h1
      obtain rfl : j = (enc (bnd a)).length := by simp at h1; omega
      have hLS : (encT s.data.toList).length = (enc (bnd s.size)).length + s.size := by unfold encT; rw [List.length_append, size_toList, bnd_of (by omega)]
      have hMO : a ≤ b → (enc (bnd a)).length ≤ (enc (bnd b)).length := fun h => enc_mono (bnd_mono h)
      have hLA := enc_len (bnd a)
      have hLSS := enc_len (bnd (s.size : Int))
      have HS1 : ∀ w, Calls Try.prog 42 #[.int .i64 a] w fun e w' => e = .returned (.int .i64 ((enc (bnd a)).length : Nat)) ∧ w = w' := fun w => size_any a w
      have HS2 : ∀ w, Calls Try.prog 42 #[.int .i64 b] w fun e w' => e = .returned (.int .i64 ((enc (bnd b)).length : Nat)) ∧ w = w' := fun w => size_any b w
      have HS3 : ∀ w, Calls Try.prog 42 #[.int .i64 (s.size : Int)] w fun e w' => e = .returned (.int .i64 ((enc (bnd (s.size : Int))).length : Nat)) ∧ w = w' := fun w => size_any _ w
      have HT : ∀ w, Calls Try.prog 40 #[.slice none 0 0, .string s] w fun e w' => ∃ v, e = .returned v ∧ w'.ownsRow w.heap.size 5 1 v (0 + (encT s.data.toList).length) (([] ++ encT s.data.toList).map byteV) ∧ Ext w w' := fun w => text_any none 0 0 [] s w ArrR.nil_ (fun _ => rfl) (by omega) (by omega)
      have HN : ∀ w, Calls Try.prog 38 #[.slice none 0 0, .int .i64 a] w fun e w' => ∃ v, e = .returned v ∧ w'.ownsRow w.heap.size 5 1 v (0 + (enc (bnd a)).length) (([] ++ enc (bnd a)).map byteV) ∧ Ext w w' := fun w => number_any none 0 0 [] a w ArrR.nil_ (fun _ => rfl) (by omega)
      rw [hLS] at HT
      rw [Nat.zero_add] at HT HN
      clear h1 HJ hLS hq
      obtain ⟨La, hLa⟩ : ∃ La, La = (enc (bnd a)).length := ⟨_, rfl⟩
      obtain ⟨Lb, hLb⟩ : ∃ Lb, Lb = (enc (bnd b)).length := ⟨_, rfl⟩
      obtain ⟨Ls, hLs⟩ : ∃ Ls, Ls = (enc (bnd (s.size : Int))).length := ⟨_, rfl⟩
      rw [← hLa] at hMO hLA HS1 HN ⊢
      rw [← hLb] at hMO HS2
      rw [← hLs] at hLSS HS3 HT
      have G1 := Lib.hid HS1
      have G2 := Lib.hid HS2
      have G3 := Lib.hid HS3
      have GT := Lib.hid HT
      have GN := Lib.hid HN
      clear HS1 HS2 HS3 HT HN hLa hLb hLs
      obtain rfl : q = 0 := by omega
      by_cases hab : b < a
      · clear hMO
        go_wp2_with fail
        refine (G1.out _).mono ?_
        rintro e w2 ⟨rfl, rfl⟩
        go_wp2_with fail
        refine (GT.out _).mono ?_
        rintro e w2 ⟨v2, rfl, hown2, hb2⟩
        obtain ⟨A2, c2, rfl, -, -, -, -, -⟩ := own_byts hown2
        clear hown2
        go_wp2_with fail
        refine (G3.out _).mono ?_
        rintro e w3 ⟨rfl, rfl⟩
        go_wp2_with fail
        refine (GN.out _).mono ?_
        rintro e w3 ⟨v3, rfl, hown3, hb3⟩
        obtain ⟨A3, c3, rfl, -, -, -, -, -⟩ := own_byts hown3
        clear hown3
        go_wp2_with fail
        go_ret
        exact ⟨rfl, (hb1.trans hb2).trans hb3⟩
      · have hle := hMO (by omega)
        clear hMO
        go_wp2_with fail
        refine (G1.out _).mono ?_
        rintro e w2 ⟨rfl, rfl⟩
        go_wp2_with fail
        refine (G1.out _).mono ?_
        rintro e w2 ⟨rfl, rfl⟩
        go_wp2_with fail
        refine (G2.out _).mono ?_
        rintro e w2 ⟨rfl, rfl⟩
        go_wp2_with fail
        refine (GT.out _).mono ?_
        rintro e w2 ⟨v2, rfl, hown2, hb2⟩
        obtain ⟨A2, c2, rfl, -, -, -, -, -⟩ := own_byts hown2
        clear hown2
        go_wp2_with fail
        refine (G3.out _).mono ?_
        rintro e w3 ⟨rfl, rfl⟩
        go_wp2_with fail
        refine (GN.out _).mono ?_
        rintro e w3 ⟨v3, rfl, hown3, hb3⟩
        obtain ⟨A3, c3, rfl, -, -, -, -, -⟩ := own_byts hown3
        clear hown3
        go_wp2_with fail
        go_ret
        exact ⟨rfl, (hb1.trans hb2).trans hb3⟩

/-- one thing that is taken: a text, or a number -/
def Act2R (cs : List Value) (y : Bool × Int) : Prop := cs = [.bool y.1, .int .i64 y.2]

set_option maxRecDepth 100000 in
set_option maxHeartbeats 400000 in
theorem codeSticks_long (A Al : Option Addr) (n c nl cl : Nat) (most : Int) (w : World) (h : 500 < n ∨ 60 < nl) : Calls Try.prog 13 #[.slice A n c, .int .i64 most, .slice Al nl cl] w fun e w' => e = .returned (.bool true) ∧ Ext w w' := by
  by_cases h1 : 500 < n
  · go_enter Try.func13, Try.ntmps13
    go_wp2_with fail
    refine (awake02 _).mono ?_
    rintro e w1 ⟨rfl, hb1⟩
    go_wp2_with fail
    go_ret
    exact ⟨rfl, hb1⟩
  · have h2 : 60 < nl := by omega
    clear h
    go_enter Try.func13, Try.ntmps13
    go_wp2_with fail
    refine (awake02 _).mono ?_
    rintro e w1 ⟨rfl, hb1⟩
    go_wp2_with fail
    go_ret
    exact ⟨rfl, hb1⟩

set_option maxRecDepth 100000 in
set_option maxHeartbeats 800000 in
theorem codeSticks_any (A Al : Option Addr) (n c nl cl : Nat) (bs : List UInt8) (ys : List (Bool × Int)) (most : Int) (w : World) (hB : Byts w A n bs) (hA : A = none → c = 0) (hnc : n ≤ c) (hcm : c ≤ 9223372036854775807) (hL : ArrR w 2 Act2R Al nl ys) (hn : n ≤ 500) (hnl : nl ≤ 60) :
    Calls Try.prog 13 #[.slice A n c, .int .i64 most, .slice Al nl cl] w fun e w' => e = .returned (.bool true) ∧ Ext w w' := by
  have HB := Lib.hid hB
  have HL := Lib.hid hL
  clear hB hL
  have hn' : ¬ 500 < n := by omega
  have hnl' : ¬ 60 < nl := by omega
  go_enter Try.func13, Try.ntmps13
  go_wp2_with fail
  refine (awake02 _).mono ?_
  rintro e w1 ⟨rfl, hb1⟩
  have HE := Lib.hid hb1
  clear hb1
  go_wp2_with fail
  refine (txt_any w1.heap.size ⟨bs, 0⟩ most _ (RdAt.box 0 (ArrR.up HB.out HE.out) hA hnc hcm)).mono ?_
  rintro e w2 ⟨rfl, hr2, ho2⟩
  have HX2 := Lib.hid (HE.out.trans (Only.ext (Ext.new w1 _) ho2 (Nat.le_refl _)))
  have HZ := Lib.hid HE.out.size
  obtain ⟨r1, s1, h1⟩ : ∃ r1 s1, (Rd.mk bs 0).txt most = (r1, s1) := ⟨_, _, rfl⟩
  rw [h1] at hr2 ⊢
  simp only [] at hr2 ⊢
  have HR2 := Lib.hid hr2
  obtain ⟨A2, n2, c2, q0, q1, hA2, hn2, hc2, hB2⟩ := hr2.cells
  have kc := run_conv (P := Try.prog) Try.underlying42 Try.underlying5 Try.underlying9 hB2 c2
  clear h1 hr2 hB2 ho2
  by_cases he : r1.e = 0
  · have hb : (r1.e == 0) = true := by simpa using he
    clear he
    go_wp2_with fail
    go_ret
    exact ⟨rfl, HX2.out⟩
  · have hb : (r1.e == 0) = false := by simpa using he
    have HT := Lib.hid (Rd.txt_err he)
    have HN := Lib.hid (Rd.num_err he)
    have HD := Lib.hid (Rd.done_err he)
    clear he
    go_wp2_with fail
    clear kc q0 q1
    go_loopw [11] (fun i wr => ∃ j : Nat, j ≤ nl ∧ i = .int .i64 j ∧ Hid (RdAt wr w1.heap.size r1) ∧ Hid (Ext w wr)) (fun i _ => nl - (intOf i).toNat)
    case atStart => exact ⟨0, Nat.zero_le _, rfl, HR2, HX2⟩
    case round =>
      obtain ⟨j, hj, rfl, HR, HX⟩ := hrel
      by_cases hlt : j < nl
      · obtain ⟨b, o, ⟨tx, m⟩, cs, rfl, hbl, hyj, hcs, hR, hcell⟩ := HL.out.at_ hlt
        obtain rfl : cs = [.bool tx, .int .i64 m] := hR
        have c0 := (HX.out.cell hbl).trans (hcell 0 _ rfl)
        have c1 := (HX.out.cell hbl).trans (hcell 1 _ rfl)
        rw [Nat.add_zero] at c0
        clear hcell hyj hcs
        cases tx with
        | true =>
          go_wp2_with fail
          refine (txt_any w1.heap.size r1 m _ HR.out).mono ?_
          rintro e w3 ⟨rfl, hr3, ho3⟩
          rw [HT.out] at hr3 ⊢
          rw [show bstr ((r1, []) : Rd × List UInt8).2 = ⟨#[]⟩ from rfl]
          have HR3 : Hid (RdAt w3 w1.heap.size r1) := Lib.hid hr3
          have HX3 := Lib.hid (Only.ext HX.out ho3 HZ.out)
          have c0' := (Only.cell ho3 (o := o + j * 2) (Nat.lt_of_lt_of_le hbl HX.out.size) (by have := HZ.out; omega)).trans c0
          clear hr3 ho3
          go_wp2_with fail
          go_roundw
          case rel => exact ⟨j + 1, by omega, by go_num, HR3, HX3⟩
          case measure => simp [intOf]; omega
        | false =>
          go_wp2_with fail
          refine (num_any w1.heap.size r1 m _ HR.out).mono ?_
          rintro e w3 ⟨rfl, hr3, ho3⟩
          rw [HN.out] at hr3 ⊢
          have HR3 : Hid (RdAt w3 w1.heap.size r1) := Lib.hid hr3
          have HX3 := Lib.hid (Only.ext HX.out ho3 HZ.out)
          clear hr3 ho3
          go_wp2_with fail
          go_roundw
          case rel => exact ⟨j + 1, by omega, by go_num, HR3, HX3⟩
          case measure => simp [intOf]; omega
      · go_wp2_with fail
        refine (done_any w1.heap.size r1 _ HR.out).mono ?_
        rintro e w3 ⟨rfl, hr3, ho3⟩
        rw [HD.out] at hr3 ⊢
        have HX3 := Lib.hid (Only.ext HX.out ho3 HZ.out)
        obtain ⟨A3, n3, c3, q0, q1, -, -, -, hB3⟩ := hr3.cells
        have kc := run_conv (P := Try.prog) Try.underlying42 Try.underlying5 Try.underlying9 hB3 c3
        clear hr3 hB3 ho3
        go_wp2_with fail
        go_ret
        exact ⟨rfl, HX3.out⟩
end Go.Proofs.Ytjomoannlpadnaa
