/- What script's Get computes. -/
import Derived.Test.YtfdjbnofcniodaaGreatDoorSc4
namespace Go.Proofs.YtfdjbnofcniodaaGreatDoor
set_option linter.unusedVariables false
open Go.RowKit

def lenS : Value → Nat
  | .slice _ n _ => n
  | _ => 0
theorem getS_stop {f : Nat} {b : List UInt8} {acc : List Sp} (h : b.length = 0 ∨ 400 ≤ acc.length) : getS f b acc = acc := by
  cases f with
  | zero => rfl
  | succ f => unfold getS; rw [if_pos h]
theorem getS_err {f : Nat} {b : List UInt8} {acc : List Sp} (h : 0 < b.length) (h2 : acc.length < 400) (he : (stepB b).1.e ≠ 0) : getS (f + 1) b acc = acc ++ [headS (kindB b) (sideB b) (wayB b)] := by
  conv => lhs; unfold getS
  rw [if_neg (by omega), if_pos he]
theorem getS_next {f : Nat} {b : List UInt8} {acc : List Sp} (h : 0 < b.length) (h2 : acc.length < 400) (he : (stepB b).1.e = 0) : getS (f + 1) b acc = getS f (stepB b).1.b (acc ++ [(stepB b).2]) := by
  conv => lhs; unfold getS
  rw [if_neg (by omega), if_neg (by rw [he]; simp)]
/-- steps that have been got, in a row of the call's own -/
def GotS (w : World) (l : List Sp) (e : Ending) (w' : World) : Prop := ∃ (v : Value) (us : List Value), e = .returned v ∧ w'.ownsRow w.heap.size 82 11 v l.length us ∧ RowsOf (SpQ (Sx w.heap.size v) w') 11 us l ∧ Ext w w'
theorem GotS.mk {w w' : World} {l l' : List Sp} {v : Value} {us : List Value} (h1 : w'.ownsRow (w.heap.size + 1) 82 11 v l.length us) (h2 : RowsOf (SpQ (Sx (w.heap.size + 1) v) w') 11 us l) (h3 : Ext w w') (hl : l = l') : GotS w l' (.returned v) w' := by
  subst hl
  exact ⟨v, us, rfl, own_base h1 (by omega), h2.mono fun _ _ h => h.weak (fun b _ hb => ⟨by have := hb.1; omega, hb.2⟩), h3⟩

set_option maxRecDepth 100000 in
set_option maxHeartbeats 8000000 in
theorem scGet_any (A : Option Addr) (n c : Nat) (bs : List UInt8) (w : World) (hB : Byts w A n bs) (hc : A = none → c = 0) (hnc : n ≤ c) (hcm : c ≤ 9223372036854775807) :
    Calls Tryz.prog 56 #[.slice A n c] w (GotS w (getSs bs)) := by
  have HR0 := Lib.hid (RdAt.box (w := w) 0 hB hc hnc hcm)
  clear hB hc hnc hcm
  go_enter Tryz.func56, Tryz.ntmps56
  go_wp2_with fail
  have E0 := Lib.hid (Ext.new w (.cells #[.slice A n c, .int .i64 0] 27))
  have hz0 : w.heap.size < (w.alloc (.cells #[.slice A n c, .int .i64 0] 27)).heap.size := by simp
  generalize w.alloc (.cells #[.slice A n c, .int .i64 0] 27) = w0 at HR0 E0 hz0 ⊢
  obtain ⟨g, hg⟩ : ∃ g, g = w.heap.size := ⟨_, rfl⟩
  rw [← hg] at HR0 hz0 ⊢
  have hgw : w.heap.size ≤ g := by omega
  have HG1 : Hid (w.heap.size + 1 = g + 1) := Lib.hid (by omega)
  clear hg
  go_loopw [4] (fun v wr => ∃ (f : Nat) (b : List UInt8) (acc : List Sp) (us : List Value), b.length ≤ f ∧ acc.length ≤ 400 ∧ Hid (getS f b acc = getSs bs) ∧ Hid (wr.ownsRow (g + 1) 82 11 v acc.length us) ∧ Hid (RowsOf (SpQ (Sx (g + 1) v) wr) 11 us acc) ∧ Hid (RdAt wr g ⟨b, 0⟩) ∧ Hid (Ext w wr)) (fun v _ => 401 - lenS v)
  case atStart => exact ⟨bs.length, bs, [], [], Nat.le_refl _, by simp, Lib.hid rfl, Lib.hid own_nil, Lib.hid rfl, HR0, E0⟩
  case round =>
    obtain ⟨f, b, acc, us, hf, ha, HS, HW, HU, HRk, HE⟩ := hrel
    obtain ⟨Ag, ng, cg, hgx, -, -, -, hBg, -⟩ := HRk.out
    obtain ⟨g0, g1⟩ := blk_rules hgx
    have hlb : b.length = ng := hBg.len
    have hgr : g < wr.heap.size := (Array.getElem?_eq_some_iff.1 hgx).1
    obtain ⟨Av, cv, hv0, h1, h2, h3, -⟩ := own_flat HW.out
    subst hv0
    clear hgx hBg h1 h2 h3
    by_cases hb0 : b.length = 0
    · have hng : ng = 0 := by omega
      subst hng
      have HR : Hid (acc = getSs bs) := Lib.hid (by rw [← HS.out, getS_stop (.inl hb0)])
      clear hb0 hlb
      go_wp2_with fail
      go_ret
      exact GotS.mk (by have := HW.out; rwa [← HG1.out] at this) (by have := HU.out; rwa [← HG1.out] at this) HE.out HR.out
    by_cases ha4 : 400 ≤ acc.length
    · have HR : Hid (acc = getSs bs) := Lib.hid (by rw [← HS.out, getS_stop (.inr ha4)])
      have hng : 0 < ng := by omega
      clear hb0 hlb
      go_wp2_with fail
      go_ret
      exact GotS.mk (by have := HW.out; rwa [← HG1.out] at this) (by have := HU.out; rwa [← HG1.out] at this) HE.out HR.out
    have hng : 0 < ng := by omega
    have hbp : 0 < b.length := by omega
    have ha3 : acc.length < 400 := by omega
    obtain ⟨f', rfl⟩ : ∃ f', f = f' + 1 := ⟨f - 1, by omega⟩
    have HER := Lib.hid (@getS_err f' b acc hbp ha3)
    have HNX := Lib.hid (@getS_next f' b acc hbp ha3)
    obtain ⟨K, hK⟩ : ∃ K, K = kindB b := ⟨_, rfl⟩
    obtain ⟨D, hD⟩ : ∃ D, D = sideB b := ⟨_, rfl⟩
    obtain ⟨Y, hY⟩ : ∃ Y, Y = wayB b := ⟨_, rfl⟩
    have hK1 : Int.tmod ((oneB b : Nat) : Int) 10 = ((K : Nat) : Int) := by rw [hK]; unfold kindB; rfl
    have hD1 : Int.tmod ((oneB (b.drop 1) : Nat) : Int) 4 = ((D : Nat) : Int) := by rw [hD]; unfold sideB; rfl
    have hY1 : Int.tmod ((oneB (b.drop 2) : Nat) : Int) 2 = ((Y : Nat) : Int) := by rw [hY]; unfold wayB; rfl
    have HST : Hid (stepB b = takeSB K D Y ⟨b.drop 3, 0⟩) := Lib.hid (by rw [hK, hD, hY]; rfl)
    rw [← hK, ← hD, ← hY] at HER
    obtain ⟨o1, ho1⟩ : ∃ o, o = oneB b := ⟨_, rfl⟩
    obtain ⟨o2, ho2⟩ : ∃ o, o = oneB (b.drop 1) := ⟨_, rfl⟩
    obtain ⟨o3, ho3⟩ : ∃ o, o = oneB (b.drop 2) := ⟨_, rfl⟩
    rw [← ho1] at hK1
    rw [← ho2] at hD1
    rw [← ho3] at hY1
    have HC1 : Hid (∀ w1, RdAt w1 g ⟨b, 0⟩ → Calls Tryz.prog 126 #[.pointer (some ⟨g, 0, none⟩)] w1 (RdPost w1 g ⟨b.drop 1, 0⟩ (.int .i64 ((o1 : Nat) : Int)))) := Lib.hid (fun w1 h => by rw [ho1]; exact scOne_any g ⟨b, 0⟩ w1 h)
    have HC2 : Hid (∀ w1, RdAt w1 g ⟨b.drop 1, 0⟩ → Calls Tryz.prog 126 #[.pointer (some ⟨g, 0, none⟩)] w1 (RdPost w1 g ⟨b.drop 2, 0⟩ (.int .i64 ((o2 : Nat) : Int)))) := Lib.hid (fun w1 h => by have := scOne_any g ⟨b.drop 1, 0⟩ w1 h; simp only [List.drop_drop] at this; rw [ho2]; exact this)
    have HC3 : Hid (∀ w1, RdAt w1 g ⟨b.drop 2, 0⟩ → Calls Tryz.prog 126 #[.pointer (some ⟨g, 0, none⟩)] w1 (RdPost w1 g ⟨b.drop 3, 0⟩ (.int .i64 ((o3 : Nat) : Int)))) := Lib.hid (fun w1 h => by have := scOne_any g ⟨b.drop 2, 0⟩ w1 h; simp only [List.drop_drop] at this; rw [ho3]; exact this)
    clear hK hD hY ho1 ho2 ho3
    have HR := HRk
    have hgB : g < g + 1 := by omega
    have hBr : g + 1 ≤ wr.heap.size := by omega
    go_wp2_with fail
    refine (HC1.out _ (HR.out.up (Ext.refl _))).mono ?_
    rintro e w1 ⟨rfl, hr1, ho1⟩
    have HR1 := Lib.hid hr1
    have HO1 := Lib.hid ((Only.of_ext (Ext.refl _)).trans ho1)
    clear hr1 ho1
    clear g0 g1
    have hw1 := HO1.out.size
    go_wp2_with fail
    have HKH2 : Hid ((w1.alloc (.cells #[.int .i64 ((K : Nat) : Int), .int .i64 0, .int .i64 0, .int .i64 0, .slice none 0 0, .slice none 0 0, .int .i64 0, .string ⟨#[]⟩, .string ⟨#[]⟩, .int .i64 0, .int .i64 0] 82)).heap[w1.heap.size]? = some (.cells #[.int .i64 ((K : Nat) : Int), .int .i64 0, .int .i64 0, .int .i64 0, .slice none 0 0, .slice none 0 0, .int .i64 0, .string ⟨#[]⟩, .string ⟨#[]⟩, .int .i64 0, .int .i64 0] 82 (0, 0))) := Lib.hid (heap_alloc_new w1 _)
    have HR2 := Lib.hid (HR1.out.up (Ext.new w1 (.cells #[.int .i64 ((K : Nat) : Int), .int .i64 0, .int .i64 0, .int .i64 0, .slice none 0 0, .slice none 0 0, .int .i64 0, .string ⟨#[]⟩, .string ⟨#[]⟩, .int .i64 0, .int .i64 0] 82)))
    have HO2 := Lib.hid (HO1.out.trans (Only.of_ext (Ext.new w1 (.cells #[.int .i64 ((K : Nat) : Int), .int .i64 0, .int .i64 0, .int .i64 0, .slice none 0 0, .slice none 0 0, .int .i64 0, .string ⟨#[]⟩, .string ⟨#[]⟩, .int .i64 0, .int .i64 0] 82))))
    have hz2 : w1.heap.size < (w1.alloc (.cells #[.int .i64 ((K : Nat) : Int), .int .i64 0, .int .i64 0, .int .i64 0, .slice none 0 0, .slice none 0 0, .int .i64 0, .string ⟨#[]⟩, .string ⟨#[]⟩, .int .i64 0, .int .i64 0] 82)).heap.size := by simp
    generalize w1.alloc (.cells #[.int .i64 ((K : Nat) : Int), .int .i64 0, .int .i64 0, .int .i64 0, .slice none 0 0, .slice none 0 0, .int .i64 0, .string ⟨#[]⟩, .string ⟨#[]⟩, .int .i64 0, .int .i64 0] 82) = w2 at HKH2 HR2 HO2 hz2 ⊢
    refine (HC2.out _ HR2.out).mono ?_
    rintro e w3 ⟨rfl, hr3, ho3⟩
    have HR3 := Lib.hid hr3
    have HKH3 : Hid (w3.heap[w1.heap.size]? = some (.cells #[.int .i64 ((K : Nat) : Int), .int .i64 0, .int .i64 0, .int .i64 0, .slice none 0 0, .slice none 0 0, .int .i64 0, .string ⟨#[]⟩, .string ⟨#[]⟩, .int .i64 0, .int .i64 0] 82 (0, 0))) := Lib.hid ((ho3.blk (b := w1.heap.size) (by omega) (by omega)).trans HKH2.out)
    have HO3 := Lib.hid (HO2.out.trans ho3)
    have hz3 : w1.heap.size < w3.heap.size := Nat.lt_of_lt_of_le hz2 ho3.size
    clear hr3 ho3
    obtain ⟨qH0, qH1⟩ := blk_rules HKH3.out
    go_wp2_with fail
    clear qH0 qH1
    have HKH4 : Hid ((w3.setCell ⟨w1.heap.size, 1, none⟩ (.int .i64 ((D : Nat) : Int))).heap[w1.heap.size]? = some (.cells #[.int .i64 ((K : Nat) : Int), .int .i64 ((D : Nat) : Int), .int .i64 0, .int .i64 0, .slice none 0 0, .slice none 0 0, .int .i64 0, .string ⟨#[]⟩, .string ⟨#[]⟩, .int .i64 0, .int .i64 0] 82 (0, 0))) := Lib.hid (blk_set (i := 1) HKH3.out (.int .i64 ((D : Nat) : Int)))
    have HR4 := Lib.hid (HR3.out.setFar (p := w1.heap.size) (i := 1) (by omega) (.int .i64 ((D : Nat) : Int)))
    have HO4 := Lib.hid (HO3.out.setNew (p := w1.heap.size) (i := 1) (by omega) (.int .i64 ((D : Nat) : Int)))
    have hz4 : w1.heap.size < (w3.setCell ⟨w1.heap.size, 1, none⟩ (.int .i64 ((D : Nat) : Int))).heap.size := by rw [size_set]; exact hz3
    generalize w3.setCell ⟨w1.heap.size, 1, none⟩ (.int .i64 ((D : Nat) : Int)) = w4 at HKH4 HR4 HO4 hz4 ⊢
    refine (HC3.out _ HR4.out).mono ?_
    rintro e w5 ⟨rfl, hr5, ho5⟩
    have HR5 := Lib.hid hr5
    have HKH5 : Hid (w5.heap[w1.heap.size]? = some (.cells #[.int .i64 ((K : Nat) : Int), .int .i64 ((D : Nat) : Int), .int .i64 0, .int .i64 0, .slice none 0 0, .slice none 0 0, .int .i64 0, .string ⟨#[]⟩, .string ⟨#[]⟩, .int .i64 0, .int .i64 0] 82 (0, 0))) := Lib.hid ((ho5.blk (b := w1.heap.size) (by omega) (by omega)).trans HKH4.out)
    have HO5 := Lib.hid (HO4.out.trans ho5)
    have hz5 : w1.heap.size < w5.heap.size := Nat.lt_of_lt_of_le hz4 ho5.size
    clear hr5 ho5
    obtain ⟨qH0, qH1⟩ := blk_rules HKH5.out
    go_wp2_with fail
    clear qH0 qH1
    have HKH6 : Hid ((w5.setCell ⟨w1.heap.size, 2, none⟩ (.int .i64 ((Y : Nat) : Int))).heap[w1.heap.size]? = some (.cells #[.int .i64 ((K : Nat) : Int), .int .i64 ((D : Nat) : Int), .int .i64 ((Y : Nat) : Int), .int .i64 0, .slice none 0 0, .slice none 0 0, .int .i64 0, .string ⟨#[]⟩, .string ⟨#[]⟩, .int .i64 0, .int .i64 0] 82 (0, 0))) := Lib.hid (blk_set (i := 2) HKH5.out (.int .i64 ((Y : Nat) : Int)))
    have HR6 := Lib.hid (HR5.out.setFar (p := w1.heap.size) (i := 2) (by omega) (.int .i64 ((Y : Nat) : Int)))
    have HO6 := Lib.hid (HO5.out.setNew (p := w1.heap.size) (i := 2) (by omega) (.int .i64 ((Y : Nat) : Int)))
    have hz6 : w1.heap.size < (w5.setCell ⟨w1.heap.size, 2, none⟩ (.int .i64 ((Y : Nat) : Int))).heap.size := by rw [size_set]; exact hz5
    generalize w5.setCell ⟨w1.heap.size, 2, none⟩ (.int .i64 ((Y : Nat) : Int)) = w6 at HKH6 HR6 HO6 hz6 ⊢
    refine (scRest_any g ⟨b.drop 3, 0⟩ K D Y _ HR6.out).mono ?_
    rintro e v ⟨A, m, d, A', m', d', rfl, hv, hr, ho⟩
    rw [← HST.out] at hv hr
    rw [← HST.out]
    have KH := Lib.hid ((ho.blk (b := w1.heap.size) (by omega) (by omega)).trans HKH6.out)
    have HOv := Lib.hid (HO6.out.trans ho)
    have hzv : w1.heap.size < v.heap.size := Nat.lt_of_lt_of_le hz6 ho.size
    have HWv := Lib.hid (own_only HW.out HOv.out hgB)
    obtain ⟨r2, hr2⟩ : ∃ r2, r2 = (stepB b).1 := ⟨_, rfl⟩
    obtain ⟨s, hs⟩ : ∃ s, s = (stepB b).2 := ⟨_, rfl⟩
    have hq : wr.heap.size ≤ w6.heap.size := HO6.out.size
    have HSP : Hid (r2.e = 0 → r2.b.length ≤ b.length - 3) := Lib.hid (fun he => by rw [hr2] at he ⊢; exact (step_ours he).2)
    rw [← hr2] at hr HER HNX
    rw [← hs] at hv HNX
    rw [← hs]
    have HV : Hid (SpV (fun b => wr.heap.size ≤ b) v s A m d A' m' d') := Lib.hid (hv.weak (fun b _ hb => by omega))
    have HRv := Lib.hid hr
    clear hr2 hs hv hr ho
    have EV := Lib.hid (Only.ext HE.out HOv.out hgw)
    have hvr : wr.heap.size ≤ v.heap.size := HOv.out.size
    unfold spVal
    by_cases he : r2.e = 0
    · have hb1 : (r2.e != 0) = false := by simpa using he
      have HNXe := Lib.hid (HNX.out he)
      have HSPe := HSP.out he
      have HR2 : Hid (RdAt v g ⟨r2.b, 0⟩) := Lib.hid (by have := HRv.out; rwa [show r2 = ⟨r2.b, 0⟩ from by rw [← he]] at this)
      obtain ⟨Ax, nx, cx, hgx, -, -, -, -, -⟩ := HR2.out
      have hgv : g < v.heap.size := (Array.getElem?_eq_some_iff.1 hgx).1
      obtain ⟨x0, x1⟩ := blk_rules (((Ext.new v (.cells #[.int .i64 s.kind, .int .i64 s.side, .int .i64 s.way, .int .i64 s.n, .slice A m d, .slice A' m' d', .int .i64 s.a.port, .string s.a.host, .string s.a.path, .int .i64 s.a.first, .int .i64 s.a.other] 82)).block hgv).trans hgx)
      obtain ⟨y0, y1⟩ := blk_rules hgx
      have XX : Ext v ((v.alloc (.cells #[.int .i64 s.kind, .int .i64 s.side, .int .i64 s.way, .int .i64 s.n, .slice A m d, .slice A' m' d', .int .i64 s.a.port, .string s.a.host, .string s.a.path, .int .i64 s.a.first, .int .i64 s.a.other] 82)).alloc (.cells #[.int .i64 s.kind, .int .i64 s.side, .int .i64 s.way, .int .i64 s.n, .slice A m d, .slice A' m' d', .int .i64 s.a.port, .string s.a.host, .string s.a.path, .int .i64 s.a.first, .int .i64 s.a.other] 82)) := ((Ext.refl v).alloc (.cells #[.int .i64 s.kind, .int .i64 s.side, .int .i64 s.way, .int .i64 s.n, .slice A m d, .slice A' m' d', .int .i64 s.a.port, .string s.a.host, .string s.a.path, .int .i64 s.a.first, .int .i64 s.a.other] 82)).alloc (.cells #[.int .i64 s.kind, .int .i64 s.side, .int .i64 s.way, .int .i64 s.n, .slice A m d, .slice A' m' d', .int .i64 s.a.port, .string s.a.host, .string s.a.path, .int .i64 s.a.first, .int .i64 s.a.other] 82)
      have hFk := flat_k (v.alloc (.cells #[.int .i64 s.kind, .int .i64 s.side, .int .i64 s.way, .int .i64 s.n, .slice A m d, .slice A' m' d', .int .i64 s.a.port, .string s.a.host, .string s.a.path, .int .i64 s.a.first, .int .i64 s.a.other] 82)) [.int .i64 s.kind, .int .i64 s.side, .int .i64 s.way, .int .i64 s.n, .slice A m d, .slice A' m' d', .int .i64 s.a.port, .string s.a.host, .string s.a.path, .int .i64 s.a.first, .int .i64 s.a.other] 82 rfl
      simp only [World.size_alloc] at hFk
      have hOW := own_up HWv.out XX
      obtain ⟨v', w3, hrun, hown3, hg3, hnw⟩ := run_append_flat elem_step 77 hOW 1 hFk (by simp [Value.oneCell']) (by omega) (by omega) (by simp; omega) (fun h => by cases h)
      obtain ⟨A4, c4, hv4, -, -, -, -⟩ := own_flat hown3
      subst hv4
      have HRUN := Lib.hid hrun
      have E3 := Lib.hid (Ext.grown (EV.out.trans XX) hg3 hOW (by omega))
      have HR3 : Hid (RdAt w3 g ⟨r2.b, 0⟩) := Lib.hid (rdat_grown (HR2.out.up XX) hg3 hOW hgB)
      have HU3 : Hid (RowsOf (SpQ (Sx (g + 1) (.slice A4 (acc.length + 1) c4)) w3) 11 (us ++ [.int .i64 s.kind, .int .i64 s.side, .int .i64 s.way, .int .i64 s.n, .slice A m d, .slice A' m' d', .int .i64 s.a.port, .string s.a.host, .string s.a.path, .int .i64 s.a.first, .int .i64 s.a.other]) (acc ++ [s])) := Lib.hid (rows_grow SpQ (fun _ _ _ _ _ h k => h.keep k) (fun _ _ _ _ _ h k => h.weak k) HU.out HOv.out hgB XX hg3 hnw HW.out hBr ⟨A, m, d, A', m', d', rfl, HV.out⟩ rfl)
      have HW3 : Hid (w3.ownsRow (g + 1) 82 11 (.slice A4 (acc.length + 1) c4) (acc ++ [s]).length (us ++ [.int .i64 s.kind, .int .i64 s.side, .int .i64 s.way, .int .i64 s.n, .slice A m d, .slice A' m' d', .int .i64 s.a.port, .string s.a.host, .string s.a.path, .int .i64 s.a.first, .int .i64 s.a.other])) := Lib.hid (by rw [List.length_append]; exact hown3)
      have HS3 : Hid (getS f' r2.b (acc ++ [s]) = getSs bs) := Lib.hid (by rw [← HNXe.out]; exact HS.out)
      clear hFk hOW hrun hown3 hg3 hnw hgx XX he
      go_wp2_with (refine Lib.wpList_append_run _ rfl _ _ _ _ rfl _ _ rfl rfl _ w3 HRUN.out ?_)
      clear x0 x1 y0 y1
      go_roundw
      case rel => exact ⟨f', r2.b, acc ++ [s], _, by omega, by rw [List.length_append]; simp; omega, HS3, HW3, HU3, HR3, E3⟩
      case measure => simp [lenS]; omega
    · have hb1 : (r2.e != 0) = true := by simpa using he
      have HERe := Lib.hid (HER.out he)
      obtain ⟨Ax, nx, cx, hgx, -, -, -, -, -⟩ := HRv.out
      have hgv : g < v.heap.size := (Array.getElem?_eq_some_iff.1 hgx).1
      obtain ⟨x0, x1⟩ := blk_rules (((Ext.new v (.cells #[.int .i64 s.kind, .int .i64 s.side, .int .i64 s.way, .int .i64 s.n, .slice A m d, .slice A' m' d', .int .i64 s.a.port, .string s.a.host, .string s.a.path, .int .i64 s.a.first, .int .i64 s.a.other] 82)).block hgv).trans hgx)
      obtain ⟨y0, y1⟩ := blk_rules hgx
      obtain ⟨z0, z1⟩ := blk_rules (((Ext.new v (.cells #[.int .i64 s.kind, .int .i64 s.side, .int .i64 s.way, .int .i64 s.n, .slice A m d, .slice A' m' d', .int .i64 s.a.port, .string s.a.host, .string s.a.path, .int .i64 s.a.first, .int .i64 s.a.other] 82)).block hzv).trans KH.out)
      obtain ⟨u0, u1⟩ := blk_rules KH.out
      have XX : Ext v ((v.alloc (.cells #[.int .i64 s.kind, .int .i64 s.side, .int .i64 s.way, .int .i64 s.n, .slice A m d, .slice A' m' d', .int .i64 s.a.port, .string s.a.host, .string s.a.path, .int .i64 s.a.first, .int .i64 s.a.other] 82)).alloc (.cells #[.int .i64 ((K : Nat) : Int), .int .i64 ((D : Nat) : Int), .int .i64 ((Y : Nat) : Int), .int .i64 0, .slice none 0 0, .slice none 0 0, .int .i64 0, .string ⟨#[]⟩, .string ⟨#[]⟩, .int .i64 0, .int .i64 0] 82)) := ((Ext.refl v).alloc (.cells #[.int .i64 s.kind, .int .i64 s.side, .int .i64 s.way, .int .i64 s.n, .slice A m d, .slice A' m' d', .int .i64 s.a.port, .string s.a.host, .string s.a.path, .int .i64 s.a.first, .int .i64 s.a.other] 82)).alloc (.cells #[.int .i64 ((K : Nat) : Int), .int .i64 ((D : Nat) : Int), .int .i64 ((Y : Nat) : Int), .int .i64 0, .slice none 0 0, .slice none 0 0, .int .i64 0, .string ⟨#[]⟩, .string ⟨#[]⟩, .int .i64 0, .int .i64 0] 82)
      have hFk := flat_k (v.alloc (.cells #[.int .i64 s.kind, .int .i64 s.side, .int .i64 s.way, .int .i64 s.n, .slice A m d, .slice A' m' d', .int .i64 s.a.port, .string s.a.host, .string s.a.path, .int .i64 s.a.first, .int .i64 s.a.other] 82)) [.int .i64 ((K : Nat) : Int), .int .i64 ((D : Nat) : Int), .int .i64 ((Y : Nat) : Int), .int .i64 0, .slice none 0 0, .slice none 0 0, .int .i64 0, .string ⟨#[]⟩, .string ⟨#[]⟩, .int .i64 0, .int .i64 0] 82 rfl
      simp only [World.size_alloc] at hFk
      have hOW := own_up HWv.out XX
      obtain ⟨v', w3, hrun, hown3, hg3, hnw⟩ := run_append_flat elem_step 77 hOW 1 hFk (by simp [Value.oneCell']) (by omega) (by omega) (by simp; omega) (fun h => by cases h)
      obtain ⟨A4, c4, hv4, -, -, -, -⟩ := own_flat hown3
      subst hv4
      have HRUN := Lib.hid hrun
      have E3 := Lib.hid (Ext.grown (EV.out.trans XX) hg3 hOW (by omega))
      have HU3 : Hid (RowsOf (SpQ (Sx (g + 1) (.slice A4 (acc.length + 1) c4)) w3) 11 (us ++ [.int .i64 ((K : Nat) : Int), .int .i64 ((D : Nat) : Int), .int .i64 ((Y : Nat) : Int), .int .i64 0, .slice none 0 0, .slice none 0 0, .int .i64 0, .string ⟨#[]⟩, .string ⟨#[]⟩, .int .i64 0, .int .i64 0]) (acc ++ [headS K D Y])) := Lib.hid (rows_grow SpQ (fun _ _ _ _ _ h k => h.keep k) (fun _ _ _ _ _ h k => h.weak k) HU.out HOv.out hgB XX hg3 hnw HW.out hBr ⟨none, 0, 0, none, 0, 0, rfl, SpV.nilSp _ _ _ _ _ _⟩ rfl)
      have HW3 : Hid (w3.ownsRow (g + 1) 82 11 (.slice A4 (acc.length + 1) c4) (acc ++ [headS K D Y]).length (us ++ [.int .i64 ((K : Nat) : Int), .int .i64 ((D : Nat) : Int), .int .i64 ((Y : Nat) : Int), .int .i64 0, .slice none 0 0, .slice none 0 0, .int .i64 0, .string ⟨#[]⟩, .string ⟨#[]⟩, .int .i64 0, .int .i64 0])) := Lib.hid (by rw [List.length_append]; exact hown3)
      have HF : Hid (acc ++ [headS K D Y] = getSs bs) := Lib.hid (by rw [← HERe.out]; exact HS.out)
      clear hFk hOW hrun hown3 hg3 hnw hgx XX he
      go_wp2_with (refine Lib.wpList_append_run _ rfl _ _ _ _ rfl _ _ rfl rfl _ w3 HRUN.out ?_)
      clear x0 x1 y0 y1 z0 z1 u0 u1
      go_ret
      exact GotS.mk (by have := HW3.out; rwa [← HG1.out] at this) (by have := HU3.out; rwa [← HG1.out] at this) E3.out HF.out
end Go.Proofs.YtfdjbnofcniodaaGreatDoor
