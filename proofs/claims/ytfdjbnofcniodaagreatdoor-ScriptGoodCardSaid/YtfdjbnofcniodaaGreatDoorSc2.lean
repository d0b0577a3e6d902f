/- What script's Name and lay compute. -/
import Derived.Test.YtfdjbnofcniodaaGreatDoorSc1
import Derived.Test.YtfdjbnofcniodaaGreatDoorSc0
import Derived.Test.YtfdjbnofcniodaaGreatDoorGround
namespace Go.Proofs.YtfdjbnofcniodaaGreatDoor
set_option linter.unusedVariables false
open Go.RowKit

set_option maxRecDepth 100000 in
set_option maxHeartbeats 1000000 in
theorem scNames_any (w : World) : Calls Tryz.prog 134 #[] w fun e w' => e = .returned (.agg #[.string ⟨#[117, 112, 100, 97, 116, 101]⟩, .string ⟨#[98, 114, 105, 110, 103]⟩, .string ⟨#[108, 111, 115, 101]⟩, .string ⟨#[97, 103, 97, 105, 110]⟩, .string ⟨#[108, 97, 116, 101]⟩, .string ⟨#[114, 101, 110, 101, 119]⟩, .string ⟨#[116, 105, 99, 107]⟩, .string ⟨#[98, 101, 103, 105, 110]⟩, .string ⟨#[103, 111]⟩, .string ⟨#[116, 101, 108, 108]⟩]) ∧ Ext w w' := by
  go_enter Tryz.func134, Tryz.ntmps134
  go_wp2_with fail
  exact bodyPost_ret (v := .agg #[.string ⟨#[117, 112, 100, 97, 116, 101]⟩, .string ⟨#[98, 114, 105, 110, 103]⟩, .string ⟨#[108, 111, 115, 101]⟩, .string ⟨#[97, 103, 97, 105, 110]⟩, .string ⟨#[108, 97, 116, 101]⟩, .string ⟨#[114, 101, 110, 101, 119]⟩, .string ⟨#[116, 105, 99, 107]⟩, .string ⟨#[98, 101, 103, 105, 110]⟩, .string ⟨#[103, 111]⟩, .string ⟨#[116, 101, 108, 108]⟩]) (by simp [results, Tryz.results134, go_sem]) rfl ⟨rfl, Ext.new _ _⟩

/-- a name of a kind of steps -/
def NameOf (k : Int) (t : ByteArray) : Prop := t.toList ≠ [] ∧ (k = 6 → t = ⟨#[116, 105, 99, 107]⟩)
set_option maxRecDepth 100000 in
set_option maxHeartbeats 4000000 in
theorem scName_any (k : Int) (w : World) (h : 0 ≤ k ∧ k ≤ 9) : Calls Tryz.prog 60 #[.int .i64 k] w fun e w' => ∃ t, e = .returned (.string t) ∧ NameOf k t ∧ Ext w w' := by
  have hk : k = 0 ∨ k = 1 ∨ k = 2 ∨ k = 3 ∨ k = 4 ∨ k = 5 ∨ k = 6 ∨ k = 7 ∨ k = 8 ∨ k = 9 := by omega
  clear h
  rcases hk with rfl | rfl | rfl | rfl | rfl | rfl | rfl | rfl | rfl | rfl
  · have hx : ∀ w : World, (Instr.index 148 (.agg #[.string ⟨#[117, 112, 100, 97, 116, 101]⟩, .string ⟨#[98, 114, 105, 110, 103]⟩, .string ⟨#[108, 111, 115, 101]⟩, .string ⟨#[97, 103, 97, 105, 110]⟩, .string ⟨#[108, 97, 116, 101]⟩, .string ⟨#[114, 101, 110, 101, 119]⟩, .string ⟨#[116, 105, 99, 107]⟩, .string ⟨#[98, 101, 103, 105, 110]⟩, .string ⟨#[103, 111]⟩, .string ⟨#[116, 101, 108, 108]⟩]) (.int .i64 0)).run Tryz.prog w = .ok (.string ⟨#[117, 112, 100, 97, 116, 101]⟩) w := fun _ => by kernel_rfl
    go_enter Tryz.func60, Tryz.ntmps60
    go_wp2_with fail
    refine (scWithin_any _ _ _).mono ?_
    rintro e wx ⟨rfl, rfl⟩
    rw [show inB 0 9 = true from rfl]
    go_wp2_with fail
    refine (scNames_any _).mono ?_
    rintro e w1 ⟨rfl, hb1⟩
    go_wp2_with fail
    go_ret
    exact ⟨⟨#[117, 112, 100, 97, 116, 101]⟩, rfl, ⟨by rw [Lib.toList_data]; decide, fun h => absurd h (by decide)⟩, hb1⟩
  · have hx : ∀ w : World, (Instr.index 148 (.agg #[.string ⟨#[117, 112, 100, 97, 116, 101]⟩, .string ⟨#[98, 114, 105, 110, 103]⟩, .string ⟨#[108, 111, 115, 101]⟩, .string ⟨#[97, 103, 97, 105, 110]⟩, .string ⟨#[108, 97, 116, 101]⟩, .string ⟨#[114, 101, 110, 101, 119]⟩, .string ⟨#[116, 105, 99, 107]⟩, .string ⟨#[98, 101, 103, 105, 110]⟩, .string ⟨#[103, 111]⟩, .string ⟨#[116, 101, 108, 108]⟩]) (.int .i64 1)).run Tryz.prog w = .ok (.string ⟨#[98, 114, 105, 110, 103]⟩) w := fun _ => by kernel_rfl
    go_enter Tryz.func60, Tryz.ntmps60
    go_wp2_with fail
    refine (scWithin_any _ _ _).mono ?_
    rintro e wx ⟨rfl, rfl⟩
    rw [show inB 1 9 = true from rfl]
    go_wp2_with fail
    refine (scNames_any _).mono ?_
    rintro e w1 ⟨rfl, hb1⟩
    go_wp2_with fail
    go_ret
    exact ⟨⟨#[98, 114, 105, 110, 103]⟩, rfl, ⟨by rw [Lib.toList_data]; decide, fun h => absurd h (by decide)⟩, hb1⟩
  · have hx : ∀ w : World, (Instr.index 148 (.agg #[.string ⟨#[117, 112, 100, 97, 116, 101]⟩, .string ⟨#[98, 114, 105, 110, 103]⟩, .string ⟨#[108, 111, 115, 101]⟩, .string ⟨#[97, 103, 97, 105, 110]⟩, .string ⟨#[108, 97, 116, 101]⟩, .string ⟨#[114, 101, 110, 101, 119]⟩, .string ⟨#[116, 105, 99, 107]⟩, .string ⟨#[98, 101, 103, 105, 110]⟩, .string ⟨#[103, 111]⟩, .string ⟨#[116, 101, 108, 108]⟩]) (.int .i64 2)).run Tryz.prog w = .ok (.string ⟨#[108, 111, 115, 101]⟩) w := fun _ => by kernel_rfl
    go_enter Tryz.func60, Tryz.ntmps60
    go_wp2_with fail
    refine (scWithin_any _ _ _).mono ?_
    rintro e wx ⟨rfl, rfl⟩
    rw [show inB 2 9 = true from rfl]
    go_wp2_with fail
    refine (scNames_any _).mono ?_
    rintro e w1 ⟨rfl, hb1⟩
    go_wp2_with fail
    go_ret
    exact ⟨⟨#[108, 111, 115, 101]⟩, rfl, ⟨by rw [Lib.toList_data]; decide, fun h => absurd h (by decide)⟩, hb1⟩
  · have hx : ∀ w : World, (Instr.index 148 (.agg #[.string ⟨#[117, 112, 100, 97, 116, 101]⟩, .string ⟨#[98, 114, 105, 110, 103]⟩, .string ⟨#[108, 111, 115, 101]⟩, .string ⟨#[97, 103, 97, 105, 110]⟩, .string ⟨#[108, 97, 116, 101]⟩, .string ⟨#[114, 101, 110, 101, 119]⟩, .string ⟨#[116, 105, 99, 107]⟩, .string ⟨#[98, 101, 103, 105, 110]⟩, .string ⟨#[103, 111]⟩, .string ⟨#[116, 101, 108, 108]⟩]) (.int .i64 3)).run Tryz.prog w = .ok (.string ⟨#[97, 103, 97, 105, 110]⟩) w := fun _ => by kernel_rfl
    go_enter Tryz.func60, Tryz.ntmps60
    go_wp2_with fail
    refine (scWithin_any _ _ _).mono ?_
    rintro e wx ⟨rfl, rfl⟩
    rw [show inB 3 9 = true from rfl]
    go_wp2_with fail
    refine (scNames_any _).mono ?_
    rintro e w1 ⟨rfl, hb1⟩
    go_wp2_with fail
    go_ret
    exact ⟨⟨#[97, 103, 97, 105, 110]⟩, rfl, ⟨by rw [Lib.toList_data]; decide, fun h => absurd h (by decide)⟩, hb1⟩
  · have hx : ∀ w : World, (Instr.index 148 (.agg #[.string ⟨#[117, 112, 100, 97, 116, 101]⟩, .string ⟨#[98, 114, 105, 110, 103]⟩, .string ⟨#[108, 111, 115, 101]⟩, .string ⟨#[97, 103, 97, 105, 110]⟩, .string ⟨#[108, 97, 116, 101]⟩, .string ⟨#[114, 101, 110, 101, 119]⟩, .string ⟨#[116, 105, 99, 107]⟩, .string ⟨#[98, 101, 103, 105, 110]⟩, .string ⟨#[103, 111]⟩, .string ⟨#[116, 101, 108, 108]⟩]) (.int .i64 4)).run Tryz.prog w = .ok (.string ⟨#[108, 97, 116, 101]⟩) w := fun _ => by kernel_rfl
    go_enter Tryz.func60, Tryz.ntmps60
    go_wp2_with fail
    refine (scWithin_any _ _ _).mono ?_
    rintro e wx ⟨rfl, rfl⟩
    rw [show inB 4 9 = true from rfl]
    go_wp2_with fail
    refine (scNames_any _).mono ?_
    rintro e w1 ⟨rfl, hb1⟩
    go_wp2_with fail
    go_ret
    exact ⟨⟨#[108, 97, 116, 101]⟩, rfl, ⟨by rw [Lib.toList_data]; decide, fun h => absurd h (by decide)⟩, hb1⟩
  · have hx : ∀ w : World, (Instr.index 148 (.agg #[.string ⟨#[117, 112, 100, 97, 116, 101]⟩, .string ⟨#[98, 114, 105, 110, 103]⟩, .string ⟨#[108, 111, 115, 101]⟩, .string ⟨#[97, 103, 97, 105, 110]⟩, .string ⟨#[108, 97, 116, 101]⟩, .string ⟨#[114, 101, 110, 101, 119]⟩, .string ⟨#[116, 105, 99, 107]⟩, .string ⟨#[98, 101, 103, 105, 110]⟩, .string ⟨#[103, 111]⟩, .string ⟨#[116, 101, 108, 108]⟩]) (.int .i64 5)).run Tryz.prog w = .ok (.string ⟨#[114, 101, 110, 101, 119]⟩) w := fun _ => by kernel_rfl
    go_enter Tryz.func60, Tryz.ntmps60
    go_wp2_with fail
    refine (scWithin_any _ _ _).mono ?_
    rintro e wx ⟨rfl, rfl⟩
    rw [show inB 5 9 = true from rfl]
    go_wp2_with fail
    refine (scNames_any _).mono ?_
    rintro e w1 ⟨rfl, hb1⟩
    go_wp2_with fail
    go_ret
    exact ⟨⟨#[114, 101, 110, 101, 119]⟩, rfl, ⟨by rw [Lib.toList_data]; decide, fun h => absurd h (by decide)⟩, hb1⟩
  · have hx : ∀ w : World, (Instr.index 148 (.agg #[.string ⟨#[117, 112, 100, 97, 116, 101]⟩, .string ⟨#[98, 114, 105, 110, 103]⟩, .string ⟨#[108, 111, 115, 101]⟩, .string ⟨#[97, 103, 97, 105, 110]⟩, .string ⟨#[108, 97, 116, 101]⟩, .string ⟨#[114, 101, 110, 101, 119]⟩, .string ⟨#[116, 105, 99, 107]⟩, .string ⟨#[98, 101, 103, 105, 110]⟩, .string ⟨#[103, 111]⟩, .string ⟨#[116, 101, 108, 108]⟩]) (.int .i64 6)).run Tryz.prog w = .ok (.string ⟨#[116, 105, 99, 107]⟩) w := fun _ => by kernel_rfl
    go_enter Tryz.func60, Tryz.ntmps60
    go_wp2_with fail
    refine (scWithin_any _ _ _).mono ?_
    rintro e wx ⟨rfl, rfl⟩
    rw [show inB 6 9 = true from rfl]
    go_wp2_with fail
    refine (scNames_any _).mono ?_
    rintro e w1 ⟨rfl, hb1⟩
    go_wp2_with fail
    go_ret
    exact ⟨⟨#[116, 105, 99, 107]⟩, rfl, ⟨by rw [Lib.toList_data]; decide, fun h => rfl⟩, hb1⟩
  · have hx : ∀ w : World, (Instr.index 148 (.agg #[.string ⟨#[117, 112, 100, 97, 116, 101]⟩, .string ⟨#[98, 114, 105, 110, 103]⟩, .string ⟨#[108, 111, 115, 101]⟩, .string ⟨#[97, 103, 97, 105, 110]⟩, .string ⟨#[108, 97, 116, 101]⟩, .string ⟨#[114, 101, 110, 101, 119]⟩, .string ⟨#[116, 105, 99, 107]⟩, .string ⟨#[98, 101, 103, 105, 110]⟩, .string ⟨#[103, 111]⟩, .string ⟨#[116, 101, 108, 108]⟩]) (.int .i64 7)).run Tryz.prog w = .ok (.string ⟨#[98, 101, 103, 105, 110]⟩) w := fun _ => by kernel_rfl
    go_enter Tryz.func60, Tryz.ntmps60
    go_wp2_with fail
    refine (scWithin_any _ _ _).mono ?_
    rintro e wx ⟨rfl, rfl⟩
    rw [show inB 7 9 = true from rfl]
    go_wp2_with fail
    refine (scNames_any _).mono ?_
    rintro e w1 ⟨rfl, hb1⟩
    go_wp2_with fail
    go_ret
    exact ⟨⟨#[98, 101, 103, 105, 110]⟩, rfl, ⟨by rw [Lib.toList_data]; decide, fun h => absurd h (by decide)⟩, hb1⟩
  · have hx : ∀ w : World, (Instr.index 148 (.agg #[.string ⟨#[117, 112, 100, 97, 116, 101]⟩, .string ⟨#[98, 114, 105, 110, 103]⟩, .string ⟨#[108, 111, 115, 101]⟩, .string ⟨#[97, 103, 97, 105, 110]⟩, .string ⟨#[108, 97, 116, 101]⟩, .string ⟨#[114, 101, 110, 101, 119]⟩, .string ⟨#[116, 105, 99, 107]⟩, .string ⟨#[98, 101, 103, 105, 110]⟩, .string ⟨#[103, 111]⟩, .string ⟨#[116, 101, 108, 108]⟩]) (.int .i64 8)).run Tryz.prog w = .ok (.string ⟨#[103, 111]⟩) w := fun _ => by kernel_rfl
    go_enter Tryz.func60, Tryz.ntmps60
    go_wp2_with fail
    refine (scWithin_any _ _ _).mono ?_
    rintro e wx ⟨rfl, rfl⟩
    rw [show inB 8 9 = true from rfl]
    go_wp2_with fail
    refine (scNames_any _).mono ?_
    rintro e w1 ⟨rfl, hb1⟩
    go_wp2_with fail
    go_ret
    exact ⟨⟨#[103, 111]⟩, rfl, ⟨by rw [Lib.toList_data]; decide, fun h => absurd h (by decide)⟩, hb1⟩
  · have hx : ∀ w : World, (Instr.index 148 (.agg #[.string ⟨#[117, 112, 100, 97, 116, 101]⟩, .string ⟨#[98, 114, 105, 110, 103]⟩, .string ⟨#[108, 111, 115, 101]⟩, .string ⟨#[97, 103, 97, 105, 110]⟩, .string ⟨#[108, 97, 116, 101]⟩, .string ⟨#[114, 101, 110, 101, 119]⟩, .string ⟨#[116, 105, 99, 107]⟩, .string ⟨#[98, 101, 103, 105, 110]⟩, .string ⟨#[103, 111]⟩, .string ⟨#[116, 101, 108, 108]⟩]) (.int .i64 9)).run Tryz.prog w = .ok (.string ⟨#[116, 101, 108, 108]⟩) w := fun _ => by kernel_rfl
    go_enter Tryz.func60, Tryz.ntmps60
    go_wp2_with fail
    refine (scWithin_any _ _ _).mono ?_
    rintro e wx ⟨rfl, rfl⟩
    rw [show inB 9 9 = true from rfl]
    go_wp2_with fail
    refine (scNames_any _).mono ?_
    rintro e w1 ⟨rfl, hb1⟩
    go_wp2_with fail
    go_ret
    exact ⟨⟨#[116, 101, 108, 108]⟩, rfl, ⟨by rw [Lib.toList_data]; decide, fun h => absurd h (by decide)⟩, hb1⟩

/-- bytes in a row of whatever owner, in a world that extends w -/
structure BytW (w W : World) (A : Option Addr) (N c : Nat) (bs : List UInt8) : Prop where
  byts : Byts W A N bs
  nil : A = none → c = 0
  nc : N ≤ c
  cm : c ≤ maxLen
  ext : Ext w W
theorem BytW.up {w W W' : World} {A : Option Addr} {N c : Nat} {bs : List UInt8} (h : BytW w W A N c bs) (hx : Ext W W') : BytW w W' A N c bs := ⟨ArrR.up h.byts hx, h.nil, h.nc, h.cm, h.ext.trans hx⟩
theorem BytW.next {w W W' : World} {A : Option Addr} {N c : Nat} {bs out : List UInt8} {e : Ending} (h : BytW w W A N c bs) (k : LayN W N bs out e W') :
    ∃ A' N' c', e = .returned (.slice A' N' c') ∧ N' = N + out.length ∧ BytW w W' A' N' c' (bs ++ out) ∧ Ext W W' := by
  obtain ⟨A', N', c', rfl, h1, h2, h3, h4, h5⟩ := k
  obtain ⟨A1, c1, e1, a1, a2, a3, -⟩ := own_flat h4.out
  injection e1 with e1 e2 e3
  subst e1 e3
  exact ⟨A', N', c', rfl, h1.out, ⟨h3.out, h2.out, a1, a2, h.ext.trans h5⟩, h5⟩
def LayD (w : World) (bs out : List UInt8) (e : Ending) (w' : World) : Prop := ∃ A N c, e = .returned (.slice A N c) ∧ BytW w w' A N c (bs ++ out)
theorem LayD.mk {w w' : World} {bs out all : List UInt8} {A : Option Addr} {N c : Nat} (h : BytW w w' A N c all) (ha : all = bs ++ out) : LayD w bs out (.returned (.slice A N c)) w' := by subst ha; exact ⟨A, N, c, rfl, h⟩
def encI (x : Int) : List UInt8 := enc (bnd x)
theorem nums_flat (a b c d : Int) : [a, b, c, d].flatMap encI = enc (bnd a) ++ (enc (bnd b) ++ (enc (bnd c) ++ enc (bnd d))) := by simp [encI]

set_option maxRecDepth 100000 in
set_option maxHeartbeats 8000000 in
theorem scLay_any (S : Nat → Prop) (s : Sp) (A : Option Addr) (n c : Nat) (B : Option Addr) (m d : Nat) (Ab : Option Addr) (nb cb : Nat) (bs : List UInt8) (w : World) (hV : SpV S w s A n c B m d) (hs : saneS s = 0) (hB : Byts w Ab nb bs) (hcb : Ab = none → cb = 0) (hncb : nb ≤ cb) (hcm : cb ≤ maxLen) (hnb : nb ≤ 700000000) :
    Calls Tryz.prog 128 #[spVal s A n c B m d, .slice Ab nb cb] w (LayD w bs (putS0 s)) := by
  have HV := Lib.hid hV
  have HB0 : Hid (BytW w w Ab nb cb bs) := Lib.hid ⟨hB, hcb, hncb, hcm, Ext.refl w⟩
  have hlens := smallS_lens ((saneS_iff s).1 hs).small
  have hn64 : n ≤ 64 := by have h2 := HV.out.adds.len; omega
  have hm64 : m ≤ 64 := by have h2 := HV.out.gone.len; omega
  have hh40 := hlens.2.2.1
  have hp40 := hlens.2.2.2
  clear hV hB hcb hncb hcm hlens
  unfold spVal
  obtain ⟨L, hL⟩ : ∃ L : List Int, L = [s.kind, s.side, s.way, s.n] := ⟨_, rfl⟩
  have HL := Lib.hid hL
  have hl4 : L.length = 4 := by rw [hL]; rfl
  clear hL
  go_enter Tryz.func128, Tryz.ntmps128
  go_wp2_with fail
  have hk2 := two_blocks w (.cells #[.int .i64 s.kind, .int .i64 s.side, .int .i64 s.way, .int .i64 s.n, .slice A n c, .slice B m d, .int .i64 s.a.port, .string s.a.host, .string s.a.path, .int .i64 s.a.first, .int .i64 s.a.other] 82) (.cells #[.int .i64 s.kind, .int .i64 s.side, .int .i64 s.way, .int .i64 s.n] 3)
  have KS0 := Lib.hid hk2.1
  have KL0 := Lib.hid hk2.2
  have E0 := Lib.hid ((Ext.new w (.cells #[.int .i64 s.kind, .int .i64 s.side, .int .i64 s.way, .int .i64 s.n, .slice A n c, .slice B m d, .int .i64 s.a.port, .string s.a.host, .string s.a.path, .int .i64 s.a.first, .int .i64 s.a.other] 82)).alloc (.cells #[.int .i64 s.kind, .int .i64 s.side, .int .i64 s.way, .int .i64 s.n] 3))
  have hz0 : w.heap.size + 1 < ((w.alloc (.cells #[.int .i64 s.kind, .int .i64 s.side, .int .i64 s.way, .int .i64 s.n, .slice A n c, .slice B m d, .int .i64 s.a.port, .string s.a.host, .string s.a.path, .int .i64 s.a.first, .int .i64 s.a.other] 82)).alloc (.cells #[.int .i64 s.kind, .int .i64 s.side, .int .i64 s.way, .int .i64 s.n] 3)).heap.size := by simp
  generalize (w.alloc (.cells #[.int .i64 s.kind, .int .i64 s.side, .int .i64 s.way, .int .i64 s.n, .slice A n c, .slice B m d, .int .i64 s.a.port, .string s.a.host, .string s.a.path, .int .i64 s.a.first, .int .i64 s.a.other] 82)).alloc (.cells #[.int .i64 s.kind, .int .i64 s.side, .int .i64 s.way, .int .i64 s.n] 3) = w0 at KS0 KL0 E0 hz0 ⊢
  clear hk2
  go_loopw [1, 17] (fun v i wr => ∃ (k : Nat) (Ak : Option Addr) (Nk ck : Nat), k ≤ 4 ∧ i = .int .i64 k ∧ v = .slice Ak Nk ck ∧ Nk ≤ 700000000 + 5 * k ∧ Hid (BytW w wr Ak Nk ck (bs ++ (L.take k).flatMap encI)) ∧ Hid (Ext w0 wr)) (fun _ i _ => 4 - (intOf i).toNat)
  case atStart => exact ⟨0, Ab, nb, cb, by omega, by go_num, rfl, by omega, Lib.hid (by have := HB0.out.up E0.out; simpa using this), Lib.hid (Ext.refl _)⟩
  case round =>
    obtain ⟨k, Ak, Nk, ck, hk, rfl, rfl, hNk, HBk, HX⟩ := hrel
    by_cases hlt : k < 4
    · obtain ⟨x, hx⟩ := getElem?_lt_some (l := L) (k := k) (by omega)
      have HLx := Lib.hid hx
      have d0 : wr.cell? ⟨w.heap.size + 1, k, none⟩ = some (.int .i64 x) := by
        refine ((blk_rules ((HX.out.block hz0).trans KL0.out)).1 k).trans ?_
        rw [HL.out] at hx
        have hk4 : k = 0 ∨ k = 1 ∨ k = 2 ∨ k = 3 := by omega
        rcases hk4 with rfl | rfl | rfl | rfl <;> (simp at hx; subst hx; rfl)
      have i1 : (0 : Int) ≤ (k : Int) := by omega
      have i2 : (k : Int) < 4 := by omega
      clear hx
      go_wp2_with fail
      refine (number_lay Ak Nk ck _ x _ HBk.out.byts HBk.out.nil (by omega)).mono ?_
      rintro e w1 hlay
      obtain ⟨A1, N1, c1, rfl, hN1, hB1, hb1⟩ := HBk.out.next hlay
      have hen := enc_len (bnd x)
      have HB1 : Hid (BytW w w1 A1 N1 c1 (bs ++ (L.take (k + 1)).flatMap encI)) := Lib.hid (by rw [take_flat encI HLx.out, ← List.append_assoc]; exact hB1)
      have HX1 := Lib.hid (HX.out.trans hb1)
      have hN1' : N1 ≤ 700000000 + 5 * (k + 1) := by omega
      clear hlay hN1 hB1 hb1 d0 hen
      go_wp2_with fail
      go_roundw
      case rel => exact ⟨k + 1, A1, N1, c1, by omega, by go_num, rfl, hN1', HB1, HX1⟩
      case measure => simp [intOf]; omega
    · obtain rfl : k = 4 := by omega
      have HB4 : Hid (BytW w wr Ak Nk ck (bs ++ (enc (bnd s.kind) ++ (enc (bnd s.side) ++ (enc (bnd s.way) ++ enc (bnd s.n)))))) := Lib.hid (by
        have h9 := HBk.out
        rw [List.take_of_length_le (by omega), HL.out, nums_flat] at h9
        exact h9)
      have KS := Lib.hid ((HX.out.block (by omega)).trans KS0.out)
      have hzr : w.heap.size < wr.heap.size := by have := HX.out.size; omega
      have HE := Lib.hid (E0.out.trans HX.out)
      clear HBk
      obtain ⟨q0, q1⟩ := blk_rules KS.out
      by_cases h0 : s.kind = 0
      · have b0 : (s.kind == 0) = true := by simpa using h0
        have HP : Hid (putS0 s = (enc (bnd s.kind) ++ (enc (bnd s.side) ++ (enc (bnd s.way) ++ enc (bnd s.n)))) ++ putAll s.adds ++ putKeys s.gone) := Lib.hid (by unfold putS0 putSB; rw [if_pos h0]; simp [List.append_assoc])
        clear h0
        have u4 : ∀ w', Ext wr.drew w' → w'.cell? ⟨w.heap.size, 4, none⟩ = some (.slice A n c) := fun w' hx => (((Ext.refl wr).drew.trans hx).cell hzr).trans ((blk_rules KS.out).1 4)
        have u5 : ∀ w', Ext wr.drew w' → w'.cell? ⟨w.heap.size, 5, none⟩ = some (.slice B m d) := fun w' hx => (((Ext.refl wr).drew.trans hx).cell hzr).trans ((blk_rules KS.out).1 5)
        go_wp2_with fail
        have hSw : Ext wr.drew wr.drew := Ext.refl _
        refine wpS_begin (Ext wr.drew) (by kernel_rfl) ?_
        refine wpS_take 0 (v := ?_) hSw rfl (by kernel_rfl) (by kernel_rfl) (by kernel_rfl) (by rfl) (fun w' hin => ?_) ?_
        rotate_left
        · (try simp only [] at hin); go_simp <;> with_reducible rfl
        try simp only [Act.put, List.setIfInBounds_toArray, List.set_cons_zero, List.set_cons_succ]
        refine wpS_take 1 (v := ?_) hSw rfl (by kernel_rfl) (by kernel_rfl) (by kernel_rfl) (by rfl) (fun w' hin => ?_) ?_
        rotate_left
        · (try simp only [] at hin); go_simp <;> with_reducible rfl
        try simp only [Act.put, List.setIfInBounds_toArray, List.set_cons_zero, List.set_cons_succ]
        refine wpS_take 2 (v := ?_) hSw rfl (by kernel_rfl) (by kernel_rfl) (by kernel_rfl) (by rfl) (fun w' hin => ?_) ?_
        rotate_left
        · (try simp only [] at hin); go_simp <;> with_reducible rfl
        try simp only [Act.put, List.setIfInBounds_toArray, List.set_cons_zero, List.set_cons_succ]
        refine wpS_take 4 (v := ?_) hSw rfl (by kernel_rfl) (by kernel_rfl) (by kernel_rfl) (by rfl) (fun w' hin => ?_) ?_
        rotate_left
        · (try simp only [] at hin); go_simp <;> with_reducible rfl
        try simp only [Act.put, List.setIfInBounds_toArray, List.set_cons_zero, List.set_cons_succ]
        refine wpS_take 5 (v := ?_) hSw rfl (by kernel_rfl) (by kernel_rfl) (by kernel_rfl) (by rfl) (fun w' hin => ?_) ?_
        rotate_left
        · (try simp only [] at hin); go_simp <;> with_reducible rfl
        try simp only [Act.put, List.setIfInBounds_toArray, List.set_cons_zero, List.set_cons_succ]
        refine wpS_one 3 rfl (by kernel_rfl) (by rfl) (fun K hK => ?_)
        go_simp
        refine ((putAll_any S Ak Nk ck _ A n c s.adds _ (ArrR.up HB4.out.byts ((Ext.refl wr).drew.trans hSw)) HB4.out.nil (by omega) HV.out.sa (by omega) (ResL.keep HV.out.adds (HE.out.trans ((Ext.refl wr).drew.trans hSw)).keep)).mono fun _ _ h => LayN.of h).mono ?_
        rintro e v3 hlay
        obtain ⟨A3, N3, c3, rfl, hN3, hB3, hb⟩ := (HB4.out.up ((Ext.refl wr).drew.trans hSw)).next hlay
        have HBZ3 := Lib.hid hB3
        have G3 := Lib.hid (((Ext.refl wr).drew.trans hSw).trans hb)
        have hM3 : N3 ≤ 700200000 := by have h9 := putAll_len s.adds; omega
        clear hlay hB3 hN3
        simp only []
        refine hK.out _ _ (Ext v3) (fun _ hx => hSw.trans (hb.trans hx)) (Ext.refl _) (fun hSw => ?_)
        clear hK K
        try simp only [Act.put, List.setIfInBounds_toArray, List.set_cons_zero, List.set_cons_succ]
        refine wpS_one 6 rfl (by kernel_rfl) (by rfl) (fun K hK => ?_)
        go_simp
        refine ((putKeys_any S A3 N3 c3 _ B m d s.gone _ (ArrR.up HBZ3.out.byts hSw) HBZ3.out.nil (by omega) HV.out.sg (by omega) (KeyL.keep HV.out.gone (HE.out.trans (G3.out.trans hSw)).keep)).mono fun _ _ h => LayN.of h).mono ?_
        rintro e v6 hlay
        obtain ⟨A6, N6, c6, rfl, hN6, hB6, hb⟩ := (HBZ3.out.up hSw).next hlay
        have HBZ6 := Lib.hid hB6
        have G6 := Lib.hid (hSw.trans hb)
        have hM6 : N6 ≤ 700300000 := by have h9 := putKeys_len s.gone; omega
        clear hlay hB6 hN6
        simp only []
        refine hK.out _ _ (Ext v6) (fun _ hx => hSw.trans (hb.trans hx)) (Ext.refl _) (fun hSw => ?_)
        clear hK K
        try simp only [Act.put, List.setIfInBounds_toArray, List.set_cons_zero, List.set_cons_succ]
        refine wpS_take 7 (v := ?_) hSw rfl (by kernel_rfl) (by kernel_rfl) (by kernel_rfl) (by rfl) (fun w' hin => ?_) ?_
        rotate_left
        · (try simp only [] at hin); go_simp <;> with_reducible rfl
        try simp only [Act.put, List.setIfInBounds_toArray, List.set_cons_zero, List.set_cons_succ]
        refine wpS_done (by kernel_rfl) ?_
        clear u4 u5 q0 q1
        go_wp2_with fail
        go_ret
        exact LayD.mk (HBZ6.out.up hSw) (by rw [HP.out]; simp [List.append_assoc])
      by_cases h7 : s.kind = 7
      · have b0 : (s.kind == 0) = false := by simpa using h0
        have b7 : (s.kind == 7) = true := by simpa using h7
        have HP : Hid (putS0 s = (enc (bnd s.kind) ++ (enc (bnd s.side) ++ (enc (bnd s.way) ++ enc (bnd s.n)))) ++ enc (bnd s.a.port) ++ encT (tx s.a.host) ++ encT (tx s.a.path) ++ enc (bnd s.a.first) ++ enc (bnd s.a.other)) := Lib.hid (by unfold putS0 putSB; rw [if_neg h0, if_pos h7]; simp [List.append_assoc])
        clear h0 h7
        have u6 : ∀ w', Ext wr.drew w' → w'.cell? ⟨w.heap.size, 6, none⟩ = some (.int .i64 s.a.port) := fun w' hx => (((Ext.refl wr).drew.trans hx).cell hzr).trans ((blk_rules KS.out).1 6)
        have u7 : ∀ w', Ext wr.drew w' → w'.cell? ⟨w.heap.size, 7, none⟩ = some (.string s.a.host) := fun w' hx => (((Ext.refl wr).drew.trans hx).cell hzr).trans ((blk_rules KS.out).1 7)
        have u8 : ∀ w', Ext wr.drew w' → w'.cell? ⟨w.heap.size, 8, none⟩ = some (.string s.a.path) := fun w' hx => (((Ext.refl wr).drew.trans hx).cell hzr).trans ((blk_rules KS.out).1 8)
        go_wp2_with fail
        have hSw : Ext wr.drew wr.drew := Ext.refl _
        refine wpS_begin (Ext wr.drew) (by kernel_rfl) ?_
        refine wpS_take 0 (v := ?_) hSw rfl (by kernel_rfl) (by kernel_rfl) (by kernel_rfl) (by rfl) (fun w' hin => ?_) ?_
        rotate_left
        · (try simp only [] at hin); go_simp <;> with_reducible rfl
        try simp only [Act.put, List.setIfInBounds_toArray, List.set_cons_zero, List.set_cons_succ]
        refine wpS_take 1 (v := ?_) hSw rfl (by kernel_rfl) (by kernel_rfl) (by kernel_rfl) (by rfl) (fun w' hin => ?_) ?_
        rotate_left
        · (try simp only [] at hin); go_simp <;> with_reducible rfl
        try simp only [Act.put, List.setIfInBounds_toArray, List.set_cons_zero, List.set_cons_succ]
        refine wpS_take 2 (v := ?_) hSw rfl (by kernel_rfl) (by kernel_rfl) (by kernel_rfl) (by rfl) (fun w' hin => ?_) ?_
        rotate_left
        · (try simp only [] at hin); go_simp <;> with_reducible rfl
        try simp only [Act.put, List.setIfInBounds_toArray, List.set_cons_zero, List.set_cons_succ]
        refine wpS_take 3 (v := ?_) hSw rfl (by kernel_rfl) (by kernel_rfl) (by kernel_rfl) (by rfl) (fun w' hin => ?_) ?_
        rotate_left
        · (try simp only [] at hin); go_simp <;> with_reducible rfl
        try simp only [Act.put, List.setIfInBounds_toArray, List.set_cons_zero, List.set_cons_succ]
        refine wpS_take 5 (v := ?_) hSw rfl (by kernel_rfl) (by kernel_rfl) (by kernel_rfl) (by rfl) (fun w' hin => ?_) ?_
        rotate_left
        · (try simp only [] at hin); go_simp <;> with_reducible rfl
        try simp only [Act.put, List.setIfInBounds_toArray, List.set_cons_zero, List.set_cons_succ]
        refine wpS_take 6 (v := ?_) hSw rfl (by kernel_rfl) (by kernel_rfl) (by kernel_rfl) (by rfl) (fun w' hin => ?_) ?_
        rotate_left
        · (try simp only [] at hin); go_simp <;> with_reducible rfl
        try simp only [Act.put, List.setIfInBounds_toArray, List.set_cons_zero, List.set_cons_succ]
        refine wpS_take 7 (v := ?_) hSw rfl (by kernel_rfl) (by kernel_rfl) (by kernel_rfl) (by rfl) (fun w' hin => ?_) ?_
        rotate_left
        · (try simp only [] at hin); go_simp <;> with_reducible rfl
        try simp only [Act.put, List.setIfInBounds_toArray, List.set_cons_zero, List.set_cons_succ]
        refine wpS_take 9 (v := ?_) hSw rfl (by kernel_rfl) (by kernel_rfl) (by kernel_rfl) (by rfl) (fun w' hin => ?_) ?_
        rotate_left
        · (try simp only [] at hin); go_simp <;> with_reducible rfl
        try simp only [Act.put, List.setIfInBounds_toArray, List.set_cons_zero, List.set_cons_succ]
        refine wpS_take 10 (v := ?_) hSw rfl (by kernel_rfl) (by kernel_rfl) (by kernel_rfl) (by rfl) (fun w' hin => ?_) ?_
        rotate_left
        · (try simp only [] at hin); go_simp <;> with_reducible rfl
        try simp only [Act.put, List.setIfInBounds_toArray, List.set_cons_zero, List.set_cons_succ]
        refine wpS_take 11 (v := ?_) hSw rfl (by kernel_rfl) (by kernel_rfl) (by kernel_rfl) (by rfl) (fun w' hin => ?_) ?_
        rotate_left
        · (try simp only [] at hin); go_simp <;> with_reducible rfl
        try simp only [Act.put, List.setIfInBounds_toArray, List.set_cons_zero, List.set_cons_succ]
        refine wpS_one 4 rfl (by kernel_rfl) (by rfl) (fun K hK => ?_)
        go_simp
        refine (number_lay Ak Nk ck _ s.a.port _ (ArrR.up HB4.out.byts ((Ext.refl wr).drew.trans hSw)) HB4.out.nil (by omega)).mono ?_
        rintro e v4 hlay
        obtain ⟨A4, N4, c4, rfl, hN4, hB4, hb⟩ := (HB4.out.up ((Ext.refl wr).drew.trans hSw)).next hlay
        have HBZ4 := Lib.hid hB4
        have G4 := Lib.hid (((Ext.refl wr).drew.trans hSw).trans hb)
        have hM4 : N4 ≤ 700200000 := by have h9 := enc_len (bnd s.a.port); omega
        clear hlay hB4 hN4
        simp only []
        refine hK.out _ _ (Ext v4) (fun _ hx => hSw.trans (hb.trans hx)) (Ext.refl _) (fun hSw => ?_)
        clear hK K
        try simp only [Act.put, List.setIfInBounds_toArray, List.set_cons_zero, List.set_cons_succ]
        refine wpS_one 8 rfl (by kernel_rfl) (by rfl) (fun K hK => ?_)
        go_simp
        refine (text_lay A4 N4 c4 _ s.a.host _ (ArrR.up HBZ4.out.byts hSw) HBZ4.out.nil (by omega) (by omega)).mono ?_
        rintro e v8 hlay
        obtain ⟨A8, N8, c8, rfl, hN8, hB8, hb⟩ := (HBZ4.out.up hSw).next hlay
        have HBZ8 := Lib.hid hB8
        have G8 := Lib.hid (hSw.trans hb)
        have hM8 : N8 ≤ 700200100 := by have h9 := encT_len_tx (s := s.a.host) (k := 40) (by rw [tx_len]; omega); omega
        clear hlay hB8 hN8
        simp only []
        refine hK.out _ _ (Ext v8) (fun _ hx => hSw.trans (hb.trans hx)) (Ext.refl _) (fun hSw => ?_)
        clear hK K
        try simp only [Act.put, List.setIfInBounds_toArray, List.set_cons_zero, List.set_cons_succ]
        refine wpS_one 12 rfl (by kernel_rfl) (by rfl) (fun K hK => ?_)
        go_simp
        refine (text_lay A8 N8 c8 _ s.a.path _ (ArrR.up HBZ8.out.byts hSw) HBZ8.out.nil (by omega) (by omega)).mono ?_
        rintro e v12 hlay
        obtain ⟨A12, N12, c12, rfl, hN12, hB12, hb⟩ := (HBZ8.out.up hSw).next hlay
        have HBZ12 := Lib.hid hB12
        have G12 := Lib.hid (hSw.trans hb)
        have hM12 : N12 ≤ 700200200 := by have h9 := encT_len_tx (s := s.a.path) (k := 40) (by rw [tx_len]; omega); omega
        clear hlay hB12 hN12
        simp only []
        refine hK.out _ _ (Ext v12) (fun _ hx => hSw.trans (hb.trans hx)) (Ext.refl _) (fun hSw => ?_)
        clear hK K
        try simp only [Act.put, List.setIfInBounds_toArray, List.set_cons_zero, List.set_cons_succ]
        refine wpS_take 13 (v := ?_) hSw rfl (by kernel_rfl) (by kernel_rfl) (by kernel_rfl) (by rfl) (fun w' hin => ?_) ?_
        rotate_left
        · (try simp only [] at hin); go_simp <;> with_reducible rfl
        try simp only [Act.put, List.setIfInBounds_toArray, List.set_cons_zero, List.set_cons_succ]
        refine wpS_done (by kernel_rfl) ?_
        clear u6 u7 u8 q0 q1
        have GW := Lib.hid ((G4.out.trans G8.out).trans G12.out)
        have KSY := Lib.hid ((GW.out.block hzr).trans KS.out)
        have hzy := Nat.lt_of_lt_of_le hzr GW.out.size
        obtain ⟨q0, q1⟩ := blk_rules KSY.out
        have u9 : ∀ w', Ext v12.drew w' → w'.cell? ⟨w.heap.size, 9, none⟩ = some (.int .i64 s.a.first) := fun w' hx => (((Ext.refl v12).drew.trans hx).cell hzy).trans ((blk_rules KSY.out).1 9)
        have u10 : ∀ w', Ext v12.drew w' → w'.cell? ⟨w.heap.size, 10, none⟩ = some (.int .i64 s.a.other) := fun w' hx => (((Ext.refl v12).drew.trans hx).cell hzy).trans ((blk_rules KSY.out).1 10)
        go_wp2_with fail
        have hSw : Ext v12.drew v12.drew := Ext.refl _
        refine wpS_begin (Ext v12.drew) (by kernel_rfl) ?_
        refine wpS_take 0 (v := ?_) hSw rfl (by kernel_rfl) (by kernel_rfl) (by kernel_rfl) (by rfl) (fun w' hin => ?_) ?_
        rotate_left
        · (try simp only [] at hin); go_simp <;> with_reducible rfl
        try simp only [Act.put, List.setIfInBounds_toArray, List.set_cons_zero, List.set_cons_succ]
        refine wpS_take 1 (v := ?_) hSw rfl (by kernel_rfl) (by kernel_rfl) (by kernel_rfl) (by rfl) (fun w' hin => ?_) ?_
        rotate_left
        · (try simp only [] at hin); go_simp <;> with_reducible rfl
        try simp only [Act.put, List.setIfInBounds_toArray, List.set_cons_zero, List.set_cons_succ]
        refine wpS_take 2 (v := ?_) hSw rfl (by kernel_rfl) (by kernel_rfl) (by kernel_rfl) (by rfl) (fun w' hin => ?_) ?_
        rotate_left
        · (try simp only [] at hin); go_simp <;> with_reducible rfl
        try simp only [Act.put, List.setIfInBounds_toArray, List.set_cons_zero, List.set_cons_succ]
        refine wpS_take 3 (v := ?_) hSw rfl (by kernel_rfl) (by kernel_rfl) (by kernel_rfl) (by rfl) (fun w' hin => ?_) ?_
        rotate_left
        · (try simp only [] at hin); go_simp <;> with_reducible rfl
        try simp only [Act.put, List.setIfInBounds_toArray, List.set_cons_zero, List.set_cons_succ]
        refine wpS_take 5 (v := ?_) hSw rfl (by kernel_rfl) (by kernel_rfl) (by kernel_rfl) (by rfl) (fun w' hin => ?_) ?_
        rotate_left
        · (try simp only [] at hin); go_simp <;> with_reducible rfl
        try simp only [Act.put, List.setIfInBounds_toArray, List.set_cons_zero, List.set_cons_succ]
        refine wpS_take 6 (v := ?_) hSw rfl (by kernel_rfl) (by kernel_rfl) (by kernel_rfl) (by rfl) (fun w' hin => ?_) ?_
        rotate_left
        · (try simp only [] at hin); go_simp <;> with_reducible rfl
        try simp only [Act.put, List.setIfInBounds_toArray, List.set_cons_zero, List.set_cons_succ]
        refine wpS_take 7 (v := ?_) hSw rfl (by kernel_rfl) (by kernel_rfl) (by kernel_rfl) (by rfl) (fun w' hin => ?_) ?_
        rotate_left
        · (try simp only [] at hin); go_simp <;> with_reducible rfl
        try simp only [Act.put, List.setIfInBounds_toArray, List.set_cons_zero, List.set_cons_succ]
        refine wpS_one 4 rfl (by kernel_rfl) (by rfl) (fun K hK => ?_)
        go_simp
        refine (number_lay A12 N12 c12 _ s.a.first _ (ArrR.up HBZ12.out.byts ((Ext.refl v12).drew.trans hSw)) HBZ12.out.nil (by omega)).mono ?_
        rintro e v24 hlay
        obtain ⟨A24, N24, c24, rfl, hN24, hB24, hb⟩ := (HBZ12.out.up ((Ext.refl v12).drew.trans hSw)).next hlay
        have HBZ24 := Lib.hid hB24
        have G24 := Lib.hid (((Ext.refl v12).drew.trans hSw).trans hb)
        have hM24 : N24 ≤ 700200300 := by have h9 := enc_len (bnd s.a.first); omega
        clear hlay hB24 hN24
        simp only []
        refine hK.out _ _ (Ext v24) (fun _ hx => hSw.trans (hb.trans hx)) (Ext.refl _) (fun hSw => ?_)
        clear hK K
        try simp only [Act.put, List.setIfInBounds_toArray, List.set_cons_zero, List.set_cons_succ]
        refine wpS_one 8 rfl (by kernel_rfl) (by rfl) (fun K hK => ?_)
        go_simp
        refine (number_lay A24 N24 c24 _ s.a.other _ (ArrR.up HBZ24.out.byts hSw) HBZ24.out.nil (by omega)).mono ?_
        rintro e v28 hlay
        obtain ⟨A28, N28, c28, rfl, hN28, hB28, hb⟩ := (HBZ24.out.up hSw).next hlay
        have HBZ28 := Lib.hid hB28
        have G28 := Lib.hid (hSw.trans hb)
        have hM28 : N28 ≤ 700200400 := by have h9 := enc_len (bnd s.a.other); omega
        clear hlay hB28 hN28
        simp only []
        refine hK.out _ _ (Ext v28) (fun _ hx => hSw.trans (hb.trans hx)) (Ext.refl _) (fun hSw => ?_)
        clear hK K
        try simp only [Act.put, List.setIfInBounds_toArray, List.set_cons_zero, List.set_cons_succ]
        refine wpS_take 9 (v := ?_) hSw rfl (by kernel_rfl) (by kernel_rfl) (by kernel_rfl) (by rfl) (fun w' hin => ?_) ?_
        rotate_left
        · (try simp only [] at hin); go_simp <;> with_reducible rfl
        try simp only [Act.put, List.setIfInBounds_toArray, List.set_cons_zero, List.set_cons_succ]
        refine wpS_done (by kernel_rfl) ?_
        clear u9 u10 q0 q1
        go_wp2_with fail
        go_ret
        exact LayD.mk (HBZ28.out.up hSw) (by rw [HP.out]; simp [List.append_assoc])
      · have b0 : (s.kind == 0) = false := by simpa using h0
        have b7 : (s.kind == 7) = false := by simpa using h7
        have HP : Hid (putS0 s = (enc (bnd s.kind) ++ (enc (bnd s.side) ++ (enc (bnd s.way) ++ enc (bnd s.n))))) := Lib.hid (by unfold putS0 putSB; rw [if_neg h0, if_neg h7]; simp)
        clear h0 h7
        go_wp2_with fail
        go_ret
        exact LayD.mk HB4.out (by rw [HP.out])
end Go.Proofs.YtfdjbnofcniodaaGreatDoor
