/- The frame of a law's proof whose row lists package-level variables with what they hold (they are not read here): over whatever program. -/
import Derived.Test.YtfdjbnofcniodaaGreatDoorQOpen
import Derived.Handed
import Derived.LaidLaws
import Derived.Lay
import Derived.MakeChecks
import Derived.Stop.Joined
namespace Go.Proofs.YtfdjbnofcniodaaGreatDoor
open Lib (hid)
open Go.ChangeShapes Go.WideShapes Go.ChangeAt Go.RowKit Go.Deep
theorem lift_law_laid {H : Type} {enc : TypeId × Value → H} {C : Checked} {os : Os} {f : FuncId} {fn : Func} {s : ChangeSpec} {conds : List PathCond} {tb : TypeId} {laid : List (String × DataW Unit)}
  (own : ownKnob C.prog.godebug = none) (started : os.Started) (noInit : C.prog.inits.idxOf? f = none) (hfn : C.prog.funcs[f]? = some fn)
  (witness : ∃ (w : World) (tape : Tape) (i : Input), w.os = os ∧ (w.forCall tape i).Shaped C.prog ∧ i.vars = [] ∧ Input.okWide C.prog (w.forCall tape i) .any w.heap.size f i ∧
   ((s.pre enc C.prog fn conds false (w.forCall tape i).memory i.args ∧ laidMetH C.prog laid (w.forCall tape i).memory) ∧ sizedMet enc C.prog fn (OpenSpec.ofChange s) false (w.forCall tape i).memory i.args) ∧ ({} : Assume).holds C.prog (lone (Frame.enter C.prog f i.args .normal) [] (w.forCall tape i)))
  (hlaid : laidOutB C.prog = true) (hread : fn.params.toList.all (fun t => C.prog.readableRec t && decide (t < C.prog.types.size)) = true)
  (hvars : s.vars = []) (hres : fn.resultTypes = #[tb]) (htb : C.prog.underlying tb = some .bool)
  (hspec : ∀ ds : List (DataW H), ds.length = fn.params.size → (s.fn H ds).results = [.lit (.bool true)] ∧ (s.fn H ds).args = ds ∧ (s.fn H ds).vars = [])
  (contract : ∀ (W : World) (base : Nat) (args : Array Value) (ds : List (DataW H)) (p : List MemPlace),
   (∀ (j : Nat) t v, fn.params[j]? = some t → args[j]? = some v → Value.okWide C.prog W .any base t v) →
   DataW.TrodAll enc C.prog W 0 (fun _ => true) true fn.params.toList args.toList ds p →
   (DataW.weightsEach C.prog fn.params.toList ds).all (· ≤ reachBytes) = true →
   Calls C.prog f args W fun e W' => e = .returned (.bool true) ∧ Ext W W') :
  ReturnsInHanded {} C os f .any (fun w args => (s.pre enc C.prog fn conds false w args ∧ laidMetH C.prog laid w) ∧ sizedMet enc C.prog fn (OpenSpec.ofChange s) false w args) (s.post enc C.prog fn false true false false) := by
 refine returnsInHanded_of_change_and (X := fun w _ => laidMetH C.prog laid w) (fun _ _ _ hh h => h.of_heap hh) own started noInit hfn witness ?_
 intro W base args ds gs before hval hW _ hsz _ _
 have hW' := hW
 obtain ⟨p, q, hA, hV, rfl, hfz, hnd⟩ := hW
 rw [hvars] at hV
 obtain ⟨rfl, rfl⟩ := trodVars_none hV
 have hv : s.plain.varTypes C.prog = [] := by simp [DataSpec.varTypes, ChangeSpec.plain, hvars]
 rw [hv] at hsz
 simp only [List.append_nil] at hsz hW'
 have hlen : ∀ (ts : List TypeId) (vs : List Value) (ds : List (DataW H)) (ps : List MemPlace), DataW.TrodAll enc C.prog W 0 (fun _ => true) true ts vs ds ps → ds.length = ts.length := by
  intro ts
  induction ts with
  | nil => intro vs ds ps h; obtain ⟨_, rfl, _⟩ := trodAll_nil h; rfl
  | cons t ts ih => intro vs ds ps h; obtain ⟨v, vs1, d, ds1, a, b, _, rfl, _, _, h2⟩ := trodAll_cons h; simp [ih _ _ _ h2]
 have hd : ds.length = fn.params.size := by simpa using hlen _ _ _ _ hA
 obtain ⟨e1, e2, e3⟩ := hspec ds hd
 refine (contract W base args ds p hval hA hsz).mono fun e W' ⟨he, bel⟩ => ?_
 subst he
 refine ⟨_, rfl, ds, [], p, [], p, [], hW', ?_, ?_, ?_, Below.frame bel _, fun h => by cases h⟩
 ·rw [List.append_nil, e1, hres]
  exact trodAll_mk1 (shut_bool htb _)
 ·rw [List.append_nil, e2]
  exact trodAll_below hlaid bel hread hA
 ·rw [List.append_nil, hvars, e3]
  rfl
end Go.Proofs.YtfdjbnofcniodaaGreatDoor
