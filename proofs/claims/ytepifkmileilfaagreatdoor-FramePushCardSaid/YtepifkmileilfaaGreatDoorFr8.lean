/- What frame.Put lays, of whatever frame. -/
import Derived.Test.YtepifkmileilfaaGreatDoorFrPut
namespace Go.Proofs.YtepifkmileilfaaGreatDoor
set_option linter.unusedVariables false
open Go.RowKit
theorem frPut_any (S : Nat → Prop) (f : Fr) (s : FrS) (w : World) (hV : FrV S w f s) :
    Calls Tryz.prog 68 #[frVal f s] w (FPut w f) := by
  by_cases hs : saneF f = 0
  · have ht := ((saneF_iff f).1 hs).typ
    by_cases h0 : f.typ = 0
    · exact frPut_hello S f s w hV hs h0
    by_cases h1 : f.typ = 1
    · exact frPut_push S f s w hV hs h1
    by_cases h2 : f.typ = 2
    · exact frPut_ack S f s w hV hs h2
    exact frPut_drain S f s w hV hs (by omega)
  · exact frPut_bad S f s w hV hs
end Go.Proofs.YtepifkmileilfaaGreatDoor
