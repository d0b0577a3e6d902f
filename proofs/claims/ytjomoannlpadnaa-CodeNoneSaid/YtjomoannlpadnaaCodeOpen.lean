/- Openings of arguments for the laws of package code. -/
import Derived.Test.YtjomoannlpadnaaOpen
import Derived.Test.YtjomoannlpadnaaMem
namespace Go.Proofs.Ytjomoannlpadnaa
open Go.ChangeShapes Go.WideShapes Go.ChangeAt Go.RowKit

theorem own0 : ownKnob Try.prog.godebug = none := by kernel_rfl
theorem laid0 : laidOutB Try.prog = true := by kernel_rfl
end Go.Proofs.Ytjomoannlpadnaa
