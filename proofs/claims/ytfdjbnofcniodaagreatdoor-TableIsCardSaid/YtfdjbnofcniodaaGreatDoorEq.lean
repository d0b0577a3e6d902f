/- Equality of slices: what the generics share. -/
import Derived.Test.YtfdjbnofcniodaaGreatDoorGround
import Derived.Test.YtfdjbnofcniodaaGreatDoorNames
import Derived.Test.YtfdjbnofcniodaaGreatDoorIndex
namespace Go.Proofs.YtfdjbnofcniodaaGreatDoor

end Go.Proofs.YtfdjbnofcniodaaGreatDoor
