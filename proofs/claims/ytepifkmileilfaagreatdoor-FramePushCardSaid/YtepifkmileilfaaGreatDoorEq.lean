/- Equality of slices: what the generics share. -/
import Derived.Test.YtepifkmileilfaaGreatDoorGround
import Derived.Test.YtepifkmileilfaaGreatDoorNames
import Derived.Test.YtepifkmileilfaaGreatDoorIndex
namespace Go.Proofs.YtepifkmileilfaaGreatDoor

end Go.Proofs.YtepifkmileilfaaGreatDoor
