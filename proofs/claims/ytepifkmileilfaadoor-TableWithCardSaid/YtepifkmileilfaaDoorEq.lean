/- Equality of slices: what the generics share. -/
import Derived.Test.YtepifkmileilfaaDoorGround
import Derived.Test.YtepifkmileilfaaDoorNames
import Derived.Test.YtepifkmileilfaaDoorIndex
namespace Go.Proofs.YtepifkmileilfaaDoor

end Go.Proofs.YtepifkmileilfaaDoor
