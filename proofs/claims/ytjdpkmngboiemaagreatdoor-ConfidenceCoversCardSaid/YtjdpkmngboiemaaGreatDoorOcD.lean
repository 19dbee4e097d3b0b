/- occupancy: Distribution. -/
import Derived.Test.YtjdpkmngboiemaaGreatDoorOcA
import Derived.Test.YtjdpkmngboiemaaGreatDoorFrlA
set_option linter.unusedVariables false
set_option linter.unusedSimpArgs false
set_option maxRecDepth 100000
namespace Go.Proofs.YtjdpkmngboiemaaGreatDoor
open Go.RowKit Num

end Go.Proofs.YtjdpkmngboiemaaGreatDoor
