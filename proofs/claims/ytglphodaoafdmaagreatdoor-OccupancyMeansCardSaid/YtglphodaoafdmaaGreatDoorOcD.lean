/- occupancy: Distribution. -/
import Derived.Test.YtglphodaoafdmaaGreatDoorOcA
import Derived.Test.YtglphodaoafdmaaGreatDoorFrlA
set_option linter.unusedVariables false
set_option linter.unusedSimpArgs false
set_option maxRecDepth 100000
namespace Go.Proofs.YtglphodaoafdmaaGreatDoor
open Go.RowKit Num

end Go.Proofs.YtglphodaoafdmaaGreatDoor
