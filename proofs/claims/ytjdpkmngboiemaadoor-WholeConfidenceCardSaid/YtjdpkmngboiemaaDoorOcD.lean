/- occupancy: Distribution. -/
import Derived.Test.YtjdpkmngboiemaaDoorOcA
import Derived.Test.YtjdpkmngboiemaaDoorFrlA
set_option linter.unusedVariables false
set_option linter.unusedSimpArgs false
set_option maxRecDepth 100000
namespace Go.Proofs.YtjdpkmngboiemaaDoor
open Go.RowKit Num

end Go.Proofs.YtjdpkmngboiemaaDoor
