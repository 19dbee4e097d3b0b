/- ref02 (first part): ref02: zero, New. Fractions: magnitude, Of, Norm, Sign, Cmp. ref02: Mul. -/
import Derived.Test.YtfnngchanhnaiaaDoorFrac
import Derived.Test.YtfnngchanhnaiaaDoorRefGcd
import Derived.Deep.RegionLaw
import Derived.Deep.RegionHeld3
set_option linter.unusedVariables false
set_option linter.unusedSimpArgs false
set_option maxRecDepth 100000
namespace Go.Proofs.YtfnngchanhnaiaaDoor
open Go.RowKit Num


end Go.Proofs.YtfnngchanhnaiaaDoor
namespace Go.Proofs.YtfnngchanhnaiaaDoor
open Go.RowKit Num



end Go.Proofs.YtfnngchanhnaiaaDoor
