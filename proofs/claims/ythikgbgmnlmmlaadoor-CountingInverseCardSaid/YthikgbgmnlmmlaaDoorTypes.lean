/- The element types' rows of the table. -/
import Derived.Test.YthikgbgmnlmmlaaDoorProg
import Derived.Test.YthikgbgmnlmmlaaDoorMem
namespace Go.Proofs.YthikgbgmnlmmlaaDoor
open Go.RowKit
theorem info_u32 : (Tryd.prog.info? 55).map (fun i => (i.zero, i.size, i.bytes)) = some (some (.int .u32 0), 1, 4) := by kernel_rfl
end Go.Proofs.YthikgbgmnlmmlaaDoor
