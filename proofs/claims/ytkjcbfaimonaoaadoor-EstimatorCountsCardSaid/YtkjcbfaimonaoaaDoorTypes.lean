/- The element types' rows of the table. -/
import Derived.Test.YtkjcbfaimonaoaaDoorProg
import Derived.Test.YtkjcbfaimonaoaaDoorMem
namespace Go.Proofs.YtkjcbfaimonaoaaDoor
open Go.RowKit
theorem info_u32 : (Tryd.prog.info? 70).map (fun i => (i.zero, i.size, i.bytes)) = some (some (.int .u32 0), 1, 4) := by kernel_rfl
end Go.Proofs.YtkjcbfaimonaoaaDoor
