/- Layer 5: the reference's rests of bytes; the same lists. -/
import Derived.Test.YtbnjbgcadkdljaaDoorRef5
set_option linter.unusedVariables false
set_option linter.unusedSimpArgs false
namespace Go.Proofs.YtbnjbgcadkdljaaDoor
open Go Go.RowKit
theorem kfref5b_1 : (Tryd.prog.info? 2).map (fun i => (i.size, i.zero.map Value.cells)) = some (1, some (List.toArray [(.int .i64 0)])) := by kernel_rfl
theorem kfref5b_4 : (Tryd.prog.info? 2).map (fun i => (i.zero.map (·.cells.toList), i.size, i.bytes)) = some (some [(.int .i64 0)], 1, 8) := by kernel_rfl
theorem kfref5b_5 : elB Tryd.prog 39 1 = true := by kernel_rfl
theorem kfref5b_6 : oneB Tryd.prog 2 = true := by kernel_rfl

end Go.Proofs.YtbnjbgcadkdljaaDoor
