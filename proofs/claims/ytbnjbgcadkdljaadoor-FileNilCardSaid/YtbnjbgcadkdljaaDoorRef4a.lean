/- The reference of layer 4. -/
import Derived.Test.YtbnjbgcadkdljaaDoorPred1
set_option linter.unusedVariables false
set_option linter.unusedSimpArgs false
namespace Go.Proofs.YtbnjbgcadkdljaaDoor
open Go.RowKit
theorem mul_one_less (y w : Int) : (y - 1) * w = y * w - w := by rw [Int.sub_mul, Int.one_mul]

end Go.Proofs.YtbnjbgcadkdljaaDoor
