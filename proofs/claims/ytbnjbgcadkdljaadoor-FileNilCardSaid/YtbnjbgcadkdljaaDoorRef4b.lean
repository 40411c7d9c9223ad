/- The reference of layer 4: Same, Rests, Cells. -/
import Derived.Test.YtbnjbgcadkdljaaDoorRef4a
set_option linter.unusedVariables false
set_option linter.unusedSimpArgs false
namespace Go.Proofs.YtbnjbgcadkdljaaDoor
open Go.RowKit

end Go.Proofs.YtbnjbgcadkdljaaDoor
