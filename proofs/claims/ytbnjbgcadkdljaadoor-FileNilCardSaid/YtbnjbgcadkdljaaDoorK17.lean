/- Strings put together. -/
import Derived.Test.YtbnjbgcadkdljaaDoorK16
set_option linter.unusedVariables false
set_option linter.unusedSimpArgs false
namespace Go.Proofs.YtbnjbgcadkdljaaDoor
open Go Go.RowKit
section
variable {P : Program} {n : Nat} {L : Fr} {o : Oper} {w : World}
theorem bs_app (a b : List Int) : bs a ++ bs b = bs (a ++ b) := by
  apply ByteArray.ext
  simp [bs, ByteArray.data_append]
theorem y_strcat {t t' : TypeId} {x y : Operand} {a b : List Int} (ho : o.op = .binOp .add t x y t') (hx : ev L x = some (.string (bs a))) (hy : ev L y = some (.string (bs b))) (hl : a.length + b.length ≤ 100000000) : Yd P n L o (.string (bs (a ++ b))) w := fun ac hac => by
  have h1 : ¬ (9223372036854775807 < ((bs a).size : Int) + ((bs b).size : Int)) := by
    simp only [bs, ByteArray.size, List.size_toArray, List.length_map]; omega
  unfold execOp
  simp only [ho, hac.ev hx, hac.ev hy]
  simp [eqGuard, binOp, Op.stringOp, bs_app, h1]
theorem okB_byt {l : List Int} : (∀ z ∈ l, 0 ≤ z ∧ z ≤ 255) ↔ Byt l := ⟨fun h z hz => by have := h z hz; omega, fun h z hz => by have := h z hz; omega⟩
end
end Go.Proofs.YtbnjbgcadkdljaaDoor
