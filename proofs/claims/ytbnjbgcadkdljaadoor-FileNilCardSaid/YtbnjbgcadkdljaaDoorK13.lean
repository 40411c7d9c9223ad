/- Function values compared with nil. -/
import Derived.Test.YtbnjbgcadkdljaaDoorK12
import Derived.Lib.BufferMore
set_option linter.unusedVariables false
set_option linter.unusedSimpArgs false
namespace Go.Proofs.YtbnjbgcadkdljaaDoor
open Go Go.RowKit
section
variable {P : Program} {n : Nat} {L : Fr} {o : Oper} {w : World}
theorem equal_func_nil {t : TypeId} {f : Fn} {ps rs : Array TypeId} {v : Bool} {a b : Array Value} (ht : P.underlying t = some (.func ps rs v)) : (binOp .eql t (.func f a b) .nilFunc).run P w = .ok (.bool false) w := by
  have h : ∀ d : Nat, (Op.equalIn (d + 1) t (.func f a b) .nilFunc).run P w = .ok false w := fun d => by
    simp [Op.equalIn, run_underlying ht]
  simp only [binOp]
  simp [Op.equal, Op.maxDepth, h 9999]
theorem equal_nil_func {t : TypeId} {ps rs : Array TypeId} {v : Bool} (ht : P.underlying t = some (.func ps rs v)) : (binOp .eql t .nilFunc .nilFunc).run P w = .ok (.bool true) w := by
  have h : ∀ d : Nat, (Op.equalIn (d + 1) t .nilFunc .nilFunc).run P w = .ok true w := fun d => by
    simp [Op.equalIn, run_underlying ht]
  simp only [binOp]
  simp [Op.equal, Op.maxDepth, h 9999]
theorem y_feql {t t' : TypeId} {x y : Operand} {f : Fn} {ps rs : Array TypeId} {v : Bool} {a b : Array Value} (ho : o.op = .binOp .eql t x y t') (ht : P.underlying t = some (.func ps rs v)) (hx : ev L x = some (.func f a b)) (hy : ev L y = some .nilFunc) : Yd P n L o (.bool false) w :=
  y_eq2 ho hx hy rfl (equal_func_nil ht)
theorem y_feqln {t t' : TypeId} {x y : Operand} {ps rs : Array TypeId} {v : Bool} (ho : o.op = .binOp .eql t x y t') (ht : P.underlying t = some (.func ps rs v)) (hx : ev L x = some .nilFunc) (hy : ev L y = some .nilFunc) : Yd P n L o (.bool true) w :=
  y_eq2 ho hx hy rfl (equal_nil_func ht)
end
end Go.Proofs.YtbnjbgcadkdljaaDoor
