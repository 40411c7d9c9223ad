/- The reference of layer 7: each function gives what the program's gives (as plain functions of numbers). -/
import Derived.Test.YtdaiapghoihagaaRect1
import Derived.Test.YtdaiapghoihagaaRect2
set_option linter.unusedVariables false
set_option linter.unusedSimpArgs false
namespace Go.Proofs.Ytdaiapghoihagaa
open Go.RowKit

theorem refRight_any (x0 y0 x1 y1 : Int) (w : World) :
    Calls Try.prog 78 #[.agg #[.int .i64 x0, .int .i64 y0, .int .i64 x1, .int .i64 y1]] w fun r w' => r = .returned (.bool (rightB x0 y0 x1 y1)) ∧ Below w.heap.size w w' := by
  go_enter Try.func78, Try.ntmps78
  go_wp2
  all_goals
    go_ret
    refine ⟨ret_bool ?_, (by repeat (first | with_reducible exact Below.refl _ _ | with_reducible assumption | with_reducible refine below_alloc ?_ _ | with_reducible refine below_draw ?_ | ((with_reducible apply bset); (focus (first | exact Nat.le_refl _ | (simp; done) | (simp; omega)))) | ((with_reducible apply bcall); assumption; (focus (first | exact Nat.le_refl _ | (simp; done) | (simp; omega))))))⟩
    rw [eq_comm]
    simp only [rightB, RightP]
    first | (apply decide_eq_false; omega) | (rw [decide_eq_decide]; omega) | (simp_all; done) | (simp_all; omega)

end Go.Proofs.Ytdaiapghoihagaa
