/- The reference of layer 7: each function gives what the program's gives (as plain functions of numbers). -/
import Derived.Test.YtkphmcaoioaglaaRect1
import Derived.Test.YtkphmcaoioaglaaRect2
set_option linter.unusedVariables false
set_option linter.unusedSimpArgs false
namespace Go.Proofs.Ytkphmcaoioaglaa
open Go.RowKit

theorem refRight_any (x0 y0 x1 y1 : Int) (w : World) :
    Calls Try.prog 127 #[.agg #[.int .i64 x0, .int .i64 y0, .int .i64 x1, .int .i64 y1]] w fun r w' => r = .returned (.bool (rightB x0 y0 x1 y1)) ∧ Below w.heap.size w w' := by
  go_enter Try.func127, Try.ntmps127
  go_wp2
  all_goals
    go_ret
    refine ⟨ret_bool ?_, (by repeat (first | with_reducible exact Below.refl _ _ | with_reducible assumption | with_reducible refine below_alloc ?_ _ | with_reducible refine below_draw ?_ | ((with_reducible apply bset); (focus (first | exact Nat.le_refl _ | (simp; done) | (simp; omega)))) | ((with_reducible apply bcall); assumption; (focus (first | exact Nat.le_refl _ | (simp; done) | (simp; omega))))))⟩
    rw [eq_comm]
    simp only [rightB, RightP]
    first | (apply decide_eq_false; omega) | (rw [decide_eq_decide]; omega) | (simp_all; done) | (simp_all; omega)

set_option maxHeartbeats 2000000 in
theorem refWithin_any (x0 y0 x1 y1 a b : Int) (w : World) (al : -9223372036854775808 ≤ a) (au : a ≤ 9223372036854775807) (bl : -9223372036854775808 ≤ b) (bu : b ≤ 9223372036854775807) :
    Calls Try.prog 81 #[.agg #[.int .i64 x0, .int .i64 y0, .int .i64 x1, .int .i64 y1], .int .i64 a, .int .i64 b] w fun r w' => r = .returned (.int .i64 (withinC x0 y0 x1 y1 a b)) ∧ Below w.heap.size w w' := by
  have hA : insideB (wrap64 (a - 1)) 1024 = decide (1 ≤ a ∧ a ≤ 1024) := by rw [Bool.eq_iff_iff, insideB_iff, decide_eq_true_eq]; unfold wrap64; omega
  have hB : insideB (wrap64 (b - 1)) 1024 = decide (1 ≤ b ∧ b ≤ 1024) := by rw [Bool.eq_iff_iff, insideB_iff, decide_eq_true_eq]; unfold wrap64; omega
  have hv : withinC x0 y0 x1 y1 a b = if ¬ (1 ≤ a ∧ a ≤ 1024) ∨ ¬ (1 ≤ b ∧ b ≤ 1024) then 3 else if ¬ (0 ≤ x0 ∧ x0 < a) ∨ ¬ (0 ≤ x1 ∧ x1 < a) ∨ ¬ (0 ≤ y0 ∧ y0 < b) ∨ ¬ (0 ≤ y1 ∧ y1 < b) then 4 else if x1 < x0 ∨ y1 < y0 then 5 else 0 := by
    unfold withinC
    rw [hA, hB]
    simp only [insideB_not, decide_eq_false_iff_not]
  have Hv := Lib.hid hv
  clear hA hB hv
  go_enter Try.func81, Try.ntmps81
  go_wp2
  all_goals
    go_ret
    refine ⟨ret_int ?_, (by repeat (first | with_reducible exact Below.refl _ _ | with_reducible assumption | with_reducible refine below_alloc ?_ _ | with_reducible refine below_draw ?_ | ((with_reducible apply bset); (focus (first | exact Nat.le_refl _ | (simp; done) | (simp; omega)))) | ((with_reducible apply bcall); assumption; (focus (first | exact Nat.le_refl _ | (simp; done) | (simp; omega))))))⟩
    rw [Hv.out]
    first | (rw [if_pos (by omega)]; done) | (rw [if_neg (by omega), if_pos (by omega)]; done) | (rw [if_neg (by omega), if_neg (by omega), if_pos (by omega)]; done) | (rw [if_neg (by omega), if_neg (by omega), if_neg (by omega)]; done)

theorem refArea_any (x0 y0 x1 y1 : Int) (w : World) :
    Calls Try.prog 123 #[.agg #[.int .i64 x0, .int .i64 y0, .int .i64 x1, .int .i64 y1]] w fun r w' => r = .returned (.int .i64 (areaI x0 y0 x1 y1)) ∧ Below w.heap.size w w' := by
  by_cases hr : RightP x0 y0 x1 y1
  · have hR := (rightB_iff _ _ _ _).2 hr
    have hr' := hr
    unfold RightP at hr'
    have hp := area_bd (a := x1 + 1 - x0) (b := y1 + 1 - y0) (by omega) (by omega) (by omega) (by omega)
    have e1 : x1 - x0 + 1 = x1 + 1 - x0 := by omega
    have e2 : y1 - y0 + 1 = y1 + 1 - y0 := by omega
    rw [areaI, if_pos hr, e1, e2]
    clear e1 e2 hr
    go_enter Try.func123, Try.ntmps123
    go_wp2_with (go_at_call 127; refine (refRight_any _ _ _ _ _).mono ?_; rintro e w' ⟨rfl, hb⟩; obtain ⟨hc, hf, hl⟩ := rules hb (Nat.le_refl _); have hz0 := hl (w.heap.size) (by first | (simp; done) | assumption | (simp; omega)); clear hl)
    go_ret
    exact ⟨rfl, (by repeat (first | with_reducible exact Below.refl _ _ | with_reducible assumption | with_reducible refine below_alloc ?_ _ | with_reducible refine below_draw ?_ | ((with_reducible apply bset); (focus (first | exact Nat.le_refl _ | (simp; done) | (simp; omega)))) | ((with_reducible apply bcall); assumption; (focus (first | exact Nat.le_refl _ | (simp; done) | (simp; omega))))))⟩
  · have hR := (rightB_not _ _ _ _).2 hr
    rw [areaI, if_neg hr]
    clear hr
    go_enter Try.func123, Try.ntmps123
    go_wp2_with (go_at_call 127; refine (refRight_any _ _ _ _ _).mono ?_; rintro e w' ⟨rfl, hb⟩; obtain ⟨hc, hf, hl⟩ := rules hb (Nat.le_refl _); have hz0 := hl (w.heap.size) (by first | (simp; done) | assumption | (simp; omega)); clear hl)
    go_ret
    exact ⟨rfl, (by repeat (first | with_reducible exact Below.refl _ _ | with_reducible assumption | with_reducible refine below_alloc ?_ _ | with_reducible refine below_draw ?_ | ((with_reducible apply bset); (focus (first | exact Nat.le_refl _ | (simp; done) | (simp; omega)))) | ((with_reducible apply bcall); assumption; (focus (first | exact Nat.le_refl _ | (simp; done) | (simp; omega))))))⟩

end Go.Proofs.Ytkphmcaoioaglaa
