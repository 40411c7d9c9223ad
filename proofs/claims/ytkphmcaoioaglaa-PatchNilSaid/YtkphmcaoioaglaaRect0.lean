/- Contracts of the functions of package rect: what each call gives, as plain functions of numbers. -/
import Derived.Test.YtkphmcaoioaglaaRows
import Derived.Test.YtkphmcaoioaglaaRegion
import Derived.Test.YtkphmcaoioaglaaBase
import Derived.WalkKit
import Derived.WalkSpells
import Derived.WalkLawsBesides
import Derived.BigQuiet
set_option linter.unusedVariables false
set_option linter.unusedSimpArgs false
namespace Go.Proofs.Ytkphmcaoioaglaa
open Go.RowKit

/-- a rectangle's numbers -/
structure Rt where
  x0 : Int
  y0 : Int
  x1 : Int
  y1 : Int
  deriving DecidableEq
def insideB (n e : Int) : Bool := decide (0 ≤ n) && decide (n < e)
theorem insideB_iff (n e : Int) : insideB n e = true ↔ 0 ≤ n ∧ n < e := by simp [insideB]
theorem insideB_not (n e : Int) : insideB n e = false ↔ ¬ (0 ≤ n ∧ n < e) := by rw [← insideB_iff]; simp

theorem inside_any (n e : Int) (w : World) :
    Calls Try.prog 117 #[.int .i64 n, .int .i64 e] w fun r w' => r = .returned (.bool (insideB n e)) ∧ w = w' := by
  by_cases h : 0 ≤ n
  · go_enter Try.func117, Try.ntmps117
    go_wp2
    go_ret
    exact ⟨by simp [insideB, h], rfl⟩
  · go_enter Try.func117, Try.ntmps117
    go_wp2
    go_ret
    exact ⟨by simp [insideB]; omega, rfl⟩

/-- the code that 'Within' tells -/
def withinC (x0 y0 x1 y1 w h : Int) : Int :=
  if insideB (wrap64 (w - 1)) 1024 = false ∨ insideB (wrap64 (h - 1)) 1024 = false then 3
  else if insideB x0 w = false ∨ insideB x1 w = false ∨ insideB y0 h = false ∨ insideB y1 h = false then 4
  else if x1 < x0 ∨ y1 < y0 then 5 else 0

theorem within_any (x0 y0 x1 y1 a b : Int) (w : World) :
    Calls Try.prog 78 #[.agg #[.int .i64 x0, .int .i64 y0, .int .i64 x1, .int .i64 y1], .int .i64 a, .int .i64 b] w
      fun r w' => r = .returned (.int .i64 (withinC x0 y0 x1 y1 a b)) ∧ Below w.heap.size w w' := by
  go_enter Try.func78, Try.ntmps78
  go_wp2_with (go_at_call 117; refine (inside_any _ _ _).mono ?_; rintro e w' ⟨rfl, rfl⟩)
  all_goals
    go_ret
    refine ⟨ret_int ?_, (Below.refl _ _).alloc (Nat.le_refl _) _⟩
    simp_all only [withinC, Bool.not_eq_true, Bool.not_eq_false', Bool.not_eq_true', Bool.true_eq_false, true_or, or_true, if_true, if_false, or_self]
    try omega

/-- is it right? -/
def RightP (x0 y0 x1 y1 : Int) : Prop := 0 ≤ x0 ∧ x0 ≤ x1 ∧ x1 < 1024 ∧ 0 ≤ y0 ∧ y0 ≤ y1 ∧ y1 < 1024
instance (x0 y0 x1 y1 : Int) : Decidable (RightP x0 y0 x1 y1) := by unfold RightP; infer_instance
def rightB (x0 y0 x1 y1 : Int) : Bool := decide (RightP x0 y0 x1 y1)
theorem rightB_iff (x0 y0 x1 y1 : Int) : rightB x0 y0 x1 y1 = true ↔ RightP x0 y0 x1 y1 := by simp [rightB]
theorem rightB_not (x0 y0 x1 y1 : Int) : rightB x0 y0 x1 y1 = false ↔ ¬ RightP x0 y0 x1 y1 := by simp [rightB]

theorem within_1024 (x0 y0 x1 y1 : Int) : (withinC x0 y0 x1 y1 1024 1024 == 0) = rightB x0 y0 x1 y1 := by
  have hw : insideB (wrap64 (1024 - 1)) 1024 = true := by simp [insideB, wrap64]
  unfold withinC
  rw [hw, if_neg (by simp), Bool.eq_iff_iff, rightB_iff, RightP]
  simp only [insideB_not]
  by_cases h1 : ¬ (0 ≤ x0 ∧ x0 < 1024) ∨ ¬ (0 ≤ x1 ∧ x1 < 1024) ∨ ¬ (0 ≤ y0 ∧ y0 < 1024) ∨ ¬ (0 ≤ y1 ∧ y1 < 1024)
  · rw [if_pos h1]; simp; omega
  · rw [if_neg h1]
    by_cases h2 : x1 < x0 ∨ y1 < y0
    · rw [if_pos h2]; simp; omega
    · rw [if_neg h2]; simp; omega

theorem right_any (x0 y0 x1 y1 : Int) (w : World) :
    Calls Try.prog 114 #[.agg #[.int .i64 x0, .int .i64 y0, .int .i64 x1, .int .i64 y1]] w fun r w' => r = .returned (.bool (rightB x0 y0 x1 y1)) ∧ Below w.heap.size w w' := by
  rw [← within_1024]
  go_enter Try.func114, Try.ntmps114
  go_wp2_with (go_at_call 78; refine (within_any _ _ _ _ _ _ _).mono ?_; rintro e w' ⟨rfl, hb⟩; obtain ⟨hc, hf, hl⟩ := rules hb (Nat.le_refl _); have hz0 := hl (w.heap.size) (by first | (simp; done) | assumption | omega | (simp; omega)); clear hl)
  go_ret
  exact ⟨rfl, (by repeat (first | with_reducible exact Below.refl _ _ | with_reducible assumption | with_reducible refine below_alloc ?_ _ | with_reducible refine below_draw ?_ | ((with_reducible apply bset); (focus (first | exact Nat.le_refl _ | (simp; done) | omega | (simp; omega)))) | ((with_reducible apply bcall); assumption; (focus (first | exact Nat.le_refl _ | (simp; done) | omega | (simp; omega))))))⟩

theorem width_any (x0 y0 x1 y1 : Int) (w : World) (hr : RightP x0 y0 x1 y1) :
    Calls Try.prog 118 #[.agg #[.int .i64 x0, .int .i64 y0, .int .i64 x1, .int .i64 y1]] w fun r w' => r = .returned (.int .i64 (x1 - x0 + 1)) ∧ Below w.heap.size w w' := by
  unfold RightP at hr
  go_enter Try.func118, Try.ntmps118
  go_wp2
  go_ret
  exact ⟨rfl, (by repeat (first | with_reducible exact Below.refl _ _ | with_reducible assumption | with_reducible refine below_alloc ?_ _ | with_reducible refine below_draw ?_ | ((with_reducible apply bset); (focus (first | exact Nat.le_refl _ | (simp; done) | omega | (simp; omega)))) | ((with_reducible apply bcall); assumption; (focus (first | exact Nat.le_refl _ | (simp; done) | omega | (simp; omega))))))⟩

/-- how many cells -/
def areaI (x0 y0 x1 y1 : Int) : Int := if RightP x0 y0 x1 y1 then (x1 - x0 + 1) * (y1 - y0 + 1) else 0
theorem area_bd {a b : Int} (h0 : 0 ≤ a) (h1 : a ≤ 1024) (h2 : 0 ≤ b) (h3 : b ≤ 1024) : 0 ≤ a * b ∧ a * b ≤ 1048576 :=
  ⟨Int.mul_nonneg h0 h2, by have := Int.mul_le_mul h1 h3 h2 (by omega); simpa using this⟩

theorem area_any (x0 y0 x1 y1 : Int) (w : World) :
    Calls Try.prog 85 #[.agg #[.int .i64 x0, .int .i64 y0, .int .i64 x1, .int .i64 y1]] w fun r w' => r = .returned (.int .i64 (areaI x0 y0 x1 y1)) ∧ Below w.heap.size w w' := by
  by_cases hr : RightP x0 y0 x1 y1
  · have hR := (rightB_iff _ _ _ _).2 hr
    have hr' := hr
    unfold RightP at hr'
    have hp := area_bd (a := x1 - x0 + 1) (b := y1 - y0 + 1) (by omega) (by omega) (by omega) (by omega)
    rw [areaI, if_pos hr]
    go_enter Try.func85, Try.ntmps85
    go_wp2_with (go_at_call 114; refine (right_any _ _ _ _ _).mono ?_; rintro e w' ⟨rfl, hb⟩; obtain ⟨hc, hf, hl⟩ := rules hb (Nat.le_refl _); have hz0 := hl (w.heap.size) (by first | (simp; done) | assumption | omega | (simp; omega)); clear hl)
    refine wp_region_over (by kernel_rfl) (by kernel_rfl) ?_
    repeat (go_big_quiet_step ((first | (go_at_call 118; with_reducible exact (width_any _ _ _ _ _ hr).over))))
    refine wpQuiet_nil ?_
    intro w2 w2b
    obtain ⟨w2c, w2f, w2l⟩ := rules w2b (Nat.le_refl _); have w2z0 := w2l (w.heap.size) (by first | (simp; done) | assumption | omega | (simp; omega)); clear w2l
    go_wp2
    go_ret
    exact ⟨rfl, (by repeat (first | with_reducible exact Below.refl _ _ | with_reducible assumption | with_reducible refine below_alloc ?_ _ | with_reducible refine below_draw ?_ | ((with_reducible apply bset); (focus (first | exact Nat.le_refl _ | (simp; done) | omega | (simp; omega)))) | ((with_reducible apply bcall); assumption; (focus (first | exact Nat.le_refl _ | (simp; done) | omega | (simp; omega))))))⟩
  · have hR := (rightB_not _ _ _ _).2 hr
    rw [areaI, if_neg hr]
    go_enter Try.func85, Try.ntmps85
    go_wp2_with (go_at_call 114; refine (right_any _ _ _ _ _).mono ?_; rintro e w' ⟨rfl, hb⟩; obtain ⟨hc, hf, hl⟩ := rules hb (Nat.le_refl _); have hz0 := hl (w.heap.size) (by first | (simp; done) | assumption | omega | (simp; omega)); clear hl)
    go_ret
    exact ⟨rfl, (by repeat (first | with_reducible exact Below.refl _ _ | with_reducible assumption | with_reducible refine below_alloc ?_ _ | with_reducible refine below_draw ?_ | ((with_reducible apply bset); (focus (first | exact Nat.le_refl _ | (simp; done) | omega | (simp; omega)))) | ((with_reducible apply bcall); assumption; (focus (first | exact Nat.le_refl _ | (simp; done) | omega | (simp; omega))))))⟩

/-- has it a cell? -/
def hasB (x0 y0 x1 y1 x y : Int) : Bool := rightB x0 y0 x1 y1 && decide (x0 ≤ x) && decide (x ≤ x1) && decide (y0 ≤ y) && decide (y ≤ y1)

/-- what both have -/
def meetR (a b : Rt) : Rt := ⟨mx a.x0 b.x0, mx a.y0 b.y0, mn a.x1 b.x1, mn a.y1 b.y1⟩
def Rt.right (r : Rt) : Prop := RightP r.x0 r.y0 r.x1 r.y1
instance (r : Rt) : Decidable r.right := by unfold Rt.right; infer_instance
def meetOk (a b : Rt) : Prop := a.right ∧ b.right ∧ (meetR a b).right
instance (a b : Rt) : Decidable (meetOk a b) := by unfold meetOk; infer_instance
/-- the rectangle that 'Meet' tells, and whether there is one -/
def meetV (a b : Rt) : Rt := if meetOk a b then meetR a b else ⟨0, 0, 0, 0⟩
def meetB (a b : Rt) : Bool := decide (meetOk a b)
theorem meetV_no {a b : Rt} (h : ¬ meetOk a b) : meetV a b = ⟨0, 0, 0, 0⟩ := if_neg h
theorem meetB_no {a b : Rt} (h : ¬ meetOk a b) : meetB a b = false := by simp [meetB, h]
theorem meetV_yes {a b : Rt} (h : meetOk a b) : meetV a b = meetR a b := if_pos h
theorem meetB_yes {a b : Rt} (h : meetOk a b) : meetB a b = true := by simp [meetB, h]

end Go.Proofs.Ytkphmcaoioaglaa
