import Derived.Test.YtkphmcaoioaglaaRect0
set_option linter.unusedVariables false
set_option linter.unusedSimpArgs false
namespace Go.Proofs.Ytkphmcaoioaglaa
open Go.RowKit
def hullR (a b : Rt) : Rt := ⟨mn a.x0 b.x0, mn a.y0 b.y0, mx a.x1 b.x1, mx a.y1 b.y1⟩
/-- the least rectangle that has both -/
def hullV (a b : Rt) : Rt := if a.right then (if b.right then hullR a b else a) else (if b.right then b else ⟨0, 0, 0, 0⟩)

set_option maxHeartbeats 1000000 in
theorem hull_any (ax0 ay0 ax1 ay1 bx0 by0 bx1 by1 : Int) (w : World) :
    Calls Try.prog 113 #[.agg #[.int .i64 ax0, .int .i64 ay0, .int .i64 ax1, .int .i64 ay1], .agg #[.int .i64 bx0, .int .i64 by0, .int .i64 bx1, .int .i64 by1]] w fun r w' => r = .returned (.agg #[.int .i64 (hullV ⟨ax0, ay0, ax1, ay1⟩ ⟨bx0, by0, bx1, by1⟩).x0, .int .i64 (hullV ⟨ax0, ay0, ax1, ay1⟩ ⟨bx0, by0, bx1, by1⟩).y0, .int .i64 (hullV ⟨ax0, ay0, ax1, ay1⟩ ⟨bx0, by0, bx1, by1⟩).x1, .int .i64 (hullV ⟨ax0, ay0, ax1, ay1⟩ ⟨bx0, by0, bx1, by1⟩).y1]) ∧ Below w.heap.size w w' := by
  by_cases ha : Rt.right ⟨ax0, ay0, ax1, ay1⟩
  all_goals by_cases hb : Rt.right ⟨bx0, by0, bx1, by1⟩
  · have hA : rightB ax0 ay0 ax1 ay1 = true := (rightB_iff _ _ _ _).2 ha
    have hB : rightB bx0 by0 bx1 by1 = true := (rightB_iff _ _ _ _).2 hb
    have hv : hullV ⟨ax0, ay0, ax1, ay1⟩ ⟨bx0, by0, bx1, by1⟩ = ⟨mn ax0 bx0, mn ay0 by0, mx ax1 bx1, mx ay1 by1⟩ := by simp only [hullV, ha, hb, if_true]; rfl
    rw [hv]
    clear ha hb hv
    go_enter Try.func113, Try.ntmps113
    go_wp2_with (go_at_call 114; refine (right_any _ _ _ _ _).mono ?_; rintro e w' ⟨rfl, hb⟩; obtain ⟨hc, hf, hl⟩ := rules hb (Nat.le_refl _); have hz0 := hl (w.heap.size) (by first | (simp; done) | assumption | omega | (simp; omega)); have hz1 := hl (w.heap.size + 1) (by first | (simp; done) | assumption | omega | (simp; omega)); have hz2 := hl (w.heap.size + 1 + 1) (by first | (simp; done) | assumption | omega | (simp; omega)); clear hl)
    exact bodyPost_ret (v := .agg #[.int .i64 (mn ax0 bx0), .int .i64 (mn ay0 by0), .int .i64 (mx ax1 bx1), .int .i64 (mx ay1 by1)]) (by simp [results, Try.results113, go_sem, *]) rfl ⟨rfl, (by repeat (first | with_reducible exact Below.refl _ _ | with_reducible assumption | with_reducible refine below_alloc ?_ _ | with_reducible refine below_draw ?_ | ((with_reducible apply bset); (focus (first | exact Nat.le_refl _ | (simp; done) | omega | (simp; omega)))) | ((with_reducible apply bcall); assumption; (focus (first | exact Nat.le_refl _ | (simp; done) | omega | (simp; omega))))))⟩
  · have hA : rightB ax0 ay0 ax1 ay1 = true := (rightB_iff _ _ _ _).2 ha
    have hB : rightB bx0 by0 bx1 by1 = false := (rightB_not _ _ _ _).2 hb
    have hv : hullV ⟨ax0, ay0, ax1, ay1⟩ ⟨bx0, by0, bx1, by1⟩ = ⟨ax0, ay0, ax1, ay1⟩ := by simp only [hullV, ha, hb, if_true, if_false]
    rw [hv]
    clear ha hb hv
    go_enter Try.func113, Try.ntmps113
    go_wp2_with (go_at_call 114; refine (right_any _ _ _ _ _).mono ?_; rintro e w' ⟨rfl, hb⟩; obtain ⟨hc, hf, hl⟩ := rules hb (Nat.le_refl _); have hz0 := hl (w.heap.size) (by first | (simp; done) | assumption | omega | (simp; omega)); have hz1 := hl (w.heap.size + 1) (by first | (simp; done) | assumption | omega | (simp; omega)); have hz2 := hl (w.heap.size + 1 + 1) (by first | (simp; done) | assumption | omega | (simp; omega)); clear hl)
    exact bodyPost_ret (v := .agg #[.int .i64 ax0, .int .i64 ay0, .int .i64 ax1, .int .i64 ay1]) (by simp [results, Try.results113, go_sem, *]) rfl ⟨rfl, (by repeat (first | with_reducible exact Below.refl _ _ | with_reducible assumption | with_reducible refine below_alloc ?_ _ | with_reducible refine below_draw ?_ | ((with_reducible apply bset); (focus (first | exact Nat.le_refl _ | (simp; done) | omega | (simp; omega)))) | ((with_reducible apply bcall); assumption; (focus (first | exact Nat.le_refl _ | (simp; done) | omega | (simp; omega))))))⟩
  · have hA : rightB ax0 ay0 ax1 ay1 = false := (rightB_not _ _ _ _).2 ha
    have hB : rightB bx0 by0 bx1 by1 = true := (rightB_iff _ _ _ _).2 hb
    have hv : hullV ⟨ax0, ay0, ax1, ay1⟩ ⟨bx0, by0, bx1, by1⟩ = ⟨bx0, by0, bx1, by1⟩ := by simp only [hullV, ha, hb, if_true, if_false]
    rw [hv]
    clear ha hb hv
    go_enter Try.func113, Try.ntmps113
    go_wp2_with (go_at_call 114; refine (right_any _ _ _ _ _).mono ?_; rintro e w' ⟨rfl, hb⟩; obtain ⟨hc, hf, hl⟩ := rules hb (Nat.le_refl _); have hz0 := hl (w.heap.size) (by first | (simp; done) | assumption | omega | (simp; omega)); have hz1 := hl (w.heap.size + 1) (by first | (simp; done) | assumption | omega | (simp; omega)); have hz2 := hl (w.heap.size + 1 + 1) (by first | (simp; done) | assumption | omega | (simp; omega)); clear hl)
    exact bodyPost_ret (v := .agg #[.int .i64 bx0, .int .i64 by0, .int .i64 bx1, .int .i64 by1]) (by simp [results, Try.results113, go_sem, *]) rfl ⟨rfl, (by repeat (first | with_reducible exact Below.refl _ _ | with_reducible assumption | with_reducible refine below_alloc ?_ _ | with_reducible refine below_draw ?_ | ((with_reducible apply bset); (focus (first | exact Nat.le_refl _ | (simp; done) | omega | (simp; omega)))) | ((with_reducible apply bcall); assumption; (focus (first | exact Nat.le_refl _ | (simp; done) | omega | (simp; omega))))))⟩
  · have hA : rightB ax0 ay0 ax1 ay1 = false := (rightB_not _ _ _ _).2 ha
    have hB : rightB bx0 by0 bx1 by1 = false := (rightB_not _ _ _ _).2 hb
    have hv : hullV ⟨ax0, ay0, ax1, ay1⟩ ⟨bx0, by0, bx1, by1⟩ = ⟨0, 0, 0, 0⟩ := by simp only [hullV, ha, hb, if_false]
    rw [hv]
    clear ha hb hv
    go_enter Try.func113, Try.ntmps113
    go_wp2_with (go_at_call 114; refine (right_any _ _ _ _ _).mono ?_; rintro e w' ⟨rfl, hb⟩; obtain ⟨hc, hf, hl⟩ := rules hb (Nat.le_refl _); have hz0 := hl (w.heap.size) (by first | (simp; done) | assumption | omega | (simp; omega)); have hz1 := hl (w.heap.size + 1) (by first | (simp; done) | assumption | omega | (simp; omega)); have hz2 := hl (w.heap.size + 1 + 1) (by first | (simp; done) | assumption | omega | (simp; omega)); clear hl)
    exact bodyPost_ret (v := .agg #[.int .i64 0, .int .i64 0, .int .i64 0, .int .i64 0]) (by simp [results, Try.results113, go_sem, *]) rfl ⟨rfl, (by repeat (first | with_reducible exact Below.refl _ _ | with_reducible assumption | with_reducible refine below_alloc ?_ _ | with_reducible refine below_draw ?_ | ((with_reducible apply bset); (focus (first | exact Nat.le_refl _ | (simp; done) | omega | (simp; omega)))) | ((with_reducible apply bcall); assumption; (focus (first | exact Nat.le_refl _ | (simp; done) | omega | (simp; omega))))))⟩

/-- 'Around': the code, and the rectangle -/
def aroundC (x y n w h : Int) : Int := if withinC x y x y w h = 0 then (if 0 ≤ n ∧ n ≤ 1024 then 0 else 9) else withinC x y x y w h
def aroundV (x y n w h : Int) : Rt := if aroundC x y n w h = 0 then ⟨mx (x - n) 0, mx (y - n) 0, mn (x + n) (w - 1), mn (y + n) (h - 1)⟩ else ⟨0, 0, 0, 0⟩
theorem within_zero {x0 y0 x1 y1 w h : Int} (hw1 : -9223372036854775808 ≤ w) (hw2 : w ≤ 9223372036854775807) (hh1 : -9223372036854775808 ≤ h) (hh2 : h ≤ 9223372036854775807) (h0 : withinC x0 y0 x1 y1 w h = 0) :
    (1 ≤ w ∧ w ≤ 1024 ∧ 1 ≤ h ∧ h ≤ 1024) ∧ 0 ≤ x0 ∧ x0 ≤ x1 ∧ x1 < w ∧ 0 ≤ y0 ∧ y0 ≤ y1 ∧ y1 < h := by
  unfold withinC at h0
  simp only [insideB_not] at h0
  split at h0
  · cases h0
  · rename_i h1
    split at h0
    · cases h0
    · rename_i h2
      split at h0
      · cases h0
      · unfold wrap64 at h1; omega

end Go.Proofs.Ytkphmcaoioaglaa
