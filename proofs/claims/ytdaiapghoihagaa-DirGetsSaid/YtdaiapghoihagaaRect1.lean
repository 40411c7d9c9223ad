import Derived.Test.YtdaiapghoihagaaRect0
set_option linter.unusedVariables false
set_option linter.unusedSimpArgs false
namespace Go.Proofs.Ytdaiapghoihagaa
open Go.RowKit
def hullR (a b : Rt) : Rt := ⟨mn a.x0 b.x0, mn a.y0 b.y0, mx a.x1 b.x1, mx a.y1 b.y1⟩
/-- the least rectangle that has both -/
def hullV (a b : Rt) : Rt := if a.right then (if b.right then hullR a b else a) else (if b.right then b else ⟨0, 0, 0, 0⟩)

/-- 'Around': the code, and the rectangle -/
def aroundC (x y n w h : Int) : Int := if withinC x y x y w h = 0 then (if 0 ≤ n ∧ n ≤ 1024 then 0 else 9) else withinC x y x y w h
def aroundV (x y n w h : Int) : Rt := if aroundC x y n w h = 0 then ⟨mx (x - n) 0, mx (y - n) 0, mn (x + n) (w - 1), mn (y + n) (h - 1)⟩ else ⟨0, 0, 0, 0⟩
theorem within_zero {x0 y0 x1 y1 w h : Int} (hw1 : -9223372036854775808 ≤ w) (hw2 : w ≤ 9223372036854775807) (hh1 : -9223372036854775808 ≤ h) (hh2 : h ≤ 9223372036854775807) (h0 : withinC x0 y0 x1 y1 w h = 0) :
    (1 ≤ w ∧ w ≤ 1024 ∧ 1 ≤ h ∧ h ≤ 1024) ∧ 0 ≤ x0 ∧ x0 ≤ x1 ∧ x1 < w ∧ 0 ≤ y0 ∧ y0 ≤ y1 ∧ y1 < h := by
  unfold withinC at h0
  simp only [insideB_not] at h0
  split at h0
  · cases h0
  · rename_i h1
    split at h0
    · cases h0
    · rename_i h2
      split at h0
      · cases h0
      · unfold wrap64 at h1; omega

end Go.Proofs.Ytdaiapghoihagaa
