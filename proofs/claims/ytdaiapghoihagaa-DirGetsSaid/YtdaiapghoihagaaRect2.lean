/- Contracts of package rect: floor, Nth, Rank. -/
import Derived.Test.YtdaiapghoihagaaRect0
import Derived.Lib.Hide
set_option linter.unusedVariables false
set_option linter.unusedSimpArgs false
namespace Go.Proofs.Ytdaiapghoihagaa
open Go.RowKit
def floorI (n : Int) : Int := 16 * (n / 16)
theorem floor_bits : ∀ n : Nat, n < 1024 → bits .andNot .i64 (n : Int) 15 = 16 * ((n : Int) / 16) := by decide +kernel

/-- 'Nth': is there one, and which -/
def nthB (x0 y0 x1 y1 i : Int) : Bool := insideB i (areaI x0 y0 x1 y1)
def nthX (x0 y0 x1 y1 i : Int) : Int := if nthB x0 y0 x1 y1 i then x0 + i % (x1 - x0 + 1) else 0
def nthY (x0 y0 x1 y1 i : Int) : Int := if nthB x0 y0 x1 y1 i then y0 + i / (x1 - x0 + 1) else 0
theorem area_right {x0 y0 x1 y1 i : Int} (h : insideB i (areaI x0 y0 x1 y1) = true) : RightP x0 y0 x1 y1 := by
  rw [insideB_iff] at h
  by_cases hr : RightP x0 y0 x1 y1
  · exact hr
  · rw [areaI, if_neg hr] at h; omega
theorem nth_bd {x0 y0 x1 y1 i : Int} (hr : RightP x0 y0 x1 y1) (h0 : 0 ≤ i) (h1 : i < areaI x0 y0 x1 y1) : 0 ≤ i % (x1 - x0 + 1) ∧ i % (x1 - x0 + 1) ≤ x1 - x0 ∧ 0 ≤ i / (x1 - x0 + 1) ∧ i / (x1 - x0 + 1) ≤ y1 - y0 := by
  rw [areaI, if_pos hr] at h1
  unfold RightP at hr
  have a := Int.emod_nonneg i (b := x1 - x0 + 1) (by omega)
  have b := Int.emod_lt_of_pos i (b := x1 - x0 + 1) (by omega)
  have d := Int.ediv_nonneg h0 (b := x1 - x0 + 1) (by omega)
  have e : i / (x1 - x0 + 1) < y1 - y0 + 1 := Int.ediv_lt_of_lt_mul (by omega) (by rw [Int.mul_comm]; exact h1)
  omega

/-- 'Rank': which of them -/
def rankI (x0 y0 x1 y1 x y : Int) : Int := if hasB x0 y0 x1 y1 x y then (y - y0) * (x1 - x0 + 1) + x - x0 else 0

end Go.Proofs.Ytdaiapghoihagaa
