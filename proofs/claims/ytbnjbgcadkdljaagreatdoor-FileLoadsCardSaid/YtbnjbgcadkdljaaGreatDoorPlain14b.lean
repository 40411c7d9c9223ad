/- Files, without the program: a grid's tiles lie apart. -/
import Derived.Test.YtbnjbgcadkdljaaGreatDoorPlain14
set_option linter.unusedVariables false
set_option linter.unusedSimpArgs false
namespace Go.Proofs.YtbnjbgcadkdljaaGreatDoor
open Go Go.RowKit
theorem inS_nn (c d : Int) (r : Rt) : 0 ≤ inS c d r := by unfold inS; split <;> omega
theorem sum_nn (c d : Int) : ∀ l : List Rt, 0 ≤ sumF (inS c d) l
  | [] => Int.le_refl _
  | r :: l => by have := inS_nn c d r; have := sum_nn c d l; unfold sumF; omega
theorem sum_ge {c d : Int} : ∀ {l : List Rt} {s : Rt}, s ∈ l → inS c d s ≤ sumF (inS c d) l
  | r :: l, s, h => by
    rcases List.mem_cons.1 h with rfl | h
    · have := sum_nn c d l; unfold sumF; omega
    · have := sum_ge (c := c) (d := d) h; have := inS_nn c d r; unfold sumF; omega
theorem sum_apart {c d : Int} {A B : List Rt} {t s : Rt} (h : sumF (inS c d) (A ++ t :: B) ≤ 1) (ht : inS c d t = 1) (hs : s ∈ B) : inS c d s = 0 := by
  rw [sumF_app] at h
  have h1 := sum_nn c d A
  have h2 := sum_ge (c := c) (d := d) hs
  have h3 := inS_nn c d s
  have h4 : sumF (inS c d) (t :: B) = inS c d t + sumF (inS c d) B := rfl
  omega
theorem grid_sum {a h : Nat} (s : SzG a h) (c d : Int) : sumF (inS c d) (piecesL ⟨0, 0, (a : Int) - 1, (h : Int) - 1⟩) ≤ 1 := by
  obtain ⟨s1, s2, s3, s4⟩ := s
  unfold piecesL
  split
  · rw [pieces_has (r := ⟨0, 0, (a : Int) - 1, (h : Int) - 1⟩) (Int.le_refl _) (by show (0 : Int) ≤ (a : Int) - 1; omega) (Int.le_refl _) (by show (0 : Int) ≤ (h : Int) - 1; omega)]
    unfold inS; split <;> omega
  · show (0 : Int) ≤ 1; decide
end Go.Proofs.YtbnjbgcadkdljaaGreatDoor
