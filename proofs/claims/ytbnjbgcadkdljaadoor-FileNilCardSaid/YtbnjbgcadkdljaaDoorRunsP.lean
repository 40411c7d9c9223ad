/- Runs, plain: noughts, so many, or a rest. -/
import Derived.Test.YtbnjbgcadkdljaaDoorRuns0
set_option linter.unusedVariables false
set_option linter.unusedSimpArgs false
namespace Go.Proofs.YtbnjbgcadkdljaaDoor
open Go Go.RowKit
/-- the runs of rests; k noughts lie ahead -/
def rnl : List Int → Nat → List (Nat × Int)
  | [], 0 => []
  | [], k + 1 => [(k + 1, 0)]
  | z :: t, 0 => if z = 0 then rnl t 1 else (0, z) :: rnl t 0
  | z :: t, k + 1 => if z = 0 then rnl t (k + 2) else (k + 1, 0) :: (0, z) :: rnl t 0
theorem rn_zero (t : List Int) (k : Nat) : rnl (0 :: t) k = rnl t (k + 1) := by cases k <;> simp [rnl]
theorem rn_rest {z : Int} (h : z ≠ 0) (t : List Int) : rnl (z :: t) 0 = (0, z) :: rnl t 0 := by simp [rnl, h]
theorem rn_flush {t : List Int} {k : Nat} (h : ∀ z r, t = z :: r → z ≠ 0) : rnl t (k + 1) = (k + 1, 0) :: rnl t 0 := by
  cases t with
  | nil => rfl
  | cons z r => simp [rnl, h z r rfl]
theorem rn_noughts : ∀ (k j : Nat) (t : List Int), rnl (List.replicate k 0 ++ t) j = rnl t (j + k)
  | 0, j, t => rfl
  | k + 1, j, t => by
    rw [List.replicate_succ, List.cons_append, rn_zero, rn_noughts k (j + 1) t]
    congr 1; omega
/-- all bytes -/
def runsB (l : List (Nat × Int)) : List Int := l.flatMap fun r => runB r.1 r.2
theorem runsB_snoc (l : List (Nat × Int)) (r : Nat × Int) : runsB (l ++ [r]) = runsB l ++ runB r.1 r.2 := by unfold runsB; simp
/-- a run by places: from i on, j noughts -/
theorem rn_drop_rest {zs : List Int} {i : Nat} (hi : i < zs.length) (h : nth zs i ≠ 0) : rnl (zs.drop i) 0 = (0, nth zs i) :: rnl (zs.drop (i + 1)) 0 := by
  rw [List.drop_eq_getElem_cons hi, ← nth_lt hi, rn_rest h]
theorem rn_drop_zero {zs : List Int} {i k : Nat} (hi : i < zs.length) (h : nth zs i = 0) : rnl (zs.drop i) k = rnl (zs.drop (i + 1)) (k + 1) := by
  rw [List.drop_eq_getElem_cons hi, ← nth_lt hi, h, rn_zero]
theorem rn_drop_flush {zs : List Int} {i k : Nat} (h : ¬ (i < zs.length ∧ nth zs i = 0)) : rnl (zs.drop i) (k + 1) = (k + 1, 0) :: rnl (zs.drop i) 0 :=
  rn_flush fun z r e => by
    rcases Nat.lt_or_ge i zs.length with q | q
    · rw [List.drop_eq_getElem_cons q, ← nth_lt q] at e
      cases e
      exact fun e => h ⟨q, e⟩
    · rw [List.drop_of_length_le q] at e; cases e
end Go.Proofs.YtbnjbgcadkdljaaDoor
