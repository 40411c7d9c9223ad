/- Texts as one: Rect0, Rect1, Rect2, Rect3, Plain7. -/
import Derived.Test.YtbnjbgcadkdljaaRows
import Derived.Test.YtbnjbgcadkdljaaMA
import Derived.WalkKit
import Derived.WalkSpells
import Derived.WalkLawsBesides
import Derived.BigQuiet
import Derived.Lib.Hide
set_option linter.unusedVariables false
set_option linter.unusedSimpArgs false
namespace Go.Proofs.Ytbnjbgcadkdljaa
open Go.RowKit

/-- a rectangle's numbers -/
structure Rt where
  x0 : Int
  y0 : Int
  x1 : Int
  y1 : Int
  deriving DecidableEq
def insideB (n e : Int) : Bool := decide (0 ≤ n) && decide (n < e)
theorem insideB_iff (n e : Int) : insideB n e = true ↔ 0 ≤ n ∧ n < e := by simp [insideB]
theorem insideB_not (n e : Int) : insideB n e = false ↔ ¬ (0 ≤ n ∧ n < e) := by rw [← insideB_iff]; simp

/-- the code that 'Within' tells -/
def withinC (x0 y0 x1 y1 w h : Int) : Int :=
  if insideB (wrap64 (w - 1)) 1024 = false ∨ insideB (wrap64 (h - 1)) 1024 = false then 3
  else if insideB x0 w = false ∨ insideB x1 w = false ∨ insideB y0 h = false ∨ insideB y1 h = false then 4
  else if x1 < x0 ∨ y1 < y0 then 5 else 0

/-- is it right? -/
def RightP (x0 y0 x1 y1 : Int) : Prop := 0 ≤ x0 ∧ x0 ≤ x1 ∧ x1 < 1024 ∧ 0 ≤ y0 ∧ y0 ≤ y1 ∧ y1 < 1024
instance (x0 y0 x1 y1 : Int) : Decidable (RightP x0 y0 x1 y1) := by unfold RightP; infer_instance
def rightB (x0 y0 x1 y1 : Int) : Bool := decide (RightP x0 y0 x1 y1)
theorem rightB_iff (x0 y0 x1 y1 : Int) : rightB x0 y0 x1 y1 = true ↔ RightP x0 y0 x1 y1 := by simp [rightB]
theorem rightB_not (x0 y0 x1 y1 : Int) : rightB x0 y0 x1 y1 = false ↔ ¬ RightP x0 y0 x1 y1 := by simp [rightB]

theorem within_1024 (x0 y0 x1 y1 : Int) : (withinC x0 y0 x1 y1 1024 1024 == 0) = rightB x0 y0 x1 y1 := by
  have hw : insideB (wrap64 (1024 - 1)) 1024 = true := by simp [insideB, wrap64]
  unfold withinC
  rw [hw, if_neg (by simp), Bool.eq_iff_iff, rightB_iff, RightP]
  simp only [insideB_not]
  by_cases h1 : ¬ (0 ≤ x0 ∧ x0 < 1024) ∨ ¬ (0 ≤ x1 ∧ x1 < 1024) ∨ ¬ (0 ≤ y0 ∧ y0 < 1024) ∨ ¬ (0 ≤ y1 ∧ y1 < 1024)
  · rw [if_pos h1]; simp; omega
  · rw [if_neg h1]
    by_cases h2 : x1 < x0 ∨ y1 < y0
    · rw [if_pos h2]; simp; omega
    · rw [if_neg h2]; simp; omega

/-- how many cells -/
def areaI (x0 y0 x1 y1 : Int) : Int := if RightP x0 y0 x1 y1 then (x1 - x0 + 1) * (y1 - y0 + 1) else 0
theorem area_bd {a b : Int} (h0 : 0 ≤ a) (h1 : a ≤ 1024) (h2 : 0 ≤ b) (h3 : b ≤ 1024) : 0 ≤ a * b ∧ a * b ≤ 1048576 :=
  ⟨Int.mul_nonneg h0 h2, by have := Int.mul_le_mul h1 h3 h2 (by omega); simpa using this⟩

/-- has it a cell? -/
def hasB (x0 y0 x1 y1 x y : Int) : Bool := rightB x0 y0 x1 y1 && decide (x0 ≤ x) && decide (x ≤ x1) && decide (y0 ≤ y) && decide (y ≤ y1)

/-- what both have -/
def meetR (a b : Rt) : Rt := ⟨mx a.x0 b.x0, mx a.y0 b.y0, mn a.x1 b.x1, mn a.y1 b.y1⟩
def Rt.right (r : Rt) : Prop := RightP r.x0 r.y0 r.x1 r.y1
instance (r : Rt) : Decidable r.right := by unfold Rt.right; infer_instance
def meetOk (a b : Rt) : Prop := a.right ∧ b.right ∧ (meetR a b).right
instance (a b : Rt) : Decidable (meetOk a b) := by unfold meetOk; infer_instance
/-- the rectangle that 'Meet' tells, and whether there is one -/
def meetV (a b : Rt) : Rt := if meetOk a b then meetR a b else ⟨0, 0, 0, 0⟩
def meetB (a b : Rt) : Bool := decide (meetOk a b)
theorem meetV_no {a b : Rt} (h : ¬ meetOk a b) : meetV a b = ⟨0, 0, 0, 0⟩ := if_neg h
theorem meetB_no {a b : Rt} (h : ¬ meetOk a b) : meetB a b = false := by simp [meetB, h]
theorem meetV_yes {a b : Rt} (h : meetOk a b) : meetV a b = meetR a b := if_pos h
theorem meetB_yes {a b : Rt} (h : meetOk a b) : meetB a b = true := by simp [meetB, h]

end Go.Proofs.Ytbnjbgcadkdljaa

namespace Go.Proofs.Ytbnjbgcadkdljaa
open Go.RowKit
def hullR (a b : Rt) : Rt := ⟨mn a.x0 b.x0, mn a.y0 b.y0, mx a.x1 b.x1, mx a.y1 b.y1⟩
/-- the least rectangle that has both -/
def hullV (a b : Rt) : Rt := if a.right then (if b.right then hullR a b else a) else (if b.right then b else ⟨0, 0, 0, 0⟩)

/-- 'Around': the code, and the rectangle -/
def aroundC (x y n w h : Int) : Int := if withinC x y x y w h = 0 then (if 0 ≤ n ∧ n ≤ 1024 then 0 else 9) else withinC x y x y w h
def aroundV (x y n w h : Int) : Rt := if aroundC x y n w h = 0 then ⟨mx (x - n) 0, mx (y - n) 0, mn (x + n) (w - 1), mn (y + n) (h - 1)⟩ else ⟨0, 0, 0, 0⟩
theorem within_zero {x0 y0 x1 y1 w h : Int} (hw1 : -9223372036854775808 ≤ w) (hw2 : w ≤ 9223372036854775807) (hh1 : -9223372036854775808 ≤ h) (hh2 : h ≤ 9223372036854775807) (h0 : withinC x0 y0 x1 y1 w h = 0) :
    (1 ≤ w ∧ w ≤ 1024 ∧ 1 ≤ h ∧ h ≤ 1024) ∧ 0 ≤ x0 ∧ x0 ≤ x1 ∧ x1 < w ∧ 0 ≤ y0 ∧ y0 ≤ y1 ∧ y1 < h := by
  unfold withinC at h0
  simp only [insideB_not] at h0
  split at h0
  · cases h0
  · rename_i h1
    split at h0
    · cases h0
    · rename_i h2
      split at h0
      · cases h0
      · unfold wrap64 at h1; omega

end Go.Proofs.Ytbnjbgcadkdljaa

namespace Go.Proofs.Ytbnjbgcadkdljaa
open Go.RowKit
def floorI (n : Int) : Int := 16 * (n / 16)
theorem floor_bits : ∀ n : Nat, n < 1024 → bits .andNot .i64 (n : Int) 15 = 16 * ((n : Int) / 16) := by decide +kernel

/-- 'Nth': is there one, and which -/
def nthB (x0 y0 x1 y1 i : Int) : Bool := insideB i (areaI x0 y0 x1 y1)
def nthX (x0 y0 x1 y1 i : Int) : Int := if nthB x0 y0 x1 y1 i then x0 + i % (x1 - x0 + 1) else 0
def nthY (x0 y0 x1 y1 i : Int) : Int := if nthB x0 y0 x1 y1 i then y0 + i / (x1 - x0 + 1) else 0
theorem area_right {x0 y0 x1 y1 i : Int} (h : insideB i (areaI x0 y0 x1 y1) = true) : RightP x0 y0 x1 y1 := by
  rw [insideB_iff] at h
  by_cases hr : RightP x0 y0 x1 y1
  · exact hr
  · rw [areaI, if_neg hr] at h; omega
theorem nth_bd {x0 y0 x1 y1 i : Int} (hr : RightP x0 y0 x1 y1) (h0 : 0 ≤ i) (h1 : i < areaI x0 y0 x1 y1) : 0 ≤ i % (x1 - x0 + 1) ∧ i % (x1 - x0 + 1) ≤ x1 - x0 ∧ 0 ≤ i / (x1 - x0 + 1) ∧ i / (x1 - x0 + 1) ≤ y1 - y0 := by
  rw [areaI, if_pos hr] at h1
  unfold RightP at hr
  have a := Int.emod_nonneg i (b := x1 - x0 + 1) (by omega)
  have b := Int.emod_lt_of_pos i (b := x1 - x0 + 1) (by omega)
  have d := Int.ediv_nonneg h0 (b := x1 - x0 + 1) (by omega)
  have e : i / (x1 - x0 + 1) < y1 - y0 + 1 := Int.ediv_lt_of_lt_mul (by omega) (by rw [Int.mul_comm]; exact h1)
  omega

/-- 'Rank': which of them -/
def rankI (x0 y0 x1 y1 x y : Int) : Int := if hasB x0 y0 x1 y1 x y then (y - y0) * (x1 - x0 + 1) + x - x0 else 0

end Go.Proofs.Ytbnjbgcadkdljaa

namespace Go.Proofs.Ytbnjbgcadkdljaa
open Go.RowKit

/-- the cells of rectangles, one behind the other -/
def rcells (l : List Rt) : List Value := l.flatMap fun r => [.int .i64 r.x0, .int .i64 r.y0, .int .i64 r.x1, .int .i64 r.y1]
theorem rcells_snoc (l : List Rt) (r : Rt) : rcells (l ++ [r]) = rcells l ++ [.int .i64 r.x0, .int .i64 r.y0, .int .i64 r.x1, .int .i64 r.y1] := by simp [rcells]
theorem rcells_nil : rcells [] = [] := rfl
/-- the piece of a rectangle that lies in the tile at x, y -/
def pieceAt (r : Rt) (y x : Int) : Rt := ⟨mx x r.x0, mx y r.y0, mn (x + 16 - 1) r.x1, mn (y + 16 - 1) r.y1⟩
/-- the first n pieces of the row of tiles at y -/
def pieceRow (r : Rt) (y : Int) (n : Nat) : List Rt := (List.range n).map fun (j : Nat) => pieceAt r y (floorI r.x0 + 16 * (j : Int))
/-- the pieces of the first k rows of tiles -/
def pieceRows (r : Rt) (m : Nat) : Nat → List Rt
  | 0 => []
  | k + 1 => pieceRows r m k ++ pieceRow r (floorI r.y0 + 16 * (k : Int)) m
def tilesOf (a b : Int) : Nat := ((b - floorI a) / 16 + 1).toNat
def piecesL (r : Rt) : List Rt := if r.right then pieceRows r (tilesOf r.x0 r.x1) (tilesOf r.y0 r.y1) else []
theorem pieceRow_succ (r : Rt) (y : Int) (n : Nat) : pieceRow r y (n + 1) = pieceRow r y n ++ [pieceAt r y (floorI r.x0 + 16 * (n : Int))] := by simp [pieceRow, List.range_succ]
theorem pieceRow_len (r : Rt) (y : Int) (n : Nat) : (pieceRow r y n).length = n := by simp [pieceRow]
theorem pieceRows_len (r : Rt) (m k : Nat) : (pieceRows r m k).length = k * m := by
  induction k with
  | zero => simp [pieceRows]
  | succ k ih => simp [pieceRows, ih, pieceRow_len, Nat.succ_mul]
theorem tiles_lt {a b : Int} (_h0 : 0 ≤ a) (_h1 : a ≤ b) (k : Nat) : floorI a + 16 * (k : Int) ≤ b ↔ k < tilesOf a b := by unfold tilesOf floorI; omega
theorem tiles_le {a b : Int} (h0 : 0 ≤ a) (h2 : b < 1024) : tilesOf a b ≤ 64 := by unfold tilesOf floorI; omega
theorem floor_bd {a : Int} (h0 : 0 ≤ a) : 0 ≤ floorI a ∧ floorI a ≤ a := by unfold floorI; omega
theorem ownsRow_mono {w : World} {B B' : Nat} {e : TypeId} {size : Nat} {v : Value} {n : Nat} {xs : List Value} (h : w.ownsRow B e size v n xs) (hB : B' ≤ B) : w.ownsRow B' e size v n xs := by
  obtain ⟨h1, h2 | ⟨g, cap, cur, hv, hg, r⟩⟩ := h
  · exact ⟨h1, .inl h2⟩
  · exact ⟨h1, .inr ⟨g, cap, cur, hv, Nat.le_trans hB hg, r⟩⟩
end Go.Proofs.Ytbnjbgcadkdljaa

namespace Go.Proofs.Ytbnjbgcadkdljaa
open Go.RowKit
def sumF (f : Rt → Int) : List Rt → Int
  | [] => 0
  | r :: l => f r + sumF f l
theorem sumF_app (f : Rt → Int) (a b : List Rt) : sumF f (a ++ b) = sumF f a + sumF f b := by
  induction a with
  | nil => simp [sumF]
  | cons r a ih => simp only [List.cons_append, sumF, ih]; omega
def sumN (u : Nat → Int) : Nat → Int
  | 0 => 0
  | n + 1 => sumN u n + u n
theorem sumF_row {f : Rt → Int} {r : Rt} {y : Int} {u : Nat → Int} {v : Int} {n : Nat} (h : ∀ j, j < n → f (pieceAt r y (floorI r.x0 + 16 * (j : Int))) = u j * v) : sumF f (pieceRow r y n) = sumN u n * v := by
  induction n with
  | zero => simp [pieceRow, sumF, sumN]
  | succ n ih =>
    rw [pieceRow_succ, sumF_app, ih (fun j hj => h j (by omega))]
    simp only [sumF, sumN]
    rw [h n (by omega), Int.add_mul]
    omega
theorem sumF_rows {f : Rt → Int} {r : Rt} {u v : Nat → Int} {m K : Nat} (h : ∀ k, k < K → ∀ j, j < m → f (pieceAt r (floorI r.y0 + 16 * (k : Int)) (floorI r.x0 + 16 * (j : Int))) = u j * v k) : sumF f (pieceRows r m K) = sumN u m * sumN v K := by
  induction K with
  | zero => simp [pieceRows, sumF, sumN]
  | succ K ih =>
    simp only [pieceRows, sumN]
    rw [sumF_app, ih (fun k hk => h k (by omega)), sumF_row (v := v K) (fun j hj => h K (by omega) j hj), Int.mul_add]
/-- how long the j-th part of a side is; whether a number lies in it -/
def lenS (a b : Int) (j : Nat) : Int := mn (floorI a + 16 * (j : Int) + 16 - 1) b - mx (floorI a + 16 * (j : Int)) a + 1
def hasS (a b c : Int) (j : Nat) : Int := if mx (floorI a + 16 * (j : Int)) a ≤ c ∧ c ≤ mn (floorI a + 16 * (j : Int) + 16 - 1) b then 1 else 0
theorem sum_len {a b : Int} (h0 : 0 ≤ a) (h1 : a ≤ b) : ∀ n : Nat, n ≤ tilesOf a b → sumN (lenS a b) n = if n = 0 then 0 else mn (floorI a + 16 * (n : Int) - 1) b - a + 1
  | 0, _ => rfl
  | n + 1, hn => by
    have ih := sum_len h0 h1 n (by omega)
    have ht := (tiles_lt h0 h1 n).2 (by omega)
    simp only [sumN]
    rw [ih, if_neg (show ¬ n + 1 = 0 by omega)]
    unfold lenS
    simp only [mn_eq, mx_eq]
    unfold floorI at *
    by_cases hz : n = 0
    · rw [if_pos hz]; omega
    · rw [if_neg hz]; omega
theorem sum_len_all {a b : Int} (h0 : 0 ≤ a) (h1 : a ≤ b) : sumN (lenS a b) (tilesOf a b) = b - a + 1 := by
  have hp := (tiles_lt h0 h1 0).1 (by unfold floorI; omega)
  have hq := (tiles_lt h0 h1 (tilesOf a b))
  rw [sum_len h0 h1 _ (Nat.le_refl _), if_neg (by omega)]
  unfold mn
  have : ¬ floorI a + 16 * ((tilesOf a b : Nat) : Int) ≤ b := fun h => absurd (hq.1 h) (Nat.lt_irrefl _)
  omega
theorem sum_has {a b c : Int} (h0 : 0 ≤ a) (h1 : a ≤ b) : ∀ n : Nat, n ≤ tilesOf a b → sumN (hasS a b c) n = if n ≠ 0 ∧ a ≤ c ∧ c ≤ mn (floorI a + 16 * (n : Int) - 1) b then 1 else 0
  | 0, _ => rfl
  | n + 1, hn => by
    have ih := sum_has (c := c) h0 h1 n (by omega)
    have ht := (tiles_lt h0 h1 n).2 (by omega)
    simp only [sumN]
    rw [ih]
    unfold hasS mn mx
    unfold floorI at *
    omega
theorem sum_has_all {a b c : Int} (h0 : 0 ≤ a) (h1 : a ≤ b) : sumN (hasS a b c) (tilesOf a b) = if a ≤ c ∧ c ≤ b then 1 else 0 := by
  have hp := (tiles_lt h0 h1 0).1 (by unfold floorI; omega)
  have hq := (tiles_lt h0 h1 (tilesOf a b))
  have : ¬ floorI a + 16 * ((tilesOf a b : Nat) : Int) ≤ b := fun h => absurd (hq.1 h) (Nat.lt_irrefl _)
  rw [sum_has h0 h1 _ (Nat.le_refl _)]
  unfold mn
  split <;> split <;> omega
def areaS (r : Rt) : Int := (r.x1 - r.x0 + 1) * (r.y1 - r.y0 + 1)
def inS (c d : Int) (r : Rt) : Int := if r.x0 ≤ c ∧ c ≤ r.x1 ∧ r.y0 ≤ d ∧ d ≤ r.y1 then 1 else 0
theorem pieces_area {r : Rt} (h0 : 0 ≤ r.x0) (h1 : r.x0 ≤ r.x1) (h2 : 0 ≤ r.y0) (h3 : r.y0 ≤ r.y1) : sumF areaS (pieceRows r (tilesOf r.x0 r.x1) (tilesOf r.y0 r.y1)) = areaS r := by
  rw [sumF_rows (u := lenS r.x0 r.x1) (v := lenS r.y0 r.y1) (fun k _ j _ => rfl), sum_len_all h0 h1, sum_len_all h2 h3]
  rfl
theorem pieces_has {r : Rt} {c d : Int} (h0 : 0 ≤ r.x0) (h1 : r.x0 ≤ r.x1) (h2 : 0 ≤ r.y0) (h3 : r.y0 ≤ r.y1) : sumF (inS c d) (pieceRows r (tilesOf r.x0 r.x1) (tilesOf r.y0 r.y1)) = inS c d r := by
  have hprod : ∀ (p q : Prop) [Decidable p] [Decidable q], (if p ∧ q then (1 : Int) else 0) = (if p then 1 else 0) * (if q then 1 else 0) := by
    intro p q _ _
    by_cases hp : p <;> by_cases hq : q <;> simp [hp, hq]
  rw [sumF_rows (u := hasS r.x0 r.x1 c) (v := hasS r.y0 r.y1 d) (fun k _ j _ => by
    unfold hasS inS
    rw [← hprod]
    simp only [pieceAt, and_assoc]
    exact ite_congr rfl (fun _ => rfl) (fun _ => rfl)), sum_has_all h0 h1, sum_has_all h2 h3, ← hprod]
  simp only [inS, and_assoc]
/-- how many of a side's tiles lie ahead of the n-th tile of all -/
def cl (a b : Int) (n : Nat) : Nat := min ((n : Int) - a / 16).toNat (tilesOf a b)
theorem cl_zero {a b : Int} (h0 : 0 ≤ a) : cl a b 0 = 0 := by unfold cl; omega
theorem cl_all {a b : Int} (h0 : 0 ≤ a) (h2 : b < 1024) : cl a b 64 = tilesOf a b := by unfold cl tilesOf floorI; omega
theorem cl_in {a b : Int} {n : Nat} (h0 : 0 ≤ a) (h1 : a ≤ b) (h : floorI a ≤ 16 * (n : Int)) (h2 : 16 * (n : Int) ≤ b) : cl a b (n + 1) = cl a b n + 1 ∧ floorI a + 16 * ((cl a b n : Nat) : Int) = 16 * (n : Int) := by
  unfold cl tilesOf floorI at *; omega
theorem cl_out {a b : Int} {n : Nat} (h0 : 0 ≤ a) (h1 : a ≤ b) (h : ¬ (floorI a ≤ 16 * (n : Int) ∧ 16 * (n : Int) ≤ b)) : cl a b (n + 1) = cl a b n := by
  unfold cl tilesOf floorI at *; omega
def tileS (x y : Nat) : Rt := ⟨16 * (x : Int), 16 * (y : Int), 16 * (x : Int) + 15, 16 * (y : Int) + 15⟩
theorem meet_piece (r : Rt) (x y : Nat) : meetR r (tileS x y) = pieceAt r (16 * (y : Int)) (16 * (x : Int)) := by
  simp only [meetR, tileS, pieceAt, mx_eq, mn_eq, Rt.mk.injEq]; omega
theorem meet_tile {r : Rt} (hr : r.right) {x y : Nat} (hx : x < 64) (hy : y < 64) : meetOk r (tileS x y) ↔ (floorI r.x0 ≤ 16 * (x : Int) ∧ 16 * (x : Int) ≤ r.x1) ∧ (floorI r.y0 ≤ 16 * (y : Int) ∧ 16 * (y : Int) ≤ r.y1) := by
  unfold meetOk
  simp only [hr, true_and]
  unfold Rt.right RightP at *
  simp only [meetR, tileS, mx_eq, mn_eq]
  unfold floorI
  omega
/-- the reference's list: all tiles, row by row -/
def rowL (r : Rt) (y : Nat) : Nat → List Rt
  | 0 => []
  | x + 1 => rowL r y x ++ (if meetOk r (tileS x y) then [meetR r (tileS x y)] else [])
def allL (r : Rt) : Nat → List Rt
  | 0 => []
  | y + 1 => allL r y ++ rowL r y 64
theorem rowL_len (r : Rt) (y : Nat) : ∀ x, (rowL r y x).length ≤ x
  | 0 => Nat.le_refl _
  | x + 1 => by
    have := rowL_len r y x
    simp only [rowL, List.length_append]
    split <;> simp <;> omega
theorem allL_len (r : Rt) : ∀ y, (allL r y).length ≤ 64 * y
  | 0 => Nat.le_refl _
  | y + 1 => by
    have := allL_len r y
    have := rowL_len r y 64
    simp only [allL, List.length_append]
    omega
theorem rowL_no {r : Rt} {y : Nat} (h : ∀ x, x < 64 → ¬ meetOk r (tileS x y)) : ∀ x, x ≤ 64 → rowL r y x = []
  | 0, _ => rfl
  | x + 1, hx => by simp only [rowL, rowL_no h x (by omega), if_neg (h x (by omega)), List.append_nil]
theorem allL_no {r : Rt} (h : ¬ r.right) : ∀ y, allL r y = []
  | 0 => rfl
  | y + 1 => by simp only [allL, allL_no h y, rowL_no (fun x _ hm => h hm.1) 64 (Nat.le_refl _), List.append_nil]
theorem rowL_yes {r : Rt} (hr : r.right) {y : Nat} (hy : y < 64) (h : floorI r.y0 ≤ 16 * (y : Int) ∧ 16 * (y : Int) ≤ r.y1) : ∀ x, x ≤ 64 → rowL r y x = pieceRow r (16 * (y : Int)) (cl r.x0 r.x1 x)
  | 0, _ => by rw [cl_zero hr.1]; rfl
  | x + 1, hx => by
    have ih := rowL_yes hr hy h x (by omega)
    simp only [rowL, ih]
    by_cases hc : floorI r.x0 ≤ 16 * (x : Int) ∧ 16 * (x : Int) ≤ r.x1
    · obtain ⟨e1, e2⟩ := cl_in hr.1 hr.2.1 hc.1 hc.2
      rw [if_pos ((meet_tile hr (by omega) hy).2 ⟨hc, h⟩), e1, pieceRow_succ, e2, meet_piece]
    · rw [if_neg (fun hm => hc ((meet_tile hr (by omega) hy).1 hm).1), cl_out hr.1 hr.2.1 hc, List.append_nil]
theorem allL_yes {r : Rt} (hr : r.right) : ∀ y, y ≤ 64 → allL r y = pieceRows r (tilesOf r.x0 r.x1) (cl r.y0 r.y1 y)
  | 0, _ => by rw [cl_zero hr.2.2.2.1]; rfl
  | y + 1, hy => by
    have ih := allL_yes hr y (by omega)
    simp only [allL, ih]
    by_cases hc : floorI r.y0 ≤ 16 * (y : Int) ∧ 16 * (y : Int) ≤ r.y1
    · obtain ⟨e1, e2⟩ := cl_in hr.2.2.2.1 hr.2.2.2.2.1 hc.1 hc.2
      rw [rowL_yes hr (by omega) hc 64 (Nat.le_refl _), cl_all hr.1 hr.2.2.1, e1]
      simp only [pieceRows]
      rw [e2]
    · rw [rowL_no (fun x hx hm => hc ((meet_tile hr hx (by omega)).1 hm).2) 64 (Nat.le_refl _), cl_out hr.2.2.2.1 hr.2.2.2.2.1 hc, List.append_nil]
theorem allL_eq (r : Rt) : allL r 64 = piecesL r := by
  unfold piecesL
  by_cases hr : r.right
  · rw [if_pos hr, allL_yes hr 64 (Nat.le_refl _), cl_all hr.2.2.2.1 hr.2.2.2.2.2]
  · rw [if_neg hr, allL_no hr]
end Go.Proofs.Ytbnjbgcadkdljaa
