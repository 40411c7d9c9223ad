/- Texts as one: Rect0, Rect1, Rect2, Rect3, Plain7. -/
import Derived.Test.YtbnjbgcadkdljaaGreatDoorRows
import Derived.Test.YtbnjbgcadkdljaaGreatDoorMA
import Derived.WalkKit
import Derived.WalkSpells
import Derived.WalkLawsBesides
import Derived.BigQuiet
import Derived.Lib.Hide
set_option linter.unusedVariables false
set_option linter.unusedSimpArgs false
namespace Go.Proofs.YtbnjbgcadkdljaaGreatDoor
open Go.RowKit

/-- a rectangle's numbers -/
structure Rt where
  x0 : Int
  y0 : Int
  x1 : Int
  y1 : Int
  deriving DecidableEq
def insideB (n e : Int) : Bool := decide (0 ≤ n) && decide (n < e)
theorem insideB_iff (n e : Int) : insideB n e = true ↔ 0 ≤ n ∧ n < e := by simp [insideB]
theorem insideB_not (n e : Int) : insideB n e = false ↔ ¬ (0 ≤ n ∧ n < e) := by rw [← insideB_iff]; simp

theorem inside_any (n e : Int) (w : World) :
    Calls Tryz.prog 78 #[.int .i64 n, .int .i64 e] w fun r w' => r = .returned (.bool (insideB n e)) ∧ w = w' := by
  by_cases h : 0 ≤ n
  · go_enter Tryz.func78, Tryz.ntmps78
    go_wp2
    go_ret
    exact ⟨by simp [insideB, h], rfl⟩
  · go_enter Tryz.func78, Tryz.ntmps78
    go_wp2
    go_ret
    exact ⟨by simp [insideB]; omega, rfl⟩

/-- the code that 'Within' tells -/
def withinC (x0 y0 x1 y1 w h : Int) : Int :=
  if insideB (wrap64 (w - 1)) 1024 = false ∨ insideB (wrap64 (h - 1)) 1024 = false then 3
  else if insideB x0 w = false ∨ insideB x1 w = false ∨ insideB y0 h = false ∨ insideB y1 h = false then 4
  else if x1 < x0 ∨ y1 < y0 then 5 else 0

theorem within_any (x0 y0 x1 y1 a b : Int) (w : World) :
    Calls Tryz.prog 35 #[.agg #[.int .i64 x0, .int .i64 y0, .int .i64 x1, .int .i64 y1], .int .i64 a, .int .i64 b] w
      fun r w' => r = .returned (.int .i64 (withinC x0 y0 x1 y1 a b)) ∧ Below w.heap.size w w' := by
  go_enter Tryz.func35, Tryz.ntmps35
  go_wp2_with (go_at_call 78; refine (inside_any _ _ _).mono ?_; rintro e w' ⟨rfl, rfl⟩)
  all_goals
    go_ret
    refine ⟨ret_int ?_, (Below.refl _ _).alloc (Nat.le_refl _) _⟩
    simp_all only [withinC, Bool.not_eq_true, Bool.not_eq_false', Bool.not_eq_true', Bool.true_eq_false, true_or, or_true, if_true, if_false, or_self]
    try omega

/-- is it right? -/
def RightP (x0 y0 x1 y1 : Int) : Prop := 0 ≤ x0 ∧ x0 ≤ x1 ∧ x1 < 1024 ∧ 0 ≤ y0 ∧ y0 ≤ y1 ∧ y1 < 1024
instance (x0 y0 x1 y1 : Int) : Decidable (RightP x0 y0 x1 y1) := by unfold RightP; infer_instance
def rightB (x0 y0 x1 y1 : Int) : Bool := decide (RightP x0 y0 x1 y1)
theorem rightB_iff (x0 y0 x1 y1 : Int) : rightB x0 y0 x1 y1 = true ↔ RightP x0 y0 x1 y1 := by simp [rightB]
theorem rightB_not (x0 y0 x1 y1 : Int) : rightB x0 y0 x1 y1 = false ↔ ¬ RightP x0 y0 x1 y1 := by simp [rightB]

theorem within_1024 (x0 y0 x1 y1 : Int) : (withinC x0 y0 x1 y1 1024 1024 == 0) = rightB x0 y0 x1 y1 := by
  have hw : insideB (wrap64 (1024 - 1)) 1024 = true := by simp [insideB, wrap64]
  unfold withinC
  rw [hw, if_neg (by simp), Bool.eq_iff_iff, rightB_iff, RightP]
  simp only [insideB_not]
  by_cases h1 : ¬ (0 ≤ x0 ∧ x0 < 1024) ∨ ¬ (0 ≤ x1 ∧ x1 < 1024) ∨ ¬ (0 ≤ y0 ∧ y0 < 1024) ∨ ¬ (0 ≤ y1 ∧ y1 < 1024)
  · rw [if_pos h1]; simp; omega
  · rw [if_neg h1]
    by_cases h2 : x1 < x0 ∨ y1 < y0
    · rw [if_pos h2]; simp; omega
    · rw [if_neg h2]; simp; omega

theorem right_any (x0 y0 x1 y1 : Int) (w : World) :
    Calls Tryz.prog 79 #[.agg #[.int .i64 x0, .int .i64 y0, .int .i64 x1, .int .i64 y1]] w fun r w' => r = .returned (.bool (rightB x0 y0 x1 y1)) ∧ Below w.heap.size w w' := by
  rw [← within_1024]
  go_enter Tryz.func79, Tryz.ntmps79
  go_wp2_with (go_at_call 35; refine (within_any _ _ _ _ _ _ _).mono ?_; rintro e w' ⟨rfl, hb⟩; obtain ⟨hc, hf, hl⟩ := rules hb (Nat.le_refl _); have hz0 := hl (w.heap.size) (by first | (simp; done) | assumption | omega | (simp; omega)); clear hl)
  go_ret
  exact ⟨rfl, (by repeat (first | with_reducible exact Below.refl _ _ | with_reducible assumption | with_reducible refine below_alloc ?_ _ | with_reducible refine below_draw ?_ | ((with_reducible apply bset); (focus (first | exact Nat.le_refl _ | (simp; done) | omega | (simp; omega)))) | ((with_reducible apply bcall); assumption; (focus (first | exact Nat.le_refl _ | (simp; done) | omega | (simp; omega))))))⟩

theorem width_any (x0 y0 x1 y1 : Int) (w : World) (hr : RightP x0 y0 x1 y1) :
    Calls Tryz.prog 97 #[.agg #[.int .i64 x0, .int .i64 y0, .int .i64 x1, .int .i64 y1]] w fun r w' => r = .returned (.int .i64 (x1 - x0 + 1)) ∧ Below w.heap.size w w' := by
  unfold RightP at hr
  go_enter Tryz.func97, Tryz.ntmps97
  go_wp2
  go_ret
  exact ⟨rfl, (by repeat (first | with_reducible exact Below.refl _ _ | with_reducible assumption | with_reducible refine below_alloc ?_ _ | with_reducible refine below_draw ?_ | ((with_reducible apply bset); (focus (first | exact Nat.le_refl _ | (simp; done) | omega | (simp; omega)))) | ((with_reducible apply bcall); assumption; (focus (first | exact Nat.le_refl _ | (simp; done) | omega | (simp; omega))))))⟩

/-- how many cells -/
def areaI (x0 y0 x1 y1 : Int) : Int := if RightP x0 y0 x1 y1 then (x1 - x0 + 1) * (y1 - y0 + 1) else 0
theorem area_bd {a b : Int} (h0 : 0 ≤ a) (h1 : a ≤ 1024) (h2 : 0 ≤ b) (h3 : b ≤ 1024) : 0 ≤ a * b ∧ a * b ≤ 1048576 :=
  ⟨Int.mul_nonneg h0 h2, by have := Int.mul_le_mul h1 h3 h2 (by omega); simpa using this⟩

theorem area_any (x0 y0 x1 y1 : Int) (w : World) :
    Calls Tryz.prog 62 #[.agg #[.int .i64 x0, .int .i64 y0, .int .i64 x1, .int .i64 y1]] w fun r w' => r = .returned (.int .i64 (areaI x0 y0 x1 y1)) ∧ Below w.heap.size w w' := by
  by_cases hr : RightP x0 y0 x1 y1
  · have hR := (rightB_iff _ _ _ _).2 hr
    have hr' := hr
    unfold RightP at hr'
    have hp := area_bd (a := x1 - x0 + 1) (b := y1 - y0 + 1) (by omega) (by omega) (by omega) (by omega)
    rw [areaI, if_pos hr]
    go_enter Tryz.func62, Tryz.ntmps62
    go_wp2_with (go_at_call 79; refine (right_any _ _ _ _ _).mono ?_; rintro e w' ⟨rfl, hb⟩; obtain ⟨hc, hf, hl⟩ := rules hb (Nat.le_refl _); have hz0 := hl (w.heap.size) (by first | (simp; done) | assumption | omega | (simp; omega)); clear hl)
    refine wp_region_over (by kernel_rfl) (by kernel_rfl) ?_
    repeat (go_big_quiet_step ((first | (go_at_call 97; with_reducible exact (width_any _ _ _ _ _ hr).over))))
    refine wpQuiet_nil ?_
    intro w2 w2b
    obtain ⟨w2c, w2f, w2l⟩ := rules w2b (Nat.le_refl _); have w2z0 := w2l (w.heap.size) (by first | (simp; done) | assumption | omega | (simp; omega)); clear w2l
    go_wp2
    go_ret
    exact ⟨rfl, (by repeat (first | with_reducible exact Below.refl _ _ | with_reducible assumption | with_reducible refine below_alloc ?_ _ | with_reducible refine below_draw ?_ | ((with_reducible apply bset); (focus (first | exact Nat.le_refl _ | (simp; done) | omega | (simp; omega)))) | ((with_reducible apply bcall); assumption; (focus (first | exact Nat.le_refl _ | (simp; done) | omega | (simp; omega))))))⟩
  · have hR := (rightB_not _ _ _ _).2 hr
    rw [areaI, if_neg hr]
    go_enter Tryz.func62, Tryz.ntmps62
    go_wp2_with (go_at_call 79; refine (right_any _ _ _ _ _).mono ?_; rintro e w' ⟨rfl, hb⟩; obtain ⟨hc, hf, hl⟩ := rules hb (Nat.le_refl _); have hz0 := hl (w.heap.size) (by first | (simp; done) | assumption | omega | (simp; omega)); clear hl)
    go_ret
    exact ⟨rfl, (by repeat (first | with_reducible exact Below.refl _ _ | with_reducible assumption | with_reducible refine below_alloc ?_ _ | with_reducible refine below_draw ?_ | ((with_reducible apply bset); (focus (first | exact Nat.le_refl _ | (simp; done) | omega | (simp; omega)))) | ((with_reducible apply bcall); assumption; (focus (first | exact Nat.le_refl _ | (simp; done) | omega | (simp; omega))))))⟩

/-- what both have -/
def meetR (a b : Rt) : Rt := ⟨mx a.x0 b.x0, mx a.y0 b.y0, mn a.x1 b.x1, mn a.y1 b.y1⟩
def Rt.right (r : Rt) : Prop := RightP r.x0 r.y0 r.x1 r.y1
instance (r : Rt) : Decidable r.right := by unfold Rt.right; infer_instance
def meetOk (a b : Rt) : Prop := a.right ∧ b.right ∧ (meetR a b).right
instance (a b : Rt) : Decidable (meetOk a b) := by unfold meetOk; infer_instance
/-- the rectangle that 'Meet' tells, and whether there is one -/
def meetV (a b : Rt) : Rt := if meetOk a b then meetR a b else ⟨0, 0, 0, 0⟩
def meetB (a b : Rt) : Bool := decide (meetOk a b)
theorem meetV_no {a b : Rt} (h : ¬ meetOk a b) : meetV a b = ⟨0, 0, 0, 0⟩ := if_neg h
theorem meetB_no {a b : Rt} (h : ¬ meetOk a b) : meetB a b = false := by simp [meetB, h]
theorem meetV_yes {a b : Rt} (h : meetOk a b) : meetV a b = meetR a b := if_pos h
theorem meetB_yes {a b : Rt} (h : meetOk a b) : meetB a b = true := by simp [meetB, h]

end Go.Proofs.YtbnjbgcadkdljaaGreatDoor

namespace Go.Proofs.YtbnjbgcadkdljaaGreatDoor
open Go.RowKit
theorem within_zero {x0 y0 x1 y1 w h : Int} (hw1 : -9223372036854775808 ≤ w) (hw2 : w ≤ 9223372036854775807) (hh1 : -9223372036854775808 ≤ h) (hh2 : h ≤ 9223372036854775807) (h0 : withinC x0 y0 x1 y1 w h = 0) :
    (1 ≤ w ∧ w ≤ 1024 ∧ 1 ≤ h ∧ h ≤ 1024) ∧ 0 ≤ x0 ∧ x0 ≤ x1 ∧ x1 < w ∧ 0 ≤ y0 ∧ y0 ≤ y1 ∧ y1 < h := by
  unfold withinC at h0
  simp only [insideB_not] at h0
  split at h0
  · cases h0
  · rename_i h1
    split at h0
    · cases h0
    · rename_i h2
      split at h0
      · cases h0
      · unfold wrap64 at h1; omega

end Go.Proofs.YtbnjbgcadkdljaaGreatDoor

namespace Go.Proofs.YtbnjbgcadkdljaaGreatDoor
open Go.RowKit
def floorI (n : Int) : Int := 16 * (n / 16)
theorem floor_bits : ∀ n : Nat, n < 1024 → bits .andNot .i64 (n : Int) 15 = 16 * ((n : Int) / 16) := by decide +kernel

theorem floor_any (n : Int) (w : World) (h0 : 0 ≤ n) (h1 : n < 1024) :
    Calls Tryz.prog 80 #[.int .i64 n] w fun r w' => r = .returned (.int .i64 (floorI n)) ∧ w = w' := by
  obtain ⟨k, rfl⟩ := Int.eq_ofNat_of_zero_le h0
  have hk := floor_bits k (by omega)
  have Hk := Lib.hid hk
  clear hk
  go_enter Tryz.func80, Tryz.ntmps80
  go_wp2
  go_ret
  exact ⟨ret_int Hk.out, rfl⟩

/-- 'Nth': is there one, and which -/
def nthB (x0 y0 x1 y1 i : Int) : Bool := insideB i (areaI x0 y0 x1 y1)
def nthX (x0 y0 x1 y1 i : Int) : Int := if nthB x0 y0 x1 y1 i then x0 + i % (x1 - x0 + 1) else 0
def nthY (x0 y0 x1 y1 i : Int) : Int := if nthB x0 y0 x1 y1 i then y0 + i / (x1 - x0 + 1) else 0
theorem area_right {x0 y0 x1 y1 i : Int} (h : insideB i (areaI x0 y0 x1 y1) = true) : RightP x0 y0 x1 y1 := by
  rw [insideB_iff] at h
  by_cases hr : RightP x0 y0 x1 y1
  · exact hr
  · rw [areaI, if_neg hr] at h; omega
theorem nth_bd {x0 y0 x1 y1 i : Int} (hr : RightP x0 y0 x1 y1) (h0 : 0 ≤ i) (h1 : i < areaI x0 y0 x1 y1) : 0 ≤ i % (x1 - x0 + 1) ∧ i % (x1 - x0 + 1) ≤ x1 - x0 ∧ 0 ≤ i / (x1 - x0 + 1) ∧ i / (x1 - x0 + 1) ≤ y1 - y0 := by
  rw [areaI, if_pos hr] at h1
  unfold RightP at hr
  have a := Int.emod_nonneg i (b := x1 - x0 + 1) (by omega)
  have b := Int.emod_lt_of_pos i (b := x1 - x0 + 1) (by omega)
  have d := Int.ediv_nonneg h0 (b := x1 - x0 + 1) (by omega)
  have e : i / (x1 - x0 + 1) < y1 - y0 + 1 := Int.ediv_lt_of_lt_mul (by omega) (by rw [Int.mul_comm]; exact h1)
  omega

set_option maxHeartbeats 1000000 in
theorem nth_any (x0 y0 x1 y1 i : Int) (w : World) :
    Calls Tryz.prog 99 #[.agg #[.int .i64 x0, .int .i64 y0, .int .i64 x1, .int .i64 y1], .int .i64 i] w fun r w' => r = .returned (.tuple #[.agg #[.int .i64 (nthX x0 y0 x1 y1 i), .int .i64 (nthY x0 y0 x1 y1 i)], .bool (nthB x0 y0 x1 y1 i)]) ∧ Below w.heap.size w w' := by
  by_cases hi : nthB x0 y0 x1 y1 i = true
  · have hr := area_right hi
    have hr' := hr
    unfold RightP at hr'
    obtain ⟨h0, h1⟩ := (insideB_iff _ _).1 hi
    obtain ⟨_, _, _, _⟩ := nth_bd hr h0 h1
    rw [nthX, nthY, if_pos hi, if_pos hi, hi]
    have hi' : insideB i (areaI x0 y0 x1 y1) = true := hi
    have hd1 : wrap64 (i.tdiv (x1 - x0 + 1)) = i / (x1 - x0 + 1) := by rw [Int.tdiv_eq_ediv_of_nonneg h0, IntWalk.wrap64_in _ ⟨by omega, by omega⟩]
    have hd2 : wrap64 (y0 + i / (x1 - x0 + 1)) = y0 + i / (x1 - x0 + 1) := IntWalk.wrap64_in _ ⟨by omega, by omega⟩
    clear hi h1
    go_enter Tryz.func99, Tryz.ntmps99
    go_wp2_with (first | (go_at_call 62; refine (area_any _ _ _ _ _).mono ?_; rintro e w' ⟨rfl, hb⟩; obtain ⟨hc, hf, hl⟩ := rules hb (Nat.le_refl _); have hz0 := hl (w.heap.size) (by first | (simp; done) | assumption | (simp; omega)); have hz1 := hl (w.heap.size + 1) (by first | (simp; done) | assumption | (simp; omega)); clear hl) | (go_at_call 78; refine (inside_any _ _ _).mono ?_; rintro e w' ⟨rfl, rfl⟩))
    refine wp_region_over_tail 15 (by kernel_rfl) (by kernel_rfl) ?_
    simp only [List.take_succ_cons, List.take_zero, List.drop_succ_cons, List.drop_zero]
    repeat (go_big_quiet_step ((first | (go_at_call 97; exact (width_any _ _ _ _ _ hr).over))))
    refine wpQuiet_nil ?_
    intro w2 w2b
    obtain ⟨w2c, w2f, w2l⟩ := rules w2b (Nat.le_refl _); have w2z0 := w2l (w.heap.size) (by first | (simp; done) | assumption | (simp; omega)); have w2z1 := w2l (w.heap.size + 1) (by first | (simp; done) | assumption | (simp; omega)); clear w2l
    go_wp2
    exact bodyPost_ret (v := .tuple #[.agg #[.int .i64 (x0 + i % (x1 - x0 + 1)), .int .i64 (y0 + i / (x1 - x0 + 1))], .bool true]) (by simp [results, Tryz.results99, go_sem, *]) rfl ⟨rfl, (by repeat (first | with_reducible exact Below.refl _ _ | with_reducible assumption | with_reducible refine below_alloc ?_ _ | with_reducible refine below_draw ?_ | ((with_reducible apply bset); (focus (first | exact Nat.le_refl _ | (simp; done) | (simp; omega)))) | ((with_reducible apply bcall); assumption; (focus (first | exact Nat.le_refl _ | (simp; done) | (simp; omega))))))⟩
  · rw [nthX, nthY, if_neg hi, if_neg hi]
    have hb : nthB x0 y0 x1 y1 i = false := by simpa using hi
    have hi' : insideB i (areaI x0 y0 x1 y1) = false := hb
    rw [hb]
    clear hi hb
    go_enter Tryz.func99, Tryz.ntmps99
    go_wp2_with (first | (go_at_call 62; refine (area_any _ _ _ _ _).mono ?_; rintro e w' ⟨rfl, hb⟩; obtain ⟨hc, hf, hl⟩ := rules hb (Nat.le_refl _); have hz0 := hl (w.heap.size) (by first | (simp; done) | assumption | (simp; omega)); have hz1 := hl (w.heap.size + 1) (by first | (simp; done) | assumption | (simp; omega)); clear hl) | (go_at_call 78; refine (inside_any _ _ _).mono ?_; rintro e w' ⟨rfl, rfl⟩))
    exact bodyPost_ret (v := .tuple #[.agg #[.int .i64 0, .int .i64 0], .bool false]) (by simp [results, Tryz.results99, go_sem, *]) rfl ⟨rfl, (by repeat (first | with_reducible exact Below.refl _ _ | with_reducible assumption | with_reducible refine below_alloc ?_ _ | with_reducible refine below_draw ?_ | ((with_reducible apply bset); (focus (first | exact Nat.le_refl _ | (simp; done) | (simp; omega)))) | ((with_reducible apply bcall); assumption; (focus (first | exact Nat.le_refl _ | (simp; done) | (simp; omega))))))⟩

end Go.Proofs.YtbnjbgcadkdljaaGreatDoor

namespace Go.Proofs.YtbnjbgcadkdljaaGreatDoor
open Go.RowKit

/-- the cells of rectangles, one behind the other -/
def rcells (l : List Rt) : List Value := l.flatMap fun r => [.int .i64 r.x0, .int .i64 r.y0, .int .i64 r.x1, .int .i64 r.y1]
theorem rcells_snoc (l : List Rt) (r : Rt) : rcells (l ++ [r]) = rcells l ++ [.int .i64 r.x0, .int .i64 r.y0, .int .i64 r.x1, .int .i64 r.y1] := by simp [rcells]
/-- the piece of a rectangle that lies in the tile at x, y -/
def pieceAt (r : Rt) (y x : Int) : Rt := ⟨mx x r.x0, mx y r.y0, mn (x + 16 - 1) r.x1, mn (y + 16 - 1) r.y1⟩
/-- the first n pieces of the row of tiles at y -/
def pieceRow (r : Rt) (y : Int) (n : Nat) : List Rt := (List.range n).map fun (j : Nat) => pieceAt r y (floorI r.x0 + 16 * (j : Int))
/-- the pieces of the first k rows of tiles -/
def pieceRows (r : Rt) (m : Nat) : Nat → List Rt
  | 0 => []
  | k + 1 => pieceRows r m k ++ pieceRow r (floorI r.y0 + 16 * (k : Int)) m
def tilesOf (a b : Int) : Nat := ((b - floorI a) / 16 + 1).toNat
def piecesL (r : Rt) : List Rt := if r.right then pieceRows r (tilesOf r.x0 r.x1) (tilesOf r.y0 r.y1) else []
theorem pieceRow_succ (r : Rt) (y : Int) (n : Nat) : pieceRow r y (n + 1) = pieceRow r y n ++ [pieceAt r y (floorI r.x0 + 16 * (n : Int))] := by simp [pieceRow, List.range_succ]
theorem pieceRow_len (r : Rt) (y : Int) (n : Nat) : (pieceRow r y n).length = n := by simp [pieceRow]
theorem pieceRows_len (r : Rt) (m k : Nat) : (pieceRows r m k).length = k * m := by
  induction k with
  | zero => simp [pieceRows]
  | succ k ih => simp [pieceRows, ih, pieceRow_len, Nat.succ_mul]
theorem tiles_lt {a b : Int} (_h0 : 0 ≤ a) (_h1 : a ≤ b) (k : Nat) : floorI a + 16 * (k : Int) ≤ b ↔ k < tilesOf a b := by unfold tilesOf floorI; omega
theorem tiles_le {a b : Int} (h0 : 0 ≤ a) (h2 : b < 1024) : tilesOf a b ≤ 64 := by unfold tilesOf floorI; omega
theorem floor_bd {a : Int} (h0 : 0 ≤ a) : 0 ≤ floorI a ∧ floorI a ≤ a := by unfold floorI; omega
theorem rect_info : (Tryz.prog.info? 54).map (fun i => (i.zero, i.size, i.bytes)) = some (some (.agg #[.int .i64 0, .int .i64 0, .int .i64 0, .int .i64 0]), 4, 32) := by kernel_rfl
/-- a slice value that reads as a list of rectangles, in memory of the call's own -/
def OwnRects (B : Nat) (w : World) (v : Value) (l : List Rt) : Prop := w.ownsRow B 54 4 v l.length (rcells l)
theorem ownsRow_mono {w : World} {B B' : Nat} {e : TypeId} {size : Nat} {v : Value} {n : Nat} {xs : List Value} (h : w.ownsRow B e size v n xs) (hB : B' ≤ B) : w.ownsRow B' e size v n xs := by
  obtain ⟨h1, h2 | ⟨g, cap, cur, hv, hg, r⟩⟩ := h
  · exact ⟨h1, .inl h2⟩
  · exact ⟨h1, .inr ⟨g, cap, cur, hv, Nat.le_trans hB hg, r⟩⟩
theorem ownRects_push {B : Nat} {w : World} {v : Value} {l : List Rt} {n : Nat} {xs : List Value} (r : Rt) (h : w.ownsRow B 54 4 v (n + 1) (xs ++ [.int .i64 r.x0, .int .i64 r.y0, .int .i64 r.x1, .int .i64 r.y1]))
    (hn : n = l.length) (hx : xs = rcells l) : OwnRects B w v (l ++ [r]) := by
  subst hn hx
  unfold OwnRects
  rw [rcells_snoc, List.length_append]
  exact h

set_option maxHeartbeats 2000000 in
theorem pieces_any (x0 y0 x1 y1 : Int) (w : World) :
    Calls Tryz.prog 36 #[.agg #[.int .i64 x0, .int .i64 y0, .int .i64 x1, .int .i64 y1]] w fun e w' => ∃ v, e = .returned v ∧ OwnRects w.heap.size w' v (piecesL ⟨x0, y0, x1, y1⟩) ∧ Below w.heap.size w w' := by
  by_cases hr : RightP x0 y0 x1 y1
  · have hR := (rightB_iff _ _ _ _).2 hr
    have hl : piecesL ⟨x0, y0, x1, y1⟩ = pieceRows ⟨x0, y0, x1, y1⟩ (tilesOf x0 x1) (tilesOf y0 y1) := if_pos hr
    rw [hl]
    clear hl
    obtain ⟨_, _, _, _, _, _⟩ := hr
    have hmx := tiles_lt (a := x0) (b := x1) (by omega) (by omega)
    have hmy := tiles_lt (a := y0) (b := y1) (by omega) (by omega)
    have hnx := tiles_le (a := x0) (b := x1) (by omega) (by omega)
    have hny := tiles_le (a := y0) (b := y1) (by omega) (by omega)
    have hfx := floor_bd (a := x0) (by omega)
    have hfy := floor_bd (a := y0) (by omega)
    generalize hm : tilesOf x0 x1 = m at *
    generalize hn : tilesOf y0 y1 = n at *
    have Hmx := Lib.hid hmx
    have Hmy := Lib.hid hmy
    clear hmx hmy hm hn
    go_enter Tryz.func36, Tryz.ntmps36
    go_wp2_with fail
    refine (right_any _ _ _ _ _).mono ?_
    rintro e W1 ⟨rfl, h1b⟩
    obtain ⟨h1c, h1f, h1l⟩ := rules h1b (Nat.le_refl _); have h1z0 := h1l (w.heap.size) (by first | (simp; done) | assumption | (simp; omega))
    clear h1l
    go_wp2_with (go_at_call 80; refine (floor_any _ _ (by omega) (by omega)).mono ?_; rintro e w' ⟨rfl, rfl⟩)
    go_loopw [3, 4] (fun v y wr => ∃ k : Nat, k ≤ n ∧ y = .int .i64 (floorI y0 + 16 * (k : Int)) ∧ OwnRects W1.heap.size wr v (pieceRows ⟨x0, y0, x1, y1⟩ m k) ∧ Below W1.heap.size W1 wr ∧ W1.heap.size ≤ wr.heap.size) (fun _ y _ => (1100 - intOf y).toNat)
    case atStart => exact ⟨0, Nat.zero_le _, by simp, World.ownsRow_nil _ _ _ _, Below.refl _ _, Nat.le_refl _⟩
    case round =>
      obtain ⟨k, hk, rfl, hown, hE, hB⟩ := hrel
      have hEc := (rules hE (Nat.le_refl _)).1
      have hown0 := hown
      unfold OwnRects at hown0
      rw [pieceRows_len] at hown0
      by_cases hkn : k < n
      · have hy : floorI y0 + 16 * (k : Int) ≤ y1 := (Hmy.out k).2 hkn
        go_wp2_with (first | (go_at_call 80; refine (floor_any _ _ (by omega) (by omega)).mono ?_; rintro e w' ⟨rfl, rfl⟩) | fail)
        obtain ⟨wo, rfl⟩ : ∃ wo : World, wo = wr := ⟨_, rfl⟩
        go_loopw [3, 5] (fun v x wr => ∃ j : Nat, j ≤ m ∧ x = .int .i64 (floorI x0 + 16 * (j : Int)) ∧ OwnRects W1.heap.size wr v (pieceRows ⟨x0, y0, x1, y1⟩ m k ++ pieceRow ⟨x0, y0, x1, y1⟩ (floorI y0 + 16 * (k : Int)) j) ∧ Below W1.heap.size W1 wr ∧ W1.heap.size ≤ wr.heap.size) (fun _ x _ => (1100 - intOf x).toNat)
        case atStart => exact ⟨0, Nat.zero_le _, by simp, by simpa [pieceRow] using hown, hE, hB⟩
        case round =>
          obtain ⟨j, hj, rfl, hown2, hE2, hB2⟩ := hrel
          have hEc2 := (rules hE2 (Nat.le_refl _)).1
          clear hEc hE
          by_cases hjm : j < m
          · have hx : floorI x0 + 16 * (j : Int) ≤ x1 := (Hmx.out j).2 hjm
            have hlen : (pieceRows ⟨x0, y0, x1, y1⟩ m k ++ pieceRow ⟨x0, y0, x1, y1⟩ (floorI y0 + 16 * (k : Int)) j).length = k * m + j := by rw [List.length_append, pieceRows_len, pieceRow_len]
            have Hlen := Lib.hid hlen
            clear hlen
            have hkm : k * m ≤ 64 * 64 := Nat.mul_le_mul (by omega) (by omega)
            have hown3 := hown2
            unfold OwnRects at hown3
            rw [Hlen.out] at hown3
            go_wp2_with (at_builtin; refine wpList_push rfl (.tmp 49) (.tmp 51) 47 54 rfl Tryz.underlying47 _ 4 32 rect_info rfl (by decide) _ (k * m + j) _ rfl W1.heap.size (hown3.alloc _) W1 (hE2.alloc hB2 _) (by simp; omega) _ _ _ (by simp) rfl rfl (by simp [Value.oneCell']) (by unfold maxLen; omega) (by omega) ?_; intro v' w' hown' hE' hB')
            have hfin := ownRects_push (pieceAt ⟨x0, y0, x1, y1⟩ (floorI y0 + 16 * (k : Int)) (floorI x0 + 16 * (j : Int))) hown' Hlen.out.symm rfl
            clear hown' hown2 hown3 hE2 hB2 hEc2
            go_wp2
            go_roundw
            case rel => exact ⟨j + 1, by omega, by simp; omega, by rw [pieceRow_succ, ← List.append_assoc]; exact hfin, hE', hB'⟩
            case measure => simp [intOf]; omega
          · have hx : ¬ floorI x0 + 16 * (j : Int) ≤ x1 := fun h => hjm ((Hmx.out j).1 h)
            obtain rfl : j = m := by omega
            go_wp2
            go_roundw
            case rel => exact ⟨k + 1, by omega, by simp; omega, by simpa [pieceRows] using hown2, hE2, hB2⟩
            case measure => simp [intOf]; omega
      · have hy : ¬ floorI y0 + 16 * (k : Int) ≤ y1 := fun h => hkn ((Hmy.out k).1 h)
        obtain rfl : k = n := by omega
        go_wp2
        go_ret
        exact ⟨_, rfl, ownsRow_mono hown (by have := h1b.size; simp at this; omega), (by repeat (first | with_reducible exact Below.refl _ _ | with_reducible assumption | with_reducible refine below_alloc ?_ _ | with_reducible refine below_draw ?_ | ((with_reducible apply bset); (focus (first | exact Nat.le_refl _ | (simp; done) | (simp; omega)))) | ((with_reducible apply bcall); assumption; (focus (first | exact Nat.le_refl _ | (simp; done) | (simp; omega))))))⟩
  · have hR := (rightB_not _ _ _ _).2 hr
    have hl : piecesL ⟨x0, y0, x1, y1⟩ = [] := if_neg hr
    rw [hl]
    clear hl hr
    go_enter Tryz.func36, Tryz.ntmps36
    go_wp2_with (go_at_call 79; refine (right_any _ _ _ _ _).mono ?_; rintro e w' ⟨rfl, hb⟩; obtain ⟨hc, hf, hl⟩ := rules hb (Nat.le_refl _); have hz0 := hl (w.heap.size) (by first | (simp; done) | assumption | (simp; omega)); clear hl)
    go_ret
    exact ⟨_, rfl, World.ownsRow_nil _ _ _ _, (by repeat (first | with_reducible exact Below.refl _ _ | with_reducible assumption | with_reducible refine below_alloc ?_ _ | with_reducible refine below_draw ?_ | ((with_reducible apply bset); (focus (first | exact Nat.le_refl _ | (simp; done) | (simp; omega)))) | ((with_reducible apply bcall); assumption; (focus (first | exact Nat.le_refl _ | (simp; done) | (simp; omega))))))⟩
end Go.Proofs.YtbnjbgcadkdljaaGreatDoor

namespace Go.Proofs.YtbnjbgcadkdljaaGreatDoor
open Go.RowKit
def sumF (f : Rt → Int) : List Rt → Int
  | [] => 0
  | r :: l => f r + sumF f l
theorem sumF_app (f : Rt → Int) (a b : List Rt) : sumF f (a ++ b) = sumF f a + sumF f b := by
  induction a with
  | nil => simp [sumF]
  | cons r a ih => simp only [List.cons_append, sumF, ih]; omega
def sumN (u : Nat → Int) : Nat → Int
  | 0 => 0
  | n + 1 => sumN u n + u n
theorem sumF_row {f : Rt → Int} {r : Rt} {y : Int} {u : Nat → Int} {v : Int} {n : Nat} (h : ∀ j, j < n → f (pieceAt r y (floorI r.x0 + 16 * (j : Int))) = u j * v) : sumF f (pieceRow r y n) = sumN u n * v := by
  induction n with
  | zero => simp [pieceRow, sumF, sumN]
  | succ n ih =>
    rw [pieceRow_succ, sumF_app, ih (fun j hj => h j (by omega))]
    simp only [sumF, sumN]
    rw [h n (by omega), Int.add_mul]
    omega
theorem sumF_rows {f : Rt → Int} {r : Rt} {u v : Nat → Int} {m K : Nat} (h : ∀ k, k < K → ∀ j, j < m → f (pieceAt r (floorI r.y0 + 16 * (k : Int)) (floorI r.x0 + 16 * (j : Int))) = u j * v k) : sumF f (pieceRows r m K) = sumN u m * sumN v K := by
  induction K with
  | zero => simp [pieceRows, sumF, sumN]
  | succ K ih =>
    simp only [pieceRows, sumN]
    rw [sumF_app, ih (fun k hk => h k (by omega)), sumF_row (v := v K) (fun j hj => h K (by omega) j hj), Int.mul_add]
def hasS (a b c : Int) (j : Nat) : Int := if mx (floorI a + 16 * (j : Int)) a ≤ c ∧ c ≤ mn (floorI a + 16 * (j : Int) + 16 - 1) b then 1 else 0
theorem sum_has {a b c : Int} (h0 : 0 ≤ a) (h1 : a ≤ b) : ∀ n : Nat, n ≤ tilesOf a b → sumN (hasS a b c) n = if n ≠ 0 ∧ a ≤ c ∧ c ≤ mn (floorI a + 16 * (n : Int) - 1) b then 1 else 0
  | 0, _ => rfl
  | n + 1, hn => by
    have ih := sum_has (c := c) h0 h1 n (by omega)
    have ht := (tiles_lt h0 h1 n).2 (by omega)
    simp only [sumN]
    rw [ih]
    unfold hasS mn mx
    unfold floorI at *
    omega
theorem sum_has_all {a b c : Int} (h0 : 0 ≤ a) (h1 : a ≤ b) : sumN (hasS a b c) (tilesOf a b) = if a ≤ c ∧ c ≤ b then 1 else 0 := by
  have hp := (tiles_lt h0 h1 0).1 (by unfold floorI; omega)
  have hq := (tiles_lt h0 h1 (tilesOf a b))
  have : ¬ floorI a + 16 * ((tilesOf a b : Nat) : Int) ≤ b := fun h => absurd (hq.1 h) (Nat.lt_irrefl _)
  rw [sum_has h0 h1 _ (Nat.le_refl _)]
  unfold mn
  split <;> split <;> omega
def inS (c d : Int) (r : Rt) : Int := if r.x0 ≤ c ∧ c ≤ r.x1 ∧ r.y0 ≤ d ∧ d ≤ r.y1 then 1 else 0
theorem pieces_has {r : Rt} {c d : Int} (h0 : 0 ≤ r.x0) (h1 : r.x0 ≤ r.x1) (h2 : 0 ≤ r.y0) (h3 : r.y0 ≤ r.y1) : sumF (inS c d) (pieceRows r (tilesOf r.x0 r.x1) (tilesOf r.y0 r.y1)) = inS c d r := by
  have hprod : ∀ (p q : Prop) [Decidable p] [Decidable q], (if p ∧ q then (1 : Int) else 0) = (if p then 1 else 0) * (if q then 1 else 0) := by
    intro p q _ _
    by_cases hp : p <;> by_cases hq : q <;> simp [hp, hq]
  rw [sumF_rows (u := hasS r.x0 r.x1 c) (v := hasS r.y0 r.y1 d) (fun k _ j _ => by
    unfold hasS inS
    rw [← hprod]
    simp only [pieceAt, and_assoc]
    exact ite_congr rfl (fun _ => rfl) (fun _ => rfl)), sum_has_all h0 h1, sum_has_all h2 h3, ← hprod]
  simp only [inS, and_assoc]
/-- how many of a side's tiles lie ahead of the n-th tile of all -/
def cl (a b : Int) (n : Nat) : Nat := min ((n : Int) - a / 16).toNat (tilesOf a b)
theorem cl_zero {a b : Int} (h0 : 0 ≤ a) : cl a b 0 = 0 := by unfold cl; omega
theorem cl_all {a b : Int} (h0 : 0 ≤ a) (h2 : b < 1024) : cl a b 64 = tilesOf a b := by unfold cl tilesOf floorI; omega
theorem cl_in {a b : Int} {n : Nat} (h0 : 0 ≤ a) (h1 : a ≤ b) (h : floorI a ≤ 16 * (n : Int)) (h2 : 16 * (n : Int) ≤ b) : cl a b (n + 1) = cl a b n + 1 ∧ floorI a + 16 * ((cl a b n : Nat) : Int) = 16 * (n : Int) := by
  unfold cl tilesOf floorI at *; omega
theorem cl_out {a b : Int} {n : Nat} (h0 : 0 ≤ a) (h1 : a ≤ b) (h : ¬ (floorI a ≤ 16 * (n : Int) ∧ 16 * (n : Int) ≤ b)) : cl a b (n + 1) = cl a b n := by
  unfold cl tilesOf floorI at *; omega
def tileS (x y : Nat) : Rt := ⟨16 * (x : Int), 16 * (y : Int), 16 * (x : Int) + 15, 16 * (y : Int) + 15⟩
theorem meet_piece (r : Rt) (x y : Nat) : meetR r (tileS x y) = pieceAt r (16 * (y : Int)) (16 * (x : Int)) := by
  simp only [meetR, tileS, pieceAt, mx_eq, mn_eq, Rt.mk.injEq]; omega
theorem meet_tile {r : Rt} (hr : r.right) {x y : Nat} (hx : x < 64) (hy : y < 64) : meetOk r (tileS x y) ↔ (floorI r.x0 ≤ 16 * (x : Int) ∧ 16 * (x : Int) ≤ r.x1) ∧ (floorI r.y0 ≤ 16 * (y : Int) ∧ 16 * (y : Int) ≤ r.y1) := by
  unfold meetOk
  simp only [hr, true_and]
  unfold Rt.right RightP at *
  simp only [meetR, tileS, mx_eq, mn_eq]
  unfold floorI
  omega
/-- the reference's list: all tiles, row by row -/
def rowL (r : Rt) (y : Nat) : Nat → List Rt
  | 0 => []
  | x + 1 => rowL r y x ++ (if meetOk r (tileS x y) then [meetR r (tileS x y)] else [])
def allL (r : Rt) : Nat → List Rt
  | 0 => []
  | y + 1 => allL r y ++ rowL r y 64
theorem rowL_len (r : Rt) (y : Nat) : ∀ x, (rowL r y x).length ≤ x
  | 0 => Nat.le_refl _
  | x + 1 => by
    have := rowL_len r y x
    simp only [rowL, List.length_append]
    split <;> simp <;> omega
theorem allL_len (r : Rt) : ∀ y, (allL r y).length ≤ 64 * y
  | 0 => Nat.le_refl _
  | y + 1 => by
    have := allL_len r y
    have := rowL_len r y 64
    simp only [allL, List.length_append]
    omega
theorem rowL_no {r : Rt} {y : Nat} (h : ∀ x, x < 64 → ¬ meetOk r (tileS x y)) : ∀ x, x ≤ 64 → rowL r y x = []
  | 0, _ => rfl
  | x + 1, hx => by simp only [rowL, rowL_no h x (by omega), if_neg (h x (by omega)), List.append_nil]
theorem allL_no {r : Rt} (h : ¬ r.right) : ∀ y, allL r y = []
  | 0 => rfl
  | y + 1 => by simp only [allL, allL_no h y, rowL_no (fun x _ hm => h hm.1) 64 (Nat.le_refl _), List.append_nil]
theorem rowL_yes {r : Rt} (hr : r.right) {y : Nat} (hy : y < 64) (h : floorI r.y0 ≤ 16 * (y : Int) ∧ 16 * (y : Int) ≤ r.y1) : ∀ x, x ≤ 64 → rowL r y x = pieceRow r (16 * (y : Int)) (cl r.x0 r.x1 x)
  | 0, _ => by rw [cl_zero hr.1]; rfl
  | x + 1, hx => by
    have ih := rowL_yes hr hy h x (by omega)
    simp only [rowL, ih]
    by_cases hc : floorI r.x0 ≤ 16 * (x : Int) ∧ 16 * (x : Int) ≤ r.x1
    · obtain ⟨e1, e2⟩ := cl_in hr.1 hr.2.1 hc.1 hc.2
      rw [if_pos ((meet_tile hr (by omega) hy).2 ⟨hc, h⟩), e1, pieceRow_succ, e2, meet_piece]
    · rw [if_neg (fun hm => hc ((meet_tile hr (by omega) hy).1 hm).1), cl_out hr.1 hr.2.1 hc, List.append_nil]
theorem allL_yes {r : Rt} (hr : r.right) : ∀ y, y ≤ 64 → allL r y = pieceRows r (tilesOf r.x0 r.x1) (cl r.y0 r.y1 y)
  | 0, _ => by rw [cl_zero hr.2.2.2.1]; rfl
  | y + 1, hy => by
    have ih := allL_yes hr y (by omega)
    simp only [allL, ih]
    by_cases hc : floorI r.y0 ≤ 16 * (y : Int) ∧ 16 * (y : Int) ≤ r.y1
    · obtain ⟨e1, e2⟩ := cl_in hr.2.2.2.1 hr.2.2.2.2.1 hc.1 hc.2
      rw [rowL_yes hr (by omega) hc 64 (Nat.le_refl _), cl_all hr.1 hr.2.2.1, e1]
      simp only [pieceRows]
      rw [e2]
    · rw [rowL_no (fun x hx hm => hc ((meet_tile hr hx (by omega)).1 hm).2) 64 (Nat.le_refl _), cl_out hr.2.2.2.1 hr.2.2.2.2.1 hc, List.append_nil]
theorem allL_eq (r : Rt) : allL r 64 = piecesL r := by
  unfold piecesL
  by_cases hr : r.right
  · rw [if_pos hr, allL_yes hr 64 (Nat.le_refl _), cl_all hr.2.2.2.1 hr.2.2.2.2.2]
  · rw [if_neg hr, allL_no hr]
end Go.Proofs.YtbnjbgcadkdljaaGreatDoor
