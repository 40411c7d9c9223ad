/- The plain law of layer 7's pieces: sums over all pieces are products of sums over each side's parts. -/
import Derived.Test.YtkphmcaoioaglaaRect3
set_option linter.unusedVariables false
set_option linter.unusedSimpArgs false
namespace Go.Proofs.Ytkphmcaoioaglaa
open Go.RowKit
def sumF (f : Rt → Int) : List Rt → Int
  | [] => 0
  | r :: l => f r + sumF f l
theorem sumF_app (f : Rt → Int) (a b : List Rt) : sumF f (a ++ b) = sumF f a + sumF f b := by
  induction a with
  | nil => simp [sumF]
  | cons r a ih => simp only [List.cons_append, sumF, ih]; omega
def sumN (u : Nat → Int) : Nat → Int
  | 0 => 0
  | n + 1 => sumN u n + u n
theorem sumF_row {f : Rt → Int} {r : Rt} {y : Int} {u : Nat → Int} {v : Int} {n : Nat} (h : ∀ j, j < n → f (pieceAt r y (floorI r.x0 + 16 * (j : Int))) = u j * v) : sumF f (pieceRow r y n) = sumN u n * v := by
  induction n with
  | zero => simp [pieceRow, sumF, sumN]
  | succ n ih =>
    rw [pieceRow_succ, sumF_app, ih (fun j hj => h j (by omega))]
    simp only [sumF, sumN]
    rw [h n (by omega), Int.add_mul]
    omega
theorem sumF_rows {f : Rt → Int} {r : Rt} {u v : Nat → Int} {m K : Nat} (h : ∀ k, k < K → ∀ j, j < m → f (pieceAt r (floorI r.y0 + 16 * (k : Int)) (floorI r.x0 + 16 * (j : Int))) = u j * v k) : sumF f (pieceRows r m K) = sumN u m * sumN v K := by
  induction K with
  | zero => simp [pieceRows, sumF, sumN]
  | succ K ih =>
    simp only [pieceRows, sumN]
    rw [sumF_app, ih (fun k hk => h k (by omega)), sumF_row (v := v K) (fun j hj => h K (by omega) j hj), Int.mul_add]
/-- how long the j-th part of a side is; whether a number lies in it -/
def lenS (a b : Int) (j : Nat) : Int := mn (floorI a + 16 * (j : Int) + 16 - 1) b - mx (floorI a + 16 * (j : Int)) a + 1
def hasS (a b c : Int) (j : Nat) : Int := if mx (floorI a + 16 * (j : Int)) a ≤ c ∧ c ≤ mn (floorI a + 16 * (j : Int) + 16 - 1) b then 1 else 0
theorem sum_len {a b : Int} (h0 : 0 ≤ a) (h1 : a ≤ b) : ∀ n : Nat, n ≤ tilesOf a b → sumN (lenS a b) n = if n = 0 then 0 else mn (floorI a + 16 * (n : Int) - 1) b - a + 1
  | 0, _ => rfl
  | n + 1, hn => by
    have ih := sum_len h0 h1 n (by omega)
    have ht := (tiles_lt h0 h1 n).2 (by omega)
    simp only [sumN]
    rw [ih, if_neg (show ¬ n + 1 = 0 by omega)]
    unfold lenS
    simp only [mn_eq, mx_eq]
    unfold floorI at *
    by_cases hz : n = 0
    · rw [if_pos hz]; omega
    · rw [if_neg hz]; omega
theorem sum_len_all {a b : Int} (h0 : 0 ≤ a) (h1 : a ≤ b) : sumN (lenS a b) (tilesOf a b) = b - a + 1 := by
  have hp := (tiles_lt h0 h1 0).1 (by unfold floorI; omega)
  have hq := (tiles_lt h0 h1 (tilesOf a b))
  rw [sum_len h0 h1 _ (Nat.le_refl _), if_neg (by omega)]
  unfold mn
  have : ¬ floorI a + 16 * ((tilesOf a b : Nat) : Int) ≤ b := fun h => absurd (hq.1 h) (Nat.lt_irrefl _)
  omega
theorem sum_has {a b c : Int} (h0 : 0 ≤ a) (h1 : a ≤ b) : ∀ n : Nat, n ≤ tilesOf a b → sumN (hasS a b c) n = if n ≠ 0 ∧ a ≤ c ∧ c ≤ mn (floorI a + 16 * (n : Int) - 1) b then 1 else 0
  | 0, _ => rfl
  | n + 1, hn => by
    have ih := sum_has (c := c) h0 h1 n (by omega)
    have ht := (tiles_lt h0 h1 n).2 (by omega)
    simp only [sumN]
    rw [ih]
    unfold hasS mn mx
    unfold floorI at *
    omega
theorem sum_has_all {a b c : Int} (h0 : 0 ≤ a) (h1 : a ≤ b) : sumN (hasS a b c) (tilesOf a b) = if a ≤ c ∧ c ≤ b then 1 else 0 := by
  have hp := (tiles_lt h0 h1 0).1 (by unfold floorI; omega)
  have hq := (tiles_lt h0 h1 (tilesOf a b))
  have : ¬ floorI a + 16 * ((tilesOf a b : Nat) : Int) ≤ b := fun h => absurd (hq.1 h) (Nat.lt_irrefl _)
  rw [sum_has h0 h1 _ (Nat.le_refl _)]
  unfold mn
  split <;> split <;> omega
def areaS (r : Rt) : Int := (r.x1 - r.x0 + 1) * (r.y1 - r.y0 + 1)
def inS (c d : Int) (r : Rt) : Int := if r.x0 ≤ c ∧ c ≤ r.x1 ∧ r.y0 ≤ d ∧ d ≤ r.y1 then 1 else 0
theorem pieces_area {r : Rt} (h0 : 0 ≤ r.x0) (h1 : r.x0 ≤ r.x1) (h2 : 0 ≤ r.y0) (h3 : r.y0 ≤ r.y1) : sumF areaS (pieceRows r (tilesOf r.x0 r.x1) (tilesOf r.y0 r.y1)) = areaS r := by
  rw [sumF_rows (u := lenS r.x0 r.x1) (v := lenS r.y0 r.y1) (fun k _ j _ => rfl), sum_len_all h0 h1, sum_len_all h2 h3]
  rfl
theorem pieces_has {r : Rt} {c d : Int} (h0 : 0 ≤ r.x0) (h1 : r.x0 ≤ r.x1) (h2 : 0 ≤ r.y0) (h3 : r.y0 ≤ r.y1) : sumF (inS c d) (pieceRows r (tilesOf r.x0 r.x1) (tilesOf r.y0 r.y1)) = inS c d r := by
  have hprod : ∀ (p q : Prop) [Decidable p] [Decidable q], (if p ∧ q then (1 : Int) else 0) = (if p then 1 else 0) * (if q then 1 else 0) := by
    intro p q _ _
    by_cases hp : p <;> by_cases hq : q <;> simp [hp, hq]
  rw [sumF_rows (u := hasS r.x0 r.x1 c) (v := hasS r.y0 r.y1 d) (fun k _ j _ => by
    unfold hasS inS
    rw [← hprod]
    simp only [pieceAt, and_assoc]
    exact ite_congr rfl (fun _ => rfl) (fun _ => rfl)), sum_has_all h0 h1, sum_has_all h2 h3, ← hprod]
  simp only [inS, and_assoc]
/-- how many of a side's tiles lie ahead of the n-th tile of all -/
def cl (a b : Int) (n : Nat) : Nat := min ((n : Int) - a / 16).toNat (tilesOf a b)
theorem cl_zero {a b : Int} (h0 : 0 ≤ a) : cl a b 0 = 0 := by unfold cl; omega
theorem cl_all {a b : Int} (h0 : 0 ≤ a) (h2 : b < 1024) : cl a b 64 = tilesOf a b := by unfold cl tilesOf floorI; omega
theorem cl_in {a b : Int} {n : Nat} (h0 : 0 ≤ a) (h1 : a ≤ b) (h : floorI a ≤ 16 * (n : Int)) (h2 : 16 * (n : Int) ≤ b) : cl a b (n + 1) = cl a b n + 1 ∧ floorI a + 16 * ((cl a b n : Nat) : Int) = 16 * (n : Int) := by
  unfold cl tilesOf floorI at *; omega
theorem cl_out {a b : Int} {n : Nat} (h0 : 0 ≤ a) (h1 : a ≤ b) (h : ¬ (floorI a ≤ 16 * (n : Int) ∧ 16 * (n : Int) ≤ b)) : cl a b (n + 1) = cl a b n := by
  unfold cl tilesOf floorI at *; omega
def tileS (x y : Nat) : Rt := ⟨16 * (x : Int), 16 * (y : Int), 16 * (x : Int) + 15, 16 * (y : Int) + 15⟩
theorem meet_piece (r : Rt) (x y : Nat) : meetR r (tileS x y) = pieceAt r (16 * (y : Int)) (16 * (x : Int)) := by
  simp only [meetR, tileS, pieceAt, mx_eq, mn_eq, Rt.mk.injEq]; omega
theorem meet_tile {r : Rt} (hr : r.right) {x y : Nat} (hx : x < 64) (hy : y < 64) : meetOk r (tileS x y) ↔ (floorI r.x0 ≤ 16 * (x : Int) ∧ 16 * (x : Int) ≤ r.x1) ∧ (floorI r.y0 ≤ 16 * (y : Int) ∧ 16 * (y : Int) ≤ r.y1) := by
  unfold meetOk
  simp only [hr, true_and]
  unfold Rt.right RightP at *
  simp only [meetR, tileS, mx_eq, mn_eq]
  unfold floorI
  omega
/-- the reference's list: all tiles, row by row -/
def rowL (r : Rt) (y : Nat) : Nat → List Rt
  | 0 => []
  | x + 1 => rowL r y x ++ (if meetOk r (tileS x y) then [meetR r (tileS x y)] else [])
def allL (r : Rt) : Nat → List Rt
  | 0 => []
  | y + 1 => allL r y ++ rowL r y 64
theorem rowL_len (r : Rt) (y : Nat) : ∀ x, (rowL r y x).length ≤ x
  | 0 => Nat.le_refl _
  | x + 1 => by
    have := rowL_len r y x
    simp only [rowL, List.length_append]
    split <;> simp <;> omega
theorem allL_len (r : Rt) : ∀ y, (allL r y).length ≤ 64 * y
  | 0 => Nat.le_refl _
  | y + 1 => by
    have := allL_len r y
    have := rowL_len r y 64
    simp only [allL, List.length_append]
    omega
theorem rowL_no {r : Rt} {y : Nat} (h : ∀ x, x < 64 → ¬ meetOk r (tileS x y)) : ∀ x, x ≤ 64 → rowL r y x = []
  | 0, _ => rfl
  | x + 1, hx => by simp only [rowL, rowL_no h x (by omega), if_neg (h x (by omega)), List.append_nil]
theorem allL_no {r : Rt} (h : ¬ r.right) : ∀ y, allL r y = []
  | 0 => rfl
  | y + 1 => by simp only [allL, allL_no h y, rowL_no (fun x _ hm => h hm.1) 64 (Nat.le_refl _), List.append_nil]
theorem rowL_yes {r : Rt} (hr : r.right) {y : Nat} (hy : y < 64) (h : floorI r.y0 ≤ 16 * (y : Int) ∧ 16 * (y : Int) ≤ r.y1) : ∀ x, x ≤ 64 → rowL r y x = pieceRow r (16 * (y : Int)) (cl r.x0 r.x1 x)
  | 0, _ => by rw [cl_zero hr.1]; rfl
  | x + 1, hx => by
    have ih := rowL_yes hr hy h x (by omega)
    simp only [rowL, ih]
    by_cases hc : floorI r.x0 ≤ 16 * (x : Int) ∧ 16 * (x : Int) ≤ r.x1
    · obtain ⟨e1, e2⟩ := cl_in hr.1 hr.2.1 hc.1 hc.2
      rw [if_pos ((meet_tile hr (by omega) hy).2 ⟨hc, h⟩), e1, pieceRow_succ, e2, meet_piece]
    · rw [if_neg (fun hm => hc ((meet_tile hr (by omega) hy).1 hm).1), cl_out hr.1 hr.2.1 hc, List.append_nil]
theorem allL_yes {r : Rt} (hr : r.right) : ∀ y, y ≤ 64 → allL r y = pieceRows r (tilesOf r.x0 r.x1) (cl r.y0 r.y1 y)
  | 0, _ => by rw [cl_zero hr.2.2.2.1]; rfl
  | y + 1, hy => by
    have ih := allL_yes hr y (by omega)
    simp only [allL, ih]
    by_cases hc : floorI r.y0 ≤ 16 * (y : Int) ∧ 16 * (y : Int) ≤ r.y1
    · obtain ⟨e1, e2⟩ := cl_in hr.2.2.2.1 hr.2.2.2.2.1 hc.1 hc.2
      rw [rowL_yes hr (by omega) hc 64 (Nat.le_refl _), cl_all hr.1 hr.2.2.1, e1]
      simp only [pieceRows]
      rw [e2]
    · rw [rowL_no (fun x hx hm => hc ((meet_tile hr hx (by omega)).1 hm).2) 64 (Nat.le_refl _), cl_out hr.2.2.2.1 hr.2.2.2.2.1 hc, List.append_nil]
theorem allL_eq (r : Rt) : allL r 64 = piecesL r := by
  unfold piecesL
  by_cases hr : r.right
  · rw [if_pos hr, allL_yes hr 64 (Nat.le_refl _), cl_all hr.2.2.2.1 hr.2.2.2.2.2]
  · rw [if_neg hr, allL_no hr]
end Go.Proofs.Ytkphmcaoioaglaa
