/- rect.Pieces: a loop over the tiles' rows, in it one over a row's tiles. -/
import Derived.Test.YtdaiapghoihagaaRect2
import Derived.Test.YtdaiapghoihagaaPush
import Derived.Lib.Hide
set_option linter.unusedVariables false
set_option linter.unusedSimpArgs false
namespace Go.Proofs.Ytdaiapghoihagaa
open Go.RowKit

/-- the cells of rectangles, one behind the other -/
def rcells (l : List Rt) : List Value := l.flatMap fun r => [.int .i64 r.x0, .int .i64 r.y0, .int .i64 r.x1, .int .i64 r.y1]
theorem rcells_snoc (l : List Rt) (r : Rt) : rcells (l ++ [r]) = rcells l ++ [.int .i64 r.x0, .int .i64 r.y0, .int .i64 r.x1, .int .i64 r.y1] := by simp [rcells]
theorem rcells_nil : rcells [] = [] := rfl
/-- the piece of a rectangle that lies in the tile at x, y -/
def pieceAt (r : Rt) (y x : Int) : Rt := ⟨mx x r.x0, mx y r.y0, mn (x + 16 - 1) r.x1, mn (y + 16 - 1) r.y1⟩
/-- the first n pieces of the row of tiles at y -/
def pieceRow (r : Rt) (y : Int) (n : Nat) : List Rt := (List.range n).map fun (j : Nat) => pieceAt r y (floorI r.x0 + 16 * (j : Int))
/-- the pieces of the first k rows of tiles -/
def pieceRows (r : Rt) (m : Nat) : Nat → List Rt
  | 0 => []
  | k + 1 => pieceRows r m k ++ pieceRow r (floorI r.y0 + 16 * (k : Int)) m
def tilesOf (a b : Int) : Nat := ((b - floorI a) / 16 + 1).toNat
def piecesL (r : Rt) : List Rt := if r.right then pieceRows r (tilesOf r.x0 r.x1) (tilesOf r.y0 r.y1) else []
theorem pieceRow_succ (r : Rt) (y : Int) (n : Nat) : pieceRow r y (n + 1) = pieceRow r y n ++ [pieceAt r y (floorI r.x0 + 16 * (n : Int))] := by simp [pieceRow, List.range_succ]
theorem pieceRow_len (r : Rt) (y : Int) (n : Nat) : (pieceRow r y n).length = n := by simp [pieceRow]
theorem pieceRows_len (r : Rt) (m k : Nat) : (pieceRows r m k).length = k * m := by
  induction k with
  | zero => simp [pieceRows]
  | succ k ih => simp [pieceRows, ih, pieceRow_len, Nat.succ_mul]
theorem tiles_lt {a b : Int} (_h0 : 0 ≤ a) (_h1 : a ≤ b) (k : Nat) : floorI a + 16 * (k : Int) ≤ b ↔ k < tilesOf a b := by unfold tilesOf floorI; omega
theorem tiles_le {a b : Int} (h0 : 0 ≤ a) (h2 : b < 1024) : tilesOf a b ≤ 64 := by unfold tilesOf floorI; omega
theorem floor_bd {a : Int} (h0 : 0 ≤ a) : 0 ≤ floorI a ∧ floorI a ≤ a := by unfold floorI; omega
theorem rect_info : (Try.prog.info? 76).map (fun i => (i.zero, i.size, i.bytes)) = some (some (.agg #[.int .i64 0, .int .i64 0, .int .i64 0, .int .i64 0]), 4, 32) := by kernel_rfl
/-- a slice value that reads as a list of rectangles, in memory of the call's own -/
def OwnRects (B : Nat) (w : World) (v : Value) (l : List Rt) : Prop := w.ownsRow B 76 4 v l.length (rcells l)
theorem ownsRow_mono {w : World} {B B' : Nat} {e : TypeId} {size : Nat} {v : Value} {n : Nat} {xs : List Value} (h : w.ownsRow B e size v n xs) (hB : B' ≤ B) : w.ownsRow B' e size v n xs := by
  obtain ⟨h1, h2 | ⟨g, cap, cur, hv, hg, r⟩⟩ := h
  · exact ⟨h1, .inl h2⟩
  · exact ⟨h1, .inr ⟨g, cap, cur, hv, Nat.le_trans hB hg, r⟩⟩
theorem ownRects_push {B : Nat} {w : World} {v : Value} {l : List Rt} {n : Nat} {xs : List Value} (r : Rt) (h : w.ownsRow B 76 4 v (n + 1) (xs ++ [.int .i64 r.x0, .int .i64 r.y0, .int .i64 r.x1, .int .i64 r.y1]))
    (hn : n = l.length) (hx : xs = rcells l) : OwnRects B w v (l ++ [r]) := by
  subst hn hx
  unfold OwnRects
  rw [rcells_snoc, List.length_append]
  exact h

end Go.Proofs.Ytdaiapghoihagaa
