/- rect.Pieces: a loop over the tiles' rows, in it one over a row's tiles. -/
import Derived.Test.YtkphmcaoioaglaaRect2
import Derived.Test.YtkphmcaoioaglaaPush
import Derived.Lib.Hide
set_option linter.unusedVariables false
set_option linter.unusedSimpArgs false
namespace Go.Proofs.Ytkphmcaoioaglaa
open Go.RowKit

/-- the cells of rectangles, one behind the other -/
def rcells (l : List Rt) : List Value := l.flatMap fun r => [.int .i64 r.x0, .int .i64 r.y0, .int .i64 r.x1, .int .i64 r.y1]
theorem rcells_snoc (l : List Rt) (r : Rt) : rcells (l ++ [r]) = rcells l ++ [.int .i64 r.x0, .int .i64 r.y0, .int .i64 r.x1, .int .i64 r.y1] := by simp [rcells]
theorem rcells_nil : rcells [] = [] := rfl
/-- the piece of a rectangle that lies in the tile at x, y -/
def pieceAt (r : Rt) (y x : Int) : Rt := ⟨mx x r.x0, mx y r.y0, mn (x + 16 - 1) r.x1, mn (y + 16 - 1) r.y1⟩
/-- the first n pieces of the row of tiles at y -/
def pieceRow (r : Rt) (y : Int) (n : Nat) : List Rt := (List.range n).map fun (j : Nat) => pieceAt r y (floorI r.x0 + 16 * (j : Int))
/-- the pieces of the first k rows of tiles -/
def pieceRows (r : Rt) (m : Nat) : Nat → List Rt
  | 0 => []
  | k + 1 => pieceRows r m k ++ pieceRow r (floorI r.y0 + 16 * (k : Int)) m
def tilesOf (a b : Int) : Nat := ((b - floorI a) / 16 + 1).toNat
def piecesL (r : Rt) : List Rt := if r.right then pieceRows r (tilesOf r.x0 r.x1) (tilesOf r.y0 r.y1) else []
theorem pieceRow_succ (r : Rt) (y : Int) (n : Nat) : pieceRow r y (n + 1) = pieceRow r y n ++ [pieceAt r y (floorI r.x0 + 16 * (n : Int))] := by simp [pieceRow, List.range_succ]
theorem pieceRow_len (r : Rt) (y : Int) (n : Nat) : (pieceRow r y n).length = n := by simp [pieceRow]
theorem pieceRows_len (r : Rt) (m k : Nat) : (pieceRows r m k).length = k * m := by
  induction k with
  | zero => simp [pieceRows]
  | succ k ih => simp [pieceRows, ih, pieceRow_len, Nat.succ_mul]
theorem tiles_lt {a b : Int} (_h0 : 0 ≤ a) (_h1 : a ≤ b) (k : Nat) : floorI a + 16 * (k : Int) ≤ b ↔ k < tilesOf a b := by unfold tilesOf floorI; omega
theorem tiles_le {a b : Int} (h0 : 0 ≤ a) (h2 : b < 1024) : tilesOf a b ≤ 64 := by unfold tilesOf floorI; omega
theorem floor_bd {a : Int} (h0 : 0 ≤ a) : 0 ≤ floorI a ∧ floorI a ≤ a := by unfold floorI; omega
theorem rect_info : (Try.prog.info? 24).map (fun i => (i.zero, i.size, i.bytes)) = some (some (.agg #[.int .i64 0, .int .i64 0, .int .i64 0, .int .i64 0]), 4, 32) := by kernel_rfl
/-- a slice value that reads as a list of rectangles, in memory of the call's own -/
def OwnRects (B : Nat) (w : World) (v : Value) (l : List Rt) : Prop := w.ownsRow B 24 4 v l.length (rcells l)
theorem ownsRow_mono {w : World} {B B' : Nat} {e : TypeId} {size : Nat} {v : Value} {n : Nat} {xs : List Value} (h : w.ownsRow B e size v n xs) (hB : B' ≤ B) : w.ownsRow B' e size v n xs := by
  obtain ⟨h1, h2 | ⟨g, cap, cur, hv, hg, r⟩⟩ := h
  · exact ⟨h1, .inl h2⟩
  · exact ⟨h1, .inr ⟨g, cap, cur, hv, Nat.le_trans hB hg, r⟩⟩
theorem ownRects_push {B : Nat} {w : World} {v : Value} {l : List Rt} {n : Nat} {xs : List Value} (r : Rt) (h : w.ownsRow B 24 4 v (n + 1) (xs ++ [.int .i64 r.x0, .int .i64 r.y0, .int .i64 r.x1, .int .i64 r.y1]))
    (hn : n = l.length) (hx : xs = rcells l) : OwnRects B w v (l ++ [r]) := by
  subst hn hx
  unfold OwnRects
  rw [rcells_snoc, List.length_append]
  exact h

set_option maxHeartbeats 2000000 in
theorem pieces_any (x0 y0 x1 y1 : Int) (w : World) :
    Calls Try.prog 93 #[.agg #[.int .i64 x0, .int .i64 y0, .int .i64 x1, .int .i64 y1]] w fun e w' => ∃ v, e = .returned v ∧ OwnRects w.heap.size w' v (piecesL ⟨x0, y0, x1, y1⟩) ∧ Below w.heap.size w w' := by
  by_cases hr : RightP x0 y0 x1 y1
  · have hR := (rightB_iff _ _ _ _).2 hr
    have hl : piecesL ⟨x0, y0, x1, y1⟩ = pieceRows ⟨x0, y0, x1, y1⟩ (tilesOf x0 x1) (tilesOf y0 y1) := if_pos hr
    rw [hl]
    clear hl
    obtain ⟨_, _, _, _, _, _⟩ := hr
    have hmx := tiles_lt (a := x0) (b := x1) (by omega) (by omega)
    have hmy := tiles_lt (a := y0) (b := y1) (by omega) (by omega)
    have hnx := tiles_le (a := x0) (b := x1) (by omega) (by omega)
    have hny := tiles_le (a := y0) (b := y1) (by omega) (by omega)
    have hfx := floor_bd (a := x0) (by omega)
    have hfy := floor_bd (a := y0) (by omega)
    generalize hm : tilesOf x0 x1 = m at *
    generalize hn : tilesOf y0 y1 = n at *
    have Hmx := Lib.hid hmx
    have Hmy := Lib.hid hmy
    clear hmx hmy hm hn
    go_enter Try.func93, Try.ntmps93
    go_wp2_with fail
    refine (right_any _ _ _ _ _).mono ?_
    rintro e W1 ⟨rfl, h1b⟩
    obtain ⟨h1c, h1f, h1l⟩ := rules h1b (Nat.le_refl _); have h1z0 := h1l (w.heap.size) (by first | (simp; done) | assumption | (simp; omega))
    clear h1l
    go_wp2_with (go_at_call 121; refine (floor_any _ _ (by omega) (by omega)).mono ?_; rintro e w' ⟨rfl, rfl⟩)
    go_loopw [3, 4] (fun v y wr => ∃ k : Nat, k ≤ n ∧ y = .int .i64 (floorI y0 + 16 * (k : Int)) ∧ OwnRects W1.heap.size wr v (pieceRows ⟨x0, y0, x1, y1⟩ m k) ∧ Below W1.heap.size W1 wr ∧ W1.heap.size ≤ wr.heap.size) (fun _ y _ => (1100 - intOf y).toNat)
    case atStart => exact ⟨0, Nat.zero_le _, by simp, World.ownsRow_nil _ _ _ _, Below.refl _ _, Nat.le_refl _⟩
    case round =>
      obtain ⟨k, hk, rfl, hown, hE, hB⟩ := hrel
      have hEc := (rules hE (Nat.le_refl _)).1
      have hown0 := hown
      unfold OwnRects at hown0
      rw [pieceRows_len] at hown0
      by_cases hkn : k < n
      · have hy : floorI y0 + 16 * (k : Int) ≤ y1 := (Hmy.out k).2 hkn
        go_wp2_with (first | (go_at_call 121; refine (floor_any _ _ (by omega) (by omega)).mono ?_; rintro e w' ⟨rfl, rfl⟩) | fail)
        obtain ⟨wo, rfl⟩ : ∃ wo : World, wo = wr := ⟨_, rfl⟩
        go_loopw [3, 5] (fun v x wr => ∃ j : Nat, j ≤ m ∧ x = .int .i64 (floorI x0 + 16 * (j : Int)) ∧ OwnRects W1.heap.size wr v (pieceRows ⟨x0, y0, x1, y1⟩ m k ++ pieceRow ⟨x0, y0, x1, y1⟩ (floorI y0 + 16 * (k : Int)) j) ∧ Below W1.heap.size W1 wr ∧ W1.heap.size ≤ wr.heap.size) (fun _ x _ => (1100 - intOf x).toNat)
        case atStart => exact ⟨0, Nat.zero_le _, by simp, by simpa [pieceRow] using hown, hE, hB⟩
        case round =>
          obtain ⟨j, hj, rfl, hown2, hE2, hB2⟩ := hrel
          have hEc2 := (rules hE2 (Nat.le_refl _)).1
          clear hEc hE
          by_cases hjm : j < m
          · have hx : floorI x0 + 16 * (j : Int) ≤ x1 := (Hmx.out j).2 hjm
            have hlen : (pieceRows ⟨x0, y0, x1, y1⟩ m k ++ pieceRow ⟨x0, y0, x1, y1⟩ (floorI y0 + 16 * (k : Int)) j).length = k * m + j := by rw [List.length_append, pieceRows_len, pieceRow_len]
            have Hlen := Lib.hid hlen
            clear hlen
            have hkm : k * m ≤ 64 * 64 := Nat.mul_le_mul (by omega) (by omega)
            have hown3 := hown2
            unfold OwnRects at hown3
            rw [Hlen.out] at hown3
            go_wp2_with (at_builtin; refine wpList_push rfl (.tmp 49) (.tmp 51) 88 24 rfl Try.underlying88 _ 4 32 rect_info rfl (by decide) _ (k * m + j) _ rfl W1.heap.size (hown3.alloc _) W1 (hE2.alloc hB2 _) (by simp; omega) _ _ _ (by simp) rfl rfl (by simp [Value.oneCell']) (by unfold maxLen; omega) (by omega) ?_; intro v' w' hown' hE' hB')
            have hfin := ownRects_push (pieceAt ⟨x0, y0, x1, y1⟩ (floorI y0 + 16 * (k : Int)) (floorI x0 + 16 * (j : Int))) hown' Hlen.out.symm rfl
            clear hown' hown2 hown3 hE2 hB2 hEc2
            go_wp2
            go_roundw
            case rel => exact ⟨j + 1, by omega, by simp; omega, by rw [pieceRow_succ, ← List.append_assoc]; exact hfin, hE', hB'⟩
            case measure => simp [intOf]; omega
          · have hx : ¬ floorI x0 + 16 * (j : Int) ≤ x1 := fun h => hjm ((Hmx.out j).1 h)
            obtain rfl : j = m := by omega
            go_wp2
            go_roundw
            case rel => exact ⟨k + 1, by omega, by simp; omega, by simpa [pieceRows] using hown2, hE2, hB2⟩
            case measure => simp [intOf]; omega
      · have hy : ¬ floorI y0 + 16 * (k : Int) ≤ y1 := fun h => hkn ((Hmy.out k).1 h)
        obtain rfl : k = n := by omega
        go_wp2
        go_ret
        exact ⟨_, rfl, ownsRow_mono hown (by have := h1b.size; simp at this; omega), (by repeat (first | with_reducible exact Below.refl _ _ | with_reducible assumption | with_reducible refine below_alloc ?_ _ | with_reducible refine below_draw ?_ | ((with_reducible apply bset); (focus (first | exact Nat.le_refl _ | (simp; done) | (simp; omega)))) | ((with_reducible apply bcall); assumption; (focus (first | exact Nat.le_refl _ | (simp; done) | (simp; omega))))))⟩
  · have hR := (rightB_not _ _ _ _).2 hr
    have hl : piecesL ⟨x0, y0, x1, y1⟩ = [] := if_neg hr
    rw [hl]
    clear hl hr
    go_enter Try.func93, Try.ntmps93
    go_wp2_with (go_at_call 114; refine (right_any _ _ _ _ _).mono ?_; rintro e w' ⟨rfl, hb⟩; obtain ⟨hc, hf, hl⟩ := rules hb (Nat.le_refl _); have hz0 := hl (w.heap.size) (by first | (simp; done) | assumption | (simp; omega)); clear hl)
    go_ret
    exact ⟨_, rfl, World.ownsRow_nil _ _ _ _, (by repeat (first | with_reducible exact Below.refl _ _ | with_reducible assumption | with_reducible refine below_alloc ?_ _ | with_reducible refine below_draw ?_ | ((with_reducible apply bset); (focus (first | exact Nat.le_refl _ | (simp; done) | (simp; omega)))) | ((with_reducible apply bcall); assumption; (focus (first | exact Nat.le_refl _ | (simp; done) | (simp; omega))))))⟩
end Go.Proofs.Ytkphmcaoioaglaa
