/- Layer 9 without the program: the values of a rectangle. -/
import Derived.Test.YtkphmcaoioaglaaPlain9
set_option linter.unusedVariables false
set_option linter.unusedSimpArgs false
namespace Go.Proofs.Ytkphmcaoioaglaa
open Go Go.RowKit

def rvRow (V : List Int) (a x0 n y : Nat) : List Int := (List.range n).map fun j => nth V (y * a + (x0 + j))
def rvAll (V : List Int) (a x0 y0 n : Nat) : Nat → List Int
  | 0 => []
  | k + 1 => rvAll V a x0 y0 n k ++ rvRow V a x0 n (y0 + k)
theorem rvRow_zero {V : List Int} {a x0 y : Nat} : rvRow V a x0 0 y = [] := rfl
theorem rvRow_succ {V : List Int} {a x0 n y : Nat} : rvRow V a x0 (n + 1) y = rvRow V a x0 n y ++ [nth V (y * a + (x0 + n))] := by simp [rvRow, List.range_succ]
theorem rvRow_len {V : List Int} {a x0 n y : Nat} : (rvRow V a x0 n y).length = n := by simp [rvRow]
theorem rvAll_len {V : List Int} {a x0 y0 n : Nat} : ∀ k, (rvAll V a x0 y0 n k).length = k * n
  | 0 => by simp [rvAll]
  | k + 1 => by simp [rvAll, rvAll_len k, rvRow_len, Nat.succ_mul]
theorem rvAll_at {V : List Int} {a x0 y0 n : Nat} : ∀ (k r j : Nat), r < k → j < n → nth (rvAll V a x0 y0 n k) (r * n + j) = nth V ((y0 + r) * a + (x0 + j))
  | 0, r, j, h, _ => by omega
  | k + 1, r, j, h, hj => by
    unfold rvAll
    by_cases hr : r < k
    · have h1 : r * n + j < k * n := by
        have : (r + 1) * n ≤ k * n := Nat.mul_le_mul_right _ hr
        rw [Nat.succ_mul] at this; omega
      rw [nth_app_lt (by rw [rvAll_len]; exact h1)]
      exact rvAll_at k r j hr hj
    · obtain rfl : r = k := by omega
      have e : nth (rvAll V a x0 y0 n r ++ rvRow V a x0 n (y0 + r)) (r * n + j) = nth (rvRow V a x0 n (y0 + r)) j := by
        unfold nth
        rw [List.getD_eq_getElem?_getD, List.getD_eq_getElem?_getD, List.getElem?_append_right (by rw [rvAll_len]; omega), rvAll_len, show r * n + j - r * n = j by omega]
      rw [e]
      unfold rvRow; simp [nth, List.getD, hj]
theorem dv16 {p q : Nat} (h : q < 16) : (16 * p + q) / 16 = p ∧ (16 * p + q) % 16 = q := by omega
/-- a tile's values are its slab's -/
theorem tile_vals {a h : Nat} {xs : List Sb} (G : GI a h xs) {t : Nat} (ht : t < xs.length) : rvAll (gV xs a h) a (16 * (t % across a)) (16 * (t / across a)) (gs xs t).w (gs xs t).h = (gs xs t).lst := by
  have hll : (gs xs t).lst.length = (gs xs t).w * (gs xs t).h := Ld.len (G.ok _ ht)
  refine nth_ext (by rw [rvAll_len, hll, Nat.mul_comm]) fun i hi => ?_
  rw [rvAll_len] at hi
  obtain ⟨e1, e2⟩ := G.wid t ht
  have ha := G.a1
  obtain ⟨s1, s2, s3, s4⟩ := G.size ht
  have hx : i % (gs xs t).w < (gs xs t).w := Nat.mod_lt _ (by omega)
  have hy : i / (gs xs t).w < (gs xs t).h := Nat.div_lt_of_lt_mul (by rw [Nat.mul_comm]; exact hi)
  have ei := of_div (rfl : i / (gs xs t).w = _) (rfl : i % (gs xs t).w = _)
  have hlt := ht; rw [G.len] at hlt
  have hm : t % across a < across a := Nat.mod_lt _ (across_pos ha)
  have hd : t / across a < across h := Nat.div_lt_of_lt_mul (by rw [Nat.mul_comm]; exact hlt)
  have et := of_div (rfl : t / across a = _) (rfl : t % across a = _)
  rw [ei, rvAll_at _ _ _ hy hx]
  have q1 := hx; have q2 := hy
  rw [e1] at q1; rw [e2] at q2
  have hX : 16 * (t % across a) + i % (gs xs t).w < a := by
    unfold tw across at *
    generalize t % _ = j at *
    generalize i % _ = k at *
    omega
  have hY : 16 * (t / across a) + i / (gs xs t).w < h := by
    unfold tw across at *
    generalize t / _ = j at *
    generalize i / _ = k at *
    omega
  rw [gV_at hX hY]
  unfold gval
  have hno : tno a (16 * (t % across a) + i % (gs xs t).w) (16 * (t / across a) + i / (gs xs t).w) = t := by
    have hx16 : i % (gs xs t).w < 16 := by omega
    have hy16 : i / (gs xs t).w < 16 := by omega
    unfold tno
    rw [(dv16 hy16).1, (dv16 hx16).1]
    exact et.symm
  have hx16 : i % (gs xs t).w < 16 := by omega
  have hy16 : i / (gs xs t).w < 16 := by omega
  rw [hno, (dv16 hy16).2, (dv16 hx16).2]
end Go.Proofs.Ytkphmcaoioaglaa
