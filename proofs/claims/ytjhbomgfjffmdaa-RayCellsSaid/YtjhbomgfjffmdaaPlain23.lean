/- Layer 23 in plain numbers: the cells of a ray. -/
import Derived.Test.YtjhbomgfjffmdaaRegion
set_option linter.unusedVariables false
set_option linter.unusedSimpArgs false
namespace Go.Proofs.Ytjhbomgfjffmdaa
structure Cl where
  x : Int
  y : Int
  deriving DecidableEq
theorem ediv_is {a b q : Int} (hb : 0 < b) (h1 : q * b ≤ a) (h2 : a < q * b + b) : a / b = q := by
  have a1 : q ≤ a / b := (Int.le_ediv_iff_mul_le hb).2 h1
  have a2 : a / b < q + 1 := (Int.ediv_lt_iff_lt_mul hb).2 (by rw [Int.add_mul, Int.one_mul]; exact h2)
  omega
def sg (n : Int) : Int := if n < 0 then -1 else 1
def ab (n : Int) : Int := if n < 0 then -n else n
theorem ab_pos (n : Int) : 0 ≤ ab n := by unfold ab; split <;> omega
theorem sg_ab (n : Int) : sg n * ab n = n := by unfold sg ab; split <;> omega
theorem sg_or (n : Int) : sg n = -1 ∨ sg n = 1 := by unfold sg; split <;> simp
theorem ab_neg (n : Int) : ab (-n) = ab n := by unfold ab; split <;> split <;> omega
def canP (c : Cl) : Prop := 0 ≤ c.x ∧ c.x < 1024 ∧ 0 ≤ c.y ∧ c.y < 1024
instance (c : Cl) : Decidable (canP c) := by unfold canP; infer_instance
def canB (x y : Int) : Bool := decide (canP ⟨x, y⟩)
theorem canB_yes {x y : Int} (h : canP ⟨x, y⟩) : canB x y = true := by simp [canB, h]
theorem canB_no {x y : Int} (h : ¬ canP ⟨x, y⟩) : canB x y = false := by simp [canB, h]
/-- the greater and the lesser difference -/
def steep (a b : Cl) : Prop := ab (b.x - a.x) < ab (b.y - a.y)
instance (a b : Cl) : Decidable (steep a b) := by unfold steep; infer_instance
def rayN (a b : Cl) : Int := if steep a b then ab (b.y - a.y) else ab (b.x - a.x)
def rayM (a b : Cl) : Int := if steep a b then ab (b.x - a.x) else ab (b.y - a.y)
def rayK (n m i : Int) : Int := (2 * i * m + n) / (2 * n)
def rayAt (a b : Cl) (i : Int) : Cl :=
  if steep a b then ⟨a.x + sg (b.x - a.x) * rayK (rayN a b) (rayM a b) i, a.y + sg (b.y - a.y) * i⟩
  else ⟨a.x + sg (b.x - a.x) * i, a.y + sg (b.y - a.y) * rayK (rayN a b) (rayM a b) i⟩
def rayRow (a b : Cl) (k : Nat) : List Cl := (List.range k).map fun (i : Nat) => rayAt a b (i : Int)
theorem rayRow_len (a b : Cl) (k : Nat) : (rayRow a b k).length = k := by simp [rayRow]
theorem rayRow_succ (a b : Cl) (k : Nat) : rayRow a b (k + 1) = rayRow a b k ++ [rayAt a b (k : Int)] := by simp [rayRow, List.range_succ]
theorem rayRow_get {a b : Cl} {k i : Nat} (h : i < k) : (rayRow a b k)[i]? = some (rayAt a b (i : Int)) := by simp [rayRow, h]

theorem ray_bd (a b : Cl) (ha : canP a) (hb : canP b) : 0 ≤ rayM a b ∧ rayM a b ≤ rayN a b ∧ rayN a b ≤ 1023 := by
  obtain ⟨h1, h2, h3, h4⟩ := ha
  obtain ⟨g1, g2, g3, g4⟩ := hb
  unfold rayM rayN
  by_cases h : steep a b
  · rw [if_pos h, if_pos h]; unfold steep at h; refine ⟨ab_pos _, by omega, ?_⟩; unfold ab; split <;> omega
  · rw [if_neg h, if_neg h]; unfold steep at h; refine ⟨ab_pos _, by omega, ?_⟩; unfold ab; split <;> omega

/-! ### step by step -/
theorem K_zero {n m : Int} (h : 0 ≤ n) : rayK n m 0 = 0 := by
  unfold rayK
  rw [Int.mul_zero, Int.zero_mul, Int.zero_add]
  rcases Int.lt_or_eq_of_le h with h | h
  · exact ediv_is (by omega) (by omega) (by omega)
  · rw [← h]; rfl
theorem K_rest {n m i : Int} (hn : 0 < n) : 0 ≤ n + 2 * i * m - 2 * n * rayK n m i ∧ n + 2 * i * m - 2 * n * rayK n m i < 2 * n := by
  have h1 := Int.emod_nonneg (2 * i * m + n) (b := 2 * n) (by omega)
  have h2 := Int.emod_lt_of_pos (2 * i * m + n) (b := 2 * n) (by omega)
  have h3 := Int.emod_add_mul_ediv (2 * i * m + n) (2 * n)
  unfold rayK
  omega
theorem K_step {n m i : Int} (hn : 0 < n) (h0 : 0 ≤ m) (hm : m ≤ n) :
    rayK n m (i + 1) = if 2 * n ≤ (n + 2 * i * m - 2 * n * rayK n m i) + 2 * m then rayK n m i + 1 else rayK n m i := by
  obtain ⟨h1, h2⟩ := K_rest (m := m) (i := i) hn
  have e : 2 * (i + 1) * m = 2 * i * m + 2 * m := by rw [Int.mul_add, Int.add_mul]; omega
  generalize hk : rayK n m i = k at *
  have e2 : (k + 1) * (2 * n) = 2 * n * k + 2 * n := by rw [Int.add_mul, Int.one_mul, Int.mul_comm k]
  have e3 : k * (2 * n) = 2 * n * k := Int.mul_comm _ _
  by_cases h : 2 * n ≤ (n + 2 * i * m - 2 * n * k) + 2 * m
  · rw [if_pos h]
    unfold rayK
    exact ediv_is (by omega) (by omega) (by omega)
  · rw [if_neg h]
    unfold rayK
    exact ediv_is (by omega) (by omega) (by omega)
theorem K_bd {n m i : Int} (hn : 0 < n) (h0 : 0 ≤ m) (hm : m ≤ n) (hi0 : 0 ≤ i) (hi : i ≤ n) : 0 ≤ rayK n m i ∧ rayK n m i ≤ m ∧ m - rayK n m i ≤ n - i := by
  obtain ⟨h1, h2⟩ := K_rest (m := m) (i := i) hn
  have p0 : 0 ≤ 2 * i * m := Int.mul_nonneg (by omega) h0
  have p1 : 0 ≤ 2 * (n - i) * m := Int.mul_nonneg (by omega) h0
  have p2 : 0 ≤ 2 * (n - i) * (n - m) := Int.mul_nonneg (by omega) (by omega)
  have e1 : 2 * (n - i) * m = 2 * n * m - 2 * i * m := by rw [Int.mul_sub, Int.sub_mul]
  have e2 : 2 * (n - i) * (n - m) = 2 * n * (n - i) - (2 * n * m - 2 * i * m) := by
    rw [← e1, Int.mul_sub (2 * (n - i))]
    congr 1
    rw [Int.mul_assoc, Int.mul_assoc, Int.mul_comm (n - i) n]
  generalize hk : rayK n m i = k at *
  refine ⟨?_, ?_, ?_⟩
  · rcases Int.lt_or_le k 0 with h | h
    · have := Int.mul_le_mul_of_nonneg_left (show k ≤ -1 by omega) (show 0 ≤ 2 * n by omega)
      rw [Int.mul_neg, Int.mul_one] at this; omega
    · exact h
  · rcases Int.lt_or_le m k with h | h
    · have := Int.mul_le_mul_of_nonneg_left (show m + 1 ≤ k by omega) (show 0 ≤ 2 * n by omega)
      rw [Int.mul_add, Int.mul_one] at this; omega
    · exact h
  · rcases Int.lt_or_le (n - i) (m - k) with h | h
    · have h3 := Int.mul_le_mul_of_nonneg_left (show (n - i) + 1 ≤ m - k by omega) (show 0 ≤ 2 * n by omega)
      rw [Int.mul_add, Int.mul_one, Int.mul_sub (2 * n) m k] at h3; omega
    · exact h
theorem K_end {n m : Int} (hn : 0 ≤ n) (h0 : 0 ≤ m) (hm : m ≤ n) : rayK n m n = m := by
  unfold rayK
  rcases Int.lt_or_eq_of_le hn with h | h
  · have : m * (2 * n) = 2 * n * m := Int.mul_comm _ _
    exact ediv_is (by omega) (by omega) (by omega)
  · subst h
    have : m = 0 := by omega
    subst this; rfl
theorem K_eq {n i : Int} (hn : 0 < n) : rayK n n i = i := by
  unfold rayK
  have : i * (2 * n) = 2 * i * n := by rw [← Int.mul_assoc, Int.mul_comm i 2]
  exact ediv_is (by omega) (by omega) (by omega)
theorem K_flat {n i : Int} (hn : 0 ≤ n) : rayK n 0 i = 0 := by
  unfold rayK
  rw [Int.mul_zero, Int.zero_add]
  rcases Int.lt_or_eq_of_le hn with h | h
  · exact ediv_is (by omega) (by omega) (by omega)
  · rw [← h]; rfl
end Go.Proofs.Ytjhbomgfjffmdaa
