/- Layer 42 without the program: grids made cell by cell. -/
import Derived.Test.YtbhmkpnihgjlnaaRef10
set_option linter.unusedVariables false
set_option linter.unusedSimpArgs false
namespace Go.Proofs.Ytbhmkpnihgjlnaa
open Go Go.RowKit

/-- the first k values, in rows of n, each taken from a cell of another grid -/
def mN (V : List Int) (a n : Nat) (gx gy : Nat → Nat → Nat) (k : Nat) : List Int := (List.range k).map fun i => nth V (gy (i % n) (i / n) * a + gx (i % n) (i / n))
theorem mN_len {V : List Int} {a n k : Nat} {gx gy : Nat → Nat → Nat} : (mN V a n gx gy k).length = k := by simp [mN]
theorem mN_zero {V : List Int} {a n : Nat} {gx gy : Nat → Nat → Nat} : mN V a n gx gy 0 = [] := rfl
theorem mN_succ {V : List Int} {a n x y : Nat} {gx gy : Nat → Nat → Nat} (hx : x < n) : mN V a n gx gy (y * n + x) ++ [nth V (gy x y * a + gx x y)] = mN V a n gx gy (y * n + (x + 1)) := by
  obtain ⟨d1, d2⟩ := div_of hx (rfl : y * n + x = _)
  rw [← Nat.add_assoc]
  unfold mN
  rw [List.range_succ, List.map_append]
  simp [d1, d2]
theorem mN_at {V : List Int} {a n x y k : Nat} {gx gy : Nat → Nat → Nat} (hx : x < n) (hi : y * n + x < k) : nth (mN V a n gx gy k) (y * n + x) = nth V (gy x y * a + gx x y) := by
  obtain ⟨d1, d2⟩ := div_of hx (rfl : y * n + x = _)
  unfold mN; simp [nth, List.getD, hi, d1, d2]
theorem cell_parts {n m i : Nat} (hi : i < n * m) : i % n < n ∧ i / n < m ∧ i = i / n * n + i % n := by
  have hn : 0 < n := by
    rcases Nat.eq_zero_or_pos n with h0 | h0
    · subst h0; omega
    · exact h0
  exact ⟨Nat.mod_lt _ hn, Nat.div_lt_of_lt_mul hi, of_div rfl rfl⟩
/-- from where a cell comes lies in the other grid -/
def Inn (n m a h : Nat) (gx gy : Nat → Nat → Nat) : Prop := ∀ x y, x < n → y < m → gx x y < a ∧ gy x y < h
theorem mN_b32 {V : List Int} {a h n m : Nat} {gx gy : Nat → Nat → Nat} (G : GV a h V) (hg : Inn n m a h gx gy) : AllB (mN V a n gx gy (n * m)) := fun v hv => by
  unfold mN at hv
  obtain ⟨i, hi, rfl⟩ := List.mem_map.1 hv
  obtain ⟨h1, h2, _⟩ := cell_parts (List.mem_range.1 hi)
  obtain ⟨h3, h4⟩ := hg _ _ h1 h2
  exact G.bd.at_ (by rw [G.len]; exact cell_lt h3 h4)
theorem mN_ext {V V' : List Int} {a a' n m : Nat} {gx gy hx hy : Nat → Nat → Nat} (he : ∀ x y, x < n → y < m → nth V (gy x y * a + gx x y) = nth V' (hy x y * a' + hx x y)) : mN V a n gx gy (n * m) = mN V' a' n hx hy (n * m) := by
  unfold mN
  refine List.map_congr_left fun i hi => ?_
  obtain ⟨h1, h2, _⟩ := cell_parts (List.mem_range.1 hi)
  exact he _ _ h1 h2
/-- taken from one that was taken: from where both come -/
theorem mN_mN {V : List Int} {a n m n' m' : Nat} {fx fy gx gy : Nat → Nat → Nat} (hg : Inn n' m' n m gx gy) :
    mN (mN V a n fx fy (n * m)) n n' gx gy (n' * m') = mN V a n' (fun x y => fx (gx x y) (gy x y)) (fun x y => fy (gx x y) (gy x y)) (n' * m') :=
  mN_ext fun x y hx hy => by
    obtain ⟨h1, h2⟩ := hg x y hx hy
    exact mN_at h1 (cell_lt h1 h2)
/-- each from its own place: the same -/
theorem mN_id {V : List Int} {a h : Nat} (hl : V.length = a * h) {gx gy : Nat → Nat → Nat} (he : ∀ x y, x < a → y < h → gx x y = x ∧ gy x y = y) : mN V a a gx gy (a * h) = V := by
  refine nth_ext (by rw [mN_len, hl]) fun i hi => ?_
  rw [mN_len] at hi
  obtain ⟨h1, h2, h3⟩ := cell_parts hi
  obtain ⟨e1, e2⟩ := he _ _ h1 h2
  generalize i % a = x at *
  generalize i / a = y at *
  subst h3
  rw [mN_at h1 hi, e1, e2]
/-! turns -/
def swV (V : List Int) (a h : Nat) : List Int := mN V a h (fun _ y => y) (fun x _ => x) (h * a)
def miV (V : List Int) (a h : Nat) : List Int := mN V a a (fun x _ => a - 1 - x) (fun _ y => y) (a * h)
def q1V (V : List Int) (a h : Nat) : List Int := mN V a h (fun _ y => y) (fun x _ => h - 1 - x) (h * a)
def q2V (V : List Int) (a h : Nat) : List Int := mN V a a (fun x _ => a - 1 - x) (fun _ y => h - 1 - y) (a * h)
def q3V (V : List Int) (a h : Nat) : List Int := mN V a h (fun _ y => a - 1 - y) (fun x _ => x) (h * a)
def scV (V : List Int) (a h k : Nat) : List Int := mN V a (a * k) (fun x _ => x / k) (fun _ y => y / k) (a * k * (h * k))
theorem swV_len {V : List Int} {a h : Nat} : (swV V a h).length = h * a := mN_len
theorem miV_len {V : List Int} {a h : Nat} : (miV V a h).length = a * h := mN_len
theorem q1V_len {V : List Int} {a h : Nat} : (q1V V a h).length = h * a := mN_len
theorem q2V_len {V : List Int} {a h : Nat} : (q2V V a h).length = a * h := mN_len
theorem q3V_len {V : List Int} {a h : Nat} : (q3V V a h).length = h * a := mN_len
theorem inn_sw {a h : Nat} : Inn h a a h (fun _ y => y) (fun x _ => x) := fun x y hx hy => ⟨hy, hx⟩
theorem inn_mi {a h : Nat} : Inn a h a h (fun x _ => a - 1 - x) (fun _ y => y) := fun x y hx hy => ⟨by dsimp only; omega, hy⟩
theorem inn_q1 {a h : Nat} : Inn h a a h (fun _ y => y) (fun x _ => h - 1 - x) := fun x y hx hy => ⟨hy, by dsimp only; omega⟩
theorem inn_q2 {a h : Nat} : Inn a h a h (fun x _ => a - 1 - x) (fun _ y => h - 1 - y) := fun x y hx hy => ⟨by dsimp only; omega, by dsimp only; omega⟩
theorem inn_q3 {a h : Nat} : Inn h a a h (fun _ y => a - 1 - y) (fun x _ => x) := fun x y hx hy => ⟨by dsimp only; omega, hx⟩
theorem inn_sc {a h k : Nat} (hk : 1 ≤ k) : Inn (a * k) (h * k) a h (fun x _ => x / k) (fun _ y => y / k) := fun x y hx hy => ⟨Nat.div_lt_of_lt_mul (by rw [Nat.mul_comm]; exact hx), Nat.div_lt_of_lt_mul (by rw [Nat.mul_comm]; exact hy)⟩
theorem sw_sw {V : List Int} {a h : Nat} (hl : V.length = a * h) : swV (swV V a h) h a = V := by
  unfold swV; rw [mN_mN inn_sw]; exact mN_id hl fun x y _ _ => ⟨rfl, rfl⟩
theorem mi_mi {V : List Int} {a h : Nat} (hl : V.length = a * h) : miV (miV V a h) a h = V := by
  unfold miV; rw [mN_mN inn_mi]; exact mN_id hl fun x y hx _ => ⟨by omega, rfl⟩
/-- a quarter is a swap and a mirror -/
theorem mi_sw {V : List Int} {a h : Nat} : miV (swV V a h) h a = q1V V a h := by
  unfold miV swV q1V; rw [mN_mN inn_mi]
theorem q1_q1 {V : List Int} {a h : Nat} : q1V (q1V V a h) h a = q2V V a h := by
  unfold q1V q2V; rw [mN_mN inn_q1]
theorem q1_q2 {V : List Int} {a h : Nat} : q1V (q2V V a h) a h = q3V V a h := by
  unfold q1V q2V q3V; rw [mN_mN inn_q1]
  exact mN_ext fun x y hx hy => by rw [show h - 1 - (h - 1 - x) = x by omega]
theorem q3_q1 {V : List Int} {a h : Nat} (hl : V.length = a * h) : q3V (q1V V a h) h a = V := by
  unfold q3V q1V; rw [mN_mN inn_q3]; exact mN_id hl fun x y hx hy => ⟨rfl, by omega⟩
theorem q2_q2 {V : List Int} {a h : Nat} (hl : V.length = a * h) : q2V (q2V V a h) a h = V := by
  unfold q2V; rw [mN_mN inn_q2]; exact mN_id hl fun x y hx hy => ⟨by omega, by omega⟩
theorem q1_q3 {V : List Int} {a h : Nat} (hl : V.length = a * h) : q1V (q3V V a h) h a = V := by
  unfold q3V q1V; rw [mN_mN inn_q1]; exact mN_id hl fun x y hx hy => ⟨by omega, rfl⟩
/-- so many quarters: width, height, values -/
def qW (a h k : Nat) : Nat := if k % 2 = 0 then a else h
def qV (V : List Int) (a h k : Nat) : List Int := if k = 0 then V else if k = 1 then q1V V a h else if k = 2 then q2V V a h else q3V V a h
/-! put together -/
/-- columns, and columns -/
def beV (V : List Int) (a : Nat) (U : List Int) (b h : Nat) : List Int := (List.range ((a + b) * h)).map fun i => if i % (a + b) < a then nth V (i / (a + b) * a + i % (a + b)) else nth U (i / (a + b) * b + (i % (a + b) - a))
theorem beV_len {V U : List Int} {a b h : Nat} : (beV V a U b h).length = (a + b) * h := by simp [beV]
theorem beV_at {V U : List Int} {a b h x y : Nat} (hx : x < a + b) (hy : y < h) : nth (beV V a U b h) (y * (a + b) + x) = if x < a then nth V (y * a + x) else nth U (y * b + (x - a)) := by
  obtain ⟨d1, d2⟩ := div_of hx (rfl : y * (a + b) + x = _)
  have := cell_lt hx hy
  unfold beV; simp [nth, List.getD, this, d1, d2]
end Go.Proofs.Ytbhmkpnihgjlnaa
