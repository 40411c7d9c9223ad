/- Legends, without the program. -/
import Derived.Test.YtgkkbeomhkggjaaDoorMF
import Derived.Test.YtgkkbeomhkggjaaDoorMQ
set_option linter.unusedVariables false
set_option linter.unusedSimpArgs false
namespace Go.Proofs.YtgkkbeomhkggjaaDoor
open Go Go.RowKit
structure Bd where
  f : Int
  s : Int
def Bd.cells (b : Bd) : List Value := [.int .i64 b.f, .int .i32 b.s]
def bcells (l : List Bd) : List Value := l.flatMap Bd.cells
def bn (l : List Bd) (i : Nat) : Bd := l.getD i ⟨0, 0⟩
theorem bn_lt {l : List Bd} {i : Nat} (h : i < l.length) : bn l i = l[i] := by simp [bn, List.getD, h]
theorem bn_mem {l : List Bd} {i : Nat} (h : i < l.length) : bn l i ∈ l := by rw [bn_lt h]; exact List.getElem_mem h
theorem bcells_len (l : List Bd) : (bcells l).length = l.length * 2 := by
  unfold bcells
  induction l with
  | nil => rfl
  | cons b l ih => rw [List.flatMap_cons, List.length_append, ih, List.length_cons]; simp [Bd.cells]; omega
theorem b_part : ∀ {l : List Bd} {i : Nat}, i < l.length → ∀ j v, ([.int .i64 (bn l i).f, .int .i32 (bn l i).s] : List Value)[j]? = some v → (bcells l)[i * 2 + j]? = some v
  | [], i, h, _, _, _ => by simp at h
  | b :: l, 0, _, j, v, hv => by
    have hj : j < 2 := by have := (List.getElem?_eq_some_iff.1 hv).1; simpa using this
    unfold bcells
    rw [List.flatMap_cons, Nat.zero_mul, Nat.zero_add, List.getElem?_append_left (by simpa [Bd.cells] using hj)]
    exact hv
  | b :: l, i + 1, h, j, v, hv => by
    have ih := b_part (l := l) (i := i) (by simpa using h) j v (by simpa [bn] using hv)
    unfold bcells at *
    rw [List.flatMap_cons, List.getElem?_append_right (by simp [Bd.cells]; omega), show (i + 1) * 2 + j - (Bd.cells b).length = i * 2 + j by simp [Bd.cells]; omega]
    exact ih
theorem b_get0 {l : List Bd} {i : Nat} (h : i < l.length) : (bcells l)[i * 2]? = some (.int .i64 (bn l i).f) := b_part h 0 _ rfl
theorem b_get1 {l : List Bd} {i : Nat} (h : i < l.length) : (bcells l)[i * 2 + 1]? = some (.int .i32 (bn l i).s) := b_part h 1 _ rfl
theorem bcells_take (l : List Bd) (i : Nat) : (bcells l).take (i * 2) = bcells (l.take i) := by
  unfold bcells
  induction l generalizing i with
  | nil => simp
  | cons b l ih =>
    cases i with
    | zero => simp
    | succ i =>
      rw [List.take_succ_cons, List.flatMap_cons, List.flatMap_cons, ← ih, show (i + 1) * 2 = i * 2 + 1 + 1 by omega]
      rfl
theorem bn_take {l : List Bd} {i j : Nat} (h : j < i) : bn (l.take i) j = bn l j := by unfold bn; simp [List.getD, List.getElem?_take, h]
/-- may it be a sign? -/
def SgnP (s : Int) : Prop := ¬ (s = 44 ∨ s = 58 ∨ s = 173 ∨ (55296 ≤ s ∧ s ≤ 57343)) ∧ ((33 ≤ s ∧ s ≤ 126) ∨ (161 ≤ s ∧ s ≤ 65532))
instance (s : Int) : Decidable (SgnP s) := by unfold SgnP; infer_instance
def RB (l : List Bd) (i : Nat) : Prop := B32 (bn l i).f ∧ SgnP (bn l i).s ∧ ∀ k, k < i → (bn l k).f < (bn l i).f ∧ (bn l k).s ≠ (bn l i).s
def RgtP (l : List Bd) : Prop := (1 ≤ l.length ∧ l.length ≤ 12) ∧ ∀ i, i < l.length → RB l i
def rgtB (l : List Bd) : Bool := decide (1 ≤ l.length ∧ l.length ≤ 12) && (List.range l.length).all fun i => decide (B32 (bn l i).f) && decide (SgnP (bn l i).s) && (List.range i).all fun k => decide ((bn l k).f < (bn l i).f) && decide ((bn l k).s ≠ (bn l i).s)
theorem rgtB_iff (l : List Bd) : rgtB l = true ↔ RgtP l := by
  unfold rgtB RgtP RB
  simp only [Bool.and_eq_true, decide_eq_true_eq, List.all_eq_true, List.mem_range]
  constructor
  · rintro ⟨h1, h2⟩; exact ⟨h1, fun i hi => ⟨(h2 i hi).1.1, (h2 i hi).1.2, fun k hk => (h2 i hi).2 k hk⟩⟩
  · rintro ⟨h1, h2⟩; exact ⟨h1, fun i hi => ⟨⟨(h2 i hi).1, (h2 i hi).2.1⟩, fun k hk => (h2 i hi).2.2 k hk⟩⟩
theorem rgtB_no {l : List Bd} (h : ¬ RgtP l) : rgtB l = false := by
  cases hb : rgtB l with
  | false => rfl
  | true => exact absurd ((rgtB_iff l).1 hb) h
theorem rgt_step {l : List Bd} {i : Nat} (h : ∀ j, j < i → RB l j) (h1 : B32 (bn l i).f) (h2 : SgnP (bn l i).s) (h3 : 0 < i → (bn l (i - 1)).f < (bn l i).f) (h4 : ∀ k, k < i → (bn l k).s ≠ (bn l i).s) : ∀ j, j < i + 1 → RB l j := fun j hj => by
  rcases Nat.lt_succ_iff_lt_or_eq.1 hj with q | rfl
  · exact h j q
  · refine ⟨h1, h2, fun k hk => ⟨?_, h4 k hk⟩⟩
    rcases Nat.lt_or_ge k (j - 1) with q | q
    · have := ((h (j - 1) (by omega)).2.2 k q).1; have := h3 (by omega); omega
    · obtain rfl : k = j - 1 := by omega
      exact h3 (by omega)
theorem rgt_not {l : List Bd} {i : Nat} (hi : i < l.length) (h : ¬ RB l i) : rgtB l = false := rgtB_no fun q => h (q.2 i hi)
/-- the band of a sign -/
def backI (l : List Bd) (r : Int) : Nat → Option Nat
  | 0 => none
  | k + 1 => match backI l r k with
    | some i => some i
    | none => if (bn l k).s = r then some k else none
def backF (l : List Bd) (r : Int) : Option Int := (backI l r l.length).map fun i => (bn l i).f
theorem backI_none {l : List Bd} {r : Int} : ∀ {k : Nat}, (∀ j, j < k → (bn l j).s ≠ r) → backI l r k = none
  | 0, _ => rfl
  | k + 1, h => by rw [backI, backI_none (fun j hj => h j (by omega))]; simp only; rw [if_neg (h k (by omega))]
theorem backI_some {l : List Bd} {r : Int} {i : Nat} (h : ∀ j, j < i → (bn l j).s ≠ r) (hi : (bn l i).s = r) : ∀ {k : Nat}, i < k → backI l r k = some i
  | k + 1, hk => by
    rcases Nat.lt_or_ge i k with q | q
    · rw [backI, backI_some h hi q]
    · obtain rfl : i = k := by omega
      rw [backI, backI_none h]; simp only; rw [if_pos hi]
/-- a value's sign -/
def ofI (l : List Bd) (v : Int) : Nat → Int
  | 0 => (bn l 0).s
  | k + 1 => if (bn l k).f ≤ v then (bn l k).s else ofI l v k
def ofF (l : List Bd) (v : Int) : Int := ofI l v l.length
theorem ofI_sgn {l : List Bd} (h : RgtP l) (v : Int) : ∀ k, k ≤ l.length → ∃ i, i < l.length ∧ ofI l v k = (bn l i).s
  | 0, _ => ⟨0, by have := h.1.1; omega, rfl⟩
  | k + 1, hk => by
    rw [ofI]
    split
    · exact ⟨k, by omega, rfl⟩
    · exact ofI_sgn h v k (by omega)
theorem ofF_sgn {l : List Bd} (h : RgtP l) (v : Int) : SgnP (ofF l v) := by
  obtain ⟨i, hi, e⟩ := ofI_sgn h v l.length (Nat.le_refl _)
  unfold ofF
  rw [e]; exact (h.2 i hi).2.1
/-- a sign's bytes -/
def encB (r : Int) : List Int := if r < 128 then [r] else if r < 2048 then [192 + r / 64, 128 + r % 64] else [224 + r / 4096, 128 + r / 64 % 64, 128 + r % 64]
/-- the rune with which a text begins, and how many bytes it has; 65533 of one byte: none's -/
def runeD (l : List Int) : Int × Nat :=
  let b0 := nth l 0
  if b0 < 128 then (b0, 1)
  else if 192 ≤ b0 ∧ b0 < 224 ∧ (1 < l.length ∧ 128 ≤ nth l 1 ∧ nth l 1 < 192) then
    (if 128 ≤ (b0 - 192) * 64 + (nth l 1 - 128) then ((b0 - 192) * 64 + (nth l 1 - 128), 2) else (65533, 1))
  else if 224 ≤ b0 ∧ b0 < 240 ∧ (1 < l.length ∧ 128 ≤ nth l 1 ∧ nth l 1 < 192) ∧ (2 < l.length ∧ 128 ≤ nth l 2 ∧ nth l 2 < 192) then
    (let c := (b0 - 224) * 4096 + (nth l 1 - 128) * 64 + (nth l 2 - 128)
     if 2048 ≤ c ∧ ¬ (55296 ≤ c ∧ c < 57344) then (c, 3) else (65533, 1))
  else if 240 ≤ b0 ∧ b0 < 248 ∧ (1 < l.length ∧ 128 ≤ nth l 1 ∧ nth l 1 < 192) ∧ (2 < l.length ∧ 128 ≤ nth l 2 ∧ nth l 2 < 192) ∧ (3 < l.length ∧ 128 ≤ nth l 3 ∧ nth l 3 < 192) then
    (let c := (b0 - 240) * 262144 + (nth l 1 - 128) * 4096 + (nth l 2 - 128) * 64 + (nth l 3 - 128)
     if 65536 ≤ c ∧ c ≤ 1114111 then (c, 4) else (65533, 1))
  else (65533, 1)
theorem runeD_size (l : List Int) : 1 ≤ (runeD l).2 ∧ (runeD l).2 ≤ 4 ∧ ((runeD l).2 = 1 ∨ (runeD l).2 ≤ l.length) := by
  unfold runeD
  simp only
  repeat' split
  all_goals first | omega | (simp only; omega) | (simp; done) | (simp; omega)
theorem nth_append_lt {a b : List Int} {i : Nat} (h : i < a.length) : nth (a ++ b) i = nth a i := nth_app_lt h
/-- a sign's bytes are read as the sign -/
theorem runeD_enc {r : Int} (h : SgnP r) (rest : List Int) : runeD (encB r ++ rest) = (r, (encB r).length) := by
  unfold SgnP at h
  unfold encB
  split
  · simp only [runeD, List.cons_append, List.nil_append, nth, List.getD_cons_zero]
    rw [if_pos (by omega)]; rfl
  · split
    · simp only [runeD, List.cons_append, List.nil_append, nth, List.getD_cons_zero, List.getD_cons_succ, List.length_cons]
      rw [if_neg (by omega), if_pos (by omega), if_pos (by omega)]
      congr 1; omega
    · simp only [runeD, List.cons_append, List.nil_append, nth, List.getD_cons_zero, List.getD_cons_succ, List.length_cons]
      rw [if_neg (by omega), if_neg (by omega), if_pos (by omega), if_pos (by omega)]
      congr 1; omega
/-- a rune that may be a sign has a sign's bytes -/
theorem enc_runeD {l : List Int} (hB : Byt l) (hl : 0 < l.length) (h : SgnP (runeD l).1) : l.take (runeD l).2 = encB (runeD l).1 := by
  have hb0 := hB _ (nth_mem hl)
  have hs := runeD_size l
  have key : ∀ n, n ≤ l.length → l.take n = (List.range n).map (nth l) := fun n hn => by
    apply List.ext_getElem (by simp; omega)
    intro i h1 h2
    rw [List.getElem_take]
    simp only [List.getElem_map, List.getElem_range]
    rw [nth_lt]
  have hle : (runeD l).2 ≤ l.length := by omega
  rw [key _ hle]
  revert h
  unfold SgnP encB runeD
  simp only
  repeat' split
  all_goals (intro h; simp only at h ⊢)
  all_goals first
    | omega
    | rfl
    | (simp only [List.range_succ, List.range_zero, List.nil_append, List.map_append, List.map_cons, List.map_nil, List.cons_append, List.cons.injEq, and_true]; omega)
    | skip
end Go.Proofs.YtgkkbeomhkggjaaDoor
