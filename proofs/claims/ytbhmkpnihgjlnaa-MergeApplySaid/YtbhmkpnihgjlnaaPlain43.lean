/- Layer 43 without the program: two sweeps give each cell's distance to what is over a height. -/
import Derived.Test.YtbhmkpnihgjlnaaRef10
set_option linter.unusedVariables false
set_option linter.unusedSimpArgs false
namespace Go.Proofs.Ytbhmkpnihgjlnaa
open Go Go.RowKit

def dif (x y : Nat) : Nat := (x - y) + (y - x)
/-- how far two cells are apart -/
def l1 (a i j : Nat) : Nat := dif (i % a) (j % a) + dif (i / a) (j / a)
def seed (V : List Int) (t : Int) (s : Nat) : Prop := s < V.length ∧ t ≤ nth V s
/-- no distance is too small, none too great to be one -/
def DLo (V D : List Int) (a : Nat) (t : Int) : Prop := D.length = V.length ∧ ∀ k, k < V.length → 0 ≤ nth D k ∧ nth D k ≤ 4096 ∧ (nth D k = 4096 ∨ ∃ s, seed V t s ∧ (l1 a k s : Int) ≤ nth D k)
/-- the first sweep has come to i: what lies above and to the left is seen -/
def DFw (V D : List Int) (a : Nat) (t : Int) (i : Nat) : Prop := (∀ k, seed V t k → nth D k = 0) ∧ ∀ k, k < i → k < V.length → ∀ s, seed V t s → s % a ≤ k % a → s / a ≤ k / a → nth D k ≤ (l1 a k s : Int)
/-- the second sweep has come down to i -/
def DBw (V D : List Int) (a : Nat) (t : Int) (i : Nat) : Prop := DFw V D a t V.length ∧ ∀ k, i ≤ k → k < V.length → ∀ s, seed V t s → nth D k ≤ (l1 a k s : Int)
theorem nth_set' {V : List Int} {i j : Nat} {v : Int} (h : i < V.length) : nth (V.set i v) j = if j = i then v else nth V j := nth_put h
theorem sub_div1 {k a : Nat} (ha : 0 < a) (h : a ≤ k) : (k - a) / a = k / a - 1 := by
  rw [Nat.div_eq_sub_div ha h]; rfl
theorem l1_self {a i : Nat} : l1 a i i = 0 := by unfold l1 dif; omega
theorem l1_zero {a i j : Nat} (h : l1 a i j = 0) : i = j := by
  have h1 := Nat.div_add_mod i a
  have h2 := Nat.div_add_mod j a
  unfold l1 dif at h
  have e1 : i % a = j % a := by omega
  have e2 : i / a = j / a := by omega
  rw [e1, e2] at h1; omega
theorem l1_tri {a i j k : Nat} : l1 a i k ≤ l1 a i j + l1 a j k := by unfold l1 dif; omega
theorem l1_comm {a i j : Nat} : l1 a i j = l1 a j i := by unfold l1 dif; omega
/-- a place that is taken lower, by a neighbour -/
theorem DLo.lower {V D : List Int} {a i j : Nat} {t : Int} (H : DLo V D a t) (hi : i < V.length) (hj : j < V.length) (h1 : l1 a i j = 1) : DLo V (D.set i (min (nth D i) (nth D j + 1))) a t := by
  refine ⟨by rw [List.length_set]; exact H.1, fun k hk => ?_⟩
  rw [nth_set' (by rw [H.1]; exact hi)]
  split
  · rename_i e
    subst e
    obtain ⟨a1, a2, a3⟩ := H.2 k hk
    obtain ⟨b1, b2, b3⟩ := H.2 j hj
    refine ⟨by omega, by omega, ?_⟩
    by_cases hc : nth D k ≤ nth D j + 1
    · rw [Int.min_eq_left hc]; exact a3
    · rw [Int.min_eq_right (by omega)]
      right
      rcases b3 with b3 | ⟨s, hs, b3⟩
      · omega
      · refine ⟨s, hs, ?_⟩
        have := l1_tri (a := a) (i := k) (j := j) (k := s)
        omega
  · exact H.2 k hk
theorem lower_le {D : List Int} {i j k : Nat} (hi : i < D.length) : nth (D.set i (min (nth D i) (nth D j + 1))) k ≤ nth D k := by
  rw [nth_set' hi]
  split
  · rename_i e; subst e; omega
  · exact Int.le_refl _
theorem lower_at {D : List Int} {i j : Nat} (hi : i < D.length) : nth (D.set i (min (nth D i) (nth D j + 1))) i ≤ nth D j + 1 := by
  rw [nth_set' hi, if_pos rfl]; omega
/-- a lesser list keeps what is known of it -/
theorem DFw.le {V D D' : List Int} {a i : Nat} {t : Int} (H : DFw V D a t i) (hl : ∀ k, nth D' k ≤ nth D k) (h0 : ∀ k, k < V.length → 0 ≤ nth D' k) : DFw V D' a t i :=
  ⟨fun k hk => by have := H.1 k hk; have := hl k; have := h0 k hk.1; omega, fun k h1 h2 s h3 h4 h5 => Int.le_trans (hl k) (H.2 k h1 h2 s h3 h4 h5)⟩
theorem DFw.step {V D : List Int} {a i : Nat} {t : Int} (H : DFw V D a t i) (ha : 0 < a) (hi : i < V.length) (hup : a ≤ i → nth D i ≤ nth D (i - a) + 1) (hle : 0 < i % a → nth D i ≤ nth D (i - 1) + 1) : DFw V D a t (i + 1) := by
  refine ⟨H.1, fun k h1 h2 s h3 h4 h5 => ?_⟩
  by_cases hk : k < i
  · exact H.2 k hk h2 s h3 h4 h5
  · obtain rfl : k = i := by omega
    have e := Nat.div_add_mod k a
    by_cases c1 : s / a < k / a
    · have hka : a ≤ k := by
        rcases Nat.lt_or_ge k a with h | h
        · rw [Nat.div_eq_of_lt h] at c1; exact absurd c1 (Nat.not_lt_zero _)
        · exact h
      have d1 : (k - a) / a = k / a - 1 := sub_div1 ha hka
      have d2 : (k - a) % a = k % a := by rw [← Nat.mod_eq_sub_mod hka]
      have h6 := H.2 (k - a) (by omega) (by omega) s h3 (by rw [d2]; exact h4) (by rw [d1]; omega)
      have h7 := hup hka
      have h8 : l1 a (k - a) s + 1 = l1 a k s := by unfold l1 dif; rw [d1, d2]; omega
      omega
    · by_cases c2 : s % a < k % a
      · have hlt := Nat.mod_lt k ha
        have d := div_of (a := a) (x := k % a - 1) (y := k / a) (i := k - 1) (by omega) (by rw [Nat.mul_comm]; omega)
        have h6 := H.2 (k - 1) (by omega) (by omega) s h3 (by rw [d.2]; omega) (by rw [d.1]; exact h5)
        have h7 := hle (by omega)
        have h8 : l1 a (k - 1) s + 1 = l1 a k s := by unfold l1 dif; rw [d.1, d.2]; omega
        omega
      · have : k = s := l1_zero (a := a) (by unfold l1 dif; omega)
        subst this
        rw [H.1 k h3]; omega
theorem DBw.step {V D : List Int} {a h i : Nat} {t : Int} (H : DBw V D a t (i + 1)) (ha : 0 < a) (hV : V.length = a * h) (hi : i < V.length) (hdn : i + a < V.length → nth D i ≤ nth D (i + a) + 1) (hri : i % a + 1 < a → nth D i ≤ nth D (i + 1) + 1) : DBw V D a t i := by
  refine ⟨H.1, fun k h1 h2 s h3 => ?_⟩
  by_cases hk : i + 1 ≤ k
  · exact H.2 k hk h2 s h3
  · obtain rfl : k = i := by omega
    have e := Nat.div_add_mod k a
    have es := Nat.div_add_mod s a
    by_cases c1 : k / a < s / a
    · have hka : k + a < V.length := by
        have m1 : s / a < h := Nat.div_lt_of_lt_mul (by rw [← hV]; exact h3.1)
        have hlt := Nat.mod_lt k ha
        have := cell_lt (a := a) (h := h) (x := k % a) (y := k / a + 1) hlt (by omega)
        rw [Nat.succ_mul, Nat.mul_comm (k / a)] at this
        omega
      have d1 : (k + a) / a = k / a + 1 := Nat.add_div_right _ ha
      have d2 : (k + a) % a = k % a := Nat.add_mod_right _ _
      have h6 := H.2 (k + a) (by omega) hka s h3
      have h7 := hdn hka
      have h8 : l1 a (k + a) s + 1 = l1 a k s := by unfold l1 dif; rw [d1, d2]; omega
      omega
    · by_cases c2 : k % a < s % a
      · have hlt := Nat.mod_lt s ha
        have d := div_of (a := a) (x := k % a + 1) (y := k / a) (i := k + 1) (by omega) (by rw [Nat.mul_comm]; omega)
        have m1 : k / a < h := Nat.div_lt_of_lt_mul (by rw [← hV]; exact h2)
        have := cell_lt (a := a) (h := h) (x := k % a + 1) (y := k / a) (by omega) m1
        have h6 := H.2 (k + 1) (by omega) (by rw [hV]; rw [Nat.mul_comm] at this; omega) s h3
        have h7 := hri (by omega)
        have h8 : l1 a (k + 1) s + 1 = l1 a k s := by unfold l1 dif; rw [d.1, d.2]; omega
        omega
      · exact H.1.2 k h2 h2 s h3 (by omega) (by omega)
/-- in the end: each cell's distance -/
structure DOk (V D : List Int) (a : Nat) (t : Int) : Prop where
  len : D.length = V.length
  lo : ∀ k, k < V.length → 0 ≤ nth D k ∧ nth D k ≤ 4096 ∧ (nth D k = 4096 ∨ ∃ s, seed V t s ∧ (l1 a k s : Int) ≤ nth D k)
  hi : ∀ k, k < V.length → ∀ s, seed V t s → nth D k ≤ (l1 a k s : Int)
theorem DBw.ok {V D : List Int} {a : Nat} {t : Int} (H : DBw V D a t 0) (L : DLo V D a t) : DOk V D a t := ⟨L.1, L.2, fun k hk s hs => H.2 k (Nat.zero_le _) hk s hs⟩
end Go.Proofs.Ytbhmkpnihgjlnaa
