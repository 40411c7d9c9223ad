/- Layer 43 without the program: which cells are so near, which one is the farthest. -/
import Derived.Test.YtbhmkpnihgjlnaaPlain43c
set_option linter.unusedVariables false
set_option linter.unusedSimpArgs false
namespace Go.Proofs.Ytbhmkpnihgjlnaa
open Go Go.RowKit

/-- the cells of those of the first n places that p is true of, as numbers two by two; how many -/
def selC (a : Nat) (p : Nat → Bool) : Nat → List Int
  | 0 => []
  | i + 1 => if p i = true then selC a p i ++ [((i % a : Nat) : Int), ((i / a : Nat) : Int)] else selC a p i
def selN (p : Nat → Bool) : Nat → Nat
  | 0 => 0
  | i + 1 => if p i = true then selN p i + 1 else selN p i
theorem selC_len {a : Nat} {p : Nat → Bool} : ∀ n, (selC a p n).length = selN p n * 2
  | 0 => rfl
  | n + 1 => by
    unfold selC selN
    have := selC_len (a := a) (p := p) n
    split
    · rw [List.length_append, this]; show selN p n * 2 + 2 = _; omega
    · exact this
theorem selN_le {p : Nat → Bool} : ∀ n, selN p n ≤ n
  | 0 => Nat.le_refl _
  | n + 1 => by
    unfold selN
    have := selN_le (p := p) n
    split <;> omega
theorem selC_t {a i : Nat} {p : Nat → Bool} (h : p i = true) : selC a p i ++ [((i % a : Nat) : Int), ((i / a : Nat) : Int)] = selC a p (i + 1) := by
  show _ = if p i = true then _ else _
  rw [if_pos h]
theorem selC_f {a i : Nat} {p : Nat → Bool} (h : ¬ p i = true) : selC a p i = selC a p (i + 1) := by
  show _ = if p i = true then _ else _
  rw [if_neg h]
theorem selN_t {i : Nat} {p : Nat → Bool} (h : p i = true) : selN p i + 1 = selN p (i + 1) := by
  show _ = if p i = true then _ else _
  rw [if_pos h]
theorem selN_f {i : Nat} {p : Nat → Bool} (h : ¬ p i = true) : selN p i = selN p (i + 1) := by
  show _ = if p i = true then _ else _
  rw [if_neg h]
theorem sel_congr {a : Nat} {p q : Nat → Bool} : ∀ {n}, (∀ k, k < n → p k = q k) → selC a p n = selC a q n ∧ selN p n = selN q n
  | 0, _ => ⟨rfl, rfl⟩
  | n + 1, h => by
    obtain ⟨h1, h2⟩ := sel_congr (a := a) (p := p) (q := q) (n := n) (fun k hk => h k (by omega))
    unfold selC selN
    rw [h1, h2, h n (Nat.lt_succ_self _)]
    exact ⟨rfl, rfl⟩
/-- near enough, by what is known of all distances; by the answer -/
def nearD (D : List Int) (m : Int) (k : Nat) : Bool := decide (nth D k ≤ m ∧ nth D k < 4096)
def nearW (W : List Int) (m : Int) (k : Nat) : Bool := decide (0 ≤ nth W k ∧ nth W k ≤ m)
theorem near_eq {V D : List Int} {a h : Nat} {t m : Int} (H : DOk V D a t) (s : SzG a h) (hl : V.length = a * h) : ∀ k, k < a * h → nearD D m k = nearW (toL V a t (a * h)) m k := fun k hk => by
  unfold nearD nearW
  rw [toL_at hk]
  have hkV : k < V.length := by rw [hl]; exact hk
  by_cases hn : noS V t
  · rw [toF_no hn]
    have := (H.no s hl hkV).2 hn
    rw [decide_eq_false (by omega), decide_eq_false (by omega)]
  · rw [H.val s hl hkV hn]
    have h1 := toF_pos (a := a) (k := k) hn
    have h2 : ¬ nth D k ≥ 4096 := fun h => hn ((H.no s hl hkV).1 h)
    rw [H.val s hl hkV hn] at h2
    by_cases c : toF V a t k ≤ m
    · rw [decide_eq_true ⟨c, by omega⟩, decide_eq_true ⟨h1, c⟩]
    · rw [decide_eq_false (fun h => c h.1), decide_eq_false (fun h => c h.2)]
/-- the first of the greatest -/
def amx (L : List Int) : Nat → Nat
  | 0 => 0
  | n + 1 => if nth L (amx L n) < nth L n then n else amx L n
theorem amx_spec {L : List Int} : ∀ n, (n = 0 ∧ amx L n = 0 ∨ amx L n < n) ∧ (∀ j, j < n → nth L j ≤ nth L (amx L n)) ∧ ∀ j, j < amx L n → nth L j < nth L (amx L n)
  | 0 => ⟨.inl ⟨rfl, rfl⟩, fun j h => absurd h (Nat.not_lt_zero _), fun j h => absurd h (Nat.not_lt_zero _)⟩
  | n + 1 => by
    obtain ⟨h1, h2, h3⟩ := amx_spec (L := L) n
    unfold amx
    split
    · rename_i c
      refine ⟨.inr (Nat.lt_succ_self _), fun j hj => ?_, fun j hj => ?_⟩
      · by_cases e : j = n
        · subst e; exact Int.le_refl _
        · have := h2 j (by omega); omega
      · have := h2 j hj; omega
    · rename_i c
      refine ⟨.inr (by omega), fun j hj => ?_, h3⟩
      by_cases e : j = n
      · subst e; omega
      · exact h2 j (by omega)
theorem amx_lt {L : List Int} {n : Nat} (h : 0 < n) : amx L n < n := by
  rcases (amx_spec (L := L) n).1 with h | h <;> omega
theorem amx_eq {L : List Int} {n i : Nat} (hi : i < n) (h1 : ∀ j, j < n → nth L j ≤ nth L i) (h2 : ∀ j, j < i → nth L j < nth L i) : i = amx L n := by
  obtain ⟨_, k1, k2⟩ := amx_spec (L := L) n
  have hlt := amx_lt (L := L) (n := n) (by omega)
  rcases Nat.lt_trichotomy i (amx L n) with c | c | c
  · have := k2 i c; have := h1 _ hlt; omega
  · exact c
  · have := h2 _ c; have := k1 i hi; omega
theorem amx_step {L : List Int} {n : Nat} : (if nth L (amx L n) < nth L n then n else amx L n) = amx L (n + 1) := rfl
theorem amx_t {L : List Int} {n : Nat} (h : nth L (amx L n) < nth L n) : n = amx L (n + 1) := by rw [← amx_step, if_pos h]
theorem amx_f {L : List Int} {n : Nat} (h : ¬ nth L (amx L n) < nth L n) : amx L n = amx L (n + 1) := by rw [← amx_step, if_neg h]
theorem maxL_amx {L : List Int} {n : Nat} (h : 0 < n) : maxL L n = nth L (amx L n) := by
  obtain ⟨_, k1, _⟩ := amx_spec (L := L) n
  obtain ⟨k, h1, h2⟩ := maxL_mem (L := L) (n := n) (by omega)
  have := k1 k h1
  have := maxL_ge (L := L) (amx_lt (L := L) h)
  omega
/-- the first place of the greatest is found -/
theorem amx_first {L : List Int} {n i : Nat} (hi : i < n) (h1 : nth L i = maxL L n) (h2 : ∀ j, j < i → nth L j ≠ maxL L n) : i = amx L n :=
  amx_eq hi (fun j hj => by have := maxL_ge (L := L) hj; omega) (fun j hj => by have := maxL_ge (L := L) (n := n) (k := j) (by omega); have := h2 j hj; omega)
/-- a list that begins with so many of one number -/
def repV (v : Int) (m n : Nat) : List Int := List.replicate m v ++ List.replicate (n - m) 0
theorem repV_len {v : Int} {m n : Nat} (h : m ≤ n) : (repV v m n).length = n := by unfold repV; simp; omega
theorem repV_all {v : Int} {n : Nat} : repV v n n = List.replicate n v := by unfold repV; simp
theorem repV_at {v : Int} {m n j : Nat} (h : m ≤ n) (hj : j < n) : nth (repV v m n) j = if j < m then v else 0 := by
  unfold repV
  by_cases c : j < m
  · rw [nth_app_lt (by rw [List.length_replicate]; exact c), nth_rep c, if_pos c]
  · rw [if_neg c]
    simp [nth, List.getD, List.getElem?_append, c]
    rw [List.getElem?_replicate, if_pos (by omega)]
    rfl
/-! the reference's nearest one, step by step -/
theorem nr_skip {V : List Int} {a k i : Nat} {t : Int} (h : nth V i < t) : nr V a k t i = nr V a k t (i + 1) := by
  show _ = if nth V i < t then _ else _
  rw [if_pos h]
theorem nr_first {V : List Int} {a k i : Nat} {t : Int} (h : ¬ nth V i < t) (e : nr V a k t i = none) : nr V a k t (i + 1) = some i := by
  show (if nth V i < t then _ else _) = _
  rw [if_neg h, e]
theorem nr_near {V : List Int} {a k i b : Nat} {t : Int} (h : ¬ nth V i < t) (e : nr V a k t i = some b) (c : l1 a k i < l1 a k b) : nr V a k t (i + 1) = some i := by
  show (if nth V i < t then _ else _) = _
  rw [if_neg h, e]; exact if_pos c
theorem nr_far {V : List Int} {a k i b : Nat} {t : Int} (h : ¬ nth V i < t) (e : nr V a k t i = some b) (c : ¬ l1 a k i < l1 a k b) : nr V a k t (i + 1) = nr V a k t i := by
  show (if nth V i < t then _ else _) = _
  rw [if_neg h, e]; exact if_neg c
theorem l1_int {a cx cy i : Nat} (hcx : cx < a) : (l1 a (cy * a + cx) i : Int) = (dif cx (i % a) + dif cy (i / a) : Nat) := by
  obtain ⟨e1, e2⟩ := div_of hcx (rfl : cy * a + cx = _)
  unfold l1; rw [e1, e2]
theorem fardist {a cx cy b : Nat} (hcx : cx < a) {t : Int} {V : List Int} (e : nr V a (cy * a + cx) t V.length = some b) : toF V a t (cy * a + cx) = (l1 a (cy * a + cx) b : Int) := by
  unfold toF; rw [e]
end Go.Proofs.Ytbhmkpnihgjlnaa
