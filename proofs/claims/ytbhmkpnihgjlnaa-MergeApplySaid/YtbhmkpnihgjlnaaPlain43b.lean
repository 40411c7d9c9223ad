/- Layer 43 without the program: which one is nearest; what the distances are. -/
import Derived.Test.YtbhmkpnihgjlnaaPlain43
set_option linter.unusedVariables false
set_option linter.unusedSimpArgs false
namespace Go.Proofs.Ytbhmkpnihgjlnaa
open Go Go.RowKit

/-- of the first n cells over a height the first one of the nearest to the cell k -/
def nr (V : List Int) (a k : Nat) (t : Int) : Nat → Option Nat
  | 0 => none
  | i + 1 => if nth V i < t then nr V a k t i else match nr V a k t i with
    | none => some i
    | some b => if l1 a k i < l1 a k b then some i else some b
theorem nr_spec {V : List Int} {a k : Nat} {t : Int} : ∀ n, match nr V a k t n with
    | none => ∀ s, s < n → nth V s < t
    | some b => b < n ∧ t ≤ nth V b ∧ ∀ s, s < n → t ≤ nth V s → l1 a k b ≤ l1 a k s ∧ (s < b → l1 a k b < l1 a k s)
  | 0 => fun s hs => absurd hs (Nat.not_lt_zero _)
  | i + 1 => by
    have ih := nr_spec (V := V) (a := a) (k := k) (t := t) i
    unfold nr
    by_cases h : nth V i < t
    · rw [if_pos h]
      cases e : nr V a k t i with
      | none =>
        rw [e] at ih
        intro s hs
        by_cases hsi : s = i
        · subst hsi; exact h
        · exact ih s (by omega)
      | some b =>
        rw [e] at ih
        obtain ⟨h1, h2, h3⟩ := ih
        refine ⟨by omega, h2, fun s hs hst => ?_⟩
        by_cases hsi : s = i
        · subst hsi; omega
        · exact h3 s (by omega) hst
    · rw [if_neg h]
      cases e : nr V a k t i with
      | none =>
        rw [e] at ih
        refine ⟨Nat.lt_succ_self _, by omega, fun s hs hst => ?_⟩
        have : ¬ s < i := fun hsi => by have := ih s hsi; omega
        obtain rfl : s = i := by omega
        exact ⟨Nat.le_refl _, fun h => absurd h (Nat.lt_irrefl _)⟩
      | some b =>
        rw [e] at ih
        obtain ⟨h1, h2, h3⟩ := ih
        by_cases hc : l1 a k i < l1 a k b
        · simp only [hc, if_true]
          refine ⟨Nat.lt_succ_self _, by omega, fun s hs hst => ?_⟩
          by_cases hsi : s = i
          · subst hsi; exact ⟨Nat.le_refl _, fun h => absurd h (Nat.lt_irrefl _)⟩
          · have := h3 s (by omega) hst
            exact ⟨by omega, fun _ => by omega⟩
        · simp only [hc, if_false]
          refine ⟨by omega, h2, fun s hs hst => ?_⟩
          by_cases hsi : s = i
          · subst hsi; exact ⟨by omega, fun h => absurd h (by omega)⟩
          · exact h3 s (by omega) hst
theorem nr_none {V : List Int} {a k n : Nat} {t : Int} (h : nr V a k t n = none) : ∀ s, s < n → nth V s < t := by
  have := nr_spec (V := V) (a := a) (k := k) (t := t) n; rw [h] at this; exact this
theorem nr_some {V : List Int} {a k n b : Nat} {t : Int} (h : nr V a k t n = some b) : b < n ∧ t ≤ nth V b ∧ ∀ s, s < n → t ≤ nth V s → l1 a k b ≤ l1 a k s ∧ (s < b → l1 a k b < l1 a k s) := by
  have := nr_spec (V := V) (a := a) (k := k) (t := t) n; rw [h] at this; exact this
/-- what the reference tells of a cell: the nearest one, how far it is, and whether there is one -/
def nrX (a : Nat) : Option Nat → Int
  | none => 0
  | some b => ((b % a : Nat) : Int)
def nrY (a : Nat) : Option Nat → Int
  | none => 0
  | some b => ((b / a : Nat) : Int)
def nrF (a k : Nat) : Option Nat → Int
  | none => 0
  | some b => (l1 a k b : Int)
/-- the distances of all cells -/
def toF (V : List Int) (a : Nat) (t : Int) (k : Nat) : Int := match nr V a k t V.length with
  | none => -1
  | some b => (l1 a k b : Int)
def toL (V : List Int) (a : Nat) (t : Int) (n : Nat) : List Int := (List.range n).map (toF V a t)
theorem toL_len {V : List Int} {a n : Nat} {t : Int} : (toL V a t n).length = n := by simp [toL]
theorem toL_at {V : List Int} {a n k : Nat} {t : Int} (h : k < n) : nth (toL V a t n) k = toF V a t k := by simp [toL, nth, List.getD, h]
theorem toL_succ {V : List Int} {a n : Nat} {t : Int} : toL V a t n ++ [toF V a t n] = toL V a t (n + 1) := by unfold toL; rw [List.range_succ, List.map_append]; rfl
theorem l1_lt {a h i j : Nat} (s : SzG a h) (hi : i < a * h) (hj : j < a * h) : l1 a i j ≤ 2046 := by
  obtain ⟨s1, s2, s3, s4⟩ := s
  have h1 := Nat.mod_lt i (show a > 0 by omega)
  have h2 := Nat.mod_lt j (show a > 0 by omega)
  have h3 : i / a < h := Nat.div_lt_of_lt_mul hi
  have h4 : j / a < h := Nat.div_lt_of_lt_mul hj
  unfold l1 dif
  generalize i % a = p at *
  generalize j % a = q at *
  generalize i / a = r at *
  generalize j / a = u at *
  omega
/-- there is nothing to be near to -/
def noS (V : List Int) (t : Int) : Prop := ∀ s, s < V.length → nth V s < t
theorem nr_noS {V : List Int} {a k : Nat} {t : Int} : nr V a k t V.length = none ↔ noS V t := by
  constructor
  · exact fun h s hs => nr_none h s hs
  · intro h
    cases e : nr V a k t V.length with
    | none => rfl
    | some b => have := nr_some e; have := h b this.1; omega
theorem toF_no {V : List Int} {a k : Nat} {t : Int} (h : noS V t) : toF V a t k = -1 := by unfold toF; rw [nr_noS.2 h]
theorem toF_neg {V : List Int} {a k : Nat} {t : Int} : toF V a t k < 0 ↔ noS V t := by
  constructor
  · intro h
    unfold toF at h
    cases e : nr V a k t V.length with
    | none => exact nr_noS.1 e
    | some b => rw [e] at h; dsimp only at h; omega
  · intro h; rw [toF_no h]; decide
theorem toF_none {V : List Int} {a : Nat} {t : Int} (h : noS V t) (n : Nat) : toL V a t n = List.replicate n (-1) := by
  refine nth_ext (by rw [toL_len, List.length_replicate]) fun i hi => ?_
  rw [toL_len] at hi
  rw [toL_at hi, nth_rep hi, toF_no h]
theorem DOk.none {V D : List Int} {a k : Nat} {t : Int} (H : DOk V D a t) (hk : k < V.length) : nth D k ≥ 4096 ↔ noS V t ∨ (∀ s, seed V t s → 4096 ≤ l1 a k s) := by
  constructor
  · intro h
    refine .inr fun s hs => ?_
    have := H.hi k hk s hs
    omega
  · rintro (h | h)
    · rcases (H.lo k hk).2.2 with e | ⟨s, hs, _⟩
      · omega
      · have := h s hs.1; have := hs.2; omega
    · rcases (H.lo k hk).2.2 with e | ⟨s, hs, e⟩
      · omega
      · have := h s hs; omega
theorem DOk.no {V D : List Int} {a h k : Nat} {t : Int} (H : DOk V D a t) (s : SzG a h) (hl : V.length = a * h) (hk : k < V.length) : nth D k ≥ 4096 ↔ noS V t := by
  rw [H.none hk]
  constructor
  · rintro (h | h)
    · exact h
    · intro q hq
      by_cases c : nth V q < t
      · exact c
      · have c : t ≤ nth V q := by omega
        have h1 := h q ⟨hq, c⟩
        have := l1_lt (i := k) (j := q) s (by rw [← hl]; exact hk) (by rw [← hl]; exact hq)
        omega
  · exact .inl
theorem DOk.val {V D : List Int} {a h k : Nat} {t : Int} (H : DOk V D a t) (s : SzG a h) (hl : V.length = a * h) (hk : k < V.length) (hn : ¬ noS V t) : nth D k = toF V a t k := by
  unfold toF
  cases e : nr V a k t V.length with
  | none => exact absurd (nr_noS.1 e) hn
  | some b =>
    obtain ⟨h1, h2, h3⟩ := nr_some e
    have h4 := H.hi k hk b ⟨h1, h2⟩
    have h5 := l1_lt (i := k) (j := b) s (by rw [← hl]; exact hk) (by rw [← hl]; exact h1)
    rcases (H.lo k hk).2.2 with e | ⟨q, hq, e⟩
    · omega
    · have := (h3 q hq.1 hq.2).1
      show _ = (l1 a k b : Int)
      omega
theorem DOk.list {V D : List Int} {a h : Nat} {t : Int} (H : DOk V D a t) (s : SzG a h) (hl : V.length = a * h) (hn : ¬ noS V t) : D = toL V a t (a * h) := by
  refine nth_ext (by rw [toL_len, H.len, hl]) fun i hi => ?_
  rw [H.len] at hi
  rw [toL_at (by rw [← hl]; exact hi), H.val s hl hi hn]
/-- a cell over the height is at no distance, and no other one is -/
theorem toF_zero {V : List Int} {a k : Nat} {t : Int} (ha : 0 < a) (hk : k < V.length) : toF V a t k = 0 ↔ t ≤ nth V k := by
  unfold toF
  constructor
  · intro h
    cases e : nr V a k t V.length with
    | none => rw [e] at h; cases h
    | some b =>
      rw [e] at h
      dsimp only at h
      obtain rfl : k = b := l1_zero (a := a) (by omega)
      exact (nr_some e).2.1
  · intro h
    cases e : nr V a k t V.length with
    | none => have := nr_none e k hk; omega
    | some b =>
      have := ((nr_some e).2.2 k hk h).1
      rw [l1_self] at this
      show (l1 a k b : Int) = 0
      omega
theorem toF_pos {V : List Int} {a k : Nat} {t : Int} (hn : ¬ noS V t) : 0 ≤ toF V a t k := by
  by_cases h : toF V a t k < 0
  · exact absurd (toF_neg.1 h) hn
  · omega
/-- a greater height is never nearer -/
theorem toF_mono {V : List Int} {a k : Nat} {t u : Int} (htu : t ≤ u) (hu : ¬ noS V u) : ¬ noS V t ∧ toF V a t k ≤ toF V a u k := by
  have ht : ¬ noS V t := fun h => hu fun s hs => by have := h s hs; omega
  refine ⟨ht, ?_⟩
  unfold toF
  cases e : nr V a k t V.length with
  | none => exact absurd (nr_noS.1 e) ht
  | some b => cases f : nr V a k u V.length with
    | none => exact absurd (nr_noS.1 f) hu
    | some c =>
      obtain ⟨h1, h2, _⟩ := nr_some f
      have := ((nr_some e).2.2 c h1 (by omega)).1
      show (l1 a k b : Int) ≤ (l1 a k c : Int)
      omega
/-- of two cells that share a side -/
theorem toF_step {V : List Int} {a i j : Nat} {t : Int} (h1 : l1 a i j = 1) : toF V a t i - toF V a t j ≤ 1 := by
  by_cases hn : noS V t
  · rw [toF_no hn, toF_no hn]; omega
  · unfold toF
    cases e : nr V a i t V.length with
    | none => exact absurd (nr_noS.1 e) hn
    | some b => cases f : nr V a j t V.length with
      | none => exact absurd (nr_noS.1 f) hn
      | some c =>
        obtain ⟨h2, h3, _⟩ := nr_some f
        have h4 := ((nr_some e).2.2 c h2 h3).1
        have h5 := l1_tri (a := a) (i := i) (j := j) (k := c)
        show (l1 a i b : Int) - (l1 a j c : Int) ≤ 1
        omega
theorem l1_left {a i : Nat} (ha : 0 < a) (h : 0 < i % a) : l1 a i (i - 1) = 1 := by
  have e := of_div (rfl : i / a = _) (rfl : i % a = _)
  have hlt := Nat.mod_lt i ha
  have d := div_of (a := a) (x := i % a - 1) (y := i / a) (i := i - 1) (by omega) (by omega)
  unfold l1 dif; rw [d.1, d.2]; omega
theorem l1_up {a i : Nat} (ha : 0 < a) (h : a ≤ i) : l1 a i (i - a) = 1 := by
  have d1 : (i - a) / a = i / a - 1 := sub_div1 ha h
  have d2 : (i - a) % a = i % a := by rw [← Nat.mod_eq_sub_mod h]
  have : 1 ≤ i / a := (Nat.le_div_iff_mul_le ha).2 (by omega)
  unfold l1 dif; rw [d1, d2]; omega
/-! the rows from a cell's own one on -/
theorem l1_cell {a x y cx cy : Nat} (hx : x < a) (hcx : cx < a) : l1 a (cy * a + cx) (y * a + x) = dif cx x + dif cy y := by
  obtain ⟨d1, d2⟩ := div_of hx (rfl : y * a + x = _)
  obtain ⟨e1, e2⟩ := div_of hcx (rfl : cy * a + cx = _)
  unfold l1; rw [d1, d2, e1, e2]
/-- no cell of the rows above y is one of those that are so far -/
def Scan (V : List Int) (a k : Nat) (t : Int) (f y : Nat) : Prop := ∀ s, seed V t s → l1 a k s = f → y ≤ s / a
/-- is a place of a row one that is high enough? -/
def hitX (V : List Int) (a : Nat) (t : Int) (y : Nat) (x : Int) : Prop := 0 ≤ x ∧ x < a ∧ t ≤ nth V (y * a + x.toNat)
theorem seed_parts {V : List Int} {a h s : Nat} {t : Int} (hl : V.length = a * h) (hs : seed V t s) : s % a < a ∧ s / a < h ∧ s = s / a * a + s % a := by
  have hi : s < a * h := by rw [← hl]; exact hs.1
  have ha : 0 < a := by
    rcases Nat.eq_zero_or_pos a with h0 | h0
    · subst h0; omega
    · exact h0
  exact ⟨Nat.mod_lt _ ha, Nat.div_lt_of_lt_mul hi, of_div rfl rfl⟩
theorem Scan.start {V : List Int} {a cx cy f : Nat} {t : Int} (hcx : cx < a) {h : Nat} (hl : V.length = a * h) : Scan V a (cy * a + cx) t f (cy - f) := fun s hs hf => by
  obtain ⟨h1, h2, h3⟩ := seed_parts hl hs
  rw [h3, l1_cell h1 hcx] at hf
  unfold dif at hf
  generalize s % a = p at *
  generalize s / a = r at *
  omega
theorem Scan.step {V : List Int} {a h cx cy f y : Nat} {t : Int} (hcx : cx < a) (hl : V.length = a * h) (H : Scan V a (cy * a + cx) t f y) (hd : dif cy y ≤ f)
    (n1 : ¬ hitX V a t y ((cx : Int) - (f - dif cy y : Nat))) (n2 : ¬ hitX V a t y ((cx : Int) + (f - dif cy y : Nat))) : Scan V a (cy * a + cx) t f (y + 1) := fun s hs hf => by
  have h0 := H s hs hf
  obtain ⟨h1, h2, h3⟩ := seed_parts hl hs
  generalize s % a = x at *
  generalize s / a = r at *
  subst h3
  rcases Nat.lt_or_ge y r with c | c
  · exact c
  · exfalso
    obtain rfl : r = y := by omega
    rw [l1_cell h1 hcx] at hf
    have hx : (x : Int) = (cx : Int) - (f - dif cy r : Nat) ∨ (x : Int) = (cx : Int) + (f - dif cy r : Nat) := by unfold dif at *; omega
    rcases hx with e | e
    · refine n1 ⟨by omega, by omega, ?_⟩
      rw [← e]; exact hs.2
    · refine n2 ⟨by omega, by omega, ?_⟩
      rw [← e]; exact hs.2
/-- a hit is the nearest one -/
theorem Scan.hit {V : List Int} {a h cx cy b y x : Nat} {t : Int} (hcx : cx < a) (hl : V.length = a * h) (hb : nr V a (cy * a + cx) t V.length = some b) (hy : y < h) (hx : x < a)
    (H : Scan V a (cy * a + cx) t (l1 a (cy * a + cx) b) y) (hd : dif cy y ≤ l1 a (cy * a + cx) b) (he : dif cx x = l1 a (cy * a + cx) b - dif cy y) (hh : t ≤ nth V (y * a + x))
    (n1 : (x : Int) = (cx : Int) - (l1 a (cy * a + cx) b - dif cy y : Nat) ∨ ¬ hitX V a t y ((cx : Int) - (l1 a (cy * a + cx) b - dif cy y : Nat))) : b = y * a + x := by
  obtain ⟨b1, b2, b3⟩ := nr_some hb
  have hi : y * a + x < V.length := by rw [hl]; exact cell_lt hx hy
  have e1 : l1 a (cy * a + cx) (y * a + x) = l1 a (cy * a + cx) b := by rw [l1_cell hx hcx]; omega
  have h3 := (b3 _ hi hh).2
  have hle : b ≤ y * a + x := by
    rcases Nat.lt_or_ge (y * a + x) b with c | c
    · have := h3 c; omega
    · exact c
  have h4 := H b ⟨b1, b2⟩ rfl
  obtain ⟨h5, h6, h7⟩ := seed_parts hl ⟨b1, b2⟩
  generalize hF : l1 a (cy * a + cx) b = F at *
  generalize b % a = bx at *
  generalize b / a = bY at *
  subst h7
  have hlast : bY = y := by
    rcases Nat.lt_or_ge y bY with c | c
    · have : (y + 1) * a ≤ bY * a := Nat.mul_le_mul_right _ c
      rw [Nat.succ_mul] at this
      omega
    · omega
  subst hlast
  have hbx : bx ≤ x := by omega
  rw [l1_cell h5 hcx] at hF
  have hcase : (bx : Int) = (cx : Int) - (F - dif cy bY : Nat) ∨ (bx : Int) = (cx : Int) + (F - dif cy bY : Nat) := by unfold dif at *; omega
  rcases hcase with e | e
  · rcases n1 with q | q
    · have : bx = x := by omega
      rw [this]
    · exfalso
      refine q ⟨by omega, by omega, ?_⟩
      rw [← e]; exact b2
  · have : bx = x := by unfold dif at *; omega
    rw [this]
theorem Scan.end_ {V : List Int} {a h cx cy b y : Nat} {t : Int} (hcx : cx < a) (hl : V.length = a * h) (hb : nr V a (cy * a + cx) t V.length = some b) (H : Scan V a (cy * a + cx) t (l1 a (cy * a + cx) b) y) (hy : h ≤ y ∨ cy + l1 a (cy * a + cx) b < y) : False := by
  obtain ⟨b1, b2, _⟩ := nr_some hb
  have h4 := H b ⟨b1, b2⟩ rfl
  obtain ⟨h5, h6, h7⟩ := seed_parts hl ⟨b1, b2⟩
  have h8 : l1 a (cy * a + cx) b = dif cx (b % a) + dif cy (b / a) := by
    rw [← l1_cell h5 hcx, ← h7]
  unfold dif at h8
  omega
end Go.Proofs.Ytbhmkpnihgjlnaa
