/- Charts, without the program: lines as rows of numbers. -/
import Derived.Test.YtgkkbeomhkggjaaDoorPlain34
set_option linter.unusedVariables false
set_option linter.unusedSimpArgs false
namespace Go.Proofs.YtgkkbeomhkggjaaDoor
open Go Go.RowKit
/-- a line's numbers: its runes' bands; none, where a rune is no sign -/
def rowG (l : List Bd) : Nat → List Int → Option (List Int)
  | 0, _ => some []
  | k + 1, s => if s.length = 0 then some [] else match backF l (runeD s).1 with
    | none => none
    | some f => (rowG l k (s.drop (runeD s).2)).map (f :: ·)
def rowM (l : List Bd) (s : List Int) : Option (List Int) := rowG l s.length s
theorem rowG_nil {l : List Bd} : ∀ {k : Nat} {s : List Int}, s.length = 0 → rowG l k s = some []
  | 0, _, _ => rfl
  | k + 1, s, h => by rw [rowG, if_pos h]
theorem rowG_fuel {l : List Bd} : ∀ {k m : Nat} {s : List Int}, s.length ≤ k → s.length ≤ m → rowG l k s = rowG l m s
  | 0, m, s, h1, h2 => by rw [rowG_nil (k := m) (by omega)]; rfl
  | k + 1, 0, s, h1, h2 => by rw [rowG_nil (k := k + 1) (by omega)]; rfl
  | k + 1, m + 1, s, h1, h2 => by
    rw [rowG, rowG]
    have hz := runeD_size s
    by_cases h : s.length = 0
    · rw [if_pos h, if_pos h]
    · rw [if_neg h, if_neg h, rowG_fuel (k := k) (m := m) (by rw [List.length_drop]; omega) (by rw [List.length_drop]; omega)]
theorem rowM_nil {l : List Bd} {s : List Int} (h : ¬ 0 < s.length) : rowM l s = some [] := rowG_nil (by omega)
theorem rowM_none {l : List Bd} {s : List Int} (h : 0 < s.length) (hb : backF l (runeD s).1 = none) : rowM l s = none := by
  unfold rowM
  obtain ⟨k, hk⟩ : ∃ k, s.length = k + 1 := ⟨s.length - 1, by omega⟩
  rw [hk, rowG, if_neg (by omega), hb]
theorem rowM_some {l : List Bd} {s : List Int} {f : Int} (h : 0 < s.length) (hb : backF l (runeD s).1 = some f) : rowM l s = (rowM l (s.drop (runeD s).2)).map (f :: ·) := by
  unfold rowM
  obtain ⟨k, hk⟩ : ∃ k, s.length = k + 1 := ⟨s.length - 1, by omega⟩
  have hz := runeD_size s
  rw [hk, rowG, if_neg (by omega), hb]
  simp only
  rw [rowG_fuel (k := k) (by rw [List.length_drop]; omega) (Nat.le_refl _)]
theorem rowG_len {l : List Bd} : ∀ {k : Nat} {s r : List Int}, rowG l k s = some r → r.length ≤ s.length
  | 0, s, r, h => by rw [rowG] at h; cases h; exact Nat.zero_le _
  | k + 1, s, r, h => by
    rw [rowG] at h
    have hz := runeD_size s
    split at h
    · cases h; exact Nat.zero_le _
    · split at h
      · cases h
      · cases hr : rowG l k (s.drop (runeD s).2) with
        | none => rw [hr] at h; cases h
        | some q =>
          rw [hr] at h
          have := rowG_len hr
          rw [List.length_drop] at this
          cases h
          rw [List.length_cons]; omega
theorem rowM_len {l : List Bd} {s r : List Int} (h : rowM l s = some r) : r.length ≤ s.length := rowG_len h
theorem backI_mem {l : List Bd} {r : Int} : ∀ {k i : Nat}, backI l r k = some i → i < k ∧ (bn l i).s = r
  | 0, _, h => by cases h
  | k + 1, i, h => by
    rw [backI] at h
    split at h
    · rename_i j hj
      cases h
      have := backI_mem hj
      exact ⟨by omega, this.2⟩
    · split at h
      · cases h; exact ⟨by omega, by assumption⟩
      · cases h
theorem backF_B {l : List Bd} (hR : RgtP l) {r f : Int} (h : backF l r = some f) : B32 f := by
  unfold backF at h
  cases hi : backI l r l.length with
  | none => rw [hi] at h; cases h
  | some i =>
    rw [hi] at h
    cases h
    exact (hR.2 i (backI_mem hi).1).1
theorem rowG_B {l : List Bd} (hR : RgtP l) : ∀ {k : Nat} {s r : List Int}, rowG l k s = some r → AllB r
  | 0, s, r, h => by rw [rowG] at h; cases h; intro v hv; cases hv
  | k + 1, s, r, h => by
    rw [rowG] at h
    split at h
    · cases h; intro v hv; cases hv
    · split at h
      · cases h
      · rename_i f hf
        cases hr : rowG l k (s.drop (runeD s).2) with
        | none => rw [hr] at h; cases h
        | some q =>
          rw [hr] at h
          cases h
          intro v hv
          rcases List.mem_cons.1 hv with rfl | hv
          · exact backF_B hR hf
          · exact rowG_B hR hr v hv
/-- the loop's word: what is done, and what is left -/
def rowJ (l : List Bd) (s acc rest : List Int) : Prop := rowM l s = (rowM l rest).map (acc ++ ·)
theorem rowJ_init {l : List Bd} {s : List Int} : rowJ l s [] s := by
  unfold rowJ
  cases rowM l s <;> simp
theorem rowJ_none {l : List Bd} {s acc rest : List Int} (h : rowJ l s acc rest) (h0 : 0 < rest.length) (hb : backF l (runeD rest).1 = none) : rowM l s = none := by rw [h, rowM_none h0 hb]; rfl
theorem rowJ_some {l : List Bd} {s acc rest : List Int} {f : Int} (h : rowJ l s acc rest) (h0 : 0 < rest.length) (hb : backF l (runeD rest).1 = some f) : rowJ l s (acc ++ [f]) (rest.drop (runeD rest).2) := by
  unfold rowJ at *
  rw [h, rowM_some h0 hb]
  cases rowM l (rest.drop (runeD rest).2) <;> simp
theorem rowJ_end {l : List Bd} {s acc rest : List Int} (h : rowJ l s acc rest) (h0 : ¬ 0 < rest.length) : rowM l s = some acc := by rw [h, rowM_nil h0]; simp

/-- a line's pieces: each rune's bytes -/
def rcsG : Nat → List Int → List (List Int)
  | 0, _ => []
  | k + 1, s => if s.length = 0 then [] else s.take (runeD s).2 :: rcsG k (s.drop (runeD s).2)
def rcs (s : List Int) : List (List Int) := rcsG s.length s
theorem rcsG_nil : ∀ {k : Nat} {s : List Int}, s.length = 0 → rcsG k s = []
  | 0, _, _ => rfl
  | k + 1, s, h => by rw [rcsG, if_pos h]
theorem rcsG_fuel : ∀ {k m : Nat} {s : List Int}, s.length ≤ k → s.length ≤ m → rcsG k s = rcsG m s
  | 0, m, s, h1, h2 => by rw [rcsG_nil (k := m) (by omega)]; rfl
  | k + 1, 0, s, h1, h2 => by rw [rcsG_nil (k := k + 1) (by omega)]; rfl
  | k + 1, m + 1, s, h1, h2 => by
    rw [rcsG, rcsG]
    have hz := runeD_size s
    by_cases h : s.length = 0
    · rw [if_pos h, if_pos h]
    · rw [if_neg h, if_neg h, rcsG_fuel (k := k) (m := m) (by rw [List.length_drop]; omega) (by rw [List.length_drop]; omega)]
theorem rcs_nil {s : List Int} (h : ¬ 0 < s.length) : rcs s = [] := rcsG_nil (by omega)
theorem rcs_cons {s : List Int} (h : 0 < s.length) : rcs s = s.take (runeD s).2 :: rcs (s.drop (runeD s).2) := by
  unfold rcs
  obtain ⟨k, hk⟩ : ∃ k, s.length = k + 1 := ⟨s.length - 1, by omega⟩
  have hz := runeD_size s
  rw [hk, rcsG, if_neg (by omega), rcsG_fuel (k := k) (by rw [List.length_drop]; omega) (Nat.le_refl _)]
theorem rcsG_len : ∀ {k : Nat} {s : List Int}, (rcsG k s).length ≤ s.length
  | 0, _ => Nat.zero_le _
  | k + 1, s => by
    rw [rcsG]
    have hz := runeD_size s
    split
    · exact Nat.zero_le _
    · have := rcsG_len (k := k) (s := s.drop (runeD s).2)
      rw [List.length_drop] at this
      rw [List.length_cons]; omega
theorem rcs_len {s : List Int} : (rcs s).length ≤ s.length := rcsG_len
theorem take_byt {s : List Int} {k : Nat} (h : Byt s) : Byt (s.take k) := fun z hz => h z (List.mem_of_mem_take hz)
theorem drop_byt {s : List Int} {k : Nat} (h : Byt s) : Byt (s.drop k) := fun z hz => h z (List.mem_of_mem_drop hz)
theorem rcsG_byt : ∀ {k : Nat} {s : List Int}, Byt s → ∀ p ∈ rcsG k s, Byt p
  | 0, _, _ => fun p hp => by cases hp
  | k + 1, s, h => fun p hp => by
    rw [rcsG] at hp
    split at hp
    · cases hp
    · rcases List.mem_cons.1 hp with rfl | hp
      · exact take_byt h
      · exact rcsG_byt (drop_byt h) p hp
theorem rcs_byt {s : List Int} (h : Byt s) : ∀ p ∈ rcs s, Byt p := rcsG_byt h
theorem encB_byt {r : Int} (h : SgnP r) : Byt (encB r) := by
  unfold SgnP at h
  unfold encB
  intro z hz
  split at hz
  · simp only [List.mem_singleton] at hz; omega
  · split at hz
    · simp only [List.mem_cons, List.not_mem_nil, or_false] at hz; omega
    · simp only [List.mem_cons, List.not_mem_nil, or_false] at hz; omega
theorem encB_len (r : Int) : 1 ≤ (encB r).length ∧ (encB r).length ≤ 3 := by
  unfold encB
  split
  · simp
  · split <;> simp
/-- a piece is a sign's bytes just where its rune is the sign -/
theorem piece_iff {s : List Int} (hB : Byt s) (h0 : 0 < s.length) {r : Int} (hr : SgnP r) : encB r = s.take (runeD s).2 ↔ r = (runeD s).1 := by
  constructor
  · intro h
    have h1 : s = encB r ++ s.drop (runeD s).2 := by rw [h, List.take_append_drop]
    have h2 := runeD_enc hr (s.drop (runeD s).2)
    rw [← h1] at h2
    rw [h2]
  · intro h
    subst h
    exact (enc_runeD hB h0 hr).symm
def backP (l : List Bd) (p : List Int) : Nat → Option Nat
  | 0 => none
  | k + 1 => match backP l p k with
    | some i => some i
    | none => if encB (bn l k).s = p then some k else none
theorem backP_eq {l : List Bd} (hR : RgtP l) {s : List Int} (hB : Byt s) (h0 : 0 < s.length) : ∀ k, k ≤ l.length → backP l (s.take (runeD s).2) k = backI l (runeD s).1 k
  | 0, _ => rfl
  | k + 1, hk => by
    rw [backP, backI, backP_eq hR hB h0 k (by omega)]
    have := piece_iff hB h0 (hR.2 k (by omega)).2.1
    by_cases e : (bn l k).s = (runeD s).1
    · rw [if_pos e, if_pos (this.2 e)]; cases backI l (runeD s).1 k <;> rfl
    · rw [if_neg e, if_neg (fun q => e (this.1 q))]; cases backI l (runeD s).1 k <;> rfl
theorem backP_none {l : List Bd} {p : List Int} : ∀ {k : Nat}, (∀ j, j < k → encB (bn l j).s ≠ p) → backP l p k = none
  | 0, _ => rfl
  | k + 1, h => by rw [backP, backP_none (fun j hj => h j (by omega))]; simp only; rw [if_neg (h k (by omega))]
theorem backP_some {l : List Bd} {p : List Int} {i : Nat} (h : ∀ j, j < i → encB (bn l j).s ≠ p) (hi : encB (bn l i).s = p) : ∀ {k : Nat}, i < k → backP l p k = some i
  | k + 1, hk => by
    rcases Nat.lt_or_ge i k with q | q
    · rw [backP, backP_some h hi q]
    · obtain rfl : i = k := by omega
      rw [backP, backP_none h]; simp only; rw [if_pos hi]
def backPF (l : List Bd) (p : List Int) : Option Int := (backP l p l.length).map fun i => (bn l i).f
theorem backPF_eq {l : List Bd} (hR : RgtP l) {s : List Int} (hB : Byt s) (h0 : 0 < s.length) : backPF l (s.take (runeD s).2) = backF l (runeD s).1 := by
  unfold backPF backF
  rw [backP_eq hR hB h0 _ (Nat.le_refl _)]
/-- the pieces' numbers, from a place on -/
def rcsR (l : List Bd) : List (List Int) → Option (List Int)
  | [] => some []
  | p :: ps => match backPF l p with
    | none => none
    | some f => (rcsR l ps).map (f :: ·)
theorem rcsR_eqG {l : List Bd} (hR : RgtP l) : ∀ (k : Nat) {s : List Int}, s.length ≤ k → Byt s → rcsR l (rcs s) = rowM l s
  | 0, s, hk, hB => by rw [rcs_nil (by omega), rowM_nil (by omega)]; rfl
  | k + 1, s, hk, hB => by
    by_cases h0 : 0 < s.length
    · have hz := runeD_size s
      rw [rcs_cons h0, rcsR, backPF_eq hR hB h0, rcsR_eqG hR k (by rw [List.length_drop]; omega) (drop_byt hB)]
      cases hb : backF l (runeD s).1 with
      | none => rw [rowM_none h0 hb]
      | some f => rw [rowM_some h0 hb]
    · rw [rcs_nil h0, rowM_nil h0]; rfl
theorem rcsR_eq {l : List Bd} (hR : RgtP l) {s : List Int} (hB : Byt s) : rcsR l (rcs s) = rowM l s := rcsR_eqG hR s.length (Nat.le_refl _) hB
theorem rcsR_drop {l : List Bd} {ps : List (List Int)} {i : Nat} (h : i < ps.length) : rcsR l (ps.drop i) = match backPF l (ps.getD i []) with
    | none => none
    | some f => (rcsR l (ps.drop (i + 1))).map (f :: ·) := by
  rw [List.drop_eq_getElem_cons h, rcsR]
  simp [List.getD, h]

/-- what lines say: the error, the width, the cells; from a line on -/
def readG (l : List Bd) : List (List Int) → Nat → Nat → List Int → Int × Nat × List Int
  | [], _, w, acc => (0, w, acc)
  | s :: ls, y, w, acc => match rowM l s with
    | none => (15, 0, [])
    | some r =>
      if (if y = 0 then r.length else w) < 1 ∨ 1024 < (if y = 0 then r.length else w) then (3, 0, [])
      else if r.length ≠ (if y = 0 then r.length else w) then (6, 0, [])
      else readG l ls (y + 1) (if y = 0 then r.length else w) (acc ++ r)
def readM (l : List Bd) (ls : List (List Int)) : Int × Nat × List Int :=
  if rgtB l = false then (13, 0, []) else if ls.length < 1 ∨ 1024 < ls.length then (3, 0, []) else readG l ls 0 0 []
/-- .. the loop's word -/
def readJ (l : List Bd) (ls : List (List Int)) (y w : Nat) (acc : List Int) : Prop := readG l ls 0 0 [] = readG l (ls.drop y) y w acc ∧ acc.length = w * y ∧ AllB acc ∧ (0 < y → 1 ≤ w ∧ w ≤ 1024)
theorem readJ_init {l : List Bd} {ls : List (List Int)} : readJ l ls 0 0 [] := ⟨rfl, rfl, fun v hv => (by cases hv), fun h => absurd h (Nat.lt_irrefl _)⟩
theorem readG_drop {l : List Bd} {ls : List (List Int)} {y w : Nat} {acc : List Int} (h : y < ls.length) : readG l (ls.drop y) y w acc = match rowM l (ls.getD y []) with
    | none => (15, 0, [])
    | some r =>
      if (if y = 0 then r.length else w) < 1 ∨ 1024 < (if y = 0 then r.length else w) then (3, 0, [])
      else if r.length ≠ (if y = 0 then r.length else w) then (6, 0, [])
      else readG l (ls.drop (y + 1)) (y + 1) (if y = 0 then r.length else w) (acc ++ r) := by
  rw [List.drop_eq_getElem_cons h, readG]
  simp [List.getD, h]
theorem readJ_none {l : List Bd} {ls : List (List Int)} {y w : Nat} {acc : List Int} (h : readJ l ls y w acc) (hy : y < ls.length) (hr : rowM l (ls.getD y []) = none) : readG l ls 0 0 [] = (15, 0, []) := by rw [h.1, readG_drop hy, hr]
theorem readJ_size {l : List Bd} {ls : List (List Int)} {y w w' : Nat} {acc r : List Int} (h : readJ l ls y w acc) (hy : y < ls.length) (hr : rowM l (ls.getD y []) = some r) (hw : w' = if y = 0 then r.length else w) (hs : w' < 1 ∨ 1024 < w') : readG l ls 0 0 [] = (3, 0, []) := by
  rw [h.1, readG_drop hy, hr]; simp only; rw [← hw, if_pos hs]
theorem readJ_form {l : List Bd} {ls : List (List Int)} {y w w' : Nat} {acc r : List Int} (h : readJ l ls y w acc) (hy : y < ls.length) (hr : rowM l (ls.getD y []) = some r) (hw : w' = if y = 0 then r.length else w) (hs : ¬ (w' < 1 ∨ 1024 < w')) (hf : r.length ≠ w') : readG l ls 0 0 [] = (6, 0, []) := by
  rw [h.1, readG_drop hy, hr]; simp only; rw [← hw, if_neg hs, if_pos hf]
theorem readJ_next {l : List Bd} (hR : RgtP l) {ls : List (List Int)} {y w w' : Nat} {acc r : List Int} (h : readJ l ls y w acc) (hy : y < ls.length) (hr : rowM l (ls.getD y []) = some r) (hw : w' = if y = 0 then r.length else w) (hs : ¬ (w' < 1 ∨ 1024 < w')) (hf : ¬ r.length ≠ w') : readJ l ls (y + 1) w' (acc ++ r) := by
  obtain ⟨h1, h2, h3, h4⟩ := h
  refine ⟨?_, ?_, ?_, fun _ => by omega⟩
  · rw [h1, readG_drop hy, hr]; simp only; rw [← hw, if_neg hs, if_neg hf]
  · have hf' := Classical.not_not.1 hf
    rw [List.length_append, h2, Nat.mul_succ, hf']
    by_cases e : y = 0
    · subst e; simp
    · rw [if_neg e] at hw; rw [hw]
  · intro v hv
    rcases List.mem_append.1 hv with q | q
    · exact h3 v q
    · exact rowG_B hR hr v q
theorem readJ_end {l : List Bd} {ls : List (List Int)} {y w : Nat} {acc : List Int} (h : readJ l ls y w acc) (hy : y = ls.length) : readG l ls 0 0 [] = (0, w, acc) := by
  rw [h.1, hy, List.drop_length]; rfl
end Go.Proofs.YtgkkbeomhkggjaaDoor
