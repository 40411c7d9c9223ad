/- Charts, without the program: land as lines of signs. -/
import Derived.Test.YtgkkbeomhkggjaaDoorPlain34b
import Derived.Test.YtgkkbeomhkggjaaDoorK19
set_option linter.unusedVariables false
set_option linter.unusedSimpArgs false
namespace Go.Proofs.YtgkkbeomhkggjaaDoor
open Go Go.RowKit
def lineB (l : List Bd) (vs : List Int) : List Int := vs.flatMap fun v => encB (ofF l v)
theorem lineB_nil {l : List Bd} : lineB l [] = [] := rfl
theorem lineB_push {l : List Bd} {vs : List Int} {v : Int} : lineB l vs ++ encB (ofF l v) = lineB l (vs ++ [v]) := by simp [lineB]
theorem lineB_len {l : List Bd} {vs : List Int} : vs.length ≤ (lineB l vs).length ∧ (lineB l vs).length ≤ 3 * vs.length := by
  unfold lineB
  induction vs with
  | nil => simp
  | cons v vs ih =>
    have := encB_len (ofF l v)
    simp only [List.flatMap_cons, List.length_append, List.length_cons]
    omega
theorem lineB_byt {l : List Bd} (hR : RgtP l) {vs : List Int} : Byt (lineB l vs) := fun z hz => by
  obtain ⟨v, _, hv⟩ := List.mem_flatMap.1 hz
  exact encB_byt (ofF_sgn hR v) z hv
def chunk (vs : List Int) (wd j : Nat) : List Int := (vs.drop (j * wd)).take wd
def drawL (l : List Bd) (wd : Nat) (vs : List Int) (k : Nat) : List (List Int) := (List.range k).map fun j => lineB l (chunk vs wd j)
theorem drawL_len {l : List Bd} {wd : Nat} {vs : List Int} {k : Nat} : (drawL l wd vs k).length = k := by simp [drawL]
theorem drawL_succ {l : List Bd} {wd : Nat} {vs : List Int} {k : Nat} : drawL l wd vs k ++ [lineB l (chunk vs wd k)] = drawL l wd vs (k + 1) := by simp [drawL, List.range_succ]
theorem take_snoc {vs : List Int} {m c : Nat} (h : m + c < vs.length) : (vs.drop m).take c ++ [nth vs (m + c)] = (vs.drop m).take (c + 1) := by
  rw [List.take_add_one, List.getElem?_drop, List.getElem?_eq_getElem h, nth_lt h]; rfl
theorem grid_end {k c wd ht : Nat} (h : k * wd + c = ht * wd) (hc : c < wd) : k = ht ∧ c = 0 := by
  rcases Nat.lt_trichotomy k ht with q | q | q
  · have : (k + 1) * wd ≤ ht * wd := Nat.mul_le_mul_right _ q
    rw [Nat.succ_mul] at this; omega
  · subst q; omega
  · have : (ht + 1) * wd ≤ k * wd := Nat.mul_le_mul_right _ q
    rw [Nat.succ_mul] at this; omega
theorem grid_at {k c wd : Nat} (hc : c < wd) : (k * wd + c) % wd = c ∧ (k * wd + c) / wd = k := by
  constructor
  · rw [Nat.mul_comm, Nat.mul_add_mod, Nat.mod_eq_of_lt hc]
  · rw [Nat.mul_comm, Nat.mul_add_div (by omega), Nat.div_eq_of_lt hc]; rfl

/-! drawn, read, and drawn -/
theorem sgn_inj {l : List Bd} (hR : RgtP l) {i j : Nat} (hi : i < l.length) (hj : j < l.length) (h : (bn l i).s = (bn l j).s) : i = j := by
  rcases Nat.lt_trichotomy i j with q | q | q
  · exact absurd h ((hR.2 j hj).2.2 i q).2
  · exact q
  · exact absurd h.symm ((hR.2 i hi).2.2 j q).2
theorem backF_at {l : List Bd} (hR : RgtP l) {i : Nat} (hi : i < l.length) : backF l (bn l i).s = some (bn l i).f := by
  unfold backF
  rw [backI_some (i := i) (fun j hj e => ((hR.2 i hi).2.2 j hj).2 e) rfl hi]; rfl
theorem ofI_spec {l : List Bd} (v : Int) : ∀ k, k ≤ l.length → (∃ i, i < k ∧ (bn l i).f ≤ v ∧ (∀ j, i < j → j < k → ¬ (bn l j).f ≤ v) ∧ ofI l v k = (bn l i).s) ∨ ((∀ j, j < k → ¬ (bn l j).f ≤ v) ∧ ofI l v k = (bn l 0).s)
  | 0, _ => .inr ⟨fun j h => absurd h (Nat.not_lt_zero _), rfl⟩
  | k + 1, hk => by
    by_cases h : (bn l k).f ≤ v
    · exact .inl ⟨k, by omega, h, fun j h1 h2 => by omega, by rw [ofI, if_pos h]⟩
    · rcases ofI_spec (l := l) v k (by omega) with ⟨i, h1, h2, h3, h4⟩ | ⟨h1, h2⟩
      · refine .inl ⟨i, by omega, h2, fun j a b => ?_, by rw [ofI, if_neg h, h4]⟩
        rcases Nat.lt_succ_iff_lt_or_eq.1 b with q | rfl
        · exact h3 j a q
        · exact h
      · refine .inr ⟨fun j b => ?_, by rw [ofI, if_neg h, h2]⟩
        rcases Nat.lt_succ_iff_lt_or_eq.1 b with q | rfl
        · exact h1 j q
        · exact h
theorem f_mono {l : List Bd} (hR : RgtP l) {i j : Nat} (hj : j < l.length) (h : i ≤ j) : (bn l i).f ≤ (bn l j).f := by
  rcases Nat.lt_or_eq_of_le h with q | rfl
  · have := ((hR.2 j hj).2.2 i q).1; omega
  · exact Int.le_refl _
/-- the band of a value: its number -/
theorem ofF_band {l : List Bd} (hR : RgtP l) (v : Int) : ∃ i, i < l.length ∧ ofF l v = (bn l i).s ∧ ((bn l i).f ≤ v ∨ (i = 0 ∧ v < (bn l 0).f)) ∧ ∀ j, i < j → j < l.length → v < (bn l j).f := by
  have h1 := hR.1.1
  rcases ofI_spec (l := l) v l.length (Nat.le_refl _) with ⟨i, h1, h2, h3, h4⟩ | ⟨h2, h3⟩
  · exact ⟨i, h1, h4, .inl h2, fun j a b => by have := h3 j a b; omega⟩
  · refine ⟨0, by omega, h3, .inr ⟨rfl, by have := h2 0 (by omega); omega⟩, fun j a b => by have := h2 j b; omega⟩
/-- a value, as it is read again -/
def qv (l : List Bd) (v : Int) : Int := (backF l (ofF l v)).getD 0
theorem qv_back {l : List Bd} (hR : RgtP l) (v : Int) : backF l (ofF l v) = some (qv l v) := by
  obtain ⟨i, hi, e, _⟩ := ofF_band hR v
  unfold qv
  rw [e, backF_at hR hi]; rfl
theorem qv_ofF {l : List Bd} (hR : RgtP l) (v : Int) : ofF l (qv l v) = ofF l v := by
  obtain ⟨i, hi, e, _, _⟩ := ofF_band hR v
  have hq : qv l v = (bn l i).f := by unfold qv; rw [e, backF_at hR hi]; rfl
  obtain ⟨j, hj, e2, h2, h3⟩ := ofF_band hR (qv l v)
  rw [e2, e]
  have : j = i := by
    rcases Nat.lt_trichotomy j i with q | q | q
    · have := h3 i q hi; omega
    · exact q
    · rcases h2 with h2 | ⟨h2, _⟩
      · have := ((hR.2 j hj).2.2 i q).1; omega
      · omega
  rw [this]
theorem qv_le {l : List Bd} (hR : RgtP l) (v : Int) : qv l v ≤ v ∨ v < (bn l 0).f := by
  obtain ⟨i, hi, e, h2, _⟩ := ofF_band hR v
  have hq : qv l v = (bn l i).f := by unfold qv; rw [e, backF_at hR hi]; rfl
  rcases h2 with h2 | ⟨_, h2⟩
  · left; omega
  · right; exact h2
theorem rowM_line {l : List Bd} (hR : RgtP l) : ∀ vs : List Int, rowM l (lineB l vs) = some (vs.map (qv l))
  | [] => rowM_nil (by simp [lineB])
  | v :: vs => by
    have hs := ofF_sgn hR v
    have hl : lineB l (v :: vs) = encB (ofF l v) ++ lineB l vs := by simp [lineB]
    have h1 := runeD_enc hs (lineB l vs)
    have h0 := encB_len (ofF l v)
    rw [hl]
    rw [rowM_some (f := qv l v) (by rw [List.length_append]; omega) (by rw [h1]; exact qv_back hR v), h1]
    simp only [List.drop_left, List.map_cons]
    rw [rowM_line hR vs]; rfl
theorem readG_lines {l : List Bd} (hR : RgtP l) {wd : Nat} (h1 : 1 ≤ wd) (h2 : wd ≤ 1024) : ∀ (rs : List (List Int)) (y w : Nat) (acc : List Int), (∀ r ∈ rs, r.length = wd) → (y = 0 ∨ w = wd) → readG l (rs.map (lineB l)) y w acc = (0, if rs.length = 0 then w else wd, acc ++ rs.flatMap (·.map (qv l)))
  | [], y, w, acc, _, _ => by simp [readG]
  | r :: rs, y, w, acc, hr, hy => by
    have hrl := hr r List.mem_cons_self
    have hif : (if y = 0 then (r.map (qv l)).length else w) = wd := by
      rw [List.length_map, hrl]
      rcases hy with h | h
      · rw [if_pos h]
      · by_cases e : y = 0
        · rw [if_pos e]
        · rw [if_neg e]; exact h
    rw [List.map_cons, readG, rowM_line hR]
    simp only [hif]
    rw [if_neg (by omega), if_neg (by rw [List.length_map, hrl]; simp), readG_lines hR h1 h2 rs (y + 1) wd _ (fun q hq => hr q (List.mem_cons_of_mem _ hq)) (.inr rfl)]
    simp
theorem chunk_len {vs : List Int} {wd ht j : Nat} (h : vs.length = ht * wd) (hj : j < ht) : (chunk vs wd j).length = wd := by
  have : (j + 1) * wd ≤ ht * wd := Nat.mul_le_mul_right _ hj
  rw [Nat.succ_mul] at this
  unfold chunk
  rw [List.length_take, List.length_drop]; omega
theorem drawL_map {l : List Bd} {wd : Nat} {vs : List Int} {k : Nat} : drawL l wd vs k = ((List.range k).map (chunk vs wd)).map (lineB l) := by simp [drawL]
theorem chunks_join {vs : List Int} {wd : Nat} : ∀ k : Nat, (List.range k).flatMap (chunk vs wd) = vs.take (k * wd)
  | 0 => by simp
  | k + 1 => by
    rw [List.range_succ, List.flatMap_append, chunks_join k]
    simp only [List.flatMap_cons, List.flatMap_nil, List.append_nil, chunk]
    rw [Nat.succ_mul, List.take_add]
theorem readM_draw {l : List Bd} (hR : RgtP l) {wd ht : Nat} {vs : List Int} (hl : vs.length = ht * wd) (w1 : 1 ≤ wd) (w2 : wd ≤ 1024) (h1 : 1 ≤ ht) (h2 : ht ≤ 1024) : readM l (drawL l wd vs ht) = (0, wd, vs.map (qv l)) := by
  unfold readM
  have hr := (rgtB_iff l).2 hR
  rw [if_neg (by rw [hr]; simp), if_neg (by rw [drawL_len]; omega), drawL_map, readG_lines hR w1 w2 _ _ _ _ (fun r hr => by
    obtain ⟨j, hj, rfl⟩ := List.mem_map.1 hr
    exact chunk_len hl (List.mem_range.1 hj)) (.inl rfl)]
  rw [if_neg (by simp; omega)]
  congr 2
  rw [List.nil_append, List.flatMap_map]
  have : ∀ ks : List Nat, (ks.flatMap fun j => (chunk vs wd j).map (qv l)) = (ks.flatMap (chunk vs wd)).map (qv l) := fun ks => by
    induction ks with
    | nil => rfl
    | cons k ks ih => simp [ih]
  rw [this, chunks_join, ← hl, List.take_length]
theorem lineB_q {l : List Bd} (hR : RgtP l) (vs : List Int) : lineB l (vs.map (qv l)) = lineB l vs := by
  unfold lineB
  induction vs with
  | nil => rfl
  | cons v vs ih => rw [List.map_cons, List.flatMap_cons, List.flatMap_cons, ih, qv_ofF hR]
theorem drawL_q {l : List Bd} (hR : RgtP l) {wd k : Nat} {vs : List Int} : drawL l wd (vs.map (qv l)) k = drawL l wd vs k := by
  unfold drawL
  apply List.map_congr_left
  intro j _
  have : chunk (vs.map (qv l)) wd j = (chunk vs wd j).map (qv l) := by simp [chunk, List.map_take, List.map_drop]
  rw [this, lineB_q hR]
theorem drawL_byts {l : List Bd} (hR : RgtP l) {wd k : Nat} {vs : List Int} : Byts (drawL l wd vs k) := fun s hs => by
  unfold drawL at hs
  obtain ⟨j, _, rfl⟩ := List.mem_map.1 hs
  exact lineB_byt hR
theorem drawL_sz {l : List Bd} {wd k : Nat} (hw : wd ≤ 1024) {vs : List Int} : ∀ s ∈ drawL l wd vs k, s.length ≤ 1000000 := fun s hs => by
  unfold drawL at hs
  obtain ⟨j, _, rfl⟩ := List.mem_map.1 hs
  have h1 := (lineB_len (l := l) (vs := chunk vs wd j)).2
  have h2 : (chunk vs wd j).length ≤ wd := by unfold chunk; rw [List.length_take]; omega
  omega
theorem qv_B {l : List Bd} (hR : RgtP l) {vs : List Int} : AllB (vs.map (qv l)) := fun v hv => by
  obtain ⟨u, _, rfl⟩ := List.mem_map.1 hv
  exact backF_B hR (qv_back hR u)
end Go.Proofs.YtgkkbeomhkggjaaDoor
