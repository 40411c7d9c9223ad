/- Layer 4 in plain numbers and lists. -/
import Derived.Test.YtbnjbgcadkdljaaDoorMA
set_option linter.unusedVariables false
set_option linter.unusedSimpArgs false
namespace Go.Proofs.YtbnjbgcadkdljaaDoor

def ix (zs : List Int) (i : Int) : Int := nth zs i.toNat
def right4 (kind width n : Int) : Prop := 0 ≤ kind ∧ kind ≤ 2 ∧ 1 ≤ width ∧ 0 ≤ n ∧ n % width = 0
instance (kind width n : Int) : Decidable (right4 kind width n) := by unfold right4; infer_instance
def right4B (kind width n : Int) : Bool := decide (right4 kind width n)
def mayB (v : Int) : Bool := decide (-2147483648 ≤ v ∧ v ≤ 2147483647)
theorem mayB_iff (v : Int) : mayB v = true ↔ -2147483648 ≤ v ∧ v ≤ 2147483647 := by simp [mayB]
theorem mayB_not (v : Int) : mayB v = false ↔ ¬ (-2147483648 ≤ v ∧ v ≤ 2147483647) := by rw [← mayB_iff]; simp
def leftI (zs : List Int) (width i : Int) : Int := if i = 0 then 0 else if i % width = 0 then ix zs (i - width) else ix zs (i - 1)
def clampI (l a c : Int) : Int := mn (mx (l + a - c) (mn l a)) (mx l a)
def guessI (kind : Int) (zs : List Int) (width i : Int) : Int :=
  if kind = 0 then 0 else if kind = 1 ∨ i < width ∨ i % width = 0 then leftI zs width i else clampI (ix zs (i - 1)) (ix zs (i - width)) (ix zs (i - width - 1))

def AllMay (zs : List Int) (k : Nat) : Prop := ∀ j, j < k → mayB (nth zs j) = true
theorem AllMay.ix {zs : List Int} {k : Nat} (h : AllMay zs k) {i : Int} (h0 : 0 ≤ i) (h1 : i < k) : -2147483648 ≤ ix zs i ∧ ix zs i ≤ 2147483647 :=
  (mayB_iff _).1 (h i.toNat (by omega))

theorem mod_ge {i width : Int} (h0 : 0 < i) (hw : 1 ≤ width) (h : i % width = 0) : width ≤ i := by
  rcases Int.lt_or_le i width with hlt | hge
  · rw [Int.emod_eq_of_lt (by omega) hlt] at h; omega
  · exact hge

theorem left_bd {zs : List Int} {k : Nat} (h : AllMay zs k) {width i : Int} (hw : 1 ≤ width) (h0 : 0 ≤ i) (h1 : i ≤ k) : -2147483648 ≤ leftI zs width i ∧ leftI zs width i ≤ 2147483647 := by
  unfold leftI
  by_cases c1 : i = 0
  · rw [if_pos c1]; omega
  · rw [if_neg c1]
    by_cases c2 : i % width = 0
    · rw [if_pos c2]; have := mod_ge (by omega) hw c2; exact h.ix (by omega) (by omega)
    · rw [if_neg c2]; exact h.ix (by omega) (by omega)
theorem clamp_bd {l a c m M : Int} (h1 : m ≤ l ∧ l ≤ M) (h2 : m ≤ a ∧ a ≤ M) : m ≤ clampI l a c ∧ clampI l a c ≤ M := by
  unfold clampI; rw [mn_eq, mx_eq, mx_eq, mn_eq]; omega
theorem guess_bd {zs : List Int} {k : Nat} (h : AllMay zs k) {kind width i : Int} (hw : 1 ≤ width) (h0 : 0 ≤ i) (h1 : i ≤ k) : -2147483648 ≤ guessI kind zs width i ∧ guessI kind zs width i ≤ 2147483647 := by
  unfold guessI
  by_cases c1 : kind = 0
  · rw [if_pos c1]; omega
  · rw [if_neg c1]
    by_cases c2 : kind = 1 ∨ i < width ∨ i % width = 0
    · rw [if_pos c2]; exact left_bd h hw h0 h1
    · rw [if_neg c2]; exact clamp_bd (h.ix (by omega) (by omega)) (h.ix (by omega) (by omega))

/-- a guess looks at what lies ahead alone -/
theorem guess_congr {zs ys : List Int} {kind width i : Int} (hw : 1 ≤ width) (h0 : 0 ≤ i) (h : ∀ j : Nat, (j : Int) < i → nth zs j = nth ys j) : guessI kind zs width i = guessI kind ys width i := by
  have hx : ∀ j : Int, j < i → 0 < i → ix zs j = ix ys j := fun j hj hi => h j.toNat (by omega)
  unfold guessI leftI
  by_cases c1 : i = 0
  · simp only [c1, if_true]
    by_cases k0 : kind = 0
    · simp [k0]
    · rw [if_neg k0, if_neg k0, if_pos (by right; left; omega), if_pos (by right; left; omega)]
  · rw [hx (i - width) (by omega) (by omega), hx (i - 1) (by omega) (by omega), hx (i - width - 1) (by omega) (by omega)]

/-! ### the reference's way -/
theorem row_col {i width : Int} (hw : 1 ≤ width) : (i / width) * width + i % width = i := by
  have := Int.emod_add_mul_ediv i width
  rw [Int.mul_comm] at this
  omega
theorem div_pos_iff {i width : Int} (hw : 1 ≤ width) (h0 : 0 ≤ i) : i / width = 0 ↔ i < width := by
  constructor
  · intro h
    have := Int.lt_ediv_add_one_mul_self i (b := width) (by omega)
    rw [h] at this; omega
  · intro h; exact Int.ediv_eq_zero_of_lt h0 h
def guessR (l a c : Int) : Int :=
  if l + a - c < l ∧ l + a - c < a then (if l < a then l else a) else if l < l + a - c ∧ a < l + a - c then (if a < l then l else a) else l + a - c
theorem guessR_eq (l a c : Int) : guessR l a c = clampI l a c := by
  unfold guessR clampI
  rw [mn_eq, mx_eq, mx_eq, mn_eq]
  by_cases h1 : l + a - c < l ∧ l + a - c < a
  · rw [if_pos h1]; by_cases h2 : l < a
    · rw [if_pos h2]; omega
    · rw [if_neg h2]; omega
  · rw [if_neg h1]
    by_cases h3 : l < l + a - c ∧ a < l + a - c
    · rw [if_pos h3]; by_cases h2 : a < l
      · rw [if_pos h2]; omega
      · rw [if_neg h2]; omega
    · rw [if_neg h3]; omega

/-! ### rests, and cells -/
def restsL (kind : Int) (zs : List Int) (width : Int) (n : Nat) : List Int := (List.range n).map fun (k : Nat) => nth zs k - guessI kind zs width (k : Int)
theorem restsL_len (kind : Int) (zs : List Int) (width : Int) (n : Nat) : (restsL kind zs width n).length = n := by simp [restsL]
theorem restsL_get {kind : Int} {zs : List Int} {width : Int} {n k : Nat} (h : k < n) : nth (restsL kind zs width n) k = nth zs k - guessI kind zs width (k : Int) := by
  simp [restsL, nth, List.getD, h]
theorem restsL_succ (kind : Int) (zs : List Int) (width : Int) (n : Nat) : restsL kind zs width (n + 1) = restsL kind zs width n ++ [nth zs n - guessI kind zs width (n : Int)] := by simp [restsL, List.range_succ]

def cellsN (kind width : Int) (rs : List Int) : Nat → Option (List Int)
  | 0 => some []
  | k + 1 => match cellsN kind width rs k with
    | none => none
    | some out => if mayB (guessI kind out width (k : Int) + nth rs k) = true then some (out ++ [guessI kind out width (k : Int) + nth rs k]) else none
theorem cellsN_len {kind width : Int} {rs : List Int} : ∀ {k : Nat} {out : List Int}, cellsN kind width rs k = some out → out.length = k
  | 0, out, h => by simp [cellsN] at h; subst h; rfl
  | k + 1, out, h => by
    unfold cellsN at h
    split at h
    · cases h
    · rename_i o ho
      split at h
      · have := cellsN_len ho
        simp at h; subst h; simp [this]
      · cases h
theorem cellsN_next {kind width : Int} {rs : List Int} {k : Nat} {out : List Int} (h : cellsN kind width rs k = some out) :
    cellsN kind width rs (k + 1) = if mayB (guessI kind out width (k : Int) + nth rs k) = true then some (out ++ [guessI kind out width (k : Int) + nth rs k]) else none := by
  rw [cellsN, h]
theorem cellsN_none {kind width : Int} {rs : List Int} {k : Nat} (h : cellsN kind width rs k = none) : ∀ m, k ≤ m → cellsN kind width rs m = none
  | 0, hm => by obtain rfl : k = 0 := by omega
                exact h
  | m + 1, hm => by
    rcases Nat.lt_or_ge m k with hlt | hge
    · obtain rfl : k = m + 1 := by omega
      exact h
    · rw [cellsN, cellsN_none h m hge]
theorem cellsN_may {kind width : Int} {rs : List Int} : ∀ {k : Nat} {out : List Int}, cellsN kind width rs k = some out → AllMay out k
  | 0, out, h => fun j hj => by omega
  | k + 1, out, h => by
    cases ho : cellsN kind width rs k with
    | none => rw [cellsN, ho] at h; cases h
    | some o =>
      rw [cellsN_next ho] at h
      split at h
      · rename_i hm
        simp at h; subst h
        have hl := cellsN_len ho
        intro j hj
        rcases Nat.lt_or_ge j k with hlt | hge
        · rw [nth_app_lt (by omega)]; exact cellsN_may ho j hlt
        · obtain rfl : j = o.length := by omega
          rw [nth_app_eq]; exact hm
      · cases h
/-- cells that have rests have these rests -/
theorem cellsN_rests {kind width : Int} {rs : List Int} (hw : 1 ≤ width) : ∀ {k : Nat} {out : List Int}, cellsN kind width rs k = some out → ∀ j, j < k → nth out j - guessI kind out width (j : Int) = nth rs j
  | 0, out, h => fun j hj => by omega
  | k + 1, out, h => by
    cases ho : cellsN kind width rs k with
    | none => rw [cellsN, ho] at h; cases h
    | some o =>
      rw [cellsN_next ho] at h
      split at h
      · obtain rfl := Option.some.inj h
        have hl := cellsN_len ho
        intro j hj
        have hg : ∀ i : Int, 0 ≤ i → i ≤ k → guessI kind (o ++ [guessI kind o width (k : Int) + nth rs k]) width i = guessI kind o width i := fun i h0 hi =>
          guess_congr hw h0 fun m hm => nth_app_lt (by omega)
        rcases Nat.lt_or_ge j k with hlt | hge
        · rw [hg (j : Int) (by omega) (by omega), nth_app_lt (by omega)]; exact cellsN_rests hw ho j hlt
        · obtain rfl : j = k := by omega
          rw [hg (j : Int) (by omega) (by omega)]
          have : nth (o ++ [guessI kind o width (j : Int) + nth rs j]) j = guessI kind o width (j : Int) + nth rs j := by rw [← hl]; exact nth_app_eq
          rw [this]; omega
      · cases h
theorem rests_of_cells {kind width : Int} {rs out : List Int} {n : Nat} (hw : 1 ≤ width) (hn : rs.length = n) (h : cellsN kind width rs n = some out) : restsL kind out width n = rs := by
  apply nth_ext
  · rw [restsL_len, hn]
  · intro j h1
    rw [restsL_len] at h1
    rw [restsL_get h1]; exact cellsN_rests hw h j h1
/-- rests of cells that may be bring these back -/
theorem cells_of_rests {kind width : Int} {zs : List Int} {n : Nat} (hw : 1 ≤ width) (hn : zs.length = n) (hm : AllMay zs n) : ∀ k, k ≤ n → cellsN kind width (restsL kind zs width n) k = some (zs.take k)
  | 0, _ => by simp [cellsN]
  | k + 1, hk => by
    rw [cellsN_next (cells_of_rests hw hn hm k (by omega)), restsL_get (by omega)]
    have hg : guessI kind (zs.take k) width (k : Int) = guessI kind zs width (k : Int) := guess_congr hw (by omega) fun j hj => by
      exact nth_take (by omega)
    rw [hg, show guessI kind zs width (k : Int) + (nth zs k - guessI kind zs width (k : Int)) = nth zs k by omega, if_pos (hm k (by omega)), take_succ_nth (by omega)]
end Go.Proofs.YtbnjbgcadkdljaaDoor
