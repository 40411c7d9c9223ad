/- Texts as one: Plain4, Pred0, Pred1. -/
import Derived.Test.YtbnjbgcadkdljaaGreatDoorMA
import Derived.Test.YtbnjbgcadkdljaaGreatDoorRows
import Derived.Test.YtbnjbgcadkdljaaGreatDoorMD
import Derived.Laws.MakeOwn
set_option linter.unusedVariables false
set_option linter.unusedSimpArgs false
namespace Go.Proofs.YtbnjbgcadkdljaaGreatDoor

def ix (zs : List Int) (i : Int) : Int := nth zs i.toNat
def right4 (kind width n : Int) : Prop := 0 ≤ kind ∧ kind ≤ 2 ∧ 1 ≤ width ∧ 0 ≤ n ∧ n % width = 0
instance (kind width n : Int) : Decidable (right4 kind width n) := by unfold right4; infer_instance
def right4B (kind width n : Int) : Bool := decide (right4 kind width n)
def mayB (v : Int) : Bool := decide (-2147483648 ≤ v ∧ v ≤ 2147483647)
theorem mayB_iff (v : Int) : mayB v = true ↔ -2147483648 ≤ v ∧ v ≤ 2147483647 := by simp [mayB]
def leftI (zs : List Int) (width i : Int) : Int := if i = 0 then 0 else if i % width = 0 then ix zs (i - width) else ix zs (i - 1)
def clampI (l a c : Int) : Int := mn (mx (l + a - c) (mn l a)) (mx l a)
def guessI (kind : Int) (zs : List Int) (width i : Int) : Int :=
  if kind = 0 then 0 else if kind = 1 ∨ i < width ∨ i % width = 0 then leftI zs width i else clampI (ix zs (i - 1)) (ix zs (i - width)) (ix zs (i - width - 1))

def AllMay (zs : List Int) (k : Nat) : Prop := ∀ j, j < k → mayB (nth zs j) = true
theorem AllMay.ix {zs : List Int} {k : Nat} (h : AllMay zs k) {i : Int} (h0 : 0 ≤ i) (h1 : i < k) : -2147483648 ≤ ix zs i ∧ ix zs i ≤ 2147483647 :=
  (mayB_iff _).1 (h i.toNat (by omega))

theorem mod_ge {i width : Int} (h0 : 0 < i) (hw : 1 ≤ width) (h : i % width = 0) : width ≤ i := by
  rcases Int.lt_or_le i width with hlt | hge
  · rw [Int.emod_eq_of_lt (by omega) hlt] at h; omega
  · exact hge

theorem left_bd {zs : List Int} {k : Nat} (h : AllMay zs k) {width i : Int} (hw : 1 ≤ width) (h0 : 0 ≤ i) (h1 : i ≤ k) : -2147483648 ≤ leftI zs width i ∧ leftI zs width i ≤ 2147483647 := by
  unfold leftI
  by_cases c1 : i = 0
  · rw [if_pos c1]; omega
  · rw [if_neg c1]
    by_cases c2 : i % width = 0
    · rw [if_pos c2]; have := mod_ge (by omega) hw c2; exact h.ix (by omega) (by omega)
    · rw [if_neg c2]; exact h.ix (by omega) (by omega)
theorem clamp_bd {l a c m M : Int} (h1 : m ≤ l ∧ l ≤ M) (h2 : m ≤ a ∧ a ≤ M) : m ≤ clampI l a c ∧ clampI l a c ≤ M := by
  unfold clampI; rw [mn_eq, mx_eq, mx_eq, mn_eq]; omega
theorem guess_bd {zs : List Int} {k : Nat} (h : AllMay zs k) {kind width i : Int} (hw : 1 ≤ width) (h0 : 0 ≤ i) (h1 : i ≤ k) : -2147483648 ≤ guessI kind zs width i ∧ guessI kind zs width i ≤ 2147483647 := by
  unfold guessI
  by_cases c1 : kind = 0
  · rw [if_pos c1]; omega
  · rw [if_neg c1]
    by_cases c2 : kind = 1 ∨ i < width ∨ i % width = 0
    · rw [if_pos c2]; exact left_bd h hw h0 h1
    · rw [if_neg c2]; exact clamp_bd (h.ix (by omega) (by omega)) (h.ix (by omega) (by omega))

/-- a guess looks at what lies ahead alone -/
theorem guess_congr {zs ys : List Int} {kind width i : Int} (hw : 1 ≤ width) (h0 : 0 ≤ i) (h : ∀ j : Nat, (j : Int) < i → nth zs j = nth ys j) : guessI kind zs width i = guessI kind ys width i := by
  have hx : ∀ j : Int, j < i → 0 < i → ix zs j = ix ys j := fun j hj hi => h j.toNat (by omega)
  unfold guessI leftI
  by_cases c1 : i = 0
  · simp only [c1, if_true]
    by_cases k0 : kind = 0
    · simp [k0]
    · rw [if_neg k0, if_neg k0, if_pos (by right; left; omega), if_pos (by right; left; omega)]
  · rw [hx (i - width) (by omega) (by omega), hx (i - 1) (by omega) (by omega), hx (i - width - 1) (by omega) (by omega)]

/-! ### the reference's way -/
theorem row_col {i width : Int} (hw : 1 ≤ width) : (i / width) * width + i % width = i := by
  have := Int.emod_add_mul_ediv i width
  rw [Int.mul_comm] at this
  omega
theorem div_pos_iff {i width : Int} (hw : 1 ≤ width) (h0 : 0 ≤ i) : i / width = 0 ↔ i < width := by
  constructor
  · intro h
    have := Int.lt_ediv_add_one_mul_self i (b := width) (by omega)
    rw [h] at this; omega
  · intro h; exact Int.ediv_eq_zero_of_lt h0 h
def guessR (l a c : Int) : Int :=
  if l + a - c < l ∧ l + a - c < a then (if l < a then l else a) else if l < l + a - c ∧ a < l + a - c then (if a < l then l else a) else l + a - c
theorem guessR_eq (l a c : Int) : guessR l a c = clampI l a c := by
  unfold guessR clampI
  rw [mn_eq, mx_eq, mx_eq, mn_eq]
  by_cases h1 : l + a - c < l ∧ l + a - c < a
  · rw [if_pos h1]; by_cases h2 : l < a
    · rw [if_pos h2]; omega
    · rw [if_neg h2]; omega
  · rw [if_neg h1]
    by_cases h3 : l < l + a - c ∧ a < l + a - c
    · rw [if_pos h3]; by_cases h2 : a < l
      · rw [if_pos h2]; omega
      · rw [if_neg h2]; omega
    · rw [if_neg h3]; omega

/-! ### rests, and cells -/
def restsL (kind : Int) (zs : List Int) (width : Int) (n : Nat) : List Int := (List.range n).map fun (k : Nat) => nth zs k - guessI kind zs width (k : Int)
theorem restsL_len (kind : Int) (zs : List Int) (width : Int) (n : Nat) : (restsL kind zs width n).length = n := by simp [restsL]
theorem restsL_get {kind : Int} {zs : List Int} {width : Int} {n k : Nat} (h : k < n) : nth (restsL kind zs width n) k = nth zs k - guessI kind zs width (k : Int) := by
  simp [restsL, nth, List.getD, h]
theorem restsL_succ (kind : Int) (zs : List Int) (width : Int) (n : Nat) : restsL kind zs width (n + 1) = restsL kind zs width n ++ [nth zs n - guessI kind zs width (n : Int)] := by simp [restsL, List.range_succ]

def cellsN (kind width : Int) (rs : List Int) : Nat → Option (List Int)
  | 0 => some []
  | k + 1 => match cellsN kind width rs k with
    | none => none
    | some out => if mayB (guessI kind out width (k : Int) + nth rs k) = true then some (out ++ [guessI kind out width (k : Int) + nth rs k]) else none
theorem cellsN_len {kind width : Int} {rs : List Int} : ∀ {k : Nat} {out : List Int}, cellsN kind width rs k = some out → out.length = k
  | 0, out, h => by simp [cellsN] at h; subst h; rfl
  | k + 1, out, h => by
    unfold cellsN at h
    split at h
    · cases h
    · rename_i o ho
      split at h
      · have := cellsN_len ho
        simp at h; subst h; simp [this]
      · cases h
theorem cellsN_next {kind width : Int} {rs : List Int} {k : Nat} {out : List Int} (h : cellsN kind width rs k = some out) :
    cellsN kind width rs (k + 1) = if mayB (guessI kind out width (k : Int) + nth rs k) = true then some (out ++ [guessI kind out width (k : Int) + nth rs k]) else none := by
  rw [cellsN, h]
theorem cellsN_none {kind width : Int} {rs : List Int} {k : Nat} (h : cellsN kind width rs k = none) : ∀ m, k ≤ m → cellsN kind width rs m = none
  | 0, hm => by obtain rfl : k = 0 := by omega
                exact h
  | m + 1, hm => by
    rcases Nat.lt_or_ge m k with hlt | hge
    · obtain rfl : k = m + 1 := by omega
      exact h
    · rw [cellsN, cellsN_none h m hge]
theorem cellsN_may {kind width : Int} {rs : List Int} : ∀ {k : Nat} {out : List Int}, cellsN kind width rs k = some out → AllMay out k
  | 0, out, h => fun j hj => by omega
  | k + 1, out, h => by
    cases ho : cellsN kind width rs k with
    | none => rw [cellsN, ho] at h; cases h
    | some o =>
      rw [cellsN_next ho] at h
      split at h
      · rename_i hm
        simp at h; subst h
        have hl := cellsN_len ho
        intro j hj
        rcases Nat.lt_or_ge j k with hlt | hge
        · rw [nth_app_lt (by omega)]; exact cellsN_may ho j hlt
        · obtain rfl : j = o.length := by omega
          rw [nth_app_eq]; exact hm
      · cases h
/-- cells that have rests have these rests -/
theorem cellsN_rests {kind width : Int} {rs : List Int} (hw : 1 ≤ width) : ∀ {k : Nat} {out : List Int}, cellsN kind width rs k = some out → ∀ j, j < k → nth out j - guessI kind out width (j : Int) = nth rs j
  | 0, out, h => fun j hj => by omega
  | k + 1, out, h => by
    cases ho : cellsN kind width rs k with
    | none => rw [cellsN, ho] at h; cases h
    | some o =>
      rw [cellsN_next ho] at h
      split at h
      · obtain rfl := Option.some.inj h
        have hl := cellsN_len ho
        intro j hj
        have hg : ∀ i : Int, 0 ≤ i → i ≤ k → guessI kind (o ++ [guessI kind o width (k : Int) + nth rs k]) width i = guessI kind o width i := fun i h0 hi =>
          guess_congr hw h0 fun m hm => nth_app_lt (by omega)
        rcases Nat.lt_or_ge j k with hlt | hge
        · rw [hg (j : Int) (by omega) (by omega), nth_app_lt (by omega)]; exact cellsN_rests hw ho j hlt
        · obtain rfl : j = k := by omega
          rw [hg (j : Int) (by omega) (by omega)]
          have : nth (o ++ [guessI kind o width (j : Int) + nth rs j]) j = guessI kind o width (j : Int) + nth rs j := by rw [← hl]; exact nth_app_eq
          rw [this]; omega
      · cases h
theorem rests_of_cells {kind width : Int} {rs out : List Int} {n : Nat} (hw : 1 ≤ width) (hn : rs.length = n) (h : cellsN kind width rs n = some out) : restsL kind out width n = rs := by
  apply nth_ext
  · rw [restsL_len, hn]
  · intro j h1
    rw [restsL_len] at h1
    rw [restsL_get h1]; exact cellsN_rests hw h j h1
end Go.Proofs.YtbnjbgcadkdljaaGreatDoor

namespace Go.Proofs.YtbnjbgcadkdljaaGreatDoor
open Go.RowKit

theorem right4_any (kind width n : Int) (w : World) :
    Calls Tryz.prog 30 #[.int .i64 kind, .int .i64 width, .int .i64 n] w fun r w' => r = .returned (.bool (right4B kind width n)) ∧ w = w' := by
  go_enter Tryz.func30, Tryz.ntmps30
  go_wp2
  all_goals
    go_ret
    refine ⟨ret_bool ?_, rfl⟩
    rw [eq_comm]
    simp only [right4B, right4]
    first | (apply decide_eq_false; omega) | (rw [decide_eq_decide]; omega) | (rw [Bool.eq_iff_iff]; simp [*]; done) | (rw [Bool.eq_iff_iff]; simp [*]; omega)

theorem may_any (v : Int) (w : World) :
    Calls Tryz.prog 96 #[.int .i64 v] w fun r w' => r = .returned (.bool (mayB v)) ∧ w = w' := by
  go_enter Tryz.func96, Tryz.ntmps96
  go_wp2
  all_goals
    go_ret
    refine ⟨ret_bool ?_, rfl⟩
    rw [eq_comm]
    simp only [mayB]
    first | (apply decide_eq_false; omega) | (rw [decide_eq_decide]; omega) | (simp_all; done) | (simp_all; omega)

theorem left_any (w : World) (zs : List Int) (A : Option Addr) (n cap : Nat) (width i : Int) (h : Ints .i64 w A n zs) (hw : 1 ≤ width) (h0 : 0 ≤ i) (h1 : i ≤ n) (hn : n ≤ 1000000) :
    Calls Tryz.prog 107 #[.slice A n cap, .int .i64 width, .int .i64 i] w fun r w' => r = .returned (.int .i64 (leftI zs width i)) ∧ w = w' := by
  by_cases c1 : i = 0
  · have hv : leftI zs width i = 0 := if_pos c1
    rw [hv]
    clear hv
    go_enter Tryz.func107, Tryz.ntmps107
    go_wp2
    go_ret
    exact ⟨rfl, rfl⟩
  · have hp : 0 < i := by omega
    obtain ⟨b, off, rfl, hb, hc⟩ := h.2 (by omega)
    by_cases c2 : i % width = 0
    · have hge := mod_ge hp hw c2
      have hv : leftI zs width i = ix zs (i - width) := by unfold leftI; rw [if_neg c1, if_pos c2]
      have hcell : w.cell? ⟨b, off + (i - width).toNat, none⟩ = some (.int .i64 (ix zs (i - width))) := hc _ (by omega)
      rw [hv]
      have c3 : (i == 0) = false := by simp [c1]
      have c4 : (i % width == 0) = true := by simp [c2]
      have c6 : i - width < n := by omega
      clear hv c1 hc c2
      go_enter Tryz.func107, Tryz.ntmps107
      go_wp2
      go_ret
      exact ⟨rfl, rfl⟩
    · have hv : leftI zs width i = ix zs (i - 1) := by unfold leftI; rw [if_neg c1, if_neg c2]
      have hcell : w.cell? ⟨b, off + (i.toNat - 1), none⟩ = some (.int .i64 (ix zs (i - 1))) := by rw [show i.toNat - 1 = (i - 1).toNat by omega]; exact hc _ (by omega)
      rw [hv]
      have c3 : (i == 0) = false := by simp [c1]
      have c4 : (i % width == 0) = false := by simp [c2]
      have c5 : 1 ≤ i := by omega
      have c6 : i - 1 < n := by omega
      clear hv c1 hc c2
      go_enter Tryz.func107, Tryz.ntmps107
      go_wp2
      go_ret
      exact ⟨rfl, rfl⟩

theorem guess_any (w : World) (kind : Int) (zs : List Int) (A : Option Addr) (n cap k : Nat) (width i : Int) (h : Ints .i64 w A n zs) (hm : AllMay zs k) (hik : i ≤ k) (hw : 1 ≤ width) (h0 : 0 ≤ i) (h1 : i ≤ n) (hn : n ≤ 1000000) :
    Calls Tryz.prog 95 #[.int .i64 kind, .slice A n cap, .int .i64 width, .int .i64 i] w fun r w' => r = .returned (.int .i64 (guessI kind zs width i)) ∧ Below w.heap.size w w' := by
  by_cases k0 : kind = 0
  · have hv : guessI kind zs width i = 0 := if_pos k0
    rw [hv]
    have k1 : (kind == 0) = true := by simp [k0]
    clear hv k0
    go_enter Tryz.func95, Tryz.ntmps95
    go_wp2
    go_ret
    exact ⟨rfl, Below.refl _ _⟩
  · have k1 : (kind == 0) = false := by simp [k0]
    by_cases hl : kind = 1 ∨ i < width ∨ i % width = 0
    · have hv : guessI kind zs width i = leftI zs width i := by unfold guessI; rw [if_neg k0, if_pos hl]
      rw [hv]
      have hwl : (kind == 1 || decide (i < width) || i % width == 0) = true := by simpa [or_assoc] using hl
      clear hv k0 hl
      by_cases k2 : kind = 1
      · have k3 : (kind == 1) = true := by simp [k2]
        clear k2
        go_enter Tryz.func95, Tryz.ntmps95
        go_wp2_with (go_at_call 107; refine (left_any _ zs _ n cap width i h hw h0 h1 hn).mono ?_; rintro e w' ⟨rfl, rfl⟩)
        go_ret
        exact ⟨rfl, Below.refl _ _⟩
      · have k3 : (kind == 1) = false := by simp [k2]
        clear k2
        by_cases k4 : i < width
        · go_enter Tryz.func95, Tryz.ntmps95
          go_wp2_with (go_at_call 107; refine (left_any _ zs _ n cap width i h hw h0 h1 hn).mono ?_; rintro e w' ⟨rfl, rfl⟩)
          go_ret
          exact ⟨rfl, Below.refl _ _⟩
        · have k5 : (i % width == 0) = true := by simpa [k3, k4] using hwl
          go_enter Tryz.func95, Tryz.ntmps95
          go_wp2_with (go_at_call 107; refine (left_any _ zs _ n cap width i h hw h0 h1 hn).mono ?_; rintro e w' ⟨rfl, rfl⟩)
          go_ret
          exact ⟨rfl, Below.refl _ _⟩
    · have hv : guessI kind zs width i = clampI (ix zs (i - 1)) (ix zs (i - width)) (ix zs (i - width - 1)) := by unfold guessI; rw [if_neg k0, if_neg hl]
      rw [hv]
      have k3 : (kind == 1) = false := by simp; intro e; exact hl (.inl e)
      have k4 : width ≤ i := by omega
      have k5 : (i % width == 0) = false := by simp; intro e; exact hl (.inr (.inr e))
      have k6 : width < i := by
        rcases Int.lt_or_le width i with hlt | hge
        · exact hlt
        · exact absurd (by rw [show i = width by omega]; exact Int.emod_self) (fun e => hl (.inr (.inr e)))
      obtain ⟨_, _⟩ := hm.ix (i := i - 1) (by omega) (by omega)
      obtain ⟨_, _⟩ := hm.ix (i := i - width) (by omega) (by omega)
      obtain ⟨_, _⟩ := hm.ix (i := i - width - 1) (by omega) (by omega)
      obtain ⟨b, off, rfl, hb, hc⟩ := h.2 (by omega)
      have c1 : w.cell? ⟨b, off + (i.toNat - 1), none⟩ = some (.int .i64 (ix zs (i - 1))) := by rw [show i.toNat - 1 = (i - 1).toNat by omega]; exact hc _ (by omega)
      have c2 : w.cell? ⟨b, off + (i - width).toNat, none⟩ = some (.int .i64 (ix zs (i - width))) := hc _ (by omega)
      have c3 : w.cell? ⟨b, off + ((i - width).toNat - 1), none⟩ = some (.int .i64 (ix zs (i - width - 1))) := by rw [show (i - width).toNat - 1 = (i - width - 1).toNat by omega]; exact hc _ (by omega)
      have d1 : 1 ≤ i := by omega
      have d2 : i - 1 < n := by omega
      have d3 : i - width < n := by omega
      have d4 : 1 ≤ i - width := by omega
      have d5 : i - width - 1 < n := by omega
      have d6 : 0 ≤ i - width := by omega
      unfold clampI
      clear hv k0 hl hc hm
      go_enter Tryz.func95, Tryz.ntmps95
      go_wp2
      refine wp_region_over (by kernel_rfl) (by kernel_rfl) ?_
      repeat (go_big_quiet_step ((fail)))
      refine wpQuiet_nil ?_
      intro w2 w2b
      obtain ⟨w2c, w2f, w2l⟩ := rules w2b (Nat.le_refl _); clear w2l
      go_wp2
      go_ret
      exact ⟨rfl, (by repeat (first | with_reducible exact Below.refl _ _ | with_reducible assumption | with_reducible refine below_alloc ?_ _ | with_reducible refine below_draw ?_ | ((with_reducible apply bset); (focus (first | exact Nat.le_refl _ | (simp; done) | omega | (simp; omega)))) | ((with_reducible apply bcall); assumption; (focus (first | exact Nat.le_refl _ | (simp; done) | omega | (simp; omega))))))⟩

end Go.Proofs.YtbnjbgcadkdljaaGreatDoor

namespace Go.Proofs.YtbnjbgcadkdljaaGreatDoor
open Go.RowKit
theorem right4_yes {kind width n : Int} (h : right4 kind width n) : right4B kind width n = true := by simp [right4B, h]
theorem right4_no {kind width n : Int} (h : ¬ right4 kind width n) : right4B kind width n = false := by simp [right4B, h]

theorem info_i64 : (Tryz.prog.info? 2).map (fun i => (i.zero, i.size, i.bytes)) = some (some (.int .i64 0), 1, 8) := by kernel_rfl
theorem gstep {zs : List Int} {k : Nat} (hall : AllMay zs k) (hv : mayB (nth zs k) = true) : AllMay zs (k + 1) := fun j hj => by
  rcases Nat.lt_or_ge j k with hl | hg
  · exact hall j hl
  · obtain rfl : j = k := by omega
    exact hv

theorem Rests_no (w : World) (kind : Int) (zs : List Int) (A : Option Addr) (n cap : Nat) (width : Int) (hr : ¬ right4 kind width n) :
    Calls Tryz.prog 73 #[.int .i64 kind, .slice A n cap, .int .i64 width] w fun r w' => r = .returned (.tuple #[.slice none 0 0, .int .i64 11]) ∧ Below w.heap.size w w' := by
  have hR := right4_no hr
  clear hr
  go_enter Tryz.func73, Tryz.ntmps73
  go_wp2_with (go_at_call 30; refine (right4_any _ _ _ _).mono ?_; rintro e w' ⟨rfl, rfl⟩)
  go_ret2
  exact ⟨rfl, Below.refl _ _⟩

set_option maxHeartbeats 1000000 in
theorem Rests_ok (kind : Int) (zs : List Int) (A : Option Addr) (n cap : Nat) (width : Int) (w : World) (hr : right4 kind width n) (h : Ints .i64 w A n zs) (hn : n ≤ 1000000) (hcap : n ≤ cap) (hm : Hid (AllMay zs n)) :
    Calls Tryz.prog 73 #[.int .i64 kind, .slice A n cap, .int .i64 width] w fun e w' => ∃ v, e = .returned (.tuple #[v, .int .i64 0]) ∧ w'.ownsRow w.heap.size 2 1 v n ((restsL kind zs width n).map (Value.int .i64)) ∧ Below w.heap.size w w' := by
  have hw := hr.2.2.1
  have hR := right4_yes hr
  clear hr
  have hmk := fun W => run_make_row' (P := Tryz.prog) 24 2 (.int .i64 0) 8 Tryz.underlying24 info_i64 rfl .i64 .i64 n (by omega) (by omega) W
  go_enter Tryz.func73, Tryz.ntmps73
  go_wp2_with (go_at_call 30; refine (right4_any _ _ _ _).mono ?_; rintro e w' ⟨rfl, rfl⟩)
  have hown0 := ownI_make .i64 2 w w.heap.size n (Nat.le_refl _) (by unfold maxLen; omega)
  go_loopw [22] (fun x wr => ∃ k : Nat, k ≤ n ∧ x = .int .i64 k ∧ Hid (AllMay zs k) ∧ OwnI .i64 2 wr w.heap.size w.heap.size n (restsL kind zs width k ++ List.replicate (n - k) 0) ∧ Below w.heap.size w wr ∧ w.heap.size < wr.heap.size) (fun x _ => n - (intOf x).toNat)
  case atStart => exact ⟨0, Nat.zero_le _, rfl, fun j hj => by omega, hown0, (by repeat (first | with_reducible exact Below.refl _ _ | with_reducible assumption | with_reducible refine below_alloc ?_ _ | with_reducible refine below_draw ?_ | ((with_reducible apply bset); (focus (first | exact Nat.le_refl _ | (simp; done) | omega | (simp; omega)))) | ((with_reducible apply bcall); assumption; (focus (first | exact Nat.le_refl _ | (simp; done) | omega | (simp; omega)))))), by simp⟩
  case round =>
    obtain ⟨k, hk, rfl, hall, hown, hE, hs⟩ := hrel
    clear hown0
    have hEc := (rules hE (Nat.le_refl _)).1
    by_cases hlt : k < n
    · have h' := h
      obtain ⟨b, off, rfl, hb, hc⟩ := h.at_ hlt
      have hw2 := h'.below (Nat.le_refl _) hE
      have oc := hown.cell hlt
      have of := hown.free k
      by_cases hv : mayB (nth zs k) = true
      · have hgb := guess_bd hall.out (kind := kind) (i := k) hw (by omega) (by omega)
        obtain ⟨_, _⟩ := hgb
        obtain ⟨_, _⟩ := (mayB_iff _).1 hv
        go_wp2_with (first | (go_at_call 96; refine (may_any _ _).mono ?_; rintro e w' ⟨rfl, rfl⟩) | (go_at_call 95; refine (guess_any _ kind zs _ n cap k width k hw2 hall.out (by omega) hw (by omega) (by omega) hn).mono ?_; rintro e w2 ⟨rfl, gb⟩; obtain ⟨gc, gf, gl⟩ := rules gb (Nat.le_refl _); have gz := gl _ hs; clear gl))
        have ho2 := (hown.keep gb (Nat.le_refl _)).set_ k (nth zs k - guessI kind zs width (k : Int))
        have e2 := fill_at (v := nth zs k - guessI kind zs width (k : Int)) (restsL_len kind zs width k) hlt
        rw [← restsL_succ] at e2
        rw [e2] at ho2
        have hEn : Below w.heap.size w (w2.setCell ⟨w.heap.size, k, none⟩ (.int .i64 (nth zs k - guessI kind zs width (k : Int)))) := (hE.trans (gb.mono (by omega))).setCell (Nat.le_refl _) _
        clear e2 hown
        go_roundw
        case rel => exact ⟨k + 1, by omega, by go_num, gstep hall.out hv, ho2, hEn, by simp; omega⟩
        case measure => simp [intOf]; omega
      · have hv' : mayB (nth zs k) = false := by simpa using hv
        exact absurd (hm.out k hlt) hv
    · obtain rfl : k = n := by omega
      go_wp2
      go_ret2
      exact ⟨_, rfl, by simpa [OwnI] using hown, hE⟩
set_option maxHeartbeats 1000000 in
theorem Rests_val (kind : Int) (zs : List Int) (A : Option Addr) (n cap : Nat) (width : Int) (w : World) (hr : right4 kind width n) (h : Ints .i64 w A n zs) (hn : n ≤ 1000000) (hcap : n ≤ cap) (hm : Hid (¬ AllMay zs n)) :
    Calls Tryz.prog 73 #[.int .i64 kind, .slice A n cap, .int .i64 width] w fun e w' => e = .returned (.tuple #[.slice none 0 0, .int .i64 7]) ∧ Below w.heap.size w w' := by
  have hw := hr.2.2.1
  have hR := right4_yes hr
  clear hr
  have hmk := fun W => run_make_row' (P := Tryz.prog) 24 2 (.int .i64 0) 8 Tryz.underlying24 info_i64 rfl .i64 .i64 n (by omega) (by omega) W
  go_enter Tryz.func73, Tryz.ntmps73
  go_wp2_with (go_at_call 30; refine (right4_any _ _ _ _).mono ?_; rintro e w' ⟨rfl, rfl⟩)
  have hown0 := ownI_make .i64 2 w w.heap.size n (Nat.le_refl _) (by unfold maxLen; omega)
  go_loopw [22] (fun x wr => ∃ k : Nat, k ≤ n ∧ x = .int .i64 k ∧ Hid (AllMay zs k) ∧ OwnI .i64 2 wr w.heap.size w.heap.size n (restsL kind zs width k ++ List.replicate (n - k) 0) ∧ Below w.heap.size w wr ∧ w.heap.size < wr.heap.size) (fun x _ => n - (intOf x).toNat)
  case atStart => exact ⟨0, Nat.zero_le _, rfl, fun j hj => by omega, hown0, (by repeat (first | with_reducible exact Below.refl _ _ | with_reducible assumption | with_reducible refine below_alloc ?_ _ | with_reducible refine below_draw ?_ | ((with_reducible apply bset); (focus (first | exact Nat.le_refl _ | (simp; done) | omega | (simp; omega)))) | ((with_reducible apply bcall); assumption; (focus (first | exact Nat.le_refl _ | (simp; done) | omega | (simp; omega)))))), by simp⟩
  case round =>
    obtain ⟨k, hk, rfl, hall, hown, hE, hs⟩ := hrel
    clear hown0
    have hEc := (rules hE (Nat.le_refl _)).1
    by_cases hlt : k < n
    · have h' := h
      obtain ⟨b, off, rfl, hb, hc⟩ := h.at_ hlt
      have hw2 := h'.below (Nat.le_refl _) hE
      have oc := hown.cell hlt
      have of := hown.free k
      by_cases hv : mayB (nth zs k) = true
      · have hgb := guess_bd hall.out (kind := kind) (i := k) hw (by omega) (by omega)
        obtain ⟨_, _⟩ := hgb
        obtain ⟨_, _⟩ := (mayB_iff _).1 hv
        go_wp2_with (first | (go_at_call 96; refine (may_any _ _).mono ?_; rintro e w' ⟨rfl, rfl⟩) | (go_at_call 95; refine (guess_any _ kind zs _ n cap k width k hw2 hall.out (by omega) hw (by omega) (by omega) hn).mono ?_; rintro e w2 ⟨rfl, gb⟩; obtain ⟨gc, gf, gl⟩ := rules gb (Nat.le_refl _); have gz := gl _ hs; clear gl))
        have ho2 := (hown.keep gb (Nat.le_refl _)).set_ k (nth zs k - guessI kind zs width (k : Int))
        have e2 := fill_at (v := nth zs k - guessI kind zs width (k : Int)) (restsL_len kind zs width k) hlt
        rw [← restsL_succ] at e2
        rw [e2] at ho2
        have hEn : Below w.heap.size w (w2.setCell ⟨w.heap.size, k, none⟩ (.int .i64 (nth zs k - guessI kind zs width (k : Int)))) := (hE.trans (gb.mono (by omega))).setCell (Nat.le_refl _) _
        clear e2 hown
        go_roundw
        case rel => exact ⟨k + 1, by omega, by go_num, gstep hall.out hv, ho2, hEn, by simp; omega⟩
        case measure => simp [intOf]; omega
      · have hv' : mayB (nth zs k) = false := by simpa using hv
        clear hv
        go_wp2_with (go_at_call 96; refine (may_any _ _).mono ?_; rintro e w' ⟨rfl, rfl⟩)
        go_ret2
        exact ⟨rfl, hE⟩
    · obtain rfl : k = n := by omega
      exact absurd hall.out hm.out
theorem Cells_no (w : World) (kind : Int) (zs : List Int) (A : Option Addr) (n cap : Nat) (width : Int) (hr : ¬ right4 kind width n) :
    Calls Tryz.prog 61 #[.int .i64 kind, .slice A n cap, .int .i64 width] w fun r w' => r = .returned (.tuple #[.slice none 0 0, .int .i64 11]) ∧ Below w.heap.size w w' := by
  have hR := right4_no hr
  clear hr
  go_enter Tryz.func61, Tryz.ntmps61
  go_wp2_with (go_at_call 30; refine (right4_any _ _ _ _).mono ?_; rintro e w' ⟨rfl, rfl⟩)
  go_ret2
  exact ⟨rfl, Below.refl _ _⟩

theorem far_none {kind width : Int} {rs outs : List Int} {k : Nat} (hw : 1 ≤ width) (ho : cellsN kind width rs k = some outs) (hr : 4294967295 < nth rs k ∨ nth rs k < -4294967295) : cellsN kind width rs (k + 1) = none := by
  have hb := guess_bd (cellsN_may ho) (kind := kind) (width := width) (i := k) hw (by omega) (by omega)
  rw [cellsN_next ho, if_neg]
  rw [mayB_iff]
  omega
theorem app_may {outs : List Int} {k m : Nat} (hl : outs.length = k) (h : AllMay outs k) : AllMay (outs ++ List.replicate m 0) k := fun j hj => by rw [nth_app_lt (by omega)]; exact h j hj
theorem app_guess {kind width : Int} {outs : List Int} {k m : Nat} (hw : 1 ≤ width) (hl : outs.length = k) : guessI kind (outs ++ List.replicate m 0) width (k : Int) = guessI kind outs width (k : Int) :=
  guess_congr hw (by omega) fun j hj => nth_app_lt (by omega)

set_option maxHeartbeats 1000000 in
theorem Cells_ok (kind : Int) (zs : List Int) (A : Option Addr) (n cap : Nat) (width : Int) (out : List Int) (w : World) (hr : right4 kind width n) (h : Ints .i64 w A n zs) (hn : n ≤ 1000000) (hcap : n ≤ cap) (hok : Hid (cellsN kind width zs n = some out)) :
    Calls Tryz.prog 61 #[.int .i64 kind, .slice A n cap, .int .i64 width] w fun e w' => ∃ v, e = .returned (.tuple #[v, .int .i64 0]) ∧ w'.ownsRow w.heap.size 2 1 v n (out.map (Value.int .i64)) ∧ Below w.heap.size w w' := by
  have hw := hr.2.2.1
  have hR := right4_yes hr
  clear hr
  have hmk := fun W => run_make_row' (P := Tryz.prog) 24 2 (.int .i64 0) 8 Tryz.underlying24 info_i64 rfl .i64 .i64 n (by omega) (by omega) W
  go_enter Tryz.func61, Tryz.ntmps61
  go_wp2_with (go_at_call 30; refine (right4_any _ _ _ _).mono ?_; rintro e w' ⟨rfl, rfl⟩)
  have hown0 := ownI_make .i64 2 w w.heap.size n (Nat.le_refl _) (by unfold maxLen; omega)
  go_loopw [22] (fun x wr => ∃ (k : Nat) (outs : List Int), k ≤ n ∧ x = .int .i64 k ∧ Hid (cellsN kind width zs k = some outs) ∧ OwnI .i64 2 wr w.heap.size w.heap.size n (outs ++ List.replicate (n - k) 0) ∧ Below w.heap.size w wr ∧ w.heap.size < wr.heap.size) (fun x _ => n - (intOf x).toNat)
  case atStart => exact ⟨0, [], Nat.zero_le _, rfl, rfl, hown0, (by repeat (first | with_reducible exact Below.refl _ _ | with_reducible assumption | with_reducible refine below_alloc ?_ _ | with_reducible refine below_draw ?_ | ((with_reducible apply bset); (focus (first | exact Nat.le_refl _ | (simp; done) | omega | (simp; omega)))) | ((with_reducible apply bcall); assumption; (focus (first | exact Nat.le_refl _ | (simp; done) | omega | (simp; omega)))))), by simp⟩
  case round =>
    obtain ⟨k, outs, hk, rfl, ho, hown, hE, hs⟩ := hrel
    clear hown0
    have hEc := (rules hE (Nat.le_refl _)).1
    by_cases hlt : k < n
    · have h' := h
      obtain ⟨b, off, rfl, hb, hc⟩ := h.at_ hlt
      have oc := hown.cell hlt
      have of := hown.free k
      by_cases f1 : 4294967295 < nth zs k
      · have hbad := Lib.hid (far_none hw ho.out (.inl f1))
        go_wp2
        exact absurd (cellsN_none hbad.out n (by omega)) (by rw [hok.out]; simp)
      · by_cases f2 : nth zs k < -4294967295
        · have hbad := Lib.hid (far_none hw ho.out (.inr f2))
          go_wp2
          exact absurd (cellsN_none hbad.out n (by omega)) (by rw [hok.out]; simp)
        · have hmay := cellsN_may ho.out
          have hlen := Lib.hid (cellsN_len ho.out)
          obtain ⟨_, _⟩ := guess_bd hmay (kind := kind) (width := width) (i := k) hw (by omega) (by omega)
          have hnx := Lib.hid (cellsN_next ho.out)
          have hcall := guess_any wr kind (outs ++ List.replicate (n - k) 0) _ n n k width k hown.ints (app_may hlen.out hmay) (by omega) hw (by omega) (by omega) hn
          rw [app_guess hw hlen.out] at hcall
          have Hcall := Lib.hid hcall
          clear hcall hmay
          generalize hgv : guessI kind outs width (k : Int) = gv at *
          clear hgv
          by_cases hv : mayB (gv + nth zs k) = true
          · go_wp2_with (first | (go_at_call 96; refine (may_any _ _).mono ?_; rintro e w' ⟨rfl, rfl⟩) | (go_at_call 95; refine Hcall.out.mono ?_; rintro e w2 ⟨rfl, gb⟩; obtain ⟨gc, gf, gl⟩ := rules gb (Nat.le_refl _); have gz := gl _ hs; clear gl))
            have ho2 := (hown.keep gb (Nat.le_refl _)).set_ k (gv + nth zs k)
            rw [fill_at hlen.out hlt] at ho2
            have hEn : Below w.heap.size w (w2.setCell ⟨w.heap.size, k, none⟩ (.int .i64 (gv + nth zs k))) := (hE.trans (gb.mono (by omega))).setCell (Nat.le_refl _) _
            clear hown
            go_roundw
            case rel => exact ⟨k + 1, outs ++ [gv + nth zs k], by omega, by go_num, Lib.hid (by rw [hnx.out, if_pos hv]), ho2, hEn, by simp; omega⟩
            case measure => simp [intOf]; omega
          · have hv' : mayB (gv + nth zs k) = false := by simpa using hv
            have hbad : Hid (cellsN kind width zs (k + 1) = none) := Lib.hid (by rw [hnx.out, if_neg hv])
            clear hv
            go_wp2_with (first | (go_at_call 96; refine (may_any _ _).mono ?_; rintro e w' ⟨rfl, rfl⟩) | (go_at_call 95; refine Hcall.out.mono ?_; rintro e w2 ⟨rfl, gb⟩; obtain ⟨gc, gf, gl⟩ := rules gb (Nat.le_refl _); have gz := gl _ hs; clear gl))
            have hEn : Below w.heap.size w (w2.setCell ⟨w.heap.size, k, none⟩ (.int .i64 (gv + nth zs k))) := (hE.trans (gb.mono (by omega))).setCell (Nat.le_refl _) _
            exact absurd (cellsN_none hbad.out n (by omega)) (by rw [hok.out]; simp)
    · obtain rfl : k = n := by omega
      have e : out = outs := by have h1 := ho.out; rw [hok.out] at h1; exact Option.some.inj h1
      subst e
      go_wp2
      go_ret2
      exact ⟨_, rfl, by simpa [OwnI] using hown, hE⟩
set_option maxHeartbeats 1000000 in
theorem Cells_val (kind : Int) (zs : List Int) (A : Option Addr) (n cap : Nat) (width : Int) (w : World) (hr : right4 kind width n) (h : Ints .i64 w A n zs) (hn : n ≤ 1000000) (hcap : n ≤ cap) (hok : Hid (cellsN kind width zs n = none)) :
    Calls Tryz.prog 61 #[.int .i64 kind, .slice A n cap, .int .i64 width] w fun e w' => e = .returned (.tuple #[.slice none 0 0, .int .i64 7]) ∧ Below w.heap.size w w' := by
  have hw := hr.2.2.1
  have hR := right4_yes hr
  clear hr
  have hmk := fun W => run_make_row' (P := Tryz.prog) 24 2 (.int .i64 0) 8 Tryz.underlying24 info_i64 rfl .i64 .i64 n (by omega) (by omega) W
  go_enter Tryz.func61, Tryz.ntmps61
  go_wp2_with (go_at_call 30; refine (right4_any _ _ _ _).mono ?_; rintro e w' ⟨rfl, rfl⟩)
  have hown0 := ownI_make .i64 2 w w.heap.size n (Nat.le_refl _) (by unfold maxLen; omega)
  go_loopw [22] (fun x wr => ∃ (k : Nat) (outs : List Int), k ≤ n ∧ x = .int .i64 k ∧ Hid (cellsN kind width zs k = some outs) ∧ OwnI .i64 2 wr w.heap.size w.heap.size n (outs ++ List.replicate (n - k) 0) ∧ Below w.heap.size w wr ∧ w.heap.size < wr.heap.size) (fun x _ => n - (intOf x).toNat)
  case atStart => exact ⟨0, [], Nat.zero_le _, rfl, rfl, hown0, (by repeat (first | with_reducible exact Below.refl _ _ | with_reducible assumption | with_reducible refine below_alloc ?_ _ | with_reducible refine below_draw ?_ | ((with_reducible apply bset); (focus (first | exact Nat.le_refl _ | (simp; done) | omega | (simp; omega)))) | ((with_reducible apply bcall); assumption; (focus (first | exact Nat.le_refl _ | (simp; done) | omega | (simp; omega)))))), by simp⟩
  case round =>
    obtain ⟨k, outs, hk, rfl, ho, hown, hE, hs⟩ := hrel
    clear hown0
    have hEc := (rules hE (Nat.le_refl _)).1
    by_cases hlt : k < n
    · have h' := h
      obtain ⟨b, off, rfl, hb, hc⟩ := h.at_ hlt
      have oc := hown.cell hlt
      have of := hown.free k
      by_cases f1 : 4294967295 < nth zs k
      · have hbad := Lib.hid (far_none hw ho.out (.inl f1))
        go_wp2
        go_ret2
        exact ⟨rfl, hE⟩
      · by_cases f2 : nth zs k < -4294967295
        · have hbad := Lib.hid (far_none hw ho.out (.inr f2))
          go_wp2
          go_ret2
          exact ⟨rfl, hE⟩
        · have hmay := cellsN_may ho.out
          have hlen := Lib.hid (cellsN_len ho.out)
          obtain ⟨_, _⟩ := guess_bd hmay (kind := kind) (width := width) (i := k) hw (by omega) (by omega)
          have hnx := Lib.hid (cellsN_next ho.out)
          have hcall := guess_any wr kind (outs ++ List.replicate (n - k) 0) _ n n k width k hown.ints (app_may hlen.out hmay) (by omega) hw (by omega) (by omega) hn
          rw [app_guess hw hlen.out] at hcall
          have Hcall := Lib.hid hcall
          clear hcall hmay
          generalize hgv : guessI kind outs width (k : Int) = gv at *
          clear hgv
          by_cases hv : mayB (gv + nth zs k) = true
          · go_wp2_with (first | (go_at_call 96; refine (may_any _ _).mono ?_; rintro e w' ⟨rfl, rfl⟩) | (go_at_call 95; refine Hcall.out.mono ?_; rintro e w2 ⟨rfl, gb⟩; obtain ⟨gc, gf, gl⟩ := rules gb (Nat.le_refl _); have gz := gl _ hs; clear gl))
            have ho2 := (hown.keep gb (Nat.le_refl _)).set_ k (gv + nth zs k)
            rw [fill_at hlen.out hlt] at ho2
            have hEn : Below w.heap.size w (w2.setCell ⟨w.heap.size, k, none⟩ (.int .i64 (gv + nth zs k))) := (hE.trans (gb.mono (by omega))).setCell (Nat.le_refl _) _
            clear hown
            go_roundw
            case rel => exact ⟨k + 1, outs ++ [gv + nth zs k], by omega, by go_num, Lib.hid (by rw [hnx.out, if_pos hv]), ho2, hEn, by simp; omega⟩
            case measure => simp [intOf]; omega
          · have hv' : mayB (gv + nth zs k) = false := by simpa using hv
            have hbad : Hid (cellsN kind width zs (k + 1) = none) := Lib.hid (by rw [hnx.out, if_neg hv])
            clear hv
            go_wp2_with (first | (go_at_call 96; refine (may_any _ _).mono ?_; rintro e w' ⟨rfl, rfl⟩) | (go_at_call 95; refine Hcall.out.mono ?_; rintro e w2 ⟨rfl, gb⟩; obtain ⟨gc, gf, gl⟩ := rules gb (Nat.le_refl _); have gz := gl _ hs; clear gl))
            have hEn : Below w.heap.size w (w2.setCell ⟨w.heap.size, k, none⟩ (.int .i64 (gv + nth zs k))) := (hE.trans (gb.mono (by omega))).setCell (Nat.le_refl _) _
            go_ret2
            exact ⟨rfl, hEn⟩
    · obtain rfl : k = n := by omega
      exact absurd hok.out (by rw [ho.out]; simp)
end Go.Proofs.YtbnjbgcadkdljaaGreatDoor
