/- Contracts of package pred. -/
import Derived.Test.YtbnjbgcadkdljaaDoorRows
import Derived.Test.YtbnjbgcadkdljaaDoorMD
import Derived.Test.YtbnjbgcadkdljaaDoorMA
import Derived.Test.YtbnjbgcadkdljaaDoorPlain4
set_option linter.unusedVariables false
set_option linter.unusedSimpArgs false
namespace Go.Proofs.YtbnjbgcadkdljaaDoor
open Go.RowKit

theorem right4_any (kind width n : Int) (w : World) :
    Calls Tryd.prog 11 #[.int .i64 kind, .int .i64 width, .int .i64 n] w fun r w' => r = .returned (.bool (right4B kind width n)) ∧ w = w' := by
  go_enter Tryd.func11, Tryd.ntmps11
  go_wp2
  all_goals
    go_ret
    refine ⟨ret_bool ?_, rfl⟩
    rw [eq_comm]
    simp only [right4B, right4]
    first | (apply decide_eq_false; omega) | (rw [decide_eq_decide]; omega) | (rw [Bool.eq_iff_iff]; simp [*]; done) | (rw [Bool.eq_iff_iff]; simp [*]; omega)

theorem may_any (v : Int) (w : World) :
    Calls Tryd.prog 49 #[.int .i64 v] w fun r w' => r = .returned (.bool (mayB v)) ∧ w = w' := by
  go_enter Tryd.func49, Tryd.ntmps49
  go_wp2
  all_goals
    go_ret
    refine ⟨ret_bool ?_, rfl⟩
    rw [eq_comm]
    simp only [mayB]
    first | (apply decide_eq_false; omega) | (rw [decide_eq_decide]; omega) | (simp_all; done) | (simp_all; omega)

theorem left_any (w : World) (zs : List Int) (A : Option Addr) (n cap : Nat) (width i : Int) (h : Ints .i64 w A n zs) (hw : 1 ≤ width) (h0 : 0 ≤ i) (h1 : i ≤ n) (hn : n ≤ 1000000) :
    Calls Tryd.prog 57 #[.slice A n cap, .int .i64 width, .int .i64 i] w fun r w' => r = .returned (.int .i64 (leftI zs width i)) ∧ w = w' := by
  by_cases c1 : i = 0
  · have hv : leftI zs width i = 0 := if_pos c1
    rw [hv]
    clear hv
    go_enter Tryd.func57, Tryd.ntmps57
    go_wp2
    go_ret
    exact ⟨rfl, rfl⟩
  · have hp : 0 < i := by omega
    obtain ⟨b, off, rfl, hb, hc⟩ := h.2 (by omega)
    by_cases c2 : i % width = 0
    · have hge := mod_ge hp hw c2
      have hv : leftI zs width i = ix zs (i - width) := by unfold leftI; rw [if_neg c1, if_pos c2]
      have hcell : w.cell? ⟨b, off + (i - width).toNat, none⟩ = some (.int .i64 (ix zs (i - width))) := hc _ (by omega)
      rw [hv]
      have c3 : (i == 0) = false := by simp [c1]
      have c4 : (i % width == 0) = true := by simp [c2]
      have c6 : i - width < n := by omega
      clear hv c1 hc c2
      go_enter Tryd.func57, Tryd.ntmps57
      go_wp2
      go_ret
      exact ⟨rfl, rfl⟩
    · have hv : leftI zs width i = ix zs (i - 1) := by unfold leftI; rw [if_neg c1, if_neg c2]
      have hcell : w.cell? ⟨b, off + (i.toNat - 1), none⟩ = some (.int .i64 (ix zs (i - 1))) := by rw [show i.toNat - 1 = (i - 1).toNat by omega]; exact hc _ (by omega)
      rw [hv]
      have c3 : (i == 0) = false := by simp [c1]
      have c4 : (i % width == 0) = false := by simp [c2]
      have c5 : 1 ≤ i := by omega
      have c6 : i - 1 < n := by omega
      clear hv c1 hc c2
      go_enter Tryd.func57, Tryd.ntmps57
      go_wp2
      go_ret
      exact ⟨rfl, rfl⟩

theorem guess_any (w : World) (kind : Int) (zs : List Int) (A : Option Addr) (n cap k : Nat) (width i : Int) (h : Ints .i64 w A n zs) (hm : AllMay zs k) (hik : i ≤ k) (hw : 1 ≤ width) (h0 : 0 ≤ i) (h1 : i ≤ n) (hn : n ≤ 1000000) :
    Calls Tryd.prog 50 #[.int .i64 kind, .slice A n cap, .int .i64 width, .int .i64 i] w fun r w' => r = .returned (.int .i64 (guessI kind zs width i)) ∧ Below w.heap.size w w' := by
  by_cases k0 : kind = 0
  · have hv : guessI kind zs width i = 0 := if_pos k0
    rw [hv]
    have k1 : (kind == 0) = true := by simp [k0]
    clear hv k0
    go_enter Tryd.func50, Tryd.ntmps50
    go_wp2
    go_ret
    exact ⟨rfl, Below.refl _ _⟩
  · have k1 : (kind == 0) = false := by simp [k0]
    by_cases hl : kind = 1 ∨ i < width ∨ i % width = 0
    · have hv : guessI kind zs width i = leftI zs width i := by unfold guessI; rw [if_neg k0, if_pos hl]
      rw [hv]
      have hwl : (kind == 1 || decide (i < width) || i % width == 0) = true := by simpa [or_assoc] using hl
      clear hv k0 hl
      by_cases k2 : kind = 1
      · have k3 : (kind == 1) = true := by simp [k2]
        clear k2
        go_enter Tryd.func50, Tryd.ntmps50
        go_wp2_with (go_at_call 57; refine (left_any _ zs _ n cap width i h hw h0 h1 hn).mono ?_; rintro e w' ⟨rfl, rfl⟩)
        go_ret
        exact ⟨rfl, Below.refl _ _⟩
      · have k3 : (kind == 1) = false := by simp [k2]
        clear k2
        by_cases k4 : i < width
        · go_enter Tryd.func50, Tryd.ntmps50
          go_wp2_with (go_at_call 57; refine (left_any _ zs _ n cap width i h hw h0 h1 hn).mono ?_; rintro e w' ⟨rfl, rfl⟩)
          go_ret
          exact ⟨rfl, Below.refl _ _⟩
        · have k5 : (i % width == 0) = true := by simpa [k3, k4] using hwl
          go_enter Tryd.func50, Tryd.ntmps50
          go_wp2_with (go_at_call 57; refine (left_any _ zs _ n cap width i h hw h0 h1 hn).mono ?_; rintro e w' ⟨rfl, rfl⟩)
          go_ret
          exact ⟨rfl, Below.refl _ _⟩
    · have hv : guessI kind zs width i = clampI (ix zs (i - 1)) (ix zs (i - width)) (ix zs (i - width - 1)) := by unfold guessI; rw [if_neg k0, if_neg hl]
      rw [hv]
      have k3 : (kind == 1) = false := by simp; intro e; exact hl (.inl e)
      have k4 : width ≤ i := by omega
      have k5 : (i % width == 0) = false := by simp; intro e; exact hl (.inr (.inr e))
      have k6 : width < i := by
        rcases Int.lt_or_le width i with hlt | hge
        · exact hlt
        · exact absurd (by rw [show i = width by omega]; exact Int.emod_self) (fun e => hl (.inr (.inr e)))
      obtain ⟨_, _⟩ := hm.ix (i := i - 1) (by omega) (by omega)
      obtain ⟨_, _⟩ := hm.ix (i := i - width) (by omega) (by omega)
      obtain ⟨_, _⟩ := hm.ix (i := i - width - 1) (by omega) (by omega)
      obtain ⟨b, off, rfl, hb, hc⟩ := h.2 (by omega)
      have c1 : w.cell? ⟨b, off + (i.toNat - 1), none⟩ = some (.int .i64 (ix zs (i - 1))) := by rw [show i.toNat - 1 = (i - 1).toNat by omega]; exact hc _ (by omega)
      have c2 : w.cell? ⟨b, off + (i - width).toNat, none⟩ = some (.int .i64 (ix zs (i - width))) := hc _ (by omega)
      have c3 : w.cell? ⟨b, off + ((i - width).toNat - 1), none⟩ = some (.int .i64 (ix zs (i - width - 1))) := by rw [show (i - width).toNat - 1 = (i - width - 1).toNat by omega]; exact hc _ (by omega)
      have d1 : 1 ≤ i := by omega
      have d2 : i - 1 < n := by omega
      have d3 : i - width < n := by omega
      have d4 : 1 ≤ i - width := by omega
      have d5 : i - width - 1 < n := by omega
      have d6 : 0 ≤ i - width := by omega
      unfold clampI
      clear hv k0 hl hc hm
      go_enter Tryd.func50, Tryd.ntmps50
      go_wp2
      refine wp_region_over (by kernel_rfl) (by kernel_rfl) ?_
      repeat (go_big_quiet_step ((fail)))
      refine wpQuiet_nil ?_
      intro w2 w2b
      obtain ⟨w2c, w2f, w2l⟩ := rules w2b (Nat.le_refl _); clear w2l
      go_wp2
      go_ret
      exact ⟨rfl, (by repeat (first | with_reducible exact Below.refl _ _ | with_reducible assumption | with_reducible refine below_alloc ?_ _ | with_reducible refine below_draw ?_ | ((with_reducible apply bset); (focus (first | exact Nat.le_refl _ | (simp; done) | omega | (simp; omega)))) | ((with_reducible apply bcall); assumption; (focus (first | exact Nat.le_refl _ | (simp; done) | omega | (simp; omega))))))⟩

end Go.Proofs.YtbnjbgcadkdljaaDoor
