/- Texts as one: Ref4a, Ref4b. -/
import Derived.Test.YtbnjbgcadkdljaaGreatDoorMR
set_option linter.unusedVariables false
set_option linter.unusedSimpArgs false
namespace Go.Proofs.YtbnjbgcadkdljaaGreatDoor
open Go.RowKit
theorem mul_one_less (y w : Int) : (y - 1) * w = y * w - w := by rw [Int.sub_mul, Int.one_mul]

theorem refRight4_any (kind width n : Int) (w : World) :
    Calls Tryz.prog 87 #[.int .i64 kind, .int .i64 width, .int .i64 n] w fun r w' => r = .returned (.bool (right4B kind width n)) ∧ w = w' := by
  by_cases k0 : kind = 0
  · subst k0
    go_enter Tryz.func87, Tryz.ntmps87
    go_wp2
    all_goals
      go_ret
      refine ⟨ret_bool ?_, rfl⟩
      rw [eq_comm]
      simp only [right4B, right4]
      first | (apply decide_eq_false; omega) | (rw [decide_eq_decide]; omega) | (rw [Bool.eq_iff_iff]; simp [*]; done) | (rw [Bool.eq_iff_iff]; simp [*]; omega)
  · have b0 : (kind == 0) = false := by simp [k0]
    by_cases k1 : kind = 1
    · subst k1
      go_enter Tryz.func87, Tryz.ntmps87
      go_wp2
      all_goals
        go_ret
        refine ⟨ret_bool ?_, rfl⟩
        rw [eq_comm]
        simp only [right4B, right4]
        first | (apply decide_eq_false; omega) | (rw [decide_eq_decide]; omega) | (rw [Bool.eq_iff_iff]; simp [*]; done) | (rw [Bool.eq_iff_iff]; simp [*]; omega)
    · have b1 : (kind == 1) = false := by simp [k1]
      by_cases k2 : kind = 2
      · subst k2
        go_enter Tryz.func87, Tryz.ntmps87
        go_wp2
        all_goals
          go_ret
          refine ⟨ret_bool ?_, rfl⟩
          rw [eq_comm]
          simp only [right4B, right4]
          first | (apply decide_eq_false; omega) | (rw [decide_eq_decide]; omega) | (rw [Bool.eq_iff_iff]; simp [*]; done) | (rw [Bool.eq_iff_iff]; simp [*]; omega)
      · have b2 : (kind == 2) = false := by simp [k2]
        have hv : right4B kind width n = false := right4_no (by unfold right4; omega)
        rw [hv]
        clear hv k0 k1 k2
        go_enter Tryz.func87, Tryz.ntmps87
        go_wp2
        go_ret
        exact ⟨rfl, rfl⟩

theorem at_any (w : World) (zs : List Int) (A : Option Addr) (n cap : Nat) (width x y : Int) (h : Ints .i64 w A n zs) (hn : n ≤ 1000000) (p0 : 0 ≤ y * width) (p1 : y * width ≤ 1000000) (h0 : 0 ≤ y * width + x) (h1 : y * width + x < n) :
    Calls Tryz.prog 106 #[.slice A n cap, .int .i64 width, .int .i64 x, .int .i64 y] w fun r w' => r = .returned (.int .i64 (ix zs (y * width + x))) ∧ w = w' := by
  obtain ⟨b, off, rfl, hb, hc⟩ := h.2 (by omega)
  have hcell : w.cell? ⟨b, off + (y * width + x).toNat, none⟩ = some (.int .i64 (ix zs (y * width + x))) := hc _ (by omega)
  have hx0 : -1000000 ≤ x := by omega
  have hx1 : x ≤ 1000000 := by omega
  clear hc
  go_enter Tryz.func106, Tryz.ntmps106
  go_wp2
  go_ret
  exact ⟨rfl, rfl⟩

theorem at_l (zs : List Int) (A : Option Addr) (n cap : Nat) (width i : Int) (w : World) (h : Ints .i64 w A n zs) (hn : n ≤ 1000000) (hw : 1 ≤ width) (h0 : 0 ≤ i) (h1 : i ≤ n) (hx : ¬ i % width = 0) :
    Calls Tryz.prog 106 #[.slice A n cap, .int .i64 width, .int .i64 (i % width - 1), .int .i64 (i / width)] w fun r w' => r = .returned (.int .i64 (ix zs (i - 1))) ∧ w = w' := by
  have hrc := row_col (i := i) hw
  have hm0 := Int.emod_nonneg i (b := width) (by omega)
  have hd0 := Int.ediv_nonneg h0 (b := width) (by omega)
  have hp0 := Int.mul_nonneg hd0 (show 0 ≤ width by omega)
  have e : i / width * width + (i % width - 1) = i - 1 := by omega
  have hc := at_any w zs A n cap width (i % width - 1) (i / width) h hn (by omega) (by omega) (by omega) (by omega)
  rw [e] at hc
  exact hc

theorem at_a (zs : List Int) (A : Option Addr) (n cap : Nat) (width i : Int) (w : World) (h : Ints .i64 w A n zs) (hn : n ≤ 1000000) (hw : 1 ≤ width) (h0 : 0 ≤ i) (h1 : i ≤ n) (hy : ¬ i / width = 0) :
    Calls Tryz.prog 106 #[.slice A n cap, .int .i64 width, .int .i64 (i % width), .int .i64 (i / width - 1)] w fun r w' => r = .returned (.int .i64 (ix zs (i - width))) ∧ w = w' := by
  have hrc := row_col (i := i) hw
  have hm0 := Int.emod_nonneg i (b := width) (by omega)
  have hd0 := Int.ediv_nonneg h0 (b := width) (by omega)
  have hp0 := Int.mul_nonneg hd0 (show 0 ≤ width by omega)
  have hy1 : width ≤ i := by
    rcases Int.lt_or_le i width with hlt | hge
    · exact absurd ((div_pos_iff hw h0).2 hlt) hy
    · exact hge
  have hmy := mul_one_less (i / width) width
  have hml := Int.emod_lt_of_pos i (b := width) (by omega)
  have hp1 := Int.mul_nonneg (show 0 ≤ i / width - 1 by omega) (show 0 ≤ width by omega)
  have e : (i / width - 1) * width + i % width = i - width := by omega
  have hc := at_any w zs A n cap width (i % width) (i / width - 1) h hn (by omega) (by omega) (by omega) (by omega)
  rw [e] at hc
  exact hc

theorem at_c (zs : List Int) (A : Option Addr) (n cap : Nat) (width i : Int) (w : World) (h : Ints .i64 w A n zs) (hn : n ≤ 1000000) (hw : 1 ≤ width) (h0 : 0 ≤ i) (h1 : i ≤ n) (hx : ¬ i % width = 0) (hy : ¬ i / width = 0) :
    Calls Tryz.prog 106 #[.slice A n cap, .int .i64 width, .int .i64 (i % width - 1), .int .i64 (i / width - 1)] w fun r w' => r = .returned (.int .i64 (ix zs (i - width - 1))) ∧ w = w' := by
  have hrc := row_col (i := i) hw
  have hm0 := Int.emod_nonneg i (b := width) (by omega)
  have hd0 := Int.ediv_nonneg h0 (b := width) (by omega)
  have hp0 := Int.mul_nonneg hd0 (show 0 ≤ width by omega)
  have hy1 : width ≤ i := by
    rcases Int.lt_or_le i width with hlt | hge
    · exact absurd ((div_pos_iff hw h0).2 hlt) hy
    · exact hge
  have hmy := mul_one_less (i / width) width
  have hml := Int.emod_lt_of_pos i (b := width) (by omega)
  have hp1 := Int.mul_nonneg (show 0 ≤ i / width - 1 by omega) (show 0 ≤ width by omega)
  have e : (i / width - 1) * width + (i % width - 1) = i - width - 1 := by omega
  have hc := at_any w zs A n cap width (i % width - 1) (i / width - 1) h hn (by omega) (by omega) (by omega) (by omega)
  rw [e] at hc
  exact hc

theorem at_0 (zs : List Int) (A : Option Addr) (n cap : Nat) (width i : Int) (w : World) (h : Ints .i64 w A n zs) (hn : n ≤ 1000000) (hw : 1 ≤ width) (h0 : 0 ≤ i) (h1 : i ≤ n) (hx : i % width = 0) (hy : ¬ i / width = 0) :
    Calls Tryz.prog 106 #[.slice A n cap, .int .i64 width, .int .i64 0, .int .i64 (i / width - 1)] w fun r w' => r = .returned (.int .i64 (ix zs (i - width))) ∧ w = w' := by
  have hrc := row_col (i := i) hw
  have hm0 := Int.emod_nonneg i (b := width) (by omega)
  have hd0 := Int.ediv_nonneg h0 (b := width) (by omega)
  have hp0 := Int.mul_nonneg hd0 (show 0 ≤ width by omega)
  have hy1 : width ≤ i := by
    rcases Int.lt_or_le i width with hlt | hge
    · exact absurd ((div_pos_iff hw h0).2 hlt) hy
    · exact hge
  have hmy := mul_one_less (i / width) width
  have hml := Int.emod_lt_of_pos i (b := width) (by omega)
  have hp1 := Int.mul_nonneg (show 0 ≤ i / width - 1 by omega) (show 0 ≤ width by omega)
  have e : (i / width - 1) * width + 0 = i - width := by omega
  have hc := at_any w zs A n cap width 0 (i / width - 1) h hn (by omega) (by omega) (by omega) (by omega)
  rw [e] at hc
  exact hc

set_option maxHeartbeats 2000000 in
theorem refGuess_any (w : World) (kind : Int) (zs : List Int) (A : Option Addr) (n cap k : Nat) (width i : Int) (h : Ints .i64 w A n zs) (hm : AllMay zs k) (hik : i ≤ k) (hw : 1 ≤ width) (h0 : 0 ≤ i) (h1 : i ≤ n) (hn : n ≤ 1000000) :
    Calls Tryz.prog 88 #[.int .i64 kind, .slice A n cap, .int .i64 width, .int .i64 i] w fun r w' => r = .returned (.int .i64 (guessI kind zs width i)) ∧ Below w.heap.size w w' := by
  have hml := Int.emod_lt_of_pos i (b := width) (by omega)
  have hm0 := Int.emod_nonneg i (b := width) (by omega)
  have hd0 := Int.ediv_nonneg h0 (b := width) (by omega)
  have hdi : i / width ≤ i := Int.ediv_le_self width h0
  have hyi := div_pos_iff hw h0
  have hxi : i % width ≤ i := by
    have a := row_col (i := i) hw
    have b := Int.mul_nonneg hd0 (show 0 ≤ width by omega)
    omega
  have hdd : wrap64 (i.tdiv width) = i / width := by rw [Int.tdiv_eq_ediv_of_nonneg h0, IntWalk.wrap64_in _ ⟨by omega, by omega⟩]
  by_cases k0 : kind = 0
  · have b0 : (kind == 0) = true := by simp [k0]
    have hv : guessI kind zs width i = 0 := by
      exact if_pos k0
    rw [hv]
    clear hv
    clear hyi k0
    go_enter Tryz.func88, Tryz.ntmps88
    go_wp2
    refine wp_region_over (by kernel_rfl) (by kernel_rfl) ?_
    repeat (go_big_quiet_step ((fail)))
    refine wpQuiet_nil ?_
    intro w2 w2b
    obtain ⟨w2c, w2f, w2l⟩ := rules w2b (Nat.le_refl _); clear w2l
    have hw2 := h.below (Nat.le_refl _) w2b
    go_wp2
    go_ret
    exact ⟨rfl, (by repeat (first | with_reducible exact Below.refl _ _ | with_reducible assumption | with_reducible refine below_alloc ?_ _ | with_reducible refine below_draw ?_ | ((with_reducible apply bset); (focus (first | exact Nat.le_refl _ | (simp; done) | omega | (simp; omega)))) | ((with_reducible apply bcall); assumption; (focus (first | exact Nat.le_refl _ | (simp; done) | omega | (simp; omega))))))⟩
  · have b0 : (kind == 0) = false := by simp [k0]
    by_cases hx : i % width = 0
    · have b1 : (i % width == 0) = true := by simp [hx]
      by_cases hy : i / width = 0
      · have b2 : (i / width == 0) = true := by simp [hy]
        have hv : guessI kind zs width i = 0 := by
          have : i = 0 := by have := hyi.1 hy; rw [Int.emod_eq_of_lt h0 this] at hx; exact hx
          subst this; unfold guessI leftI; rw [if_neg k0, if_pos (by right; left; omega), if_pos rfl]
        rw [hv]
        clear hv
        clear hyi k0 hx hy
        go_enter Tryz.func88, Tryz.ntmps88
        go_wp2
        refine wp_region_over (by kernel_rfl) (by kernel_rfl) ?_
        repeat (go_big_quiet_step ((fail)))
        refine wpQuiet_nil ?_
        intro w2 w2b
        obtain ⟨w2c, w2f, w2l⟩ := rules w2b (Nat.le_refl _); clear w2l
        have hw2 := h.below (Nat.le_refl _) w2b
        go_wp2
        go_ret
        exact ⟨rfl, (by repeat (first | with_reducible exact Below.refl _ _ | with_reducible assumption | with_reducible refine below_alloc ?_ _ | with_reducible refine below_draw ?_ | ((with_reducible apply bset); (focus (first | exact Nat.le_refl _ | (simp; done) | omega | (simp; omega)))) | ((with_reducible apply bcall); assumption; (focus (first | exact Nat.le_refl _ | (simp; done) | omega | (simp; omega))))))⟩
      · have b2 : (i / width == 0) = false := by simp [hy]
        have hv : guessI kind zs width i = ix zs (i - width) := by
          unfold guessI leftI; rw [if_neg k0, if_pos (by right; right; exact hx), if_neg (fun e => hy (by rw [e]; exact Int.zero_ediv _)), if_pos hx]
        rw [hv]
        clear hv
        have Hx := Lib.hid hx
        have Hy := Lib.hid hy
        clear hyi k0 hx hy
        go_enter Tryz.func88, Tryz.ntmps88
        go_wp2
        refine wp_region_over (by kernel_rfl) (by kernel_rfl) ?_
        repeat (go_big_quiet_step ((fail)))
        refine wpQuiet_nil ?_
        intro w2 w2b
        obtain ⟨w2c, w2f, w2l⟩ := rules w2b (Nat.le_refl _); clear w2l
        have hw2 := h.below (Nat.le_refl _) w2b
        go_wp2_with (first | (go_at_call 106; with_reducible refine (at_0 zs _ n cap width i _ hw2 hn hw h0 h1 Hx.out Hy.out).mono ?_; rintro e w' ⟨rfl, rfl⟩) | fail)
        go_ret
        exact ⟨rfl, (by repeat (first | with_reducible exact Below.refl _ _ | with_reducible assumption | with_reducible refine below_alloc ?_ _ | with_reducible refine below_draw ?_ | ((with_reducible apply bset); (focus (first | exact Nat.le_refl _ | (simp; done) | omega | (simp; omega)))) | ((with_reducible apply bcall); assumption; (focus (first | exact Nat.le_refl _ | (simp; done) | omega | (simp; omega))))))⟩
    · have b1 : (i % width == 0) = false := by simp [hx]
      have hi0 : ¬ i = 0 := fun e => hx (by rw [e]; exact Int.zero_emod _)
      have Hx := Lib.hid hx
      by_cases hk1 : kind = 1 ∨ i / width = 0
      · have b3 : (kind == 1 || i / width == 0) = true := by simpa using hk1
        have hv : guessI kind zs width i = ix zs (i - 1) := by
          unfold guessI leftI; rw [if_neg k0, if_pos (by rcases hk1 with h | h; exact .inl h; exact .inr (.inl (hyi.1 h))), if_neg hi0, if_neg hx]
        rw [hv]
        clear hv
        by_cases k1 : kind = 1
        · have b4 : (kind == 1) = true := by simp [k1]
          clear hyi k0 hx hi0 hk1 k1 b3
          go_enter Tryz.func88, Tryz.ntmps88
          go_wp2
          refine wp_region_over (by kernel_rfl) (by kernel_rfl) ?_
          repeat (go_big_quiet_step ((fail)))
          refine wpQuiet_nil ?_
          intro w2 w2b
          obtain ⟨w2c, w2f, w2l⟩ := rules w2b (Nat.le_refl _); clear w2l
          have hw2 := h.below (Nat.le_refl _) w2b
          go_wp2_with (first | (go_at_call 106; with_reducible refine (at_l zs _ n cap width i _ hw2 hn hw h0 h1 Hx.out).mono ?_; rintro e w' ⟨rfl, rfl⟩) | fail)
          go_ret
          exact ⟨rfl, (by repeat (first | with_reducible exact Below.refl _ _ | with_reducible assumption | with_reducible refine below_alloc ?_ _ | with_reducible refine below_draw ?_ | ((with_reducible apply bset); (focus (first | exact Nat.le_refl _ | (simp; done) | omega | (simp; omega)))) | ((with_reducible apply bcall); assumption; (focus (first | exact Nat.le_refl _ | (simp; done) | omega | (simp; omega))))))⟩
        · have b4 : (kind == 1) = false := by simp [k1]
          have b5 : (i / width == 0) = true := by simpa [b4] using b3
          have Hy : Hid (i / width = 0) := Lib.hid (by simpa using b5)
          clear hyi k0 hx hi0 hk1 k1 b3
          go_enter Tryz.func88, Tryz.ntmps88
          go_wp2
          refine wp_region_over (by kernel_rfl) (by kernel_rfl) ?_
          repeat (go_big_quiet_step ((fail)))
          refine wpQuiet_nil ?_
          intro w2 w2b
          obtain ⟨w2c, w2f, w2l⟩ := rules w2b (Nat.le_refl _); clear w2l
          have hw2 := h.below (Nat.le_refl _) w2b
          go_wp2_with (first | (go_at_call 106; with_reducible refine (at_l zs _ n cap width i _ hw2 hn hw h0 h1 Hx.out).mono ?_; rintro e w' ⟨rfl, rfl⟩) | fail)
          go_ret
          exact ⟨rfl, (by repeat (first | with_reducible exact Below.refl _ _ | with_reducible assumption | with_reducible refine below_alloc ?_ _ | with_reducible refine below_draw ?_ | ((with_reducible apply bset); (focus (first | exact Nat.le_refl _ | (simp; done) | omega | (simp; omega)))) | ((with_reducible apply bcall); assumption; (focus (first | exact Nat.le_refl _ | (simp; done) | omega | (simp; omega))))))⟩
      · have b4 : (kind == 1) = false := by simp; exact fun e => hk1 (.inl e)
        have b5 : (i / width == 0) = false := by simp; exact fun e => hk1 (.inr e)
        have Hy := Lib.hid (fun e : i / width = 0 => hk1 (.inr e))
        have hwi : width ≤ i := by
          rcases Int.lt_or_le i width with hlt | hge
          · exact absurd (.inr (hyi.2 hlt)) hk1
          · exact hge
        have hwi2 : width < i := by
          rcases Int.lt_or_le width i with hlt | hge
          · exact hlt
          · exact absurd (by rw [show i = width by omega]; exact Int.emod_self) hx
        obtain ⟨_, _⟩ := hm.ix (i := i - 1) (by omega) (by omega)
        obtain ⟨_, _⟩ := hm.ix (i := i - width) (by omega) (by omega)
        obtain ⟨_, _⟩ := hm.ix (i := i - width - 1) (by omega) (by omega)
        have hv : guessI kind zs width i = guessR (ix zs (i - 1)) (ix zs (i - width)) (ix zs (i - width - 1)) := by
          unfold guessI; rw [if_neg k0, if_neg (by rintro (h | h | h); exact hk1 (.inl h); omega; exact hx h), guessR_eq]
        rw [hv]
        clear hv
        clear hyi k0 hx hi0 hk1 hm
        go_enter Tryz.func88, Tryz.ntmps88
        go_wp2
        refine wp_region_over (by kernel_rfl) (by kernel_rfl) ?_
        repeat (go_big_quiet_step ((fail)))
        refine wpQuiet_nil ?_
        intro w2 w2b
        obtain ⟨w2c, w2f, w2l⟩ := rules w2b (Nat.le_refl _); clear w2l
        have hw2 := h.below (Nat.le_refl _) w2b
        go_wp2_with (first | (go_at_call 106; with_reducible refine (at_l zs _ n cap width i _ hw2 hn hw h0 h1 Hx.out).mono ?_; rintro e w' ⟨rfl, rfl⟩) | (go_at_call 106; with_reducible refine (at_a zs _ n cap width i _ hw2 hn hw h0 h1 Hy.out).mono ?_; rintro e w' ⟨rfl, rfl⟩) | (go_at_call 106; with_reducible refine (at_c zs _ n cap width i _ hw2 hn hw h0 h1 Hx.out Hy.out).mono ?_; rintro e w' ⟨rfl, rfl⟩) | fail)
        all_goals
          go_ret
          refine ⟨ret_int ?_, (by repeat (first | with_reducible exact Below.refl _ _ | with_reducible assumption | with_reducible refine below_alloc ?_ _ | with_reducible refine below_draw ?_ | ((with_reducible apply bset); (focus (first | exact Nat.le_refl _ | (simp; done) | omega | (simp; omega)))) | ((with_reducible apply bcall); assumption; (focus (first | exact Nat.le_refl _ | (simp; done) | omega | (simp; omega))))))⟩
          unfold guessR
          (repeat' split) <;> omega

end Go.Proofs.YtbnjbgcadkdljaaGreatDoor

namespace Go.Proofs.YtbnjbgcadkdljaaGreatDoor
open Go.RowKit

theorem refCells_no (w : World) (kind : Int) (zs : List Int) (A : Option Addr) (n cap : Nat) (width : Int) (hr : ¬ right4 kind width n) :
    Calls Tryz.prog 47 #[.int .i64 kind, .slice A n cap, .int .i64 width] w fun r w' => r = .returned (.tuple #[.slice none 0 0, .int .i64 11]) ∧ Below w.heap.size w w' := by
  have hR := right4_no hr
  clear hr
  go_enter Tryz.func47, Tryz.ntmps47
  go_wp2_with (go_at_call 87; refine (refRight4_any _ _ _ _).mono ?_; rintro e w' ⟨rfl, rfl⟩)
  go_ret2
  exact ⟨rfl, Below.refl _ _⟩

set_option maxHeartbeats 1000000 in
theorem refCells_ok (kind : Int) (zs : List Int) (A : Option Addr) (n cap : Nat) (width : Int) (out : List Int) (w : World) (hr : right4 kind width n) (h : Ints .i64 w A n zs) (hn : n ≤ 1000000) (hok : Hid (cellsN kind width zs n = some out)) :
    Calls Tryz.prog 47 #[.int .i64 kind, .slice A n cap, .int .i64 width] w fun e w' => ∃ v, e = .returned (.tuple #[v, .int .i64 0]) ∧ w'.ownsRow w.heap.size 2 1 v n (out.map (Value.int .i64)) ∧ Below w.heap.size w w' := by
  have hw := hr.2.2.1
  have hR := right4_yes hr
  clear hr
  go_enter Tryz.func47, Tryz.ntmps47
  go_wp2_with (go_at_call 87; refine (refRight4_any _ _ _ _).mono ?_; rintro e w' ⟨rfl, rfl⟩)
  have hown0 := World.ownsRow_lit (base := w.heap.size) (e := 2) (size := 1) w #[] 0 (Nat.le_refl _) (Nat.zero_le _) rfl
  go_loopw [8, 9] (fun v x wr => ∃ (k : Nat) (outs : List Int) (V : Value), k ≤ n ∧ x = .int .i64 k ∧ V = v ∧ Hid (cellsN kind width zs k = some outs) ∧ wr.ownsRow w.heap.size 2 1 V k (outs.map (Value.int .i64)) ∧ Below w.heap.size w wr ∧ w.heap.size ≤ wr.heap.size) (fun _ x _ => n - (intOf x).toNat)
  case atStart => exact ⟨0, [], _, Nat.zero_le _, rfl, rfl, rfl, hown0, (by repeat (first | with_reducible exact Below.refl _ _ | with_reducible assumption | with_reducible refine below_alloc ?_ _ | with_reducible refine below_draw ?_ | ((with_reducible apply bset); (focus (first | exact Nat.le_refl _ | (simp; done) | omega | (simp; omega)))) | ((with_reducible apply bcall); assumption; (focus (first | exact Nat.le_refl _ | (simp; done) | omega | (simp; omega)))))), by simp⟩
  case round =>
    clear hown0
    obtain ⟨k, outs, V, hk, rfl, rfl, ho, hown, hE, hs⟩ := hrel
    by_cases hlt : k < n
    · have h' := h.below (Nat.le_refl _) hE
      obtain ⟨b, off, rfl, hb, hc⟩ := h.at_ hlt
      clear hb hc
      obtain ⟨hbw, hc⟩ := h'.cell hlt
      obtain ⟨A', c', rfl, _, _⟩ := own_form hown
      have hmay := cellsN_may ho.out
      have hlen := Lib.hid (cellsN_len ho.out)
      obtain ⟨_, _⟩ := guess_bd hmay (kind := kind) (width := width) (i := k) hw (by omega) (by omega)
      have hnx := Lib.hid (cellsN_next ho.out)
      have Hcall := Lib.hid (refGuess_any wr kind outs _ k c' k width k (own_ints hown) hmay (by omega) hw (by omega) (by omega) (by omega))
      clear hmay
      generalize hgv : guessI kind outs width (k : Int) = gv at *
      clear hgv
      by_cases f1 : 2147483647 - gv < nth zs k
      · have hbad : Hid (cellsN kind width zs (k + 1) = none) := Lib.hid (by rw [hnx.out, if_neg (by rw [mayB_iff]; omega)])
        go_wp2_with (go_at_call 88; refine Hcall.out.mono ?_; rintro e w2 ⟨rfl, gb⟩; obtain ⟨gc, gf, gl⟩ := rules gb (Nat.le_refl _); have gz := gl _ hbw; clear gl; have hE2 := hE.trans (gb.mono hs); have hB2 : w.heap.size ≤ w2.heap.size := Nat.le_trans hs gb.size; have hown2 := own_keep hown gb (Nat.le_refl _))
        exact absurd (cellsN_none hbad.out n (by omega)) (by rw [hok.out]; simp)
      · by_cases f2 : nth zs k < -2147483648 - gv
        · have hbad : Hid (cellsN kind width zs (k + 1) = none) := Lib.hid (by rw [hnx.out, if_neg (by rw [mayB_iff]; omega)])
          go_wp2_with (go_at_call 88; refine Hcall.out.mono ?_; rintro e w2 ⟨rfl, gb⟩; obtain ⟨gc, gf, gl⟩ := rules gb (Nat.le_refl _); have gz := gl _ hbw; clear gl; have hE2 := hE.trans (gb.mono hs); have hB2 : w.heap.size ≤ w2.heap.size := Nat.le_trans hs gb.size; have hown2 := own_keep hown gb (Nat.le_refl _))
          exact absurd (cellsN_none hbad.out n (by omega)) (by rw [hok.out]; simp)
        · have hgood : Hid (cellsN kind width zs (k + 1) = some (outs ++ [gv + nth zs k])) := Lib.hid (by rw [hnx.out, if_pos (by rw [mayB_iff]; omega)])
          go_wp2_with (first | (go_at_call 88; refine Hcall.out.mono ?_; rintro e w2 ⟨rfl, gb⟩; obtain ⟨gc, gf, gl⟩ := rules gb (Nat.le_refl _); have gz := gl _ hbw; clear gl; have hE2 := hE.trans (gb.mono hs); have hB2 : w.heap.size ≤ w2.heap.size := Nat.le_trans hs gb.size; have hown2 := own_keep hown gb (Nat.le_refl _)) | (at_builtin; refine wpList_push rfl (.tmp 45) (.tmp 52) 24 2 rfl Tryz.underlying24 _ 1 8 info_i64 rfl (by decide) _ (k) _ rfl w.heap.size hown2 w hE2 hB2 _ _ _ (by simp) rfl rfl (by simp [Value.oneCell']) (by unfold maxLen; omega) (by omega) ?_; intro v' w' hown' hE' hB'))
          clear hown hown2
          go_wp2
          go_roundw
          case rel => exact ⟨k + 1, outs ++ [gv + nth zs k], _, by omega, by go_num, rfl, hgood, by rw [List.map_append]; exact hown', hE', hB'⟩
          case measure => simp [intOf]; omega
    · have hkn : k = n := by omega
      subst hkn
      have e : out = outs := by have h1 := ho.out; rw [hok.out] at h1; exact Option.some.inj h1
      subst e
      go_wp2
      go_ret2
      exact ⟨_, rfl, hown, hE⟩
set_option maxHeartbeats 1000000 in
theorem refCells_val (kind : Int) (zs : List Int) (A : Option Addr) (n cap : Nat) (width : Int) (w : World) (hr : right4 kind width n) (h : Ints .i64 w A n zs) (hn : n ≤ 1000000) (hok : Hid (cellsN kind width zs n = none)) :
    Calls Tryz.prog 47 #[.int .i64 kind, .slice A n cap, .int .i64 width] w fun e w' => e = .returned (.tuple #[.slice none 0 0, .int .i64 7]) ∧ Below w.heap.size w w' := by
  have hw := hr.2.2.1
  have hR := right4_yes hr
  clear hr
  go_enter Tryz.func47, Tryz.ntmps47
  go_wp2_with (go_at_call 87; refine (refRight4_any _ _ _ _).mono ?_; rintro e w' ⟨rfl, rfl⟩)
  have hown0 := World.ownsRow_lit (base := w.heap.size) (e := 2) (size := 1) w #[] 0 (Nat.le_refl _) (Nat.zero_le _) rfl
  go_loopw [8, 9] (fun v x wr => ∃ (k : Nat) (outs : List Int) (V : Value), k ≤ n ∧ x = .int .i64 k ∧ V = v ∧ Hid (cellsN kind width zs k = some outs) ∧ wr.ownsRow w.heap.size 2 1 V k (outs.map (Value.int .i64)) ∧ Below w.heap.size w wr ∧ w.heap.size ≤ wr.heap.size) (fun _ x _ => n - (intOf x).toNat)
  case atStart => exact ⟨0, [], _, Nat.zero_le _, rfl, rfl, rfl, hown0, (by repeat (first | with_reducible exact Below.refl _ _ | with_reducible assumption | with_reducible refine below_alloc ?_ _ | with_reducible refine below_draw ?_ | ((with_reducible apply bset); (focus (first | exact Nat.le_refl _ | (simp; done) | omega | (simp; omega)))) | ((with_reducible apply bcall); assumption; (focus (first | exact Nat.le_refl _ | (simp; done) | omega | (simp; omega)))))), by simp⟩
  case round =>
    clear hown0
    obtain ⟨k, outs, V, hk, rfl, rfl, ho, hown, hE, hs⟩ := hrel
    by_cases hlt : k < n
    · have h' := h.below (Nat.le_refl _) hE
      obtain ⟨b, off, rfl, hb, hc⟩ := h.at_ hlt
      clear hb hc
      obtain ⟨hbw, hc⟩ := h'.cell hlt
      obtain ⟨A', c', rfl, _, _⟩ := own_form hown
      have hmay := cellsN_may ho.out
      have hlen := Lib.hid (cellsN_len ho.out)
      obtain ⟨_, _⟩ := guess_bd hmay (kind := kind) (width := width) (i := k) hw (by omega) (by omega)
      have hnx := Lib.hid (cellsN_next ho.out)
      have Hcall := Lib.hid (refGuess_any wr kind outs _ k c' k width k (own_ints hown) hmay (by omega) hw (by omega) (by omega) (by omega))
      clear hmay
      generalize hgv : guessI kind outs width (k : Int) = gv at *
      clear hgv
      by_cases f1 : 2147483647 - gv < nth zs k
      · have hbad : Hid (cellsN kind width zs (k + 1) = none) := Lib.hid (by rw [hnx.out, if_neg (by rw [mayB_iff]; omega)])
        go_wp2_with (go_at_call 88; refine Hcall.out.mono ?_; rintro e w2 ⟨rfl, gb⟩; obtain ⟨gc, gf, gl⟩ := rules gb (Nat.le_refl _); have gz := gl _ hbw; clear gl; have hE2 := hE.trans (gb.mono hs); have hB2 : w.heap.size ≤ w2.heap.size := Nat.le_trans hs gb.size; have hown2 := own_keep hown gb (Nat.le_refl _))
        go_ret2
        exact ⟨rfl, hE.trans (gb.mono hs)⟩
      · by_cases f2 : nth zs k < -2147483648 - gv
        · have hbad : Hid (cellsN kind width zs (k + 1) = none) := Lib.hid (by rw [hnx.out, if_neg (by rw [mayB_iff]; omega)])
          go_wp2_with (go_at_call 88; refine Hcall.out.mono ?_; rintro e w2 ⟨rfl, gb⟩; obtain ⟨gc, gf, gl⟩ := rules gb (Nat.le_refl _); have gz := gl _ hbw; clear gl; have hE2 := hE.trans (gb.mono hs); have hB2 : w.heap.size ≤ w2.heap.size := Nat.le_trans hs gb.size; have hown2 := own_keep hown gb (Nat.le_refl _))
          go_ret2
          exact ⟨rfl, hE.trans (gb.mono hs)⟩
        · have hgood : Hid (cellsN kind width zs (k + 1) = some (outs ++ [gv + nth zs k])) := Lib.hid (by rw [hnx.out, if_pos (by rw [mayB_iff]; omega)])
          go_wp2_with (first | (go_at_call 88; refine Hcall.out.mono ?_; rintro e w2 ⟨rfl, gb⟩; obtain ⟨gc, gf, gl⟩ := rules gb (Nat.le_refl _); have gz := gl _ hbw; clear gl; have hE2 := hE.trans (gb.mono hs); have hB2 : w.heap.size ≤ w2.heap.size := Nat.le_trans hs gb.size; have hown2 := own_keep hown gb (Nat.le_refl _)) | (at_builtin; refine wpList_push rfl (.tmp 45) (.tmp 52) 24 2 rfl Tryz.underlying24 _ 1 8 info_i64 rfl (by decide) _ (k) _ rfl w.heap.size hown2 w hE2 hB2 _ _ _ (by simp) rfl rfl (by simp [Value.oneCell']) (by unfold maxLen; omega) (by omega) ?_; intro v' w' hown' hE' hB'))
          clear hown hown2
          go_wp2
          go_roundw
          case rel => exact ⟨k + 1, outs ++ [gv + nth zs k], _, by omega, by go_num, rfl, hgood, by rw [List.map_append]; exact hown', hE', hB'⟩
          case measure => simp [intOf]; omega
    · have hkn : k = n := by omega
      subst hkn
      exact absurd hok.out (by rw [ho.out]; simp)
end Go.Proofs.YtbnjbgcadkdljaaGreatDoor
