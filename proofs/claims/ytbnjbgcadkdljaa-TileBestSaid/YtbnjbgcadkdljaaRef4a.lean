/- The reference of layer 4. -/
import Derived.Test.YtbnjbgcadkdljaaPred1
set_option linter.unusedVariables false
set_option linter.unusedSimpArgs false
namespace Go.Proofs.Ytbnjbgcadkdljaa
open Go.RowKit
theorem mul_one_less (y w : Int) : (y - 1) * w = y * w - w := by rw [Int.sub_mul, Int.one_mul]

theorem refMay_any (v : Int) (w : World) :
    Calls Try.prog 46 #[.int .i64 v] w fun r w' => r = .returned (.bool (mayB v)) ∧ w = w' := by
  go_enter Try.func46, Try.ntmps46
  go_wp2
  all_goals
    go_ret
    refine ⟨ret_bool ?_, rfl⟩
    rw [eq_comm]
    simp only [mayB]
    first | (apply decide_eq_false; omega) | (rw [decide_eq_decide]; omega) | (rw [Bool.eq_iff_iff]; simp [*]; done) | (rw [Bool.eq_iff_iff]; simp [*]; omega)

theorem refRight4_any (kind width n : Int) (w : World) :
    Calls Try.prog 45 #[.int .i64 kind, .int .i64 width, .int .i64 n] w fun r w' => r = .returned (.bool (right4B kind width n)) ∧ w = w' := by
  by_cases k0 : kind = 0
  · subst k0
    go_enter Try.func45, Try.ntmps45
    go_wp2
    all_goals
      go_ret
      refine ⟨ret_bool ?_, rfl⟩
      rw [eq_comm]
      simp only [right4B, right4]
      first | (apply decide_eq_false; omega) | (rw [decide_eq_decide]; omega) | (rw [Bool.eq_iff_iff]; simp [*]; done) | (rw [Bool.eq_iff_iff]; simp [*]; omega)
  · have b0 : (kind == 0) = false := by simp [k0]
    by_cases k1 : kind = 1
    · subst k1
      go_enter Try.func45, Try.ntmps45
      go_wp2
      all_goals
        go_ret
        refine ⟨ret_bool ?_, rfl⟩
        rw [eq_comm]
        simp only [right4B, right4]
        first | (apply decide_eq_false; omega) | (rw [decide_eq_decide]; omega) | (rw [Bool.eq_iff_iff]; simp [*]; done) | (rw [Bool.eq_iff_iff]; simp [*]; omega)
    · have b1 : (kind == 1) = false := by simp [k1]
      by_cases k2 : kind = 2
      · subst k2
        go_enter Try.func45, Try.ntmps45
        go_wp2
        all_goals
          go_ret
          refine ⟨ret_bool ?_, rfl⟩
          rw [eq_comm]
          simp only [right4B, right4]
          first | (apply decide_eq_false; omega) | (rw [decide_eq_decide]; omega) | (rw [Bool.eq_iff_iff]; simp [*]; done) | (rw [Bool.eq_iff_iff]; simp [*]; omega)
      · have b2 : (kind == 2) = false := by simp [k2]
        have hv : right4B kind width n = false := right4_no (by unfold right4; omega)
        rw [hv]
        clear hv k0 k1 k2
        go_enter Try.func45, Try.ntmps45
        go_wp2
        go_ret
        exact ⟨rfl, rfl⟩

theorem at_any (w : World) (zs : List Int) (A : Option Addr) (n cap : Nat) (width x y : Int) (h : Ints .i64 w A n zs) (hn : n ≤ 1000000) (p0 : 0 ≤ y * width) (p1 : y * width ≤ 1000000) (h0 : 0 ≤ y * width + x) (h1 : y * width + x < n) :
    Calls Try.prog 50 #[.slice A n cap, .int .i64 width, .int .i64 x, .int .i64 y] w fun r w' => r = .returned (.int .i64 (ix zs (y * width + x))) ∧ w = w' := by
  obtain ⟨b, off, rfl, hb, hc⟩ := h.2 (by omega)
  have hcell : w.cell? ⟨b, off + (y * width + x).toNat, none⟩ = some (.int .i64 (ix zs (y * width + x))) := hc _ (by omega)
  have hx0 : -1000000 ≤ x := by omega
  have hx1 : x ≤ 1000000 := by omega
  clear hc
  go_enter Try.func50, Try.ntmps50
  go_wp2
  go_ret
  exact ⟨rfl, rfl⟩

theorem at_l (zs : List Int) (A : Option Addr) (n cap : Nat) (width i : Int) (w : World) (h : Ints .i64 w A n zs) (hn : n ≤ 1000000) (hw : 1 ≤ width) (h0 : 0 ≤ i) (h1 : i ≤ n) (hx : ¬ i % width = 0) :
    Calls Try.prog 50 #[.slice A n cap, .int .i64 width, .int .i64 (i % width - 1), .int .i64 (i / width)] w fun r w' => r = .returned (.int .i64 (ix zs (i - 1))) ∧ w = w' := by
  have hrc := row_col (i := i) hw
  have hm0 := Int.emod_nonneg i (b := width) (by omega)
  have hd0 := Int.ediv_nonneg h0 (b := width) (by omega)
  have hp0 := Int.mul_nonneg hd0 (show 0 ≤ width by omega)
  have e : i / width * width + (i % width - 1) = i - 1 := by omega
  have hc := at_any w zs A n cap width (i % width - 1) (i / width) h hn (by omega) (by omega) (by omega) (by omega)
  rw [e] at hc
  exact hc

theorem at_l0 (zs : List Int) (A : Option Addr) (n cap : Nat) (width i : Int) (w : World) (h : Ints .i64 w A n zs) (hn : n ≤ 1000000) (hw : 1 ≤ width) (h0 : 0 ≤ i) (h1 : i ≤ n) (hx : ¬ i % width = 0) (hy : i / width = 0) :
    Calls Try.prog 50 #[.slice A n cap, .int .i64 width, .int .i64 (i % width - 1), .int .i64 0] w fun r w' => r = .returned (.int .i64 (ix zs (i - 1))) ∧ w = w' := by
  have hrc := row_col (i := i) hw
  have hm0 := Int.emod_nonneg i (b := width) (by omega)
  have hd0 := Int.ediv_nonneg h0 (b := width) (by omega)
  have hp0 := Int.mul_nonneg hd0 (show 0 ≤ width by omega)
  have hc := at_l zs A n cap width i w h hn hw h0 h1 hx
  rw [hy] at hc
  exact hc

theorem at_a (zs : List Int) (A : Option Addr) (n cap : Nat) (width i : Int) (w : World) (h : Ints .i64 w A n zs) (hn : n ≤ 1000000) (hw : 1 ≤ width) (h0 : 0 ≤ i) (h1 : i ≤ n) (hy : ¬ i / width = 0) :
    Calls Try.prog 50 #[.slice A n cap, .int .i64 width, .int .i64 (i % width), .int .i64 (i / width - 1)] w fun r w' => r = .returned (.int .i64 (ix zs (i - width))) ∧ w = w' := by
  have hrc := row_col (i := i) hw
  have hm0 := Int.emod_nonneg i (b := width) (by omega)
  have hd0 := Int.ediv_nonneg h0 (b := width) (by omega)
  have hp0 := Int.mul_nonneg hd0 (show 0 ≤ width by omega)
  have hy1 : width ≤ i := by
    rcases Int.lt_or_le i width with hlt | hge
    · exact absurd ((div_pos_iff hw h0).2 hlt) hy
    · exact hge
  have hmy := mul_one_less (i / width) width
  have hml := Int.emod_lt_of_pos i (b := width) (by omega)
  have hp1 := Int.mul_nonneg (show 0 ≤ i / width - 1 by omega) (show 0 ≤ width by omega)
  have e : (i / width - 1) * width + i % width = i - width := by omega
  have hc := at_any w zs A n cap width (i % width) (i / width - 1) h hn (by omega) (by omega) (by omega) (by omega)
  rw [e] at hc
  exact hc

theorem at_c (zs : List Int) (A : Option Addr) (n cap : Nat) (width i : Int) (w : World) (h : Ints .i64 w A n zs) (hn : n ≤ 1000000) (hw : 1 ≤ width) (h0 : 0 ≤ i) (h1 : i ≤ n) (hx : ¬ i % width = 0) (hy : ¬ i / width = 0) :
    Calls Try.prog 50 #[.slice A n cap, .int .i64 width, .int .i64 (i % width - 1), .int .i64 (i / width - 1)] w fun r w' => r = .returned (.int .i64 (ix zs (i - width - 1))) ∧ w = w' := by
  have hrc := row_col (i := i) hw
  have hm0 := Int.emod_nonneg i (b := width) (by omega)
  have hd0 := Int.ediv_nonneg h0 (b := width) (by omega)
  have hp0 := Int.mul_nonneg hd0 (show 0 ≤ width by omega)
  have hy1 : width ≤ i := by
    rcases Int.lt_or_le i width with hlt | hge
    · exact absurd ((div_pos_iff hw h0).2 hlt) hy
    · exact hge
  have hmy := mul_one_less (i / width) width
  have hml := Int.emod_lt_of_pos i (b := width) (by omega)
  have hp1 := Int.mul_nonneg (show 0 ≤ i / width - 1 by omega) (show 0 ≤ width by omega)
  have e : (i / width - 1) * width + (i % width - 1) = i - width - 1 := by omega
  have hc := at_any w zs A n cap width (i % width - 1) (i / width - 1) h hn (by omega) (by omega) (by omega) (by omega)
  rw [e] at hc
  exact hc

theorem at_0 (zs : List Int) (A : Option Addr) (n cap : Nat) (width i : Int) (w : World) (h : Ints .i64 w A n zs) (hn : n ≤ 1000000) (hw : 1 ≤ width) (h0 : 0 ≤ i) (h1 : i ≤ n) (hx : i % width = 0) (hy : ¬ i / width = 0) :
    Calls Try.prog 50 #[.slice A n cap, .int .i64 width, .int .i64 0, .int .i64 (i / width - 1)] w fun r w' => r = .returned (.int .i64 (ix zs (i - width))) ∧ w = w' := by
  have hrc := row_col (i := i) hw
  have hm0 := Int.emod_nonneg i (b := width) (by omega)
  have hd0 := Int.ediv_nonneg h0 (b := width) (by omega)
  have hp0 := Int.mul_nonneg hd0 (show 0 ≤ width by omega)
  have hy1 : width ≤ i := by
    rcases Int.lt_or_le i width with hlt | hge
    · exact absurd ((div_pos_iff hw h0).2 hlt) hy
    · exact hge
  have hmy := mul_one_less (i / width) width
  have hml := Int.emod_lt_of_pos i (b := width) (by omega)
  have hp1 := Int.mul_nonneg (show 0 ≤ i / width - 1 by omega) (show 0 ≤ width by omega)
  have e : (i / width - 1) * width + 0 = i - width := by omega
  have hc := at_any w zs A n cap width 0 (i / width - 1) h hn (by omega) (by omega) (by omega) (by omega)
  rw [e] at hc
  exact hc

set_option maxHeartbeats 2000000 in
theorem refGuess_any (w : World) (kind : Int) (zs : List Int) (A : Option Addr) (n cap k : Nat) (width i : Int) (h : Ints .i64 w A n zs) (hm : AllMay zs k) (hik : i ≤ k) (hw : 1 ≤ width) (h0 : 0 ≤ i) (h1 : i ≤ n) (hn : n ≤ 1000000) :
    Calls Try.prog 47 #[.int .i64 kind, .slice A n cap, .int .i64 width, .int .i64 i] w fun r w' => r = .returned (.int .i64 (guessI kind zs width i)) ∧ Below w.heap.size w w' := by
  have hml := Int.emod_lt_of_pos i (b := width) (by omega)
  have hm0 := Int.emod_nonneg i (b := width) (by omega)
  have hd0 := Int.ediv_nonneg h0 (b := width) (by omega)
  have hdi : i / width ≤ i := Int.ediv_le_self width h0
  have hyi := div_pos_iff hw h0
  have hxi : i % width ≤ i := by
    have a := row_col (i := i) hw
    have b := Int.mul_nonneg hd0 (show 0 ≤ width by omega)
    omega
  have hdd : wrap64 (i.tdiv width) = i / width := by rw [Int.tdiv_eq_ediv_of_nonneg h0, IntWalk.wrap64_in _ ⟨by omega, by omega⟩]
  by_cases k0 : kind = 0
  · have b0 : (kind == 0) = true := by simp [k0]
    have hv : guessI kind zs width i = 0 := by
      exact if_pos k0
    rw [hv]
    clear hv
    clear hyi k0
    go_enter Try.func47, Try.ntmps47
    go_wp2
    refine wp_region_over (by kernel_rfl) (by kernel_rfl) ?_
    repeat (go_big_quiet_step ((fail)))
    refine wpQuiet_nil ?_
    intro w2 w2b
    obtain ⟨w2c, w2f, w2l⟩ := rules w2b (Nat.le_refl _); clear w2l
    have hw2 := h.below (Nat.le_refl _) w2b
    go_wp2
    go_ret
    exact ⟨rfl, (by repeat (first | with_reducible exact Below.refl _ _ | with_reducible assumption | with_reducible refine below_alloc ?_ _ | with_reducible refine below_draw ?_ | ((with_reducible apply bset); (focus (first | exact Nat.le_refl _ | (simp; done) | omega | (simp; omega)))) | ((with_reducible apply bcall); assumption; (focus (first | exact Nat.le_refl _ | (simp; done) | omega | (simp; omega))))))⟩
  · have b0 : (kind == 0) = false := by simp [k0]
    by_cases hx : i % width = 0
    · have b1 : (i % width == 0) = true := by simp [hx]
      by_cases hy : i / width = 0
      · have b2 : (i / width == 0) = true := by simp [hy]
        have hv : guessI kind zs width i = 0 := by
          have : i = 0 := by have := hyi.1 hy; rw [Int.emod_eq_of_lt h0 this] at hx; exact hx
          subst this; unfold guessI leftI; rw [if_neg k0, if_pos (by right; left; omega), if_pos rfl]
        rw [hv]
        clear hv
        clear hyi k0 hx hy
        go_enter Try.func47, Try.ntmps47
        go_wp2
        refine wp_region_over (by kernel_rfl) (by kernel_rfl) ?_
        repeat (go_big_quiet_step ((fail)))
        refine wpQuiet_nil ?_
        intro w2 w2b
        obtain ⟨w2c, w2f, w2l⟩ := rules w2b (Nat.le_refl _); clear w2l
        have hw2 := h.below (Nat.le_refl _) w2b
        go_wp2
        go_ret
        exact ⟨rfl, (by repeat (first | with_reducible exact Below.refl _ _ | with_reducible assumption | with_reducible refine below_alloc ?_ _ | with_reducible refine below_draw ?_ | ((with_reducible apply bset); (focus (first | exact Nat.le_refl _ | (simp; done) | omega | (simp; omega)))) | ((with_reducible apply bcall); assumption; (focus (first | exact Nat.le_refl _ | (simp; done) | omega | (simp; omega))))))⟩
      · have b2 : (i / width == 0) = false := by simp [hy]
        have hv : guessI kind zs width i = ix zs (i - width) := by
          unfold guessI leftI; rw [if_neg k0, if_pos (by right; right; exact hx), if_neg (fun e => hy (by rw [e]; exact Int.zero_ediv _)), if_pos hx]
        rw [hv]
        clear hv
        have Hx := Lib.hid hx
        have Hy := Lib.hid hy
        clear hyi k0 hx hy
        go_enter Try.func47, Try.ntmps47
        go_wp2
        refine wp_region_over (by kernel_rfl) (by kernel_rfl) ?_
        repeat (go_big_quiet_step ((fail)))
        refine wpQuiet_nil ?_
        intro w2 w2b
        obtain ⟨w2c, w2f, w2l⟩ := rules w2b (Nat.le_refl _); clear w2l
        have hw2 := h.below (Nat.le_refl _) w2b
        go_wp2_with (first | (go_at_call 50; with_reducible refine (at_0 zs _ n cap width i _ hw2 hn hw h0 h1 Hx.out Hy.out).mono ?_; rintro e w' ⟨rfl, rfl⟩) | fail)
        go_ret
        exact ⟨rfl, (by repeat (first | with_reducible exact Below.refl _ _ | with_reducible assumption | with_reducible refine below_alloc ?_ _ | with_reducible refine below_draw ?_ | ((with_reducible apply bset); (focus (first | exact Nat.le_refl _ | (simp; done) | omega | (simp; omega)))) | ((with_reducible apply bcall); assumption; (focus (first | exact Nat.le_refl _ | (simp; done) | omega | (simp; omega))))))⟩
    · have b1 : (i % width == 0) = false := by simp [hx]
      have hi0 : ¬ i = 0 := fun e => hx (by rw [e]; exact Int.zero_emod _)
      have Hx := Lib.hid hx
      by_cases hk1 : kind = 1 ∨ i / width = 0
      · have b3 : (kind == 1 || i / width == 0) = true := by simpa using hk1
        have hv : guessI kind zs width i = ix zs (i - 1) := by
          unfold guessI leftI; rw [if_neg k0, if_pos (by rcases hk1 with h | h; exact .inl h; exact .inr (.inl (hyi.1 h))), if_neg hi0, if_neg hx]
        rw [hv]
        clear hv
        by_cases k1 : kind = 1
        · have b4 : (kind == 1) = true := by simp [k1]
          clear hyi k0 hx hi0 hk1 k1 b3
          go_enter Try.func47, Try.ntmps47
          go_wp2
          refine wp_region_over (by kernel_rfl) (by kernel_rfl) ?_
          repeat (go_big_quiet_step ((fail)))
          refine wpQuiet_nil ?_
          intro w2 w2b
          obtain ⟨w2c, w2f, w2l⟩ := rules w2b (Nat.le_refl _); clear w2l
          have hw2 := h.below (Nat.le_refl _) w2b
          go_wp2_with (first | (go_at_call 50; with_reducible refine (at_l zs _ n cap width i _ hw2 hn hw h0 h1 Hx.out).mono ?_; rintro e w' ⟨rfl, rfl⟩) | fail)
          go_ret
          exact ⟨rfl, (by repeat (first | with_reducible exact Below.refl _ _ | with_reducible assumption | with_reducible refine below_alloc ?_ _ | with_reducible refine below_draw ?_ | ((with_reducible apply bset); (focus (first | exact Nat.le_refl _ | (simp; done) | omega | (simp; omega)))) | ((with_reducible apply bcall); assumption; (focus (first | exact Nat.le_refl _ | (simp; done) | omega | (simp; omega))))))⟩
        · have b4 : (kind == 1) = false := by simp [k1]
          have b5 : (i / width == 0) = true := by simpa [b4] using b3
          have Hy : Hid (i / width = 0) := Lib.hid (by simpa using b5)
          clear hyi k0 hx hi0 hk1 k1 b3
          go_enter Try.func47, Try.ntmps47
          go_wp2
          refine wp_region_over (by kernel_rfl) (by kernel_rfl) ?_
          repeat (go_big_quiet_step ((fail)))
          refine wpQuiet_nil ?_
          intro w2 w2b
          obtain ⟨w2c, w2f, w2l⟩ := rules w2b (Nat.le_refl _); clear w2l
          have hw2 := h.below (Nat.le_refl _) w2b
          go_wp2_with (first | (go_at_call 50; with_reducible refine (at_l zs _ n cap width i _ hw2 hn hw h0 h1 Hx.out).mono ?_; rintro e w' ⟨rfl, rfl⟩) | fail)
          go_ret
          exact ⟨rfl, (by repeat (first | with_reducible exact Below.refl _ _ | with_reducible assumption | with_reducible refine below_alloc ?_ _ | with_reducible refine below_draw ?_ | ((with_reducible apply bset); (focus (first | exact Nat.le_refl _ | (simp; done) | omega | (simp; omega)))) | ((with_reducible apply bcall); assumption; (focus (first | exact Nat.le_refl _ | (simp; done) | omega | (simp; omega))))))⟩
      · have b4 : (kind == 1) = false := by simp; exact fun e => hk1 (.inl e)
        have b5 : (i / width == 0) = false := by simp; exact fun e => hk1 (.inr e)
        have Hy := Lib.hid (fun e : i / width = 0 => hk1 (.inr e))
        have hwi : width ≤ i := by
          rcases Int.lt_or_le i width with hlt | hge
          · exact absurd (.inr (hyi.2 hlt)) hk1
          · exact hge
        have hwi2 : width < i := by
          rcases Int.lt_or_le width i with hlt | hge
          · exact hlt
          · exact absurd (by rw [show i = width by omega]; exact Int.emod_self) hx
        obtain ⟨_, _⟩ := hm.ix (i := i - 1) (by omega) (by omega)
        obtain ⟨_, _⟩ := hm.ix (i := i - width) (by omega) (by omega)
        obtain ⟨_, _⟩ := hm.ix (i := i - width - 1) (by omega) (by omega)
        have hv : guessI kind zs width i = guessR (ix zs (i - 1)) (ix zs (i - width)) (ix zs (i - width - 1)) := by
          unfold guessI; rw [if_neg k0, if_neg (by rintro (h | h | h); exact hk1 (.inl h); omega; exact hx h), guessR_eq]
        rw [hv]
        clear hv
        clear hyi k0 hx hi0 hk1 hm
        go_enter Try.func47, Try.ntmps47
        go_wp2
        refine wp_region_over (by kernel_rfl) (by kernel_rfl) ?_
        repeat (go_big_quiet_step ((fail)))
        refine wpQuiet_nil ?_
        intro w2 w2b
        obtain ⟨w2c, w2f, w2l⟩ := rules w2b (Nat.le_refl _); clear w2l
        have hw2 := h.below (Nat.le_refl _) w2b
        go_wp2_with (first | (go_at_call 50; with_reducible refine (at_l zs _ n cap width i _ hw2 hn hw h0 h1 Hx.out).mono ?_; rintro e w' ⟨rfl, rfl⟩) | (go_at_call 50; with_reducible refine (at_a zs _ n cap width i _ hw2 hn hw h0 h1 Hy.out).mono ?_; rintro e w' ⟨rfl, rfl⟩) | (go_at_call 50; with_reducible refine (at_c zs _ n cap width i _ hw2 hn hw h0 h1 Hx.out Hy.out).mono ?_; rintro e w' ⟨rfl, rfl⟩) | fail)
        all_goals
          go_ret
          refine ⟨ret_int ?_, (by repeat (first | with_reducible exact Below.refl _ _ | with_reducible assumption | with_reducible refine below_alloc ?_ _ | with_reducible refine below_draw ?_ | ((with_reducible apply bset); (focus (first | exact Nat.le_refl _ | (simp; done) | omega | (simp; omega)))) | ((with_reducible apply bcall); assumption; (focus (first | exact Nat.le_refl _ | (simp; done) | omega | (simp; omega))))))⟩
          unfold guessR
          (repeat' split) <;> omega

end Go.Proofs.Ytbnjbgcadkdljaa
