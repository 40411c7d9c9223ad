/- Package slope: Cmp, Floor, Hides; the example. -/
import Derived.Test.YtgkkbeomhkggjaaDoorSlope1
set_option linter.unusedVariables false
set_option linter.unusedSimpArgs false
namespace Go.Proofs.YtgkkbeomhkggjaaDoor
open Go.RowKit
theorem compare_eq {x y u v k : Int} (w : World) (h : Hid (or2 (cmpI x u) (cmpI y v) = k)) :
    Calls Tryd.prog 89 #[.agg #[.int .u64 x, .int .u64 y], .agg #[.int .u64 u, .int .u64 v]] w fun r w' => r = .returned (.int .i64 k) ∧ Below w.heap.size w w' := by
  have := compare_any x y u v w
  rw [h.out] at this
  exact this
theorem mul_pos_iff {x o : Int} (ho : 1 ≤ o) : (0 < x * o ↔ 0 < x) ∧ (x * o < 0 ↔ x < 0) ∧ (x * o = 0 ↔ x = 0) := by
  rcases Int.lt_trichotomy x 0 with h | h | h
  · have := Int.mul_neg_of_neg_of_pos h (show 0 < o by omega); omega
  · subst h; rw [Int.zero_mul]; omega
  · have := Int.mul_pos h (show 0 < o by omega); omega
def signS (a b : Int) : Int := cmpI (cmpI a 0) (cmpI b 0)
/-- unlike signs tell it all -/
theorem signs_tell {a p b o : Int} (hp : 1 ≤ p) (ho : 1 ≤ o) (h : ¬ signS a b = 0) : signS a b = cmpI (a * o) (b * p) := by
  have ha := mul_pos_iff (x := a) ho
  have hb := mul_pos_iff (x := b) hp
  unfold signS at *
  rcases Int.lt_trichotomy a 0 with h1 | h1 | h1 <;> rcases Int.lt_trichotomy b 0 with h2 | h2 | h2
  · rw [cmpI_lt h1, cmpI_lt h2] at h; exact absurd rfl h
  · rw [cmpI_lt h1, cmpI_eq h2]; exact Eq.trans (by decide) (cmpI_lt (by omega)).symm
  · rw [cmpI_lt h1, cmpI_gt h2]; exact Eq.trans (by decide) (cmpI_lt (by omega)).symm
  · rw [cmpI_eq h1, cmpI_lt h2]; exact Eq.trans (by decide) (cmpI_gt (by omega)).symm
  · rw [cmpI_eq h1, cmpI_eq h2] at h; exact absurd rfl h
  · rw [cmpI_eq h1, cmpI_gt h2]; exact Eq.trans (by decide) (cmpI_lt (by omega)).symm
  · rw [cmpI_gt h1, cmpI_lt h2]; exact Eq.trans (by decide) (cmpI_gt (by omega)).symm
  · rw [cmpI_gt h1, cmpI_eq h2]; exact Eq.trans (by decide) (cmpI_gt (by omega)).symm
  · rw [cmpI_gt h1, cmpI_gt h2] at h; exact absurd rfl h
theorem same_sign {a b : Int} (h : signS a b = 0) : (a < 0 ∧ b < 0) ∨ (0 ≤ a ∧ 0 ≤ b) := by
  unfold signS at h
  rcases Int.lt_trichotomy a 0 with h1 | h1 | h1 <;> rcases Int.lt_trichotomy b 0 with h2 | h2 | h2
  · exact .inl ⟨h1, h2⟩
  · rw [cmpI_lt h1, cmpI_eq h2] at h; exact absurd h (by decide)
  · rw [cmpI_lt h1, cmpI_gt h2] at h; exact absurd h (by decide)
  · rw [cmpI_eq h1, cmpI_lt h2] at h; exact absurd h (by decide)
  · exact .inr ⟨by omega, by omega⟩
  · rw [cmpI_eq h1, cmpI_gt h2] at h; exact absurd h (by decide)
  · rw [cmpI_gt h1, cmpI_lt h2] at h; exact absurd h (by decide)
  · rw [cmpI_gt h1, cmpI_eq h2] at h; exact absurd h (by decide)
  · exact .inr ⟨by omega, by omega⟩
theorem sizes_tell {a p b o : Int} (hp : 1 ≤ p) (ho : 1 ≤ o) (h : signS a b = 0) : (if a < 0 then -cmpI (ab a * ab o) (ab b * ab p) else cmpI (ab a * ab o) (ab b * ab p)) = cmpI (a * o) (b * p) := by
  have eo : ab o = o := by unfold ab; rw [if_neg (by omega)]
  have ep : ab p = p := by unfold ab; rw [if_neg (by omega)]
  rw [eo, ep]
  rcases same_sign h with ⟨h1, h2⟩ | ⟨h1, h2⟩
  · have ea : ab a = -a := if_pos h1
    have eb : ab b = -b := if_pos h2
    rw [if_pos h1, cmpI_neg, ea, eb, Int.neg_mul, Int.neg_mul, Int.neg_neg, Int.neg_neg]
  · have ea : ab a = a := if_neg (by omega)
    have eb : ab b = b := if_neg (by omega)
    rw [if_neg (by omega), ea, eb]
theorem cmpI_bd (x y : Int) : -1 ≤ cmpI x y ∧ cmpI x y ≤ 1 := by unfold cmpI; split; omega; split <;> omega

theorem Cmp_no (a p b o : Int) (w : World) (h : ¬ (1 ≤ p ∧ 1 ≤ o)) :
    Calls Tryd.prog 55 #[.agg #[.int .i64 a, .int .i64 p], .agg #[.int .i64 b, .int .i64 o]] w fun r w' => r = .returned (.tuple #[.int .i64 0, .int .i64 13]) ∧ Below w.heap.size w w' := by
  by_cases hp : 1 ≤ p
  · have h1 : decide (1 ≤ p) = true := by simp; exact hp
    have h2 : decide (1 ≤ o) = false := by simp; omega
    clear h hp
    go_enter Tryd.func55, Tryd.ntmps55
    go_wp2_with (go_at_call 86; refine (Right_any _ _ _).mono ?_; rintro e w' ⟨rfl, kb⟩; obtain ⟨kc, kf, kl⟩ := rules kb (Nat.le_refl _); have kz0 := kl (w.heap.size) (by first | (simp; done) | assumption | omega | (simp; omega)); have kz1 := kl (w.heap.size + 1) (by first | (simp; done) | assumption | omega | (simp; omega)); clear kl)
    go_ret2
    exact ⟨rfl, (by repeat (first | with_reducible exact Below.refl _ _ | with_reducible assumption | with_reducible refine below_alloc ?_ _ | with_reducible refine below_draw ?_ | ((with_reducible apply bset); (focus (first | exact Nat.le_refl _ | (simp; done) | omega | (simp; omega)))) | ((with_reducible apply bcall); assumption; (focus (first | exact Nat.le_refl _ | (simp; done) | omega | (simp; omega))))))⟩
  · have h1 : decide (1 ≤ p) = false := by simp; omega
    clear h hp
    go_enter Tryd.func55, Tryd.ntmps55
    go_wp2_with (go_at_call 86; refine (Right_any _ _ _).mono ?_; rintro e w' ⟨rfl, kb⟩; obtain ⟨kc, kf, kl⟩ := rules kb (Nat.le_refl _); have kz0 := kl (w.heap.size) (by first | (simp; done) | assumption | omega | (simp; omega)); have kz1 := kl (w.heap.size + 1) (by first | (simp; done) | assumption | omega | (simp; omega)); clear kl)
    go_ret2
    exact ⟨rfl, (by repeat (first | with_reducible exact Below.refl _ _ | with_reducible assumption | with_reducible refine below_alloc ?_ _ | with_reducible refine below_draw ?_ | ((with_reducible apply bset); (focus (first | exact Nat.le_refl _ | (simp; done) | omega | (simp; omega)))) | ((with_reducible apply bcall); assumption; (focus (first | exact Nat.le_refl _ | (simp; done) | omega | (simp; omega))))))⟩

set_option maxHeartbeats 2000000 in
theorem Cmp_ok (a p b o : Int) (w : World) (_a0 : -9223372036854775808 ≤ a) (_a1 : a ≤ 9223372036854775807) (_p0 : -9223372036854775808 ≤ p) (_p1 : p ≤ 9223372036854775807) (_b0 : -9223372036854775808 ≤ b) (_b1 : b ≤ 9223372036854775807) (_o0 : -9223372036854775808 ≤ o) (_o1 : o ≤ 9223372036854775807) (hp : 1 ≤ p) (ho : 1 ≤ o) :
    Calls Tryd.prog 55 #[.agg #[.int .i64 a, .int .i64 p], .agg #[.int .i64 b, .int .i64 o]] w fun r w' => r = .returned (.tuple #[.int .i64 (cmpI (a * o) (b * p)), .int .i64 0]) ∧ Below w.heap.size w w' := by
  have g1 : decide (1 ≤ p) = true := by simp; exact hp
  have g2 : decide (1 ≤ o) = true := by simp; exact ho
  by_cases hs : signS a b = 0
  · rw [← sizes_tell hp ho hs]
    have hz : (cmpI (cmpI a 0) (cmpI b 0) != 0) = false := by have : cmpI (cmpI a 0) (cmpI b 0) = 0 := hs; simp [this]
    have b1 := ab_pos' a
    have b2 := ab_pos' p
    have b3 := ab_pos' b
    have b4 := ab_pos' o
    have c1 := ab_le (n := a) (by omega) (by omega)
    have c2 := ab_le (n := p) (by omega) (by omega)
    have c3 := ab_le (n := b) (by omega) (by omega)
    have c4 := ab_le (n := o) (by omega) (by omega)
    have hcv := Lib.hid (cmp2_eq (Int.mul_nonneg b1 b4) (Int.mul_nonneg b3 b2))
    obtain ⟨v0, v1⟩ := cmpI_bd (ab a * ab o) (ab b * ab p)
    generalize hcg : cmpI (ab a * ab o) (ab b * ab p) = cv at *
    generalize hh1 : ab a * ab o / 18446744073709551616 = hi1 at *
    generalize hl1 : ab a * ab o % 18446744073709551616 = lo1 at *
    generalize hh2 : ab b * ab p / 18446744073709551616 = hi2 at *
    generalize hl2 : ab b * ab p % 18446744073709551616 = lo2 at *
    have hh1' := Lib.hid hh1
    have hl1' := Lib.hid hl1
    have hh2' := Lib.hid hh2
    have hl2' := Lib.hid hl2
    clear hs hcg hh1 hl1 hh2 hl2
    by_cases hn : a < 0
    · rw [if_pos hn]
      go_enter Tryd.func55, Tryd.ntmps55
      go_wp2_with (go_at_call 86; refine (Right_any _ _ _).mono ?_; rintro e w' ⟨rfl, kb⟩; obtain ⟨kc, kf, kl⟩ := rules kb (Nat.le_refl _); have kz0 := kl (w.heap.size) (by first | (simp; done) | assumption | omega | (simp; omega)); have kz1 := kl (w.heap.size + 1) (by first | (simp; done) | assumption | omega | (simp; omega)); clear kl)
      refine wp_region_over (by kernel_rfl) (by kernel_rfl) ?_
      repeat (go_big_quiet_step ((first | (go_at_call 88; with_reducible exact (sign_any _ _).over_same) | (go_at_call 87; with_reducible exact (compare_int _ _ _).over_same))))
      refine wpQuiet_nil ?_
      intro W3 W3b
      obtain ⟨W3c, W3f, W3l⟩ := rules W3b (Nat.le_refl _); have W3z0 := W3l (w.heap.size) (by first | (simp; done) | assumption | omega | (simp; omega)); have W3z1 := W3l (w.heap.size + 1) (by first | (simp; done) | assumption | omega | (simp; omega)); clear W3l
      go_wp2
      refine wp_region_over (by kernel_rfl) (by kernel_rfl) ?_
      repeat (go_big_quiet_step ((first | (go_at_call 90; with_reducible exact (product_any _ _ _ (by omega) (by omega) (by omega) (by omega) hh1' hl1').over) | (go_at_call 90; with_reducible exact (product_any _ _ _ (by omega) (by omega) (by omega) (by omega) hh2' hl2').over) | (go_at_call 89; with_reducible exact (compare_eq _ hcv).over) | (go_at_call 91; with_reducible exact (size_any _ _ (by omega) (by omega)).over_same))))
      refine wpQuiet_nil ?_
      intro W4 W4b
      obtain ⟨W4c, W4f, W4l⟩ := rules W4b (Nat.le_refl _); have W4z0 := W4l (w.heap.size) (by first | (simp; done) | assumption | omega | (simp; omega)); have W4z1 := W4l (w.heap.size + 1) (by first | (simp; done) | assumption | omega | (simp; omega)); clear W4l
      go_wp2
      go_ret2
      exact ⟨rfl, (by repeat (first | with_reducible exact Below.refl _ _ | with_reducible assumption | with_reducible refine below_alloc ?_ _ | with_reducible refine below_draw ?_ | ((with_reducible apply bset); (focus (first | exact Nat.le_refl _ | (simp; done) | omega | (simp; omega)))) | ((with_reducible apply bcall); assumption; (focus (first | exact Nat.le_refl _ | (simp; done) | omega | (simp; omega))))))⟩
    · rw [if_neg hn]
      go_enter Tryd.func55, Tryd.ntmps55
      go_wp2_with (go_at_call 86; refine (Right_any _ _ _).mono ?_; rintro e w' ⟨rfl, kb⟩; obtain ⟨kc, kf, kl⟩ := rules kb (Nat.le_refl _); have kz0 := kl (w.heap.size) (by first | (simp; done) | assumption | omega | (simp; omega)); have kz1 := kl (w.heap.size + 1) (by first | (simp; done) | assumption | omega | (simp; omega)); clear kl)
      refine wp_region_over (by kernel_rfl) (by kernel_rfl) ?_
      repeat (go_big_quiet_step ((first | (go_at_call 88; with_reducible exact (sign_any _ _).over_same) | (go_at_call 87; with_reducible exact (compare_int _ _ _).over_same))))
      refine wpQuiet_nil ?_
      intro W3 W3b
      obtain ⟨W3c, W3f, W3l⟩ := rules W3b (Nat.le_refl _); have W3z0 := W3l (w.heap.size) (by first | (simp; done) | assumption | omega | (simp; omega)); have W3z1 := W3l (w.heap.size + 1) (by first | (simp; done) | assumption | omega | (simp; omega)); clear W3l
      go_wp2
      refine wp_region_over (by kernel_rfl) (by kernel_rfl) ?_
      repeat (go_big_quiet_step ((first | (go_at_call 90; with_reducible exact (product_any _ _ _ (by omega) (by omega) (by omega) (by omega) hh1' hl1').over) | (go_at_call 90; with_reducible exact (product_any _ _ _ (by omega) (by omega) (by omega) (by omega) hh2' hl2').over) | (go_at_call 89; with_reducible exact (compare_eq _ hcv).over) | (go_at_call 91; with_reducible exact (size_any _ _ (by omega) (by omega)).over_same))))
      refine wpQuiet_nil ?_
      intro W4 W4b
      obtain ⟨W4c, W4f, W4l⟩ := rules W4b (Nat.le_refl _); have W4z0 := W4l (w.heap.size) (by first | (simp; done) | assumption | omega | (simp; omega)); have W4z1 := W4l (w.heap.size + 1) (by first | (simp; done) | assumption | omega | (simp; omega)); clear W4l
      go_wp2
      go_ret2
      exact ⟨rfl, (by repeat (first | with_reducible exact Below.refl _ _ | with_reducible assumption | with_reducible refine below_alloc ?_ _ | with_reducible refine below_draw ?_ | ((with_reducible apply bset); (focus (first | exact Nat.le_refl _ | (simp; done) | omega | (simp; omega)))) | ((with_reducible apply bcall); assumption; (focus (first | exact Nat.le_refl _ | (simp; done) | omega | (simp; omega))))))⟩
  · rw [← signs_tell hp ho hs]
    have hz : (cmpI (cmpI a 0) (cmpI b 0) != 0) = true := by have : ¬ cmpI (cmpI a 0) (cmpI b 0) = 0 := hs; simp [this]
    unfold signS
    clear hs
    go_enter Tryd.func55, Tryd.ntmps55
    go_wp2_with (go_at_call 86; refine (Right_any _ _ _).mono ?_; rintro e w' ⟨rfl, kb⟩; obtain ⟨kc, kf, kl⟩ := rules kb (Nat.le_refl _); have kz0 := kl (w.heap.size) (by first | (simp; done) | assumption | omega | (simp; omega)); have kz1 := kl (w.heap.size + 1) (by first | (simp; done) | assumption | omega | (simp; omega)); clear kl)
    refine wp_region_over (by kernel_rfl) (by kernel_rfl) ?_
    repeat (go_big_quiet_step ((first | (go_at_call 88; with_reducible exact (sign_any _ _).over_same) | (go_at_call 87; with_reducible exact (compare_int _ _ _).over_same))))
    refine wpQuiet_nil ?_
    intro W3 W3b
    obtain ⟨W3c, W3f, W3l⟩ := rules W3b (Nat.le_refl _); have W3z0 := W3l (w.heap.size) (by first | (simp; done) | assumption | omega | (simp; omega)); have W3z1 := W3l (w.heap.size + 1) (by first | (simp; done) | assumption | omega | (simp; omega)); clear W3l
    go_wp2
    go_ret2
    exact ⟨rfl, (by repeat (first | with_reducible exact Below.refl _ _ | with_reducible assumption | with_reducible refine below_alloc ?_ _ | with_reducible refine below_draw ?_ | ((with_reducible apply bset); (focus (first | exact Nat.le_refl _ | (simp; done) | omega | (simp; omega)))) | ((with_reducible apply bcall); assumption; (focus (first | exact Nat.le_refl _ | (simp; done) | omega | (simp; omega))))))⟩

/-- the greatest whole number that is no more -/
def floorS (a p : Int) : Int := if a.tmod p < 0 then a.tdiv p - 1 else a.tdiv p

def nearB (n : Int) : Bool := decide (-1099511627776 ≤ n ∧ n ≤ 1099511627776)

theorem near_any (n : Int) (w : World) :
    Calls Tryd.prog 59 #[.int .i64 n] w fun r w' => r = .returned (.bool (nearB n)) ∧ w = w' := by
  go_enter Tryd.func59, Tryd.ntmps59
  go_wp2
  all_goals
    go_ret
    refine ⟨ret_bool ?_, rfl⟩
    rw [eq_comm]
    simp only [nearB]
    first | (apply decide_eq_false; omega) | (rw [decide_eq_decide]; omega) | (rw [Bool.eq_iff_iff]; simp [*]; done) | (rw [Bool.eq_iff_iff]; simp [*]; omega)

theorem Hides_arg (z f t i n : Int) (w : World) (h : ¬ (1 ≤ n ∧ n ≤ 1024 ∧ 0 ≤ i ∧ i ≤ n)) :
    Calls Tryd.prog 36 #[.int .i64 z, .int .i64 f, .int .i64 t, .int .i64 i, .int .i64 n] w fun r w' => r = .returned (.tuple #[.bool false, .int .i64 11]) ∧ w = w' := by
  by_cases c0 : n < 1
  · clear h
    go_enter Tryd.func36, Tryd.ntmps36
    go_wp2_with fail
    go_ret2
    exact ⟨rfl, rfl⟩
  · have d0 : 1 ≤ n := by omega
    clear c0
    by_cases c1 : 1024 < n
    · clear h
      go_enter Tryd.func36, Tryd.ntmps36
      go_wp2_with fail
      go_ret2
      exact ⟨rfl, rfl⟩
    · have d1 : n ≤ 1024 := by omega
      clear c1
      by_cases c2 : i < 0
      · clear h
        go_enter Tryd.func36, Tryd.ntmps36
        go_wp2_with fail
        go_ret2
        exact ⟨rfl, rfl⟩
      · have d2 : 0 ≤ i := by omega
        have d3 : n < i := by omega
        clear c2 h
        go_enter Tryd.func36, Tryd.ntmps36
        go_wp2_with fail
        go_ret2
        exact ⟨rfl, rfl⟩


theorem Hides_val (z f t i n : Int) (w : World) (d0 : 1 ≤ n) (d1 : n ≤ 1024) (d2 : 0 ≤ i) (d3 : i ≤ n) (h : ¬ (nearB z = true ∧ nearB f = true ∧ nearB t = true)) :
    Calls Tryd.prog 36 #[.int .i64 z, .int .i64 f, .int .i64 t, .int .i64 i, .int .i64 n] w fun r w' => r = .returned (.tuple #[.bool false, .int .i64 7]) ∧ w = w' := by
  cases c0 : nearB z
  · clear h
    go_enter Tryd.func36, Tryd.ntmps36
    go_wp2_with (go_at_call 59; refine (near_any _ _).mono ?_; rintro e w' ⟨rfl, rfl⟩)
    go_ret2
    exact ⟨rfl, rfl⟩
  · cases c1 : nearB f
    · clear h
      go_enter Tryd.func36, Tryd.ntmps36
      go_wp2_with (go_at_call 59; refine (near_any _ _).mono ?_; rintro e w' ⟨rfl, rfl⟩)
      go_ret2
      exact ⟨rfl, rfl⟩
    · have c2 : nearB t = false := by rw [← Bool.not_eq_true]; exact fun c2 => h ⟨c0, c1, c2⟩
      clear h
      go_enter Tryd.func36, Tryd.ntmps36
      go_wp2_with (go_at_call 59; refine (near_any _ _).mono ?_; rintro e w' ⟨rfl, rfl⟩)
      go_ret2
      exact ⟨rfl, rfl⟩


theorem prod_range {x n : Int} (h0 : -2199023255552 ≤ x) (h1 : x ≤ 2199023255552) (h2 : 0 ≤ n) (h3 : n ≤ 1024) : -2251799813685248 ≤ x * n ∧ x * n ≤ 2251799813685248 := by
  rcases Int.le_total 0 x with h | h
  · have := Int.mul_le_mul h1 h3 h2 (by decide)
    have := Int.mul_nonneg h h2
    omega
  · have a := Int.mul_le_mul (show -x ≤ 2199023255552 by omega) h3 h2 (by decide)
    have b := Int.mul_nonneg (show 0 ≤ -x by omega) h2
    rw [Int.neg_mul] at a b
    omega
theorem near_bd {n : Int} (h : nearB n = true) : -1099511627776 ≤ n ∧ n ≤ 1099511627776 := by simpa [nearB] using h

theorem Hides_ok (z f t i n : Int) (w : World) (d0 : 1 ≤ n) (d1 : n ≤ 1024) (d2 : 0 ≤ i) (d3 : i ≤ n) (hz : nearB z = true) (hf : nearB f = true) (ht : nearB t = true) :
    Calls Tryd.prog 36 #[.int .i64 z, .int .i64 f, .int .i64 t, .int .i64 i, .int .i64 n] w fun r w' => r = .returned (.tuple #[.bool (decide ((t - f) * i < (z - f) * n)), .int .i64 0]) ∧ w = w' := by
  obtain ⟨_, _⟩ := near_bd hz
  obtain ⟨_, _⟩ := near_bd hf
  obtain ⟨_, _⟩ := near_bd ht
  have p1 : -2251799813685248 ≤ (z - f) * n ∧ (z - f) * n ≤ 2251799813685248 := prod_range (by omega) (by omega) (by omega) d1
  have p2 : -2251799813685248 ≤ (t - f) * i ∧ (t - f) * i ≤ 2251799813685248 := prod_range (by omega) (by omega) d2 (by omega)
  obtain ⟨_, _⟩ := p1
  obtain ⟨_, _⟩ := p2
  go_enter Tryd.func36, Tryd.ntmps36
  go_wp2_with (go_at_call 59; refine (near_any _ _).mono ?_; rintro e w' ⟨rfl, rfl⟩)
  go_ret2
  exact ⟨rfl, rfl⟩

end Go.Proofs.YtgkkbeomhkggjaaDoor
