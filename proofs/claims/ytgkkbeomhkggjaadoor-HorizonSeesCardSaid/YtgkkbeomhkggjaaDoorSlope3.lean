/- The reference of layer 24: Floor, left, Cmp. -/
import Derived.Test.YtgkkbeomhkggjaaDoorSlope2
set_option linter.unusedVariables false
set_option linter.unusedSimpArgs false
namespace Go.Proofs.YtgkkbeomhkggjaaDoor
open Go.RowKit
theorem div_parts {a p : Int} (hp : 1 ≤ p) : (a.tmod p < 0 → a / p = a.tdiv p - 1 ∧ a % p = a.tmod p + p) ∧ (0 ≤ a.tmod p → a / p = a.tdiv p ∧ a % p = a.tmod p) := by
  have e := Int.mul_tdiv_add_tmod a p
  have l1 : a.tmod p < p := Int.tmod_lt_of_pos a (by omega)
  have l2 : -p < a.tmod p := by
    have := Int.tmod_lt_of_pos (-a) (show 0 < p by omega)
    rw [Int.neg_tmod] at this
    omega
  constructor
  · intro h
    exact (Int.ediv_emod_unique (by omega)).2 ⟨by rw [Int.mul_sub]; omega, by omega, by omega⟩
  · intro h
    exact (Int.ediv_emod_unique (by omega)).2 ⟨by omega, by omega, by omega⟩
theorem div_bd {a p : Int} (hp : 1 ≤ p) (_h0 : -9223372036854775808 ≤ a) (_h1 : a ≤ 9223372036854775807) : -9223372036854775808 ≤ a / p ∧ a / p ≤ 9223372036854775807 := by
  constructor
  · apply Int.le_ediv_of_mul_le (by omega)
    have := Int.mul_le_mul_of_nonneg_left hp (show (0 : Int) ≤ 9223372036854775808 by decide)
    omega
  · rcases Int.le_total 0 a with h | h
    · have := Int.ediv_le_self p h; omega
    · have := Int.ediv_le_ediv (show 0 < p by omega) h; rw [Int.zero_ediv] at this; omega
/-- one round: what the whole parts, and what is left, tell -/
theorem cf_lt {x p y o : Int} (hp : 1 ≤ p) (ho : 1 ≤ o) (h : x / p < y / o) : cmpI (x * o) (y * p) = -1 := by
  have e1 := Int.mul_ediv_add_emod x p
  have e2 := Int.mul_ediv_add_emod y o
  have r1 := Int.emod_lt_of_pos x (show 0 < p by omega)
  have r2 := Int.emod_nonneg y (show o ≠ 0 by omega)
  apply cmpI_lt
  generalize x / p = f at *
  generalize x % p = r at *
  generalize y / o = g at *
  generalize y % o = t at *
  subst e1 e2
  have a1 : (p * f + r) * o = p * o * f + r * o := by rw [Int.add_mul, Int.mul_right_comm]
  have a2 : (o * g + t) * p = p * o * g + t * p := by rw [Int.add_mul, Int.mul_right_comm, Int.mul_comm o p]
  rw [a1, a2]
  have hpo : 0 < p * o := Int.mul_pos (by omega) (by omega)
  have b1 : r * o < p * o := Int.mul_lt_mul_of_pos_right r1 (by omega)
  have b2 : 0 ≤ t * p := Int.mul_nonneg r2 (by omega)
  have b3 : p * o * (f + 1) ≤ p * o * g := Int.mul_le_mul_of_nonneg_left (by omega) (by omega)
  rw [Int.mul_add, Int.mul_one] at b3
  omega
theorem cmpI_swap (x y : Int) : cmpI x y = -cmpI y x := by
  rcases Int.lt_trichotomy x y with h | h | h
  · rw [cmpI_lt h, cmpI_gt h]
  · rw [cmpI_eq h, cmpI_eq h.symm]; rfl
  · rw [cmpI_gt h, cmpI_lt h]; rfl
theorem cf_gt {x p y o : Int} (hp : 1 ≤ p) (ho : 1 ≤ o) (h : y / o < x / p) : cmpI (x * o) (y * p) = 1 := by
  rw [cmpI_swap, cf_lt ho hp h]; rfl
theorem cf_eq {x p y o : Int} (h : x / p = y / o) : cmpI (x * o) (y * p) = cmpI (x % p * o) (y % o * p) := by
  have e1 := Int.mul_ediv_add_emod x p
  have e2 := Int.mul_ediv_add_emod y o
  rw [← h] at e2
  generalize x / p = f at *
  generalize x % p = r at *
  generalize y % o = t at *
  subst e1 e2
  have a1 : (p * f + r) * o = p * o * f + r * o := by rw [Int.add_mul, Int.mul_right_comm]
  have a2 : (o * f + t) * p = p * o * f + t * p := by rw [Int.add_mul, Int.mul_right_comm, Int.mul_comm o p]
  rw [a1, a2]
  exact cmpI_iff (by omega) (by omega)
/-- the bound of the rounds -/
def CfB (x p : Int) (k : Nat) : Prop := k = 0 ∨ (p < x ∧ x * p * 2 ^ k ≤ 2 ^ 128)
theorem cfB_lt {x p : Int} {k : Nat} (hp : 1 ≤ p) (h : CfB x p k) : k ≤ 128 := by
  rcases h with h | ⟨h0, h⟩
  · omega
  · by_cases hk : k ≤ 128
    · exact hk
    · exfalso
      have a : 1 * 1 ≤ x * p := Int.mul_le_mul (by omega) hp (by decide) (by omega)
      have b : (2 : Int) ^ 129 ≤ 2 ^ k := by
        have := Nat.pow_le_pow_right (show 0 < 2 by decide) (show 129 ≤ k by omega)
        exact_mod_cast this
      have d := Int.mul_le_mul a b (by decide) (by omega)
      omega
theorem cfB_step {x p : Int} {k : Nat} (hp : 1 ≤ p) (h1 : p ≤ 9223372036854775807) (hr : 1 ≤ x % p) (h : CfB x p k) : CfB p (x % p) (k + 1) := by
  have e1 := Int.mul_ediv_add_emod x p
  have r1 := Int.emod_lt_of_pos x (show 0 < p by omega)
  refine .inr ⟨r1, ?_⟩
  rcases h with rfl | ⟨h0, h⟩
  · have := Int.mul_le_mul h1 (show x % p ≤ 9223372036854775807 by omega) (by omega) (by decide)
    omega
  · have hq : 1 ≤ x / p := Int.le_ediv_of_mul_le (by omega) (by omega)
    generalize x / p = f at *
    generalize x % p = r at *
    have a : p * 1 ≤ p * f := Int.mul_le_mul_of_nonneg_left hq (by omega)
    have b : (p + r) * p ≤ x * p := Int.mul_le_mul_of_nonneg_right (by omega) (by omega)
    have d : r * p ≤ p * p := Int.mul_le_mul_of_nonneg_right (by omega) (by omega)
    rw [Int.add_mul] at b
    have c : p * r * 2 ≤ x * p := by rw [Int.mul_comm p r]; omega
    have two : (0 : Int) ≤ 2 ^ k := Int.le_of_lt (Int.pow_pos (by decide))
    have := Int.mul_le_mul_of_nonneg_right c two
    rw [Int.pow_succ, Int.mul_comm ((2 : Int) ^ k) 2, ← Int.mul_assoc]
    omega

theorem R24Floor_any (a p : Int) (w : World) (_h0 : -9223372036854775808 ≤ a) (_h1 : a ≤ 9223372036854775807) (hp : 1 ≤ p) (_h2 : p ≤ 9223372036854775807) :
    Calls Tryd.prog 56 #[.int .i64 a, .int .i64 p] w fun r w' => r = .returned (.int .i64 (a / p)) ∧ w = w' := by
  have hz : (p == 0) = false := by simp; omega
  obtain ⟨d1, d2⟩ := div_parts (a := a) hp
  obtain ⟨b1, b2⟩ := div_bd hp _h0 _h1
  have b3 := Int.emod_nonneg a (show p ≠ 0 by omega)
  have b4 := Int.emod_lt_of_pos a (show 0 < p by omega)
  by_cases hm : a.tmod p < 0
  · obtain ⟨e1, e2⟩ := d1 hm
    clear d1 d2
    go_enter Tryd.func56, Tryd.ntmps56
    go_wp2
    go_ret
    refine ⟨ret_int ?_, rfl⟩
    first | omega | rfl
  · obtain ⟨e1, e2⟩ := d2 (by omega)
    clear d1 d2
    go_enter Tryd.func56, Tryd.ntmps56
    go_wp2
    go_ret
    refine ⟨ret_int ?_, rfl⟩
    first | omega | rfl


theorem R24left_any (a p : Int) (w : World) (_h0 : -9223372036854775808 ≤ a) (_h1 : a ≤ 9223372036854775807) (hp : 1 ≤ p) (_h2 : p ≤ 9223372036854775807) :
    Calls Tryd.prog 57 #[.int .i64 a, .int .i64 p] w fun r w' => r = .returned (.int .i64 (a % p)) ∧ w = w' := by
  have hz : (p == 0) = false := by simp; omega
  obtain ⟨d1, d2⟩ := div_parts (a := a) hp
  obtain ⟨b1, b2⟩ := div_bd hp _h0 _h1
  have b3 := Int.emod_nonneg a (show p ≠ 0 by omega)
  have b4 := Int.emod_lt_of_pos a (show 0 < p by omega)
  by_cases hm : a.tmod p < 0
  · obtain ⟨e1, e2⟩ := d1 hm
    clear d1 d2
    go_enter Tryd.func57, Tryd.ntmps57
    go_wp2
    go_ret
    refine ⟨ret_int ?_, rfl⟩
    first | omega | rfl
  · obtain ⟨e1, e2⟩ := d2 (by omega)
    clear d1 d2
    go_enter Tryd.func57, Tryd.ntmps57
    go_wp2
    go_ret
    refine ⟨ret_int ?_, rfl⟩
    first | omega | rfl


def cfV (s x p y o : Int) : Int := s * cmpI (x * o) (y * p)
theorem cfV_lt {s x p y o : Int} (hp : 1 ≤ p) (ho : 1 ≤ o) (h : x / p < y / o) : cfV s x p y o = 0 - s := by unfold cfV; rw [cf_lt hp ho h]; omega
theorem cfV_gt {s x p y o : Int} (hp : 1 ≤ p) (ho : 1 ≤ o) (h : y / o < x / p) : cfV s x p y o = s := by unfold cfV; rw [cf_gt hp ho h]; omega
theorem cfV_zero {s x p y o : Int} (h : x / p = y / o) (hr : x % p = 0) (ht : y % o = 0) : cfV s x p y o = 0 := by
  unfold cfV; rw [cf_eq h, hr, ht, Int.zero_mul, Int.zero_mul, cmpI_eq rfl]; omega
theorem cfV_rz {s x p y o : Int} (h : x / p = y / o) (hp : 1 ≤ p) (hr : x % p = 0) (ht : 1 ≤ y % o) : cfV s x p y o = 0 - s := by
  unfold cfV
  have := Int.mul_pos (show 0 < y % o by omega) (show 0 < p by omega)
  rw [cf_eq h, hr, Int.zero_mul, cmpI_lt this]; omega
theorem cfV_tz {s x p y o : Int} (h : x / p = y / o) (ho : 1 ≤ o) (ht : y % o = 0) (hr : 1 ≤ x % p) : cfV s x p y o = s := by
  unfold cfV
  have := Int.mul_pos (show 0 < x % p by omega) (show 0 < o by omega)
  rw [cf_eq h, ht, Int.zero_mul, cmpI_gt this]; omega
theorem cfV_turn {s x p y o : Int} (h : x / p = y / o) : cfV s x p y o = cfV (0 - s) p (x % p) o (y % o) := by
  unfold cfV
  rw [cf_eq h, cmpI_swap, Int.mul_comm o, Int.mul_comm p, Int.mul_neg, Int.zero_sub, Int.neg_mul]

def CfInv (V : Int) (q0 q1 q2 q3 q9 q10 : Value) : Prop :=
  ∃ (x p y o s : Int) (k : Nat), q0 = .int .i64 x ∧ q1 = .int .i64 p ∧ q2 = .int .i64 y ∧ q3 = .int .i64 o ∧ q9 = .int .i64 s ∧ q10 = .int .i64 k ∧
    (s = 1 ∨ s = -1) ∧ -9223372036854775808 ≤ x ∧ x ≤ 9223372036854775807 ∧ -9223372036854775808 ≤ y ∧ y ≤ 9223372036854775807 ∧ 1 ≤ p ∧ p ≤ 9223372036854775807 ∧ 1 ≤ o ∧ o ≤ 9223372036854775807 ∧ Hid (CfB x p k) ∧ Hid (cfV s x p y o = V)

set_option maxRecDepth 100000 in
set_option maxHeartbeats 2000000 in
theorem R24Cmp_any (a p0 b o0 : Int) (w : World) (_h0 : -9223372036854775808 ≤ a) (_h1 : a ≤ 9223372036854775807) (_h2 : 1 ≤ p0) (_h3 : p0 ≤ 9223372036854775807) (_h4 : -9223372036854775808 ≤ b) (_h5 : b ≤ 9223372036854775807) (_h6 : 1 ≤ o0) (_h7 : o0 ≤ 9223372036854775807) :
    Calls Tryd.prog 33 #[.int .i64 a, .int .i64 p0, .int .i64 b, .int .i64 o0] w fun r w' => r = .returned (.int .i64 (cmpI (a * o0) (b * p0))) ∧ w = w' := by
  generalize hV0 : cmpI (a * o0) (b * p0) = V
  have hS : Hid (cfV 1 a p0 b o0 = V) := Lib.hid (by unfold cfV; rw [hV0]; omega)
  clear hV0
  go_enter Tryd.func33, Tryd.ntmps33
  go_wp2
  go_loop [0, 1, 2, 3, 9, 10] (fun q0 q1 q2 q3 q9 q10 => CfInv V q0 q1 q2 q3 q9 q10) (fun _ _ _ _ _ q => 200 - (intOf q).toNat)
  case atStart => exact ⟨a, p0, b, o0, 1, 0, rfl, rfl, rfl, rfl, rfl, rfl, .inl rfl, _h0, _h1, _h4, _h5, _h2, _h3, _h6, _h7, Lib.hid (.inl rfl), hS⟩
  case round =>
    obtain ⟨x, p, y, o, s, k, rfl, rfl, rfl, rfl, rfl, rfl, hs, x0, x1, y0, y1, p1, p2, o1, o2, hB, hV⟩ := hrel
    have hk := cfB_lt p1 hB.out
    have hk' : decide ((k : Int) < 200) = true := by simp; omega
    have r0 := Int.emod_nonneg x (show p ≠ 0 by omega)
    have r1 := Int.emod_lt_of_pos x (show 0 < p by omega)
    have t0 := Int.emod_nonneg y (show o ≠ 0 by omega)
    have t1 := Int.emod_lt_of_pos y (show 0 < o by omega)
    have s0 : -1 ≤ s := by omega
    have s1 : s ≤ 1 := by omega
    rcases Int.lt_trichotomy (x / p) (y / o) with hc | hc | hc
    · have hd : decide (x / p < y / o) = true := by simp; exact hc
      have hv := cfV_lt (s := s) p1 o1 hc
      rw [hV.out] at hv
      have hv' := Lib.hid hv
      clear hv
      go_wp2_with (first | (go_at_call 56; with_reducible refine (R24Floor_any _ _ _ (by omega) (by omega) (by omega) (by omega)).mono ?_; rintro e w' ⟨rfl, rfl⟩) | (go_at_call 57; with_reducible refine (R24left_any _ _ _ (by omega) (by omega) (by omega) (by omega)).mono ?_; rintro e w' ⟨rfl, rfl⟩))
      go_ret
      refine ⟨ret_int ?_, rfl⟩
      have := hv'.out
      omega
    · have hd : decide (x / p < y / o) = false := by simp; omega
      have hd2 : decide (y / o < x / p) = false := by simp; omega
      by_cases hr : x % p = 0
      · have hr' : (x % p == 0) = true := by simp [hr]
        by_cases ht : y % o = 0
        · have ht' : (y % o == 0) = true := by simp [ht]
          have hv := cfV_zero (s := s) hc hr ht
          rw [hV.out] at hv
          have hv' := Lib.hid hv
          clear hv
          go_wp2_with (first | (go_at_call 56; with_reducible refine (R24Floor_any _ _ _ (by omega) (by omega) (by omega) (by omega)).mono ?_; rintro e w' ⟨rfl, rfl⟩) | (go_at_call 57; with_reducible refine (R24left_any _ _ _ (by omega) (by omega) (by omega) (by omega)).mono ?_; rintro e w' ⟨rfl, rfl⟩))
          go_ret
          refine ⟨ret_int ?_, rfl⟩
          have := hv'.out
          omega
        · have ht' : (y % o == 0) = false := by simp [ht]
          have hv := cfV_rz (s := s) hc p1 hr (by omega)
          rw [hV.out] at hv
          have hv' := Lib.hid hv
          clear hv
          go_wp2_with (first | (go_at_call 56; with_reducible refine (R24Floor_any _ _ _ (by omega) (by omega) (by omega) (by omega)).mono ?_; rintro e w' ⟨rfl, rfl⟩) | (go_at_call 57; with_reducible refine (R24left_any _ _ _ (by omega) (by omega) (by omega) (by omega)).mono ?_; rintro e w' ⟨rfl, rfl⟩))
          go_ret
          refine ⟨ret_int ?_, rfl⟩
          have := hv'.out
          omega
      · have hr' : (x % p == 0) = false := by simp [hr]
        by_cases ht : y % o = 0
        · have ht' : (y % o == 0) = true := by simp [ht]
          have hv := cfV_tz (s := s) hc o1 ht (by omega)
          rw [hV.out] at hv
          have hv' := Lib.hid hv
          clear hv
          go_wp2_with (first | (go_at_call 56; with_reducible refine (R24Floor_any _ _ _ (by omega) (by omega) (by omega) (by omega)).mono ?_; rintro e w' ⟨rfl, rfl⟩) | (go_at_call 57; with_reducible refine (R24left_any _ _ _ (by omega) (by omega) (by omega) (by omega)).mono ?_; rintro e w' ⟨rfl, rfl⟩))
          go_ret
          refine ⟨ret_int ?_, rfl⟩
          have := hv'.out
          omega
        · have ht' : (y % o == 0) = false := by simp [ht]
          have hn := cfV_turn (s := s) hc
          rw [hV.out] at hn
          have hn' := Lib.hid hn.symm
          have hb' := Lib.hid (cfB_step p1 p2 (show 1 ≤ x % p by omega) hB.out)
          clear hn
          go_wp2_with (first | (go_at_call 56; with_reducible refine (R24Floor_any _ _ _ (by omega) (by omega) (by omega) (by omega)).mono ?_; rintro e w' ⟨rfl, rfl⟩) | (go_at_call 57; with_reducible refine (R24left_any _ _ _ (by omega) (by omega) (by omega) (by omega)).mono ?_; rintro e w' ⟨rfl, rfl⟩))
          go_round
          case rel => exact ⟨p, x % p, o, y % o, 0 - s, k + 1, rfl, rfl, rfl, rfl, (by first | rfl | congr 1; omega), (by first | rfl | (congr 1; omega) | (simp; omega)), (by omega), (by omega), p2, (by omega), o2, (by omega), (by omega), (by omega), (by omega), hb', hn'⟩
          case measure => simp [intOf]; omega
    · have hd : decide (x / p < y / o) = false := by simp; omega
      have hd2 : decide (y / o < x / p) = true := by simp; exact hc
      have hv := cfV_gt (s := s) p1 o1 hc
      rw [hV.out] at hv
      have hv' := Lib.hid hv
      clear hv
      go_wp2_with (first | (go_at_call 56; with_reducible refine (R24Floor_any _ _ _ (by omega) (by omega) (by omega) (by omega)).mono ?_; rintro e w' ⟨rfl, rfl⟩) | (go_at_call 57; with_reducible refine (R24left_any _ _ _ (by omega) (by omega) (by omega) (by omega)).mono ?_; rintro e w' ⟨rfl, rfl⟩))
      go_ret
      refine ⟨ret_int ?_, rfl⟩
      have := hv'.out
      omega

end Go.Proofs.YtgkkbeomhkggjaaDoor
