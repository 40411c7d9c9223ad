/- Contracts of package slope. -/
import Derived.Outline
import Derived.Test.YtgkkbeomhkggjaaDoorMA
import Derived.Laws.BitsAllLaws
import Derived.Laws.BitsLemmas
set_option linter.unusedVariables false
set_option linter.unusedSimpArgs false
namespace Go.Proofs.YtgkkbeomhkggjaaDoor
open Go.RowKit
/-- below, the same, above -/
def cmpI (x y : Int) : Int := if x < y then -1 else if y < x then 1 else 0
theorem cmpI_lt {x y : Int} (h : x < y) : cmpI x y = -1 := if_pos h
theorem cmpI_gt {x y : Int} (h : y < x) : cmpI x y = 1 := by unfold cmpI; rw [if_neg (by omega), if_pos h]
theorem cmpI_eq {x y : Int} (h : x = y) : cmpI x y = 0 := by unfold cmpI; rw [if_neg (by omega), if_neg (by omega)]
theorem cmpI_iff {x y a b : Int} (h1 : x < y ↔ a < b) (h2 : y < x ↔ b < a) : cmpI x y = cmpI a b := by
  rcases Int.lt_trichotomy x y with h | h | h
  · rw [cmpI_lt h, cmpI_lt (h1.1 h)]
  · rw [cmpI_eq h, cmpI_eq (by omega)]
  · rw [cmpI_gt h, cmpI_gt (h2.1 h)]
def ab (n : Int) : Int := if n < 0 then -n else n

theorem isNaN_int (n : Int) (w : World) :
    Calls Tryd.prog 106 #[.int .i64 n] w fun r w' => r = .returned (.bool false) ∧ w = w' := by
  go_enter Tryd.func106, Tryd.ntmps106
  go_wp2
  go_ret
  exact ⟨rfl, rfl⟩

theorem compare_int (x y : Int) (w : World) :
    Calls Tryd.prog 87 #[.int .i64 x, .int .i64 y] w fun r w' => r = .returned (.int .i64 (cmpI x y)) ∧ w = w' := by
  rcases Int.lt_trichotomy x y with h | h | h
  · have h2 : decide (x < y) = true := by simp; omega
    rw [cmpI_lt h]
    clear h
    go_enter Tryd.func87, Tryd.ntmps87
    go_wp2_with (go_at_call 106; refine (isNaN_int _ _).mono ?_; rintro e w' ⟨rfl, rfl⟩)
    go_ret
    exact ⟨rfl, rfl⟩
  · subst h
    have h2 : decide (x < x) = false := by simp
    rw [cmpI_eq rfl]
    go_enter Tryd.func87, Tryd.ntmps87
    go_wp2_with (go_at_call 106; refine (isNaN_int _ _).mono ?_; rintro e w' ⟨rfl, rfl⟩)
    go_ret
    exact ⟨rfl, rfl⟩
  · have h2 : decide (x < y) = false := by simp; omega
    have h3 : decide (y < x) = true := by simp; omega
    rw [cmpI_gt h]
    clear h
    go_enter Tryd.func87, Tryd.ntmps87
    go_wp2_with (go_at_call 106; refine (isNaN_int _ _).mono ?_; rintro e w' ⟨rfl, rfl⟩)
    go_ret
    exact ⟨rfl, rfl⟩

theorem isNaN_int64 (n : Int) (w : World) :
    Calls Tryd.prog 117 #[.int .i64 n] w fun r w' => r = .returned (.bool false) ∧ w = w' := by
  go_enter Tryd.func117, Tryd.ntmps117
  go_wp2
  go_ret
  exact ⟨rfl, rfl⟩

theorem compare_int64 (x y : Int) (w : World) :
    Calls Tryd.prog 107 #[.int .i64 x, .int .i64 y] w fun r w' => r = .returned (.int .i64 (cmpI x y)) ∧ w = w' := by
  rcases Int.lt_trichotomy x y with h | h | h
  · have h2 : decide (x < y) = true := by simp; omega
    rw [cmpI_lt h]
    clear h
    go_enter Tryd.func107, Tryd.ntmps107
    go_wp2_with (go_at_call 117; refine (isNaN_int64 _ _).mono ?_; rintro e w' ⟨rfl, rfl⟩)
    go_ret
    exact ⟨rfl, rfl⟩
  · subst h
    have h2 : decide (x < x) = false := by simp
    rw [cmpI_eq rfl]
    go_enter Tryd.func107, Tryd.ntmps107
    go_wp2_with (go_at_call 117; refine (isNaN_int64 _ _).mono ?_; rintro e w' ⟨rfl, rfl⟩)
    go_ret
    exact ⟨rfl, rfl⟩
  · have h2 : decide (x < y) = false := by simp; omega
    have h3 : decide (y < x) = true := by simp; omega
    rw [cmpI_gt h]
    clear h
    go_enter Tryd.func107, Tryd.ntmps107
    go_wp2_with (go_at_call 117; refine (isNaN_int64 _ _).mono ?_; rintro e w' ⟨rfl, rfl⟩)
    go_ret
    exact ⟨rfl, rfl⟩

theorem isNaN_uint64 (n : Int) (w : World) :
    Calls Tryd.prog 118 #[.int .u64 n] w fun r w' => r = .returned (.bool false) ∧ w = w' := by
  go_enter Tryd.func118, Tryd.ntmps118
  go_wp2
  go_ret
  exact ⟨rfl, rfl⟩

theorem compare_uint64 (x y : Int) (w : World) :
    Calls Tryd.prog 109 #[.int .u64 x, .int .u64 y] w fun r w' => r = .returned (.int .i64 (cmpI x y)) ∧ w = w' := by
  rcases Int.lt_trichotomy x y with h | h | h
  · have h2 : decide (x < y) = true := by simp; omega
    rw [cmpI_lt h]
    clear h
    go_enter Tryd.func109, Tryd.ntmps109
    go_wp2_with (go_at_call 118; refine (isNaN_uint64 _ _).mono ?_; rintro e w' ⟨rfl, rfl⟩)
    go_ret
    exact ⟨rfl, rfl⟩
  · subst h
    have h2 : decide (x < x) = false := by simp
    rw [cmpI_eq rfl]
    go_enter Tryd.func109, Tryd.ntmps109
    go_wp2_with (go_at_call 118; refine (isNaN_uint64 _ _).mono ?_; rintro e w' ⟨rfl, rfl⟩)
    go_ret
    exact ⟨rfl, rfl⟩
  · have h2 : decide (x < y) = false := by simp; omega
    have h3 : decide (y < x) = true := by simp; omega
    rw [cmpI_gt h]
    clear h
    go_enter Tryd.func109, Tryd.ntmps109
    go_wp2_with (go_at_call 118; refine (isNaN_uint64 _ _).mono ?_; rintro e w' ⟨rfl, rfl⟩)
    go_ret
    exact ⟨rfl, rfl⟩

theorem sign_any (n : Int) (w : World) :
    Calls Tryd.prog 88 #[.int .i64 n] w fun r w' => r = .returned (.int .i64 (cmpI n 0)) ∧ w = w' := by
  go_enter Tryd.func88, Tryd.ntmps88
  go_wp2_with (go_at_call 107; refine (compare_int64 _ _ _).mono ?_; rintro e w' ⟨rfl, rfl⟩)
  go_ret
  exact ⟨rfl, rfl⟩

theorem size_any (n : Int) (w : World) (h0 : -9223372036854775808 ≤ n) (h1 : n ≤ 9223372036854775807) :
    Calls Tryd.prog 91 #[.int .i64 n] w fun r w' => r = .returned (.int .u64 (ab n)) ∧ w = w' := by
  by_cases h : n < 0
  · have e : ab n = -n := if_pos h
    rw [e]
    clear e
    go_enter Tryd.func91, Tryd.ntmps91
    go_wp2
    go_ret
    refine ⟨ret_int ?_, rfl⟩
    rw [IntKind.wrap_u64, IntKind.wrap_u64]
    omega
  · have e : ab n = n := if_neg h
    rw [e]
    clear e
    go_enter Tryd.func91, Tryd.ntmps91
    go_wp2
    go_ret
    exact ⟨rfl, rfl⟩

theorem mask32 {x : Int} (h0 : 0 ≤ x) (h1 : x < 18446744073709551616) : bits .and .u64 x 4294967295 = x % 4294967296 := by
  rw [u64_and x 4294967295 h0 h1 (by decide) (by decide), show (4294967295 : Int).toNat = 2 ^ 32 - 1 from rfl, Nat.and_two_pow_sub_one_eq_mod]
  omega
theorem mask32_wrap (x : Int) : bits .and .u64 (IntKind.u64.wrap x) 4294967295 = (x % 18446744073709551616) % 4294967296 := by
  rw [IntKind.wrap_u64]
  exact mask32 (Int.emod_nonneg _ (by decide)) (Int.emod_lt_of_pos _ (by decide))
theorem mul_parts (a1 a0 b1 b0 : Int) : (4294967296 * a1 + a0) * (4294967296 * b1 + b0) = 18446744073709551616 * (a1 * b1) + 4294967296 * (a1 * b0) + 4294967296 * (a0 * b1) + a0 * b0 := by
  rw [Int.add_mul, Int.mul_add, Int.mul_add]
  have e1 : 4294967296 * a1 * (4294967296 * b1) = 18446744073709551616 * (a1 * b1) := by
    rw [Int.mul_assoc, ← Int.mul_assoc a1, Int.mul_comm a1, Int.mul_assoc, ← Int.mul_assoc]; rfl
  have e2 : 4294967296 * a1 * b0 = 4294967296 * (a1 * b0) := Int.mul_assoc _ _ _
  have e3 : a0 * (4294967296 * b1) = 4294967296 * (a0 * b1) := by rw [← Int.mul_assoc, Int.mul_comm a0, Int.mul_assoc]
  rw [e1, e2, e3]
  omega
theorem pbd {x y : Int} (h0 : 0 ≤ x) (h1 : x < 4294967296) (h2 : 0 ≤ y) (h3 : y < 4294967296) : 0 ≤ x * y ∧ x * y ≤ 18446744065119617025 := by
  refine ⟨Int.mul_nonneg h0 h2, ?_⟩
  have := Int.mul_le_mul (show x ≤ 4294967295 by omega) (show y ≤ 4294967295 by omega) h2 (by decide)
  simpa using this
theorem hi_of (p q r s : Int) (h0 : 0 ≤ p ∧ p ≤ 18446744065119617025) (h1 : 0 ≤ q ∧ q ≤ 18446744065119617025) (h2 : 0 ≤ r ∧ r ≤ 18446744065119617025) (h3 : 0 ≤ s ∧ s ≤ 18446744065119617025) :
    ((p % 18446744073709551616 + (q % 18446744073709551616 + s % 18446744073709551616 / 4294967296) % 18446744073709551616 / 4294967296) % 18446744073709551616 + ((q % 18446744073709551616 + s % 18446744073709551616 / 4294967296) % 18446744073709551616 % 4294967296 + r % 18446744073709551616) % 18446744073709551616 / 4294967296) % 18446744073709551616 =
      (18446744073709551616 * p + 4294967296 * q + 4294967296 * r + s) / 18446744073709551616 := by
  rw [Int.emod_eq_of_lt h0.1 (by omega), Int.emod_eq_of_lt h1.1 (by omega), Int.emod_eq_of_lt h2.1 (by omega), Int.emod_eq_of_lt h3.1 (by omega)]
  omega
theorem ret_pair {k k2 : IntKind} {a b c d : Int} (h : a = c) (h2 : b = d) : Ending.returned (.tuple #[.int k a, .int k2 b]) = .returned (.tuple #[.int k c, .int k2 d]) := by rw [h, h2]

theorem mul64_any (a b : Int) (w : World) (h0 : 0 ≤ a) (h1 : a < 18446744073709551616) (h2 : 0 ≤ b) (h3 : b < 18446744073709551616) :
    Calls Tryd.prog 110 #[.int .u64 a, .int .u64 b] w fun r w' => r = .returned (.tuple #[.int .u64 (a * b / 18446744073709551616), .int .u64 (a * b % 18446744073709551616)]) ∧ w = w' := by
  have ea := Int.mul_ediv_add_emod a 4294967296
  have eb := Int.mul_ediv_add_emod b 4294967296
  have hp := mul_parts (a / 4294967296) (a % 4294967296) (b / 4294967296) (b % 4294967296)
  rw [ea, eb] at hp
  have Hp := Lib.hid hp
  clear ea eb hp
  go_enter Tryd.func110, Tryd.ntmps110
  go_wp2
  go_ret2
  refine ⟨ret_pair ?_ ?_, rfl⟩
  · rw [mask32_wrap, mask32 h0 h1, mask32 h2 h3, Hp.out]
    simp only [IntKind.wrap_u64]
    exact hi_of _ _ _ _ (pbd (by omega) (by omega) (by omega) (by omega)) (pbd (by omega) (by omega) (by omega) (by omega)) (pbd (by omega) (by omega) (by omega) (by omega)) (pbd (by omega) (by omega) (by omega) (by omega))
  · exact IntKind.wrap_u64 _

end Go.Proofs.YtgkkbeomhkggjaaDoor
