/- Layer 24: SlopeHides. -/
import Derived.Test.YtjhbomgfjffmdaaSlope2
set_option linter.unusedVariables false
set_option linter.unusedSimpArgs false
namespace Go.Proofs.Ytjhbomgfjffmdaa
open Go.RowKit
theorem near_false {n : Int} (h : ¬ (-1099511627776 ≤ n ∧ n ≤ 1099511627776)) : ¬ nearB n = true := fun e => h (near_bd e)
theorem near_true {n : Int} (h : -1099511627776 ≤ n) (h2 : n ≤ 1099511627776) : nearB n = true := by simp [nearB, h, h2]

set_option maxRecDepth 100000 in
set_option maxHeartbeats 2000000 in
theorem hides_arg (z f t i n : Int) (w : World) (h0 : ¬ (1 ≤ n ∧ n ≤ 1024 ∧ 0 ≤ i ∧ i ≤ n)) :
    Calls Try.prog 7 #[.int .i64 z, .int .i64 f, .int .i64 t, .int .i64 i, .int .i64 n] w fun r w' => r = .returned (.bool true) ∧ Below w.heap.size w w' := by
  have h := Lib.hid h0
  by_cases c0 : n < 1
  · clear h0
    go_enter Try.func7, Try.ntmps7
    go_wp2_with (first | (go_at_call 20; with_reducible refine (awake24_any _).mono ?_; rintro e u1 ⟨rfl, u1b⟩) | (go_at_call 26; with_reducible refine (Hides_arg z f t i n _ h.out).mono ?_; rintro e w' ⟨rfl, rfl⟩))
    go_ret
    exact ⟨rfl, (by repeat (first | with_reducible exact Below.refl _ _ | with_reducible assumption | with_reducible refine below_alloc ?_ _ | with_reducible refine below_draw ?_ | ((with_reducible apply bset); (focus (first | exact Nat.le_refl _ | (simp; done) | omega | (simp; omega)))) | ((with_reducible apply bcall); assumption; (focus (first | exact Nat.le_refl _ | (simp; done) | omega | (simp; omega))))))⟩
  · have d0 : 1 ≤ n := by omega
    clear c0
    by_cases c1 : 1024 < n
    · clear h0
      go_enter Try.func7, Try.ntmps7
      go_wp2_with (first | (go_at_call 20; with_reducible refine (awake24_any _).mono ?_; rintro e u1 ⟨rfl, u1b⟩) | (go_at_call 26; with_reducible refine (Hides_arg z f t i n _ h.out).mono ?_; rintro e w' ⟨rfl, rfl⟩))
      go_ret
      exact ⟨rfl, (by repeat (first | with_reducible exact Below.refl _ _ | with_reducible assumption | with_reducible refine below_alloc ?_ _ | with_reducible refine below_draw ?_ | ((with_reducible apply bset); (focus (first | exact Nat.le_refl _ | (simp; done) | omega | (simp; omega)))) | ((with_reducible apply bcall); assumption; (focus (first | exact Nat.le_refl _ | (simp; done) | omega | (simp; omega))))))⟩
    · have d1 : n ≤ 1024 := by omega
      clear c1
      by_cases c2 : i < 0
      · clear h0
        go_enter Try.func7, Try.ntmps7
        go_wp2_with (first | (go_at_call 20; with_reducible refine (awake24_any _).mono ?_; rintro e u1 ⟨rfl, u1b⟩) | (go_at_call 26; with_reducible refine (Hides_arg z f t i n _ h.out).mono ?_; rintro e w' ⟨rfl, rfl⟩))
        go_ret
        exact ⟨rfl, (by repeat (first | with_reducible exact Below.refl _ _ | with_reducible assumption | with_reducible refine below_alloc ?_ _ | with_reducible refine below_draw ?_ | ((with_reducible apply bset); (focus (first | exact Nat.le_refl _ | (simp; done) | omega | (simp; omega)))) | ((with_reducible apply bcall); assumption; (focus (first | exact Nat.le_refl _ | (simp; done) | omega | (simp; omega))))))⟩
      · have d2 : 0 ≤ i := by omega
        have d3 : n < i := by omega
        clear c2 h0
        go_enter Try.func7, Try.ntmps7
        go_wp2_with (first | (go_at_call 20; with_reducible refine (awake24_any _).mono ?_; rintro e u1 ⟨rfl, u1b⟩) | (go_at_call 26; with_reducible refine (Hides_arg z f t i n _ h.out).mono ?_; rintro e w' ⟨rfl, rfl⟩))
        go_ret
        exact ⟨rfl, (by repeat (first | with_reducible exact Below.refl _ _ | with_reducible assumption | with_reducible refine below_alloc ?_ _ | with_reducible refine below_draw ?_ | ((with_reducible apply bset); (focus (first | exact Nat.le_refl _ | (simp; done) | omega | (simp; omega)))) | ((with_reducible apply bcall); assumption; (focus (first | exact Nat.le_refl _ | (simp; done) | omega | (simp; omega))))))⟩


set_option maxRecDepth 100000 in
set_option maxHeartbeats 2000000 in
theorem hides_val (z f t i n : Int) (w : World) (d0 : 1 ≤ n) (d1 : n ≤ 1024) (d2 : 0 ≤ i) (d3 : i ≤ n) (h0 : ¬ (nearB z = true ∧ nearB f = true ∧ nearB t = true)) :
    Calls Try.prog 7 #[.int .i64 z, .int .i64 f, .int .i64 t, .int .i64 i, .int .i64 n] w fun r w' => r = .returned (.bool true) ∧ Below w.heap.size w w' := by
  have h := Lib.hid h0
  clear h0
  by_cases c0 : z < -1099511627776
  · skip
    go_enter Try.func7, Try.ntmps7
    go_wp2_with (first | (go_at_call 20; with_reducible refine (awake24_any _).mono ?_; rintro e u1 ⟨rfl, u1b⟩) | (go_at_call 26; with_reducible refine (Hides_val z f t i n _ d0 d1 d2 d3 h.out).mono ?_; rintro e w' ⟨rfl, rfl⟩))
    go_ret
    exact ⟨rfl, (by repeat (first | with_reducible exact Below.refl _ _ | with_reducible assumption | with_reducible refine below_alloc ?_ _ | with_reducible refine below_draw ?_ | ((with_reducible apply bset); (focus (first | exact Nat.le_refl _ | (simp; done) | omega | (simp; omega)))) | ((with_reducible apply bcall); assumption; (focus (first | exact Nat.le_refl _ | (simp; done) | omega | (simp; omega))))))⟩
  · have e0 : -1099511627776 ≤ z := by omega
    clear c0
    by_cases c1 : 1099511627776 < z
    · skip
      go_enter Try.func7, Try.ntmps7
      go_wp2_with (first | (go_at_call 20; with_reducible refine (awake24_any _).mono ?_; rintro e u1 ⟨rfl, u1b⟩) | (go_at_call 26; with_reducible refine (Hides_val z f t i n _ d0 d1 d2 d3 h.out).mono ?_; rintro e w' ⟨rfl, rfl⟩))
      go_ret
      exact ⟨rfl, (by repeat (first | with_reducible exact Below.refl _ _ | with_reducible assumption | with_reducible refine below_alloc ?_ _ | with_reducible refine below_draw ?_ | ((with_reducible apply bset); (focus (first | exact Nat.le_refl _ | (simp; done) | omega | (simp; omega)))) | ((with_reducible apply bcall); assumption; (focus (first | exact Nat.le_refl _ | (simp; done) | omega | (simp; omega))))))⟩
    · have e1 : z ≤ 1099511627776 := by omega
      clear c1
      by_cases c2 : f < -1099511627776
      · skip
        go_enter Try.func7, Try.ntmps7
        go_wp2_with (first | (go_at_call 20; with_reducible refine (awake24_any _).mono ?_; rintro e u1 ⟨rfl, u1b⟩) | (go_at_call 26; with_reducible refine (Hides_val z f t i n _ d0 d1 d2 d3 h.out).mono ?_; rintro e w' ⟨rfl, rfl⟩))
        go_ret
        exact ⟨rfl, (by repeat (first | with_reducible exact Below.refl _ _ | with_reducible assumption | with_reducible refine below_alloc ?_ _ | with_reducible refine below_draw ?_ | ((with_reducible apply bset); (focus (first | exact Nat.le_refl _ | (simp; done) | omega | (simp; omega)))) | ((with_reducible apply bcall); assumption; (focus (first | exact Nat.le_refl _ | (simp; done) | omega | (simp; omega))))))⟩
      · have e2 : -1099511627776 ≤ f := by omega
        clear c2
        by_cases c3 : 1099511627776 < f
        · skip
          go_enter Try.func7, Try.ntmps7
          go_wp2_with (first | (go_at_call 20; with_reducible refine (awake24_any _).mono ?_; rintro e u1 ⟨rfl, u1b⟩) | (go_at_call 26; with_reducible refine (Hides_val z f t i n _ d0 d1 d2 d3 h.out).mono ?_; rintro e w' ⟨rfl, rfl⟩))
          go_ret
          exact ⟨rfl, (by repeat (first | with_reducible exact Below.refl _ _ | with_reducible assumption | with_reducible refine below_alloc ?_ _ | with_reducible refine below_draw ?_ | ((with_reducible apply bset); (focus (first | exact Nat.le_refl _ | (simp; done) | omega | (simp; omega)))) | ((with_reducible apply bcall); assumption; (focus (first | exact Nat.le_refl _ | (simp; done) | omega | (simp; omega))))))⟩
        · have e3 : f ≤ 1099511627776 := by omega
          clear c3
          by_cases c4 : t < -1099511627776
          · skip
            go_enter Try.func7, Try.ntmps7
            go_wp2_with (first | (go_at_call 20; with_reducible refine (awake24_any _).mono ?_; rintro e u1 ⟨rfl, u1b⟩) | (go_at_call 26; with_reducible refine (Hides_val z f t i n _ d0 d1 d2 d3 h.out).mono ?_; rintro e w' ⟨rfl, rfl⟩))
            go_ret
            exact ⟨rfl, (by repeat (first | with_reducible exact Below.refl _ _ | with_reducible assumption | with_reducible refine below_alloc ?_ _ | with_reducible refine below_draw ?_ | ((with_reducible apply bset); (focus (first | exact Nat.le_refl _ | (simp; done) | omega | (simp; omega)))) | ((with_reducible apply bcall); assumption; (focus (first | exact Nat.le_refl _ | (simp; done) | omega | (simp; omega))))))⟩
          · have e4 : -1099511627776 ≤ t := by omega
            clear c4
            by_cases c5 : 1099511627776 < t
            · skip
              go_enter Try.func7, Try.ntmps7
              go_wp2_with (first | (go_at_call 20; with_reducible refine (awake24_any _).mono ?_; rintro e u1 ⟨rfl, u1b⟩) | (go_at_call 26; with_reducible refine (Hides_val z f t i n _ d0 d1 d2 d3 h.out).mono ?_; rintro e w' ⟨rfl, rfl⟩))
              go_ret
              exact ⟨rfl, (by repeat (first | with_reducible exact Below.refl _ _ | with_reducible assumption | with_reducible refine below_alloc ?_ _ | with_reducible refine below_draw ?_ | ((with_reducible apply bset); (focus (first | exact Nat.le_refl _ | (simp; done) | omega | (simp; omega)))) | ((with_reducible apply bcall); assumption; (focus (first | exact Nat.le_refl _ | (simp; done) | omega | (simp; omega))))))⟩
            · have e5 : t ≤ 1099511627776 := by omega
              clear c5
              exact absurd ⟨near_true e0 e1, near_true e2 e3, near_true e4 e5⟩ h.out


set_option maxRecDepth 100000 in
set_option maxHeartbeats 2000000 in
theorem hides_zero (z f t i n : Int) (w : World) (d0 : 1 ≤ n) (d1 : n ≤ 1024) (d2 : 0 ≤ i) (d3 : i ≤ n) (hz : Hid (nearB z = true)) (hf : Hid (nearB f = true)) (ht : Hid (nearB t = true)) (hi : i = 0) :
    Calls Try.prog 7 #[.int .i64 z, .int .i64 f, .int .i64 t, .int .i64 i, .int .i64 n] w fun r w' => r = .returned (.bool true) ∧ Below w.heap.size w w' := by
  obtain ⟨z0, z1⟩ := near_bd hz.out
  obtain ⟨f0, f1⟩ := near_bd hf.out
  obtain ⟨t0, t1⟩ := near_bd ht.out
  obtain ⟨p0, p1⟩ := prod_range (x := z - f) (n := n) (by omega) (by omega) (by omega) d1
  obtain ⟨q0, q1⟩ := prod_range (x := t - f) (n := i) (by omega) (by omega) d2 (by omega)
  have hb : decide ((t - f) * i < (z - f) * n) = decide (f < z) := by
    rw [hi, Int.mul_zero, decide_eq_decide, (mul_pos_iff d0).1]; omega
  have Hb := Lib.hid hb
  have hi' : (i == 0) = true := by simp [hi]
  have hco : Hid (∀ W : World, Calls Try.prog 26 #[.int .i64 z, .int .i64 f, .int .i64 t, .int .i64 i, .int .i64 n] W fun r w' => r = .returned (.tuple #[.bool (decide (f < z)), .int .i64 0]) ∧ W = w') := Lib.hid (fun W => by
    have := Hides_ok z f t i n W d0 d1 d2 d3 hz.out hf.out ht.out
    rw [Hb.out] at this
    exact this)
  clear hb hi
  cases hfz : decide (f < z)
  all_goals
    have hq := Hb.out
    rw [hfz] at hq
    go_enter Try.func7, Try.ntmps7
    go_wp2_with (first | (go_at_call 20; with_reducible refine (awake24_any _).mono ?_; rintro e u1 ⟨rfl, u1b⟩) | (go_at_call 26; with_reducible refine (hco.out _).mono ?_; rintro e w' ⟨rfl, rfl⟩))
    go_ret
    exact ⟨rfl, (by repeat (first | with_reducible exact Below.refl _ _ | with_reducible assumption | with_reducible refine below_alloc ?_ _ | with_reducible refine below_draw ?_ | ((with_reducible apply bset); (focus (first | exact Nat.le_refl _ | (simp; done) | omega | (simp; omega)))) | ((with_reducible apply bcall); assumption; (focus (first | exact Nat.le_refl _ | (simp; done) | omega | (simp; omega))))))⟩

set_option maxRecDepth 100000 in
set_option maxHeartbeats 2000000 in
theorem hides_more (z f t i n : Int) (w : World) (d0 : 1 ≤ n) (d1 : n ≤ 1024) (d2 : 0 ≤ i) (d3 : i ≤ n) (hz : Hid (nearB z = true)) (hf : Hid (nearB f = true)) (ht : Hid (nearB t = true)) (hi : 1 ≤ i) :
    Calls Try.prog 7 #[.int .i64 z, .int .i64 f, .int .i64 t, .int .i64 i, .int .i64 n] w fun r w' => r = .returned (.bool true) ∧ Below w.heap.size w w' := by
  obtain ⟨z0, z1⟩ := near_bd hz.out
  obtain ⟨f0, f1⟩ := near_bd hf.out
  obtain ⟨t0, t1⟩ := near_bd ht.out
  obtain ⟨p0, p1⟩ := prod_range (x := z - f) (n := n) (by omega) (by omega) (by omega) d1
  obtain ⟨q0, q1⟩ := prod_range (x := t - f) (n := i) (by omega) (by omega) d2 (by omega)
  have hc : Hid (∀ W : World, Calls Try.prog 21 #[.agg #[.int .i64 (z - f), .int .i64 i], .agg #[.int .i64 (t - f), .int .i64 n]] W fun r w' => r = .returned (.tuple #[.int .i64 (cmpI ((z - f) * n) ((t - f) * i)), .int .i64 0]) ∧ Below W.heap.size W w') :=
    Lib.hid (fun W => Cmp_ok (z - f) i (t - f) n W (by omega) (by omega) (by omega) (by omega) (by omega) (by omega) (by omega) (by omega) hi d0)
  have hi' : (i == 0) = false := by simp; omega
  by_cases hlt : (t - f) * i < (z - f) * n
  · have hb : decide ((t - f) * i < (z - f) * n) = true := by simp; exact hlt
    have hv := cmpI_gt hlt
    have Hv := Lib.hid hv
    rw [hv] at hc
    clear hv hlt
    go_enter Try.func7, Try.ntmps7
    go_wp2_with (first | (go_at_call 20; with_reducible refine (awake24_any _).mono ?_; rintro e u1 ⟨rfl, u1b⟩) | (go_at_call 26; with_reducible refine (Hides_ok z f t i n _ d0 d1 d2 d3 hz.out hf.out ht.out).mono ?_; rintro e w' ⟨rfl, rfl⟩) | (go_at_call 21; with_reducible refine (hc.out _).mono ?_; rintro e u2 ⟨rfl, u2b⟩))
    go_ret
    exact ⟨rfl, (by repeat (first | with_reducible exact Below.refl _ _ | with_reducible assumption | with_reducible refine below_alloc ?_ _ | with_reducible refine below_draw ?_ | ((with_reducible apply bset); (focus (first | exact Nat.le_refl _ | (simp; done) | omega | (simp; omega)))) | ((with_reducible apply bcall); assumption; (focus (first | exact Nat.le_refl _ | (simp; done) | omega | (simp; omega))))))⟩
  · have hb : decide ((t - f) * i < (z - f) * n) = false := by simp; omega
    have hv : decide (0 < cmpI ((z - f) * n) ((t - f) * i)) = false := by
      rcases Int.lt_or_eq_of_le (show (z - f) * n ≤ (t - f) * i by omega) with h | h
      · rw [cmpI_lt h]; rfl
      · rw [cmpI_eq h]; rfl
    clear hlt
    go_enter Try.func7, Try.ntmps7
    go_wp2_with (first | (go_at_call 20; with_reducible refine (awake24_any _).mono ?_; rintro e u1 ⟨rfl, u1b⟩) | (go_at_call 26; with_reducible refine (Hides_ok z f t i n _ d0 d1 d2 d3 hz.out hf.out ht.out).mono ?_; rintro e w' ⟨rfl, rfl⟩) | (go_at_call 21; with_reducible refine (hc.out _).mono ?_; rintro e u2 ⟨rfl, u2b⟩))
    go_ret
    exact ⟨rfl, (by repeat (first | with_reducible exact Below.refl _ _ | with_reducible assumption | with_reducible refine below_alloc ?_ _ | with_reducible refine below_draw ?_ | ((with_reducible apply bset); (focus (first | exact Nat.le_refl _ | (simp; done) | omega | (simp; omega)))) | ((with_reducible apply bcall); assumption; (focus (first | exact Nat.le_refl _ | (simp; done) | omega | (simp; omega))))))⟩

theorem slopeHides_walk (z f t i n : Int) (w : World) (_a0 : (-9223372036854775808 ≤ z ∧ z ≤ 9223372036854775807)) (_a1 : (-9223372036854775808 ≤ f ∧ f ≤ 9223372036854775807)) (_a2 : (-9223372036854775808 ≤ t ∧ t ≤ 9223372036854775807)) (_a3 : (-9223372036854775808 ≤ i ∧ i ≤ 9223372036854775807)) (_a4 : (-9223372036854775808 ≤ n ∧ n ≤ 9223372036854775807)) :
    Calls Try.prog 7 #[.int .i64 z, .int .i64 f, .int .i64 t, .int .i64 i, .int .i64 n] w fun r w' => r = .returned (.bool true) ∧ Below w.heap.size w w' := by
  by_cases h : 1 ≤ n ∧ n ≤ 1024 ∧ 0 ≤ i ∧ i ≤ n
  · obtain ⟨d0, d1, d2, d3⟩ := h
    by_cases h2 : nearB z = true ∧ nearB f = true ∧ nearB t = true
    · obtain ⟨hz, hf, ht⟩ := h2
      by_cases hi : i = 0
      · exact hides_zero z f t i n w d0 d1 d2 d3 hz hf ht hi
      · exact hides_more z f t i n w d0 d1 d2 d3 hz hf ht (by omega)
    · exact hides_val z f t i n w d0 d1 d2 d3 h2
  · exact hides_arg z f t i n w h

end Go.Proofs.Ytjhbomgfjffmdaa
