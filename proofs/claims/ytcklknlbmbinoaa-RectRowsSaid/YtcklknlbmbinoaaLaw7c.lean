/- Layer 7: RectRows. -/
import Derived.Test.YtcklknlbmbinoaaLaw7b
set_option linter.unusedVariables false
set_option linter.unusedSimpArgs false
namespace Go.Proofs.Ytcklknlbmbinoaa
open Go.RowKit
theorem has_nth {x0 y0 x1 y1 i : Int} (h : nthB x0 y0 x1 y1 i = true) : hasB x0 y0 x1 y1 (nthX x0 y0 x1 y1 i) (nthY x0 y0 x1 y1 i) = true ∧ rankI x0 y0 x1 y1 (nthX x0 y0 x1 y1 i) (nthY x0 y0 x1 y1 i) = i := by
  have hr := area_right h
  obtain ⟨h0, h1⟩ := (insideB_iff _ _).1 h
  have hb := nth_bd hr h0 h1
  have hh : hasB x0 y0 x1 y1 (nthX x0 y0 x1 y1 i) (nthY x0 y0 x1 y1 i) = true := by
    rw [nthX, nthY, if_pos h, if_pos h]
    simp only [hasB, Bool.and_eq_true, decide_eq_true_eq, rightB_iff]
    refine ⟨⟨⟨⟨hr, ?_⟩, ?_⟩, ?_⟩, ?_⟩ <;> omega
  refine ⟨hh, ?_⟩
  rw [rankI, if_pos hh, nthX, nthY, if_pos h, if_pos h]
  have e := Int.emod_add_mul_ediv i (x1 - x0 + 1)
  rw [Int.mul_comm] at e
  have e2 : (y0 + i / (x1 - x0 + 1) - y0) * (x1 - x0 + 1) = i / (x1 - x0 + 1) * (x1 - x0 + 1) := by rw [show y0 + i / (x1 - x0 + 1) - y0 = i / (x1 - x0 + 1) from by omega]
  omega
theorem nth_rank {x0 y0 x1 y1 x y : Int} (h : hasB x0 y0 x1 y1 x y = true) : nthB x0 y0 x1 y1 (rankI x0 y0 x1 y1 x y) = true ∧ nthX x0 y0 x1 y1 (rankI x0 y0 x1 y1 x y) = x ∧ nthY x0 y0 x1 y1 (rankI x0 y0 x1 y1 x y) = y := by
  have hh := h
  simp only [hasB, Bool.and_eq_true, decide_eq_true_eq, rightB_iff] at hh
  obtain ⟨⟨⟨⟨hr, h1⟩, h2⟩, h3⟩, h4⟩ := hh
  have hr' := hr
  unfold RightP at hr'
  have e0 : rankI x0 y0 x1 y1 x y = (x - x0) + (y - y0) * (x1 - x0 + 1) := by rw [rankI, if_pos h]; omega
  have em : ((x - x0) + (y - y0) * (x1 - x0 + 1)) % (x1 - x0 + 1) = x - x0 := by rw [Int.add_mul_emod_self_right]; exact Int.emod_eq_of_lt (by omega) (by omega)
  have ed : ((x - x0) + (y - y0) * (x1 - x0 + 1)) / (x1 - x0 + 1) = y - y0 := by rw [Int.add_mul_ediv_right _ _ (by omega), Int.ediv_eq_zero_of_lt (by omega) (by omega)]; omega
  have hn : nthB x0 y0 x1 y1 (rankI x0 y0 x1 y1 x y) = true := by
    rw [nthB, insideB_iff, areaI, if_pos hr, e0]
    have a := Int.mul_nonneg (a := y - y0) (b := x1 - x0 + 1) (by omega) (by omega)
    have b : (y - y0) * (x1 - x0 + 1) ≤ (y1 - y0) * (x1 - x0 + 1) := Int.mul_le_mul_of_nonneg_right (by omega) (by omega)
    have d : (x1 - x0 + 1) * (y1 - y0 + 1) = (y1 - y0) * (x1 - x0 + 1) + (x1 - x0 + 1) := by rw [Int.mul_comm, Int.add_mul, Int.one_mul]
    omega
  refine ⟨hn, ?_, ?_⟩
  · rw [nthX, if_pos hn, e0, em]; omega
  · rw [nthY, if_pos hn, e0, ed]; omega

theorem nth_eq {x0 y0 x1 y1 i : Int} {X Y : Int} {p : Bool} (w : World) (hp : nthB x0 y0 x1 y1 i = p) (hX : nthX x0 y0 x1 y1 i = X) (hY : nthY x0 y0 x1 y1 i = Y) :
    Calls Try.prog 39 #[.agg #[.int .i64 x0, .int .i64 y0, .int .i64 x1, .int .i64 y1], .int .i64 i] w fun r w' => r = .returned (.tuple #[.agg #[.int .i64 X, .int .i64 Y], .bool p]) ∧ Below w.heap.size w w' := by
  subst hp hX hY
  exact nth_any _ _ _ _ _ w

theorem rank_eq {x0 y0 x1 y1 x y : Int} {n : Int} {p : Bool} (w : World) (hn : rankI x0 y0 x1 y1 x y = n) (hp : hasB x0 y0 x1 y1 x y = p) :
    Calls Try.prog 40 #[.agg #[.int .i64 x0, .int .i64 y0, .int .i64 x1, .int .i64 y1], .agg #[.int .i64 x, .int .i64 y]] w fun r w' => r = .returned (.tuple #[.int .i64 n, .bool p]) ∧ Below w.heap.size w w' := by
  subst hp hn
  exact rank_any _ _ _ _ _ _ w

theorem area_eq {x0 y0 x1 y1 : Int} {n : Int} (w : World) (hn : areaI x0 y0 x1 y1 = n) :
    Calls Try.prog 25 #[.agg #[.int .i64 x0, .int .i64 y0, .int .i64 x1, .int .i64 y1]] w fun r w' => r = .returned (.int .i64 n) ∧ Below w.heap.size w w' := by
  subst hn
  exact area_any _ _ _ _ w

set_option maxHeartbeats 4000000 in
theorem rows_nn (x0 y0 x1 y1 i cx cy s : Int) (w : World) (hp : Hid (nthB x0 y0 x1 y1 i = false ∧ nthX x0 y0 x1 y1 i = 0 ∧ nthY x0 y0 x1 y1 i = 0)) (hn : Hid (rankI x0 y0 x1 y1 cx cy = 0 ∧ hasB x0 y0 x1 y1 cx cy = false ∧ True)) (hs : Hid (areaI x0 y0 x1 y1 = s))   (hi : ¬ 0 ≤ i) :
    Calls Try.prog 9 #[.agg #[.int .i64 x0, .int .i64 y0, .int .i64 x1, .int .i64 y1], .int .i64 i, .agg #[.int .i64 cx, .int .i64 cy]] w fun e w' => e = .returned (.bool true) ∧ Below w.heap.size w w' := by
  go_enter Try.func9, Try.ntmps9
  go_wp2_with fail
  refine (awake7_any _).mono ?_
  rintro e W1 ⟨rfl, i1b⟩
  obtain ⟨i1c, i1f, i1l⟩ := rules i1b (Nat.le_refl _); have i1z0 := i1l (w.heap.size) (by first | (simp; done) | assumption | (simp; omega)); have i1z1 := i1l (w.heap.size + 1) (by first | (simp; done) | assumption | (simp; omega))
  clear i1l
  go_wp2_with fail
  refine (nth_eq _ hp.out.1 hp.out.2.1 hp.out.2.2).mono ?_
  rintro e W2 ⟨rfl, i2b⟩
  obtain ⟨i2c, i2f, i2l⟩ := rules i2b (Nat.le_refl _); have i2z0 := i2l (w.heap.size) (by first | (simp; done) | assumption | (simp; omega)); have i2z1 := i2l (w.heap.size + 1) (by first | (simp; done) | assumption | (simp; omega))
  clear i2l
  go_wp2_with fail
  refine (rank_eq _ hn.out.1 hn.out.2.1).mono ?_
  rintro e W3 ⟨rfl, i3b⟩
  obtain ⟨i3c, i3f, i3l⟩ := rules i3b (Nat.le_refl _); have i3z0 := i3l (w.heap.size) (by first | (simp; done) | assumption | (simp; omega)); have i3z1 := i3l (w.heap.size + 1) (by first | (simp; done) | assumption | (simp; omega)); have i3y0 := i3l (W2.heap.size) (by first | (simp; done) | assumption | (simp; omega))
  clear i3l
  go_wp2_with (first | (go_at_call 25; with_reducible refine (area_eq _ hs.out).mono ?_; rintro e W4 ⟨rfl, i4b⟩; obtain ⟨i4c, i4f, i4l⟩ := rules i4b (Nat.le_refl _); have i4z0 := i4l (w.heap.size) (by first | (simp; done) | assumption | (simp; omega)); have i4z1 := i4l (w.heap.size + 1) (by first | (simp; done) | assumption | (simp; omega)); have i4y0 := i4l (W2.heap.size) (by first | (simp; done) | assumption | (simp; omega)); clear i4l) | (go_at_call 27; with_reducible refine (has_eq _ hn.out.2.1).mono ?_; rintro e W5 ⟨rfl, i5b⟩; obtain ⟨i5c, i5f, i5l⟩ := rules i5b (Nat.le_refl _); have i5z0 := i5l (w.heap.size) (by first | (simp; done) | assumption | (simp; omega)); have i5z1 := i5l (w.heap.size + 1) (by first | (simp; done) | assumption | (simp; omega)); have i5y0 := i5l (W2.heap.size) (by first | (simp; done) | assumption | (simp; omega)); clear i5l) | (go_at_call 99999; with_reducible refine (rank_eq _ hn.out.1 hn.out.2.1).mono ?_; rintro e W6 ⟨rfl, i6b⟩; obtain ⟨i6c, i6f, i6l⟩ := rules i6b (Nat.le_refl _); have i6z0 := i6l (w.heap.size) (by first | (simp; done) | assumption | (simp; omega)); have i6z1 := i6l (w.heap.size + 1) (by first | (simp; done) | assumption | (simp; omega)); have i6y0 := i6l (W2.heap.size) (by first | (simp; done) | assumption | (simp; omega)); clear i6l) | (go_at_call 99999; with_reducible refine (nth_eq _ hp.out.1 hp.out.2.1 hp.out.2.2).mono ?_; rintro e W7 ⟨rfl, i7b⟩; obtain ⟨i7c, i7f, i7l⟩ := rules i7b (Nat.le_refl _); have i7z0 := i7l (w.heap.size) (by first | (simp; done) | assumption | (simp; omega)); have i7z1 := i7l (w.heap.size + 1) (by first | (simp; done) | assumption | (simp; omega)); clear i7l))
  go_ret
  exact ⟨rfl, (by repeat (first | with_reducible exact Below.refl _ _ | with_reducible assumption | with_reducible refine below_alloc ?_ _ | with_reducible refine below_draw ?_ | ((with_reducible apply bset); (focus (first | exact Nat.le_refl _ | (simp; done) | (simp; omega)))) | ((with_reducible apply bcall); assumption; (focus (first | exact Nat.le_refl _ | (simp; done) | (simp; omega))))))⟩
set_option maxHeartbeats 4000000 in
theorem rows_ny (x0 y0 x1 y1 i cx cy n s : Int) (w : World) (hp : Hid (nthB x0 y0 x1 y1 i = false ∧ nthX x0 y0 x1 y1 i = 0 ∧ nthY x0 y0 x1 y1 i = 0)) (hn : Hid (rankI x0 y0 x1 y1 cx cy = n ∧ hasB x0 y0 x1 y1 cx cy = true ∧ True)) (hs : Hid (areaI x0 y0 x1 y1 = s)) (hm : Hid (nthB x0 y0 x1 y1 n = true ∧ nthX x0 y0 x1 y1 n = cx ∧ nthY x0 y0 x1 y1 n = cy))  (hi : ¬ 0 ≤ i) :
    Calls Try.prog 9 #[.agg #[.int .i64 x0, .int .i64 y0, .int .i64 x1, .int .i64 y1], .int .i64 i, .agg #[.int .i64 cx, .int .i64 cy]] w fun e w' => e = .returned (.bool true) ∧ Below w.heap.size w w' := by
  go_enter Try.func9, Try.ntmps9
  go_wp2_with fail
  refine (awake7_any _).mono ?_
  rintro e W1 ⟨rfl, i1b⟩
  obtain ⟨i1c, i1f, i1l⟩ := rules i1b (Nat.le_refl _); have i1z0 := i1l (w.heap.size) (by first | (simp; done) | assumption | (simp; omega)); have i1z1 := i1l (w.heap.size + 1) (by first | (simp; done) | assumption | (simp; omega))
  clear i1l
  go_wp2_with fail
  refine (nth_eq _ hp.out.1 hp.out.2.1 hp.out.2.2).mono ?_
  rintro e W2 ⟨rfl, i2b⟩
  obtain ⟨i2c, i2f, i2l⟩ := rules i2b (Nat.le_refl _); have i2z0 := i2l (w.heap.size) (by first | (simp; done) | assumption | (simp; omega)); have i2z1 := i2l (w.heap.size + 1) (by first | (simp; done) | assumption | (simp; omega))
  clear i2l
  go_wp2_with fail
  refine (rank_eq _ hn.out.1 hn.out.2.1).mono ?_
  rintro e W3 ⟨rfl, i3b⟩
  obtain ⟨i3c, i3f, i3l⟩ := rules i3b (Nat.le_refl _); have i3z0 := i3l (w.heap.size) (by first | (simp; done) | assumption | (simp; omega)); have i3z1 := i3l (w.heap.size + 1) (by first | (simp; done) | assumption | (simp; omega)); have i3y0 := i3l (W2.heap.size) (by first | (simp; done) | assumption | (simp; omega))
  clear i3l
  go_wp2_with (first | (go_at_call 25; with_reducible refine (area_eq _ hs.out).mono ?_; rintro e W4 ⟨rfl, i4b⟩; obtain ⟨i4c, i4f, i4l⟩ := rules i4b (Nat.le_refl _); have i4z0 := i4l (w.heap.size) (by first | (simp; done) | assumption | (simp; omega)); have i4z1 := i4l (w.heap.size + 1) (by first | (simp; done) | assumption | (simp; omega)); have i4y0 := i4l (W2.heap.size) (by first | (simp; done) | assumption | (simp; omega)); clear i4l) | (go_at_call 27; with_reducible refine (has_eq _ hn.out.2.1).mono ?_; rintro e W5 ⟨rfl, i5b⟩; obtain ⟨i5c, i5f, i5l⟩ := rules i5b (Nat.le_refl _); have i5z0 := i5l (w.heap.size) (by first | (simp; done) | assumption | (simp; omega)); have i5z1 := i5l (w.heap.size + 1) (by first | (simp; done) | assumption | (simp; omega)); have i5y0 := i5l (W2.heap.size) (by first | (simp; done) | assumption | (simp; omega)); clear i5l) | (go_at_call 99999; with_reducible refine (rank_eq _ hn.out.1 hn.out.2.1).mono ?_; rintro e W6 ⟨rfl, i6b⟩; obtain ⟨i6c, i6f, i6l⟩ := rules i6b (Nat.le_refl _); have i6z0 := i6l (w.heap.size) (by first | (simp; done) | assumption | (simp; omega)); have i6z1 := i6l (w.heap.size + 1) (by first | (simp; done) | assumption | (simp; omega)); have i6y0 := i6l (W2.heap.size) (by first | (simp; done) | assumption | (simp; omega)); clear i6l) | (go_at_call 39; with_reducible refine (nth_eq _ hm.out.1 hm.out.2.1 hm.out.2.2).mono ?_; rintro e W7 ⟨rfl, i7b⟩; obtain ⟨i7c, i7f, i7l⟩ := rules i7b (Nat.le_refl _); have i7z0 := i7l (w.heap.size) (by first | (simp; done) | assumption | (simp; omega)); have i7z1 := i7l (w.heap.size + 1) (by first | (simp; done) | assumption | (simp; omega)); clear i7l))
  go_ret
  exact ⟨rfl, (by repeat (first | with_reducible exact Below.refl _ _ | with_reducible assumption | with_reducible refine below_alloc ?_ _ | with_reducible refine below_draw ?_ | ((with_reducible apply bset); (focus (first | exact Nat.le_refl _ | (simp; done) | (simp; omega)))) | ((with_reducible apply bcall); assumption; (focus (first | exact Nat.le_refl _ | (simp; done) | (simp; omega))))))⟩
set_option maxHeartbeats 4000000 in
theorem rows_gn (x0 y0 x1 y1 i cx cy s : Int) (w : World) (hp : Hid (nthB x0 y0 x1 y1 i = false ∧ nthX x0 y0 x1 y1 i = 0 ∧ nthY x0 y0 x1 y1 i = 0)) (hn : Hid (rankI x0 y0 x1 y1 cx cy = 0 ∧ hasB x0 y0 x1 y1 cx cy = false ∧ True)) (hs : Hid (areaI x0 y0 x1 y1 = s))   (hi : 0 ≤ i) (hi1 : s ≤ i) :
    Calls Try.prog 9 #[.agg #[.int .i64 x0, .int .i64 y0, .int .i64 x1, .int .i64 y1], .int .i64 i, .agg #[.int .i64 cx, .int .i64 cy]] w fun e w' => e = .returned (.bool true) ∧ Below w.heap.size w w' := by
  go_enter Try.func9, Try.ntmps9
  go_wp2_with fail
  refine (awake7_any _).mono ?_
  rintro e W1 ⟨rfl, i1b⟩
  obtain ⟨i1c, i1f, i1l⟩ := rules i1b (Nat.le_refl _); have i1z0 := i1l (w.heap.size) (by first | (simp; done) | assumption | (simp; omega)); have i1z1 := i1l (w.heap.size + 1) (by first | (simp; done) | assumption | (simp; omega))
  clear i1l
  go_wp2_with fail
  refine (nth_eq _ hp.out.1 hp.out.2.1 hp.out.2.2).mono ?_
  rintro e W2 ⟨rfl, i2b⟩
  obtain ⟨i2c, i2f, i2l⟩ := rules i2b (Nat.le_refl _); have i2z0 := i2l (w.heap.size) (by first | (simp; done) | assumption | (simp; omega)); have i2z1 := i2l (w.heap.size + 1) (by first | (simp; done) | assumption | (simp; omega))
  clear i2l
  go_wp2_with fail
  refine (rank_eq _ hn.out.1 hn.out.2.1).mono ?_
  rintro e W3 ⟨rfl, i3b⟩
  obtain ⟨i3c, i3f, i3l⟩ := rules i3b (Nat.le_refl _); have i3z0 := i3l (w.heap.size) (by first | (simp; done) | assumption | (simp; omega)); have i3z1 := i3l (w.heap.size + 1) (by first | (simp; done) | assumption | (simp; omega)); have i3y0 := i3l (W2.heap.size) (by first | (simp; done) | assumption | (simp; omega))
  clear i3l
  go_wp2_with (first | (go_at_call 25; with_reducible refine (area_eq _ hs.out).mono ?_; rintro e W4 ⟨rfl, i4b⟩; obtain ⟨i4c, i4f, i4l⟩ := rules i4b (Nat.le_refl _); have i4z0 := i4l (w.heap.size) (by first | (simp; done) | assumption | (simp; omega)); have i4z1 := i4l (w.heap.size + 1) (by first | (simp; done) | assumption | (simp; omega)); have i4y0 := i4l (W2.heap.size) (by first | (simp; done) | assumption | (simp; omega)); clear i4l) | (go_at_call 27; with_reducible refine (has_eq _ hn.out.2.1).mono ?_; rintro e W5 ⟨rfl, i5b⟩; obtain ⟨i5c, i5f, i5l⟩ := rules i5b (Nat.le_refl _); have i5z0 := i5l (w.heap.size) (by first | (simp; done) | assumption | (simp; omega)); have i5z1 := i5l (w.heap.size + 1) (by first | (simp; done) | assumption | (simp; omega)); have i5y0 := i5l (W2.heap.size) (by first | (simp; done) | assumption | (simp; omega)); clear i5l) | (go_at_call 99999; with_reducible refine (rank_eq _ hn.out.1 hn.out.2.1).mono ?_; rintro e W6 ⟨rfl, i6b⟩; obtain ⟨i6c, i6f, i6l⟩ := rules i6b (Nat.le_refl _); have i6z0 := i6l (w.heap.size) (by first | (simp; done) | assumption | (simp; omega)); have i6z1 := i6l (w.heap.size + 1) (by first | (simp; done) | assumption | (simp; omega)); have i6y0 := i6l (W2.heap.size) (by first | (simp; done) | assumption | (simp; omega)); clear i6l) | (go_at_call 99999; with_reducible refine (nth_eq _ hp.out.1 hp.out.2.1 hp.out.2.2).mono ?_; rintro e W7 ⟨rfl, i7b⟩; obtain ⟨i7c, i7f, i7l⟩ := rules i7b (Nat.le_refl _); have i7z0 := i7l (w.heap.size) (by first | (simp; done) | assumption | (simp; omega)); have i7z1 := i7l (w.heap.size + 1) (by first | (simp; done) | assumption | (simp; omega)); clear i7l))
  go_ret
  exact ⟨rfl, (by repeat (first | with_reducible exact Below.refl _ _ | with_reducible assumption | with_reducible refine below_alloc ?_ _ | with_reducible refine below_draw ?_ | ((with_reducible apply bset); (focus (first | exact Nat.le_refl _ | (simp; done) | (simp; omega)))) | ((with_reducible apply bcall); assumption; (focus (first | exact Nat.le_refl _ | (simp; done) | (simp; omega))))))⟩
set_option maxHeartbeats 4000000 in
theorem rows_gy (x0 y0 x1 y1 i cx cy n s : Int) (w : World) (hp : Hid (nthB x0 y0 x1 y1 i = false ∧ nthX x0 y0 x1 y1 i = 0 ∧ nthY x0 y0 x1 y1 i = 0)) (hn : Hid (rankI x0 y0 x1 y1 cx cy = n ∧ hasB x0 y0 x1 y1 cx cy = true ∧ True)) (hs : Hid (areaI x0 y0 x1 y1 = s)) (hm : Hid (nthB x0 y0 x1 y1 n = true ∧ nthX x0 y0 x1 y1 n = cx ∧ nthY x0 y0 x1 y1 n = cy))  (hi : 0 ≤ i) (hi1 : s ≤ i) :
    Calls Try.prog 9 #[.agg #[.int .i64 x0, .int .i64 y0, .int .i64 x1, .int .i64 y1], .int .i64 i, .agg #[.int .i64 cx, .int .i64 cy]] w fun e w' => e = .returned (.bool true) ∧ Below w.heap.size w w' := by
  go_enter Try.func9, Try.ntmps9
  go_wp2_with fail
  refine (awake7_any _).mono ?_
  rintro e W1 ⟨rfl, i1b⟩
  obtain ⟨i1c, i1f, i1l⟩ := rules i1b (Nat.le_refl _); have i1z0 := i1l (w.heap.size) (by first | (simp; done) | assumption | (simp; omega)); have i1z1 := i1l (w.heap.size + 1) (by first | (simp; done) | assumption | (simp; omega))
  clear i1l
  go_wp2_with fail
  refine (nth_eq _ hp.out.1 hp.out.2.1 hp.out.2.2).mono ?_
  rintro e W2 ⟨rfl, i2b⟩
  obtain ⟨i2c, i2f, i2l⟩ := rules i2b (Nat.le_refl _); have i2z0 := i2l (w.heap.size) (by first | (simp; done) | assumption | (simp; omega)); have i2z1 := i2l (w.heap.size + 1) (by first | (simp; done) | assumption | (simp; omega))
  clear i2l
  go_wp2_with fail
  refine (rank_eq _ hn.out.1 hn.out.2.1).mono ?_
  rintro e W3 ⟨rfl, i3b⟩
  obtain ⟨i3c, i3f, i3l⟩ := rules i3b (Nat.le_refl _); have i3z0 := i3l (w.heap.size) (by first | (simp; done) | assumption | (simp; omega)); have i3z1 := i3l (w.heap.size + 1) (by first | (simp; done) | assumption | (simp; omega)); have i3y0 := i3l (W2.heap.size) (by first | (simp; done) | assumption | (simp; omega))
  clear i3l
  go_wp2_with (first | (go_at_call 25; with_reducible refine (area_eq _ hs.out).mono ?_; rintro e W4 ⟨rfl, i4b⟩; obtain ⟨i4c, i4f, i4l⟩ := rules i4b (Nat.le_refl _); have i4z0 := i4l (w.heap.size) (by first | (simp; done) | assumption | (simp; omega)); have i4z1 := i4l (w.heap.size + 1) (by first | (simp; done) | assumption | (simp; omega)); have i4y0 := i4l (W2.heap.size) (by first | (simp; done) | assumption | (simp; omega)); clear i4l) | (go_at_call 27; with_reducible refine (has_eq _ hn.out.2.1).mono ?_; rintro e W5 ⟨rfl, i5b⟩; obtain ⟨i5c, i5f, i5l⟩ := rules i5b (Nat.le_refl _); have i5z0 := i5l (w.heap.size) (by first | (simp; done) | assumption | (simp; omega)); have i5z1 := i5l (w.heap.size + 1) (by first | (simp; done) | assumption | (simp; omega)); have i5y0 := i5l (W2.heap.size) (by first | (simp; done) | assumption | (simp; omega)); clear i5l) | (go_at_call 99999; with_reducible refine (rank_eq _ hn.out.1 hn.out.2.1).mono ?_; rintro e W6 ⟨rfl, i6b⟩; obtain ⟨i6c, i6f, i6l⟩ := rules i6b (Nat.le_refl _); have i6z0 := i6l (w.heap.size) (by first | (simp; done) | assumption | (simp; omega)); have i6z1 := i6l (w.heap.size + 1) (by first | (simp; done) | assumption | (simp; omega)); have i6y0 := i6l (W2.heap.size) (by first | (simp; done) | assumption | (simp; omega)); clear i6l) | (go_at_call 39; with_reducible refine (nth_eq _ hm.out.1 hm.out.2.1 hm.out.2.2).mono ?_; rintro e W7 ⟨rfl, i7b⟩; obtain ⟨i7c, i7f, i7l⟩ := rules i7b (Nat.le_refl _); have i7z0 := i7l (w.heap.size) (by first | (simp; done) | assumption | (simp; omega)); have i7z1 := i7l (w.heap.size + 1) (by first | (simp; done) | assumption | (simp; omega)); clear i7l))
  go_ret
  exact ⟨rfl, (by repeat (first | with_reducible exact Below.refl _ _ | with_reducible assumption | with_reducible refine below_alloc ?_ _ | with_reducible refine below_draw ?_ | ((with_reducible apply bset); (focus (first | exact Nat.le_refl _ | (simp; done) | (simp; omega)))) | ((with_reducible apply bcall); assumption; (focus (first | exact Nat.le_refl _ | (simp; done) | (simp; omega))))))⟩
set_option maxHeartbeats 4000000 in
theorem rows_yn (x0 y0 x1 y1 i cx cy s : Int) (w : World) (hp : Hid (nthB x0 y0 x1 y1 i = true ∧ nthX x0 y0 x1 y1 i = (x0 + i % (x1 - x0 + 1)) ∧ nthY x0 y0 x1 y1 i = (y0 + i / (x1 - x0 + 1)))) (hn : Hid (rankI x0 y0 x1 y1 cx cy = 0 ∧ hasB x0 y0 x1 y1 cx cy = false ∧ True)) (hs : Hid (areaI x0 y0 x1 y1 = s))  (hk : Hid (rankI x0 y0 x1 y1 (x0 + i % (x1 - x0 + 1)) (y0 + i / (x1 - x0 + 1)) = i ∧ hasB x0 y0 x1 y1 (x0 + i % (x1 - x0 + 1)) (y0 + i / (x1 - x0 + 1)) = true)) (hd1 : wrap64 (i.tdiv (x1 - x0 + 1)) = i / (x1 - x0 + 1)) (hd2 : wrap64 (y0 + i / (x1 - x0 + 1)) = y0 + i / (x1 - x0 + 1)) (hr1 : 0 ≤ x0) (hr2 : x0 ≤ x1) (hr3 : x1 < 1024) (hr4 : 0 ≤ y0) (hr5 : y1 < 1024) (hb1 : 0 ≤ i % (x1 - x0 + 1)) (hb2 : i % (x1 - x0 + 1) ≤ x1 - x0) (hi : 0 ≤ i) (hi1 : i < s) :
    Calls Try.prog 9 #[.agg #[.int .i64 x0, .int .i64 y0, .int .i64 x1, .int .i64 y1], .int .i64 i, .agg #[.int .i64 cx, .int .i64 cy]] w fun e w' => e = .returned (.bool true) ∧ Below w.heap.size w w' := by
  go_enter Try.func9, Try.ntmps9
  go_wp2_with fail
  refine (awake7_any _).mono ?_
  rintro e W1 ⟨rfl, i1b⟩
  obtain ⟨i1c, i1f, i1l⟩ := rules i1b (Nat.le_refl _); have i1z0 := i1l (w.heap.size) (by first | (simp; done) | assumption | (simp; omega)); have i1z1 := i1l (w.heap.size + 1) (by first | (simp; done) | assumption | (simp; omega))
  clear i1l
  go_wp2_with fail
  refine (nth_eq _ hp.out.1 hp.out.2.1 hp.out.2.2).mono ?_
  rintro e W2 ⟨rfl, i2b⟩
  obtain ⟨i2c, i2f, i2l⟩ := rules i2b (Nat.le_refl _); have i2z0 := i2l (w.heap.size) (by first | (simp; done) | assumption | (simp; omega)); have i2z1 := i2l (w.heap.size + 1) (by first | (simp; done) | assumption | (simp; omega))
  clear i2l
  go_wp2_with fail
  refine (rank_eq _ hn.out.1 hn.out.2.1).mono ?_
  rintro e W3 ⟨rfl, i3b⟩
  obtain ⟨i3c, i3f, i3l⟩ := rules i3b (Nat.le_refl _); have i3z0 := i3l (w.heap.size) (by first | (simp; done) | assumption | (simp; omega)); have i3z1 := i3l (w.heap.size + 1) (by first | (simp; done) | assumption | (simp; omega)); have i3y0 := i3l (W2.heap.size) (by first | (simp; done) | assumption | (simp; omega))
  clear i3l
  go_wp2_with (first | (go_at_call 25; with_reducible refine (area_eq _ hs.out).mono ?_; rintro e W4 ⟨rfl, i4b⟩; obtain ⟨i4c, i4f, i4l⟩ := rules i4b (Nat.le_refl _); have i4z0 := i4l (w.heap.size) (by first | (simp; done) | assumption | (simp; omega)); have i4z1 := i4l (w.heap.size + 1) (by first | (simp; done) | assumption | (simp; omega)); have i4y0 := i4l (W2.heap.size) (by first | (simp; done) | assumption | (simp; omega)); clear i4l) | (go_at_call 27; with_reducible refine (has_eq _ hn.out.2.1).mono ?_; rintro e W5 ⟨rfl, i5b⟩; obtain ⟨i5c, i5f, i5l⟩ := rules i5b (Nat.le_refl _); have i5z0 := i5l (w.heap.size) (by first | (simp; done) | assumption | (simp; omega)); have i5z1 := i5l (w.heap.size + 1) (by first | (simp; done) | assumption | (simp; omega)); have i5y0 := i5l (W2.heap.size) (by first | (simp; done) | assumption | (simp; omega)); clear i5l) | (go_at_call 40; with_reducible refine (rank_eq _ hk.out.1 hk.out.2).mono ?_; rintro e W6 ⟨rfl, i6b⟩; obtain ⟨i6c, i6f, i6l⟩ := rules i6b (Nat.le_refl _); have i6z0 := i6l (w.heap.size) (by first | (simp; done) | assumption | (simp; omega)); have i6z1 := i6l (w.heap.size + 1) (by first | (simp; done) | assumption | (simp; omega)); have i6y0 := i6l (W2.heap.size) (by first | (simp; done) | assumption | (simp; omega)); clear i6l) | (go_at_call 99999; with_reducible refine (nth_eq _ hp.out.1 hp.out.2.1 hp.out.2.2).mono ?_; rintro e W7 ⟨rfl, i7b⟩; obtain ⟨i7c, i7f, i7l⟩ := rules i7b (Nat.le_refl _); have i7z0 := i7l (w.heap.size) (by first | (simp; done) | assumption | (simp; omega)); have i7z1 := i7l (w.heap.size + 1) (by first | (simp; done) | assumption | (simp; omega)); clear i7l))
  refine wp_region_over (by kernel_rfl) (by kernel_rfl) ?_
  repeat (go_big_quiet_step ((fail)))
  refine wpQuiet_nil ?_
  intro W8 W8b
  obtain ⟨W8c, W8f, W8l⟩ := rules W8b (Nat.le_refl _); have W8z0 := W8l (w.heap.size) (by first | (simp; done) | assumption | (simp; omega)); have W8z1 := W8l (w.heap.size + 1) (by first | (simp; done) | assumption | (simp; omega)); clear W8l
  go_wp2_with (first | (go_at_call 25; with_reducible refine (area_eq _ hs.out).mono ?_; rintro e W4 ⟨rfl, i4b⟩; obtain ⟨i4c, i4f, i4l⟩ := rules i4b (Nat.le_refl _); have i4z0 := i4l (w.heap.size) (by first | (simp; done) | assumption | (simp; omega)); have i4z1 := i4l (w.heap.size + 1) (by first | (simp; done) | assumption | (simp; omega)); have i4y0 := i4l (W2.heap.size) (by first | (simp; done) | assumption | (simp; omega)); clear i4l) | (go_at_call 27; with_reducible refine (has_eq _ hn.out.2.1).mono ?_; rintro e W5 ⟨rfl, i5b⟩; obtain ⟨i5c, i5f, i5l⟩ := rules i5b (Nat.le_refl _); have i5z0 := i5l (w.heap.size) (by first | (simp; done) | assumption | (simp; omega)); have i5z1 := i5l (w.heap.size + 1) (by first | (simp; done) | assumption | (simp; omega)); have i5y0 := i5l (W2.heap.size) (by first | (simp; done) | assumption | (simp; omega)); clear i5l) | (go_at_call 40; with_reducible refine (rank_eq _ hk.out.1 hk.out.2).mono ?_; rintro e W6 ⟨rfl, i6b⟩; obtain ⟨i6c, i6f, i6l⟩ := rules i6b (Nat.le_refl _); have i6z0 := i6l (w.heap.size) (by first | (simp; done) | assumption | (simp; omega)); have i6z1 := i6l (w.heap.size + 1) (by first | (simp; done) | assumption | (simp; omega)); have i6y0 := i6l (W2.heap.size) (by first | (simp; done) | assumption | (simp; omega)); clear i6l) | (go_at_call 99999; with_reducible refine (nth_eq _ hp.out.1 hp.out.2.1 hp.out.2.2).mono ?_; rintro e W7 ⟨rfl, i7b⟩; obtain ⟨i7c, i7f, i7l⟩ := rules i7b (Nat.le_refl _); have i7z0 := i7l (w.heap.size) (by first | (simp; done) | assumption | (simp; omega)); have i7z1 := i7l (w.heap.size + 1) (by first | (simp; done) | assumption | (simp; omega)); clear i7l))
  go_ret
  exact ⟨rfl, (by repeat (first | with_reducible exact Below.refl _ _ | with_reducible assumption | with_reducible refine below_alloc ?_ _ | with_reducible refine below_draw ?_ | ((with_reducible apply bset); (focus (first | exact Nat.le_refl _ | (simp; done) | (simp; omega)))) | ((with_reducible apply bcall); assumption; (focus (first | exact Nat.le_refl _ | (simp; done) | (simp; omega))))))⟩
set_option maxHeartbeats 4000000 in
theorem rows_yy (x0 y0 x1 y1 i cx cy n s : Int) (w : World) (hp : Hid (nthB x0 y0 x1 y1 i = true ∧ nthX x0 y0 x1 y1 i = (x0 + i % (x1 - x0 + 1)) ∧ nthY x0 y0 x1 y1 i = (y0 + i / (x1 - x0 + 1)))) (hn : Hid (rankI x0 y0 x1 y1 cx cy = n ∧ hasB x0 y0 x1 y1 cx cy = true ∧ True)) (hs : Hid (areaI x0 y0 x1 y1 = s)) (hm : Hid (nthB x0 y0 x1 y1 n = true ∧ nthX x0 y0 x1 y1 n = cx ∧ nthY x0 y0 x1 y1 n = cy)) (hk : Hid (rankI x0 y0 x1 y1 (x0 + i % (x1 - x0 + 1)) (y0 + i / (x1 - x0 + 1)) = i ∧ hasB x0 y0 x1 y1 (x0 + i % (x1 - x0 + 1)) (y0 + i / (x1 - x0 + 1)) = true)) (hd1 : wrap64 (i.tdiv (x1 - x0 + 1)) = i / (x1 - x0 + 1)) (hd2 : wrap64 (y0 + i / (x1 - x0 + 1)) = y0 + i / (x1 - x0 + 1)) (hr1 : 0 ≤ x0) (hr2 : x0 ≤ x1) (hr3 : x1 < 1024) (hr4 : 0 ≤ y0) (hr5 : y1 < 1024) (hb1 : 0 ≤ i % (x1 - x0 + 1)) (hb2 : i % (x1 - x0 + 1) ≤ x1 - x0) (hi : 0 ≤ i) (hi1 : i < s) :
    Calls Try.prog 9 #[.agg #[.int .i64 x0, .int .i64 y0, .int .i64 x1, .int .i64 y1], .int .i64 i, .agg #[.int .i64 cx, .int .i64 cy]] w fun e w' => e = .returned (.bool true) ∧ Below w.heap.size w w' := by
  go_enter Try.func9, Try.ntmps9
  go_wp2_with fail
  refine (awake7_any _).mono ?_
  rintro e W1 ⟨rfl, i1b⟩
  obtain ⟨i1c, i1f, i1l⟩ := rules i1b (Nat.le_refl _); have i1z0 := i1l (w.heap.size) (by first | (simp; done) | assumption | (simp; omega)); have i1z1 := i1l (w.heap.size + 1) (by first | (simp; done) | assumption | (simp; omega))
  clear i1l
  go_wp2_with fail
  refine (nth_eq _ hp.out.1 hp.out.2.1 hp.out.2.2).mono ?_
  rintro e W2 ⟨rfl, i2b⟩
  obtain ⟨i2c, i2f, i2l⟩ := rules i2b (Nat.le_refl _); have i2z0 := i2l (w.heap.size) (by first | (simp; done) | assumption | (simp; omega)); have i2z1 := i2l (w.heap.size + 1) (by first | (simp; done) | assumption | (simp; omega))
  clear i2l
  go_wp2_with fail
  refine (rank_eq _ hn.out.1 hn.out.2.1).mono ?_
  rintro e W3 ⟨rfl, i3b⟩
  obtain ⟨i3c, i3f, i3l⟩ := rules i3b (Nat.le_refl _); have i3z0 := i3l (w.heap.size) (by first | (simp; done) | assumption | (simp; omega)); have i3z1 := i3l (w.heap.size + 1) (by first | (simp; done) | assumption | (simp; omega)); have i3y0 := i3l (W2.heap.size) (by first | (simp; done) | assumption | (simp; omega))
  clear i3l
  go_wp2_with (first | (go_at_call 25; with_reducible refine (area_eq _ hs.out).mono ?_; rintro e W4 ⟨rfl, i4b⟩; obtain ⟨i4c, i4f, i4l⟩ := rules i4b (Nat.le_refl _); have i4z0 := i4l (w.heap.size) (by first | (simp; done) | assumption | (simp; omega)); have i4z1 := i4l (w.heap.size + 1) (by first | (simp; done) | assumption | (simp; omega)); have i4y0 := i4l (W2.heap.size) (by first | (simp; done) | assumption | (simp; omega)); clear i4l) | (go_at_call 27; with_reducible refine (has_eq _ hn.out.2.1).mono ?_; rintro e W5 ⟨rfl, i5b⟩; obtain ⟨i5c, i5f, i5l⟩ := rules i5b (Nat.le_refl _); have i5z0 := i5l (w.heap.size) (by first | (simp; done) | assumption | (simp; omega)); have i5z1 := i5l (w.heap.size + 1) (by first | (simp; done) | assumption | (simp; omega)); have i5y0 := i5l (W2.heap.size) (by first | (simp; done) | assumption | (simp; omega)); clear i5l) | (go_at_call 40; with_reducible refine (rank_eq _ hk.out.1 hk.out.2).mono ?_; rintro e W6 ⟨rfl, i6b⟩; obtain ⟨i6c, i6f, i6l⟩ := rules i6b (Nat.le_refl _); have i6z0 := i6l (w.heap.size) (by first | (simp; done) | assumption | (simp; omega)); have i6z1 := i6l (w.heap.size + 1) (by first | (simp; done) | assumption | (simp; omega)); have i6y0 := i6l (W2.heap.size) (by first | (simp; done) | assumption | (simp; omega)); clear i6l) | (go_at_call 39; with_reducible refine (nth_eq _ hm.out.1 hm.out.2.1 hm.out.2.2).mono ?_; rintro e W7 ⟨rfl, i7b⟩; obtain ⟨i7c, i7f, i7l⟩ := rules i7b (Nat.le_refl _); have i7z0 := i7l (w.heap.size) (by first | (simp; done) | assumption | (simp; omega)); have i7z1 := i7l (w.heap.size + 1) (by first | (simp; done) | assumption | (simp; omega)); clear i7l))
  refine wp_region_over (by kernel_rfl) (by kernel_rfl) ?_
  repeat (go_big_quiet_step ((fail)))
  refine wpQuiet_nil ?_
  intro W8 W8b
  obtain ⟨W8c, W8f, W8l⟩ := rules W8b (Nat.le_refl _); have W8z0 := W8l (w.heap.size) (by first | (simp; done) | assumption | (simp; omega)); have W8z1 := W8l (w.heap.size + 1) (by first | (simp; done) | assumption | (simp; omega)); clear W8l
  go_wp2_with (first | (go_at_call 25; with_reducible refine (area_eq _ hs.out).mono ?_; rintro e W4 ⟨rfl, i4b⟩; obtain ⟨i4c, i4f, i4l⟩ := rules i4b (Nat.le_refl _); have i4z0 := i4l (w.heap.size) (by first | (simp; done) | assumption | (simp; omega)); have i4z1 := i4l (w.heap.size + 1) (by first | (simp; done) | assumption | (simp; omega)); have i4y0 := i4l (W2.heap.size) (by first | (simp; done) | assumption | (simp; omega)); clear i4l) | (go_at_call 27; with_reducible refine (has_eq _ hn.out.2.1).mono ?_; rintro e W5 ⟨rfl, i5b⟩; obtain ⟨i5c, i5f, i5l⟩ := rules i5b (Nat.le_refl _); have i5z0 := i5l (w.heap.size) (by first | (simp; done) | assumption | (simp; omega)); have i5z1 := i5l (w.heap.size + 1) (by first | (simp; done) | assumption | (simp; omega)); have i5y0 := i5l (W2.heap.size) (by first | (simp; done) | assumption | (simp; omega)); clear i5l) | (go_at_call 40; with_reducible refine (rank_eq _ hk.out.1 hk.out.2).mono ?_; rintro e W6 ⟨rfl, i6b⟩; obtain ⟨i6c, i6f, i6l⟩ := rules i6b (Nat.le_refl _); have i6z0 := i6l (w.heap.size) (by first | (simp; done) | assumption | (simp; omega)); have i6z1 := i6l (w.heap.size + 1) (by first | (simp; done) | assumption | (simp; omega)); have i6y0 := i6l (W2.heap.size) (by first | (simp; done) | assumption | (simp; omega)); clear i6l) | (go_at_call 39; with_reducible refine (nth_eq _ hm.out.1 hm.out.2.1 hm.out.2.2).mono ?_; rintro e W7 ⟨rfl, i7b⟩; obtain ⟨i7c, i7f, i7l⟩ := rules i7b (Nat.le_refl _); have i7z0 := i7l (w.heap.size) (by first | (simp; done) | assumption | (simp; omega)); have i7z1 := i7l (w.heap.size + 1) (by first | (simp; done) | assumption | (simp; omega)); clear i7l))
  go_ret
  exact ⟨rfl, (by repeat (first | with_reducible exact Below.refl _ _ | with_reducible assumption | with_reducible refine below_alloc ?_ _ | with_reducible refine below_draw ?_ | ((with_reducible apply bset); (focus (first | exact Nat.le_refl _ | (simp; done) | (simp; omega)))) | ((with_reducible apply bcall); assumption; (focus (first | exact Nat.le_refl _ | (simp; done) | (simp; omega))))))⟩
theorem rectRows_walk (x0 y0 x1 y1 i cx cy : Int) (w : World) (_a0 : (-9223372036854775808 ≤ x0 ∧ x0 ≤ 9223372036854775807)) (_a1 : (-9223372036854775808 ≤ y0 ∧ y0 ≤ 9223372036854775807)) (_a2 : (-9223372036854775808 ≤ x1 ∧ x1 ≤ 9223372036854775807)) (_a3 : (-9223372036854775808 ≤ y1 ∧ y1 ≤ 9223372036854775807)) (_a4 : (-9223372036854775808 ≤ i ∧ i ≤ 9223372036854775807)) (_a5 : (-9223372036854775808 ≤ cx ∧ cx ≤ 9223372036854775807)) (_a6 : (-9223372036854775808 ≤ cy ∧ cy ≤ 9223372036854775807)) :
    Calls Try.prog 9 #[.agg #[.int .i64 x0, .int .i64 y0, .int .i64 x1, .int .i64 y1], .int .i64 i, .agg #[.int .i64 cx, .int .i64 cy]] w fun e w' => e = .returned (.bool true) ∧ Below w.heap.size w w' := by
  by_cases hp : nthB x0 y0 x1 y1 i = true
  · obtain ⟨h0, h1⟩ := (insideB_iff _ _).1 hp
    have hr := area_right hp
    have hb := nth_bd hr h0 h1
    have hk := has_nth hp
    have hX : nthX x0 y0 x1 y1 i = (x0 + i % (x1 - x0 + 1)) := by rw [nthX, if_pos hp]
    have hY : nthY x0 y0 x1 y1 i = (y0 + i / (x1 - x0 + 1)) := by rw [nthY, if_pos hp]
    rw [hX, hY] at hk
    unfold RightP at hr
    obtain ⟨hr1, hr2, hr3, hr4, hr6, hr5⟩ := hr
    have hd1 : wrap64 (i.tdiv (x1 - x0 + 1)) = i / (x1 - x0 + 1) := by rw [Int.tdiv_eq_ediv_of_nonneg h0, IntWalk.wrap64_in _ ⟨by omega, by omega⟩]
    have hd2 : wrap64 (y0 + i / (x1 - x0 + 1)) = y0 + i / (x1 - x0 + 1) := IntWalk.wrap64_in _ ⟨by omega, by omega⟩
    by_cases hq : hasB x0 y0 x1 y1 cx cy = true
    · exact rows_yy _ _ _ _ _ _ _ _ _ w ⟨hp, hX, hY⟩ ⟨rfl, hq, trivial⟩ rfl (nth_rank hq) ⟨hk.2, hk.1⟩ hd1 hd2 hr1 hr2 hr3 hr4 hr5 hb.1 hb.2.1 h0 h1
    · exact rows_yn _ _ _ _ _ _ _ _ w ⟨hp, hX, hY⟩ ⟨by rw [rankI, if_neg hq], by simpa using hq, trivial⟩ rfl ⟨hk.2, hk.1⟩ hd1 hd2 hr1 hr2 hr3 hr4 hr5 hb.1 hb.2.1 h0 h1
  · have hp' : nthB x0 y0 x1 y1 i = false := by simpa using hp
    have hX : nthX x0 y0 x1 y1 i = 0 := by rw [nthX, if_neg hp]
    have hY : nthY x0 y0 x1 y1 i = 0 := by rw [nthY, if_neg hp]
    have hi := (insideB_not _ _).1 hp'
    by_cases hq : hasB x0 y0 x1 y1 cx cy = true
    · by_cases h0 : 0 ≤ i
      · exact rows_gy _ _ _ _ _ _ _ _ _ w ⟨hp', hX, hY⟩ ⟨rfl, hq, trivial⟩ rfl (nth_rank hq) h0 (by omega)
      · exact rows_ny _ _ _ _ _ _ _ _ _ w ⟨hp', hX, hY⟩ ⟨rfl, hq, trivial⟩ rfl (nth_rank hq) h0
    · have hn : rankI x0 y0 x1 y1 cx cy = 0 := by rw [rankI, if_neg hq]
      have hq' : hasB x0 y0 x1 y1 cx cy = false := by simpa using hq
      by_cases h0 : 0 ≤ i
      · exact rows_gn _ _ _ _ _ _ _ _ w ⟨hp', hX, hY⟩ ⟨hn, hq', trivial⟩ rfl h0 (by omega)
      · exact rows_nn _ _ _ _ _ _ _ _ w ⟨hp', hX, hY⟩ ⟨hn, hq', trivial⟩ rfl h0
end Go.Proofs.Ytcklknlbmbinoaa
