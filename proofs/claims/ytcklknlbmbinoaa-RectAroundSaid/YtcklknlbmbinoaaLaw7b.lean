/- Layer 7: RectJoins. -/
import Derived.Test.YtcklknlbmbinoaaLaw7a
import Derived.Test.YtcklknlbmbinoaaRef7b
set_option linter.unusedVariables false
set_option linter.unusedSimpArgs false
namespace Go.Proofs.Ytcklknlbmbinoaa
open Go.RowKit
/-! ### What both have, and what has both: the plain law -/
theorem meetR_comm (a b : Rt) : meetR a b = meetR b a := by simp only [meetR, mx_eq, mn_eq, Int.max_comm, Int.min_comm]
theorem meetOk_comm (a b : Rt) : meetOk a b ↔ meetOk b a := by simp only [meetOk, meetR_comm a b]; constructor <;> (rintro ⟨h1, h2, h3⟩; exact ⟨h2, h1, h3⟩)
theorem meetV_comm (a b : Rt) : meetV b a = meetV a b := by
  by_cases h : meetOk a b
  · rw [meetV_yes h, meetV_yes ((meetOk_comm a b).1 h), meetR_comm]
  · rw [meetV_no h, meetV_no (fun h' => h ((meetOk_comm a b).2 h'))]
theorem meetB_comm (a b : Rt) : meetB b a = meetB a b := by
  by_cases h : meetOk a b
  · rw [meetB_yes h, meetB_yes ((meetOk_comm a b).1 h)]
  · rw [meetB_no h, meetB_no (fun h' => h ((meetOk_comm a b).2 h'))]
theorem hullV_comm (a b : Rt) : hullV b a = hullV a b := by
  unfold hullV
  by_cases ha : a.right <;> by_cases hb : b.right <;> simp only [ha, hb, if_true, if_false]
  simp only [hullR, mx_eq, mn_eq, Int.max_comm, Int.min_comm]
def Rt.has (r : Rt) (x y : Int) : Prop := r.right ∧ r.x0 ≤ x ∧ x ≤ r.x1 ∧ r.y0 ≤ y ∧ y ≤ r.y1
theorem hasB_iff (r : Rt) (x y : Int) : hasB r.x0 r.y0 r.x1 r.y1 x y = true ↔ r.has x y := by
  simp only [hasB, Bool.and_eq_true, decide_eq_true_eq, rightB_iff, Rt.has, Rt.right]
  constructor
  · rintro ⟨⟨⟨⟨h, h1⟩, h2⟩, h3⟩, h4⟩; exact ⟨h, h1, h2, h3, h4⟩
  · rintro ⟨h, h1, h2, h3, h4⟩; exact ⟨⟨⟨⟨h, h1⟩, h2⟩, h3⟩, h4⟩
theorem has_meet (a b : Rt) (x y : Int) : (meetB a b && hasB (meetV a b).x0 (meetV a b).y0 (meetV a b).x1 (meetV a b).y1 x y) = (hasB a.x0 a.y0 a.x1 a.y1 x y && hasB b.x0 b.y0 b.x1 b.y1 x y) := by
  rw [Bool.eq_iff_iff, Bool.and_eq_true, Bool.and_eq_true, hasB_iff, hasB_iff, hasB_iff]
  by_cases h : meetOk a b
  · rw [meetV_yes h, meetB_yes h]
    obtain ⟨h1, h2, h3⟩ := h
    simp only [Rt.has, h1, h2, h3, true_and]
    simp only [meetR, mx_eq, mn_eq]
    omega
  · rw [meetV_no h, meetB_no h]
    simp only [Bool.false_eq_true, false_and, false_iff, not_and]
    intro ha hb
    apply h
    refine ⟨ha.1, hb.1, ?_⟩
    obtain ⟨h1, h2, h3, h4, h5⟩ := ha
    obtain ⟨g1, g2, g3, g4, g5⟩ := hb
    simp only [Rt.right, RightP, meetR, mx_eq, mn_eq] at *
    omega
theorem has_hull (a b : Rt) (x y : Int) (h : hasB a.x0 a.y0 a.x1 a.y1 x y = true ∨ hasB b.x0 b.y0 b.x1 b.y1 x y = true) : hasB (hullV a b).x0 (hullV a b).y0 (hullV a b).x1 (hullV a b).y1 x y = true := by
  rw [hasB_iff, hasB_iff] at h
  rw [hasB_iff]
  unfold hullV
  by_cases ha : a.right <;> by_cases hb : b.right <;> simp only [ha, hb, if_true, if_false]
  · simp only [Rt.has, ha, hb, true_and] at h
    simp only [Rt.right, RightP] at ha hb
    simp only [Rt.has, Rt.right, RightP, hullR, mx_eq, mn_eq]
    omega
  · rcases h with h | h
    · exact h
    · exact absurd h.1 hb
  · rcases h with h | h
    · exact absurd h.1 ha
    · exact h
  · rcases h with h | h
    · exact absurd h.1 ha
    · exact absurd h.1 hb
/-! ### The contracts, with a name for what is handed back -/

theorem meet_eq {ax0 ay0 ax1 ay1 bx0 by0 bx1 by1 : Int} {V : Rt} {p : Bool} (w : World) (hV : meetV ⟨ax0, ay0, ax1, ay1⟩ ⟨bx0, by0, bx1, by1⟩ = V) (hp : meetB ⟨ax0, ay0, ax1, ay1⟩ ⟨bx0, by0, bx1, by1⟩ = p) :
    Calls Try.prog 42 #[.agg #[.int .i64 ax0, .int .i64 ay0, .int .i64 ax1, .int .i64 ay1], .agg #[.int .i64 bx0, .int .i64 by0, .int .i64 bx1, .int .i64 by1]] w fun r w' => r = .returned (.tuple #[.agg #[.int .i64 (V).x0, .int .i64 (V).y0, .int .i64 (V).x1, .int .i64 (V).y1], .bool p]) ∧ Below w.heap.size w w' := by
  subst hV hp
  exact meet_any _ _ _ _ _ _ _ _ w

theorem refMeet_eq {ax0 ay0 ax1 ay1 bx0 by0 bx1 by1 : Int} {V : Rt} {p : Bool} (w : World) (hV : meetV ⟨ax0, ay0, ax1, ay1⟩ ⟨bx0, by0, bx1, by1⟩ = V) (hp : meetB ⟨ax0, ay0, ax1, ay1⟩ ⟨bx0, by0, bx1, by1⟩ = p) :
    Calls Try.prog 43 #[.agg #[.int .i64 ax0, .int .i64 ay0, .int .i64 ax1, .int .i64 ay1], .agg #[.int .i64 bx0, .int .i64 by0, .int .i64 bx1, .int .i64 by1]] w fun r w' => r = .returned (.tuple #[.agg #[.int .i64 (V).x0, .int .i64 (V).y0, .int .i64 (V).x1, .int .i64 (V).y1], .bool p]) ∧ Below w.heap.size w w' := by
  subst hV hp
  exact refMeet_any _ _ _ _ _ _ _ _ w

theorem hull_eq {ax0 ay0 ax1 ay1 bx0 by0 bx1 by1 : Int} {V : Rt} (w : World) (hV : hullV ⟨ax0, ay0, ax1, ay1⟩ ⟨bx0, by0, bx1, by1⟩ = V) :
    Calls Try.prog 44 #[.agg #[.int .i64 ax0, .int .i64 ay0, .int .i64 ax1, .int .i64 ay1], .agg #[.int .i64 bx0, .int .i64 by0, .int .i64 bx1, .int .i64 by1]] w fun r w' => r = .returned (.agg #[.int .i64 (V).x0, .int .i64 (V).y0, .int .i64 (V).x1, .int .i64 (V).y1]) ∧ Below w.heap.size w w' := by
  subst hV
  exact hull_any _ _ _ _ _ _ _ _ w

theorem refHull_eq {ax0 ay0 ax1 ay1 bx0 by0 bx1 by1 : Int} {V : Rt} (w : World) (hV : hullV ⟨ax0, ay0, ax1, ay1⟩ ⟨bx0, by0, bx1, by1⟩ = V) :
    Calls Try.prog 45 #[.agg #[.int .i64 ax0, .int .i64 ay0, .int .i64 ax1, .int .i64 ay1], .agg #[.int .i64 bx0, .int .i64 by0, .int .i64 bx1, .int .i64 by1]] w fun r w' => r = .returned (.agg #[.int .i64 (V).x0, .int .i64 (V).y0, .int .i64 (V).x1, .int .i64 (V).y1]) ∧ Below w.heap.size w w' := by
  subst hV
  exact refHull_any _ _ _ _ _ _ _ _ w

theorem has_eq {x0 y0 x1 y1 x y : Int} {p : Bool} (w : World) (hp : hasB x0 y0 x1 y1 x y = p) :
    Calls Try.prog 27 #[.agg #[.int .i64 x0, .int .i64 y0, .int .i64 x1, .int .i64 y1], .agg #[.int .i64 x, .int .i64 y]] w fun r w' => r = .returned (.bool p) ∧ Below w.heap.size w w' := by
  subst hp
  exact has_any _ _ _ _ _ _ w

set_option maxHeartbeats 4000000 in
theorem rectJoins_core (ax0 ay0 ax1 ay1 bx0 by0 bx1 by1 cx cy : Int) (V U : Rt) (pm pa pb pmc ph : Bool) (w : World) (hV : Hid (meetV ⟨ax0, ay0, ax1, ay1⟩ ⟨bx0, by0, bx1, by1⟩ = V ∧ meetV ⟨bx0, by0, bx1, by1⟩ ⟨ax0, ay0, ax1, ay1⟩ = V)) (hpm : Hid (meetB ⟨ax0, ay0, ax1, ay1⟩ ⟨bx0, by0, bx1, by1⟩ = pm ∧ meetB ⟨bx0, by0, bx1, by1⟩ ⟨ax0, ay0, ax1, ay1⟩ = pm)) (hU : Hid (hullV ⟨ax0, ay0, ax1, ay1⟩ ⟨bx0, by0, bx1, by1⟩ = U ∧ hullV ⟨bx0, by0, bx1, by1⟩ ⟨ax0, ay0, ax1, ay1⟩ = U))
    (hpa : Hid (hasB ax0 ay0 ax1 ay1 cx cy = pa)) (hpb : Hid (hasB bx0 by0 bx1 by1 cx cy = pb)) (hpmc : Hid (hasB V.x0 V.y0 V.x1 V.y1 cx cy = pmc)) (hph : Hid (hasB U.x0 U.y0 U.x1 U.y1 cx cy = ph)) (h1 : Hid ((pm && pmc) = (pa && pb))) (h2 : Hid (pa = true ∨ pb = true → ph = true)) :
    Calls Try.prog 11 #[.agg #[.int .i64 ax0, .int .i64 ay0, .int .i64 ax1, .int .i64 ay1], .agg #[.int .i64 bx0, .int .i64 by0, .int .i64 bx1, .int .i64 by1], .agg #[.int .i64 cx, .int .i64 cy]] w fun e w' => e = .returned (.bool true) ∧ Below w.heap.size w w' := by
  go_enter Try.func11, Try.ntmps11
  go_wp2_with fail
  refine (awake7_any _).mono ?_
  rintro e W1 ⟨rfl, i1b⟩
  obtain ⟨i1c, i1f, i1l⟩ := rules i1b (Nat.le_refl _); have i1z0 := i1l (w.heap.size) (by first | (simp; done) | assumption | (simp; omega)); have i1z1 := i1l (w.heap.size + 1) (by first | (simp; done) | assumption | (simp; omega)); have i1z2 := i1l (w.heap.size + 1 + 1) (by first | (simp; done) | assumption | (simp; omega))
  clear i1l
  go_wp2_with fail
  refine (meet_eq _ hV.out.1 hpm.out.1).mono ?_
  rintro e W2 ⟨rfl, i2b⟩
  obtain ⟨i2c, i2f, i2l⟩ := rules i2b (Nat.le_refl _); have i2z0 := i2l (w.heap.size) (by first | (simp; done) | assumption | (simp; omega)); have i2z1 := i2l (w.heap.size + 1) (by first | (simp; done) | assumption | (simp; omega)); have i2z2 := i2l (w.heap.size + 1 + 1) (by first | (simp; done) | assumption | (simp; omega))
  clear i2l
  go_wp2_with fail
  refine (refMeet_eq _ hV.out.1 hpm.out.1).mono ?_
  rintro e W3 ⟨rfl, i3b⟩
  obtain ⟨i3c, i3f, i3l⟩ := rules i3b (Nat.le_refl _); have i3z0 := i3l (w.heap.size) (by first | (simp; done) | assumption | (simp; omega)); have i3z1 := i3l (w.heap.size + 1) (by first | (simp; done) | assumption | (simp; omega)); have i3z2 := i3l (w.heap.size + 1 + 1) (by first | (simp; done) | assumption | (simp; omega)); have i3y0 := i3l (W2.heap.size) (by first | (simp; done) | assumption | (simp; omega))
  clear i3l
  go_wp2_with fail
  refine (meet_eq _ hV.out.2 hpm.out.2).mono ?_
  rintro e W4 ⟨rfl, i4b⟩
  obtain ⟨i4c, i4f, i4l⟩ := rules i4b (Nat.le_refl _); have i4z0 := i4l (w.heap.size) (by first | (simp; done) | assumption | (simp; omega)); have i4z1 := i4l (w.heap.size + 1) (by first | (simp; done) | assumption | (simp; omega)); have i4z2 := i4l (w.heap.size + 1 + 1) (by first | (simp; done) | assumption | (simp; omega)); have i4y0 := i4l (W2.heap.size) (by first | (simp; done) | assumption | (simp; omega)); have i4y1 := i4l (W3.heap.size) (by first | (simp; done) | assumption | (simp; omega))
  clear i4l
  go_wp2_with fail
  refine wp_region_over (by kernel_rfl) (by kernel_rfl) ?_
  repeat (go_big_quiet_step ((first | (go_at_call 44; with_reducible exact (hull_eq _ hU.out.1).over) | (go_at_call 45; with_reducible exact (refHull_eq _ hU.out.1).over) | (go_at_call 44; with_reducible exact (hull_eq _ hU.out.2).over))))
  refine wpQuiet_nil ?_
  intro W5 W5b
  obtain ⟨W5c, W5f, W5l⟩ := rules W5b (Nat.le_refl _); have W5z0 := W5l (w.heap.size) (by first | (simp; done) | assumption | (simp; omega)); have W5z1 := W5l (w.heap.size + 1) (by first | (simp; done) | assumption | (simp; omega)); have W5z2 := W5l (w.heap.size + 1 + 1) (by first | (simp; done) | assumption | (simp; omega)); have W5y0 := W5l (W2.heap.size) (by first | (simp; done) | assumption | (simp; omega)); have W5y1 := W5l (W3.heap.size) (by first | (simp; done) | assumption | (simp; omega)); have W5y2 := W5l (W4.heap.size) (by first | (simp; done) | assumption | (simp; omega)); clear W5l
  go_wp2_with fail
  cases pm <;> cases pa <;> cases pb
  · clear hV hpm
    clear h1 h2
    refine wp_region_over (by kernel_rfl) (by kernel_rfl) ?_
    repeat (go_big_quiet_step ((first | (go_at_call 27; with_reducible exact (has_eq _ hpa.out).over) | (go_at_call 27; with_reducible exact (has_eq _ hpb.out).over) | (go_at_call 27; with_reducible exact (has_eq _ hpmc.out).over))))
    refine wpQuiet_nil ?_
    intro W6 W6b
    obtain ⟨W6c, W6f, W6l⟩ := rules W6b (Nat.le_refl _); have W6z0 := W6l (w.heap.size) (by first | (simp; done) | assumption | (simp; omega)); have W6z1 := W6l (w.heap.size + 1) (by first | (simp; done) | assumption | (simp; omega)); have W6z2 := W6l (w.heap.size + 1 + 1) (by first | (simp; done) | assumption | (simp; omega)); have W6y0 := W6l (W2.heap.size) (by first | (simp; done) | assumption | (simp; omega)); have W6y1 := W6l (W3.heap.size) (by first | (simp; done) | assumption | (simp; omega)); have W6y2 := W6l (W4.heap.size) (by first | (simp; done) | assumption | (simp; omega)); clear W6l
    go_wp2_with fail
    refine wp_region_over (by kernel_rfl) (by kernel_rfl) ?_
    repeat (go_big_quiet_step ((first | (go_at_call 27; with_reducible exact (has_eq _ hpa.out).over) | (go_at_call 27; with_reducible exact (has_eq _ hpb.out).over) | (go_at_call 27; with_reducible exact (has_eq _ hph.out).over) | (go_at_call 44; with_reducible exact (hull_eq _ hU.out.1).over))))
    refine wpQuiet_nil ?_
    intro W7 W7b
    obtain ⟨W7c, W7f, W7l⟩ := rules W7b (Nat.le_refl _); have W7z0 := W7l (w.heap.size) (by first | (simp; done) | assumption | (simp; omega)); have W7z1 := W7l (w.heap.size + 1) (by first | (simp; done) | assumption | (simp; omega)); have W7z2 := W7l (w.heap.size + 1 + 1) (by first | (simp; done) | assumption | (simp; omega)); clear W7l
    go_wp2
    go_ret
    exact ⟨rfl, (by repeat (first | with_reducible exact Below.refl _ _ | with_reducible assumption | with_reducible refine below_alloc ?_ _ | with_reducible refine below_draw ?_ | ((with_reducible apply bset); (focus (first | exact Nat.le_refl _ | (simp; done) | (simp; omega)))) | ((with_reducible apply bcall); assumption; (focus (first | exact Nat.le_refl _ | (simp; done) | (simp; omega))))))⟩
  · clear hV hpm
    obtain rfl : ph = true := h2.out (by simp)
    clear h1 h2
    refine wp_region_over (by kernel_rfl) (by kernel_rfl) ?_
    repeat (go_big_quiet_step ((first | (go_at_call 27; with_reducible exact (has_eq _ hpa.out).over) | (go_at_call 27; with_reducible exact (has_eq _ hpb.out).over) | (go_at_call 27; with_reducible exact (has_eq _ hpmc.out).over))))
    refine wpQuiet_nil ?_
    intro W6 W6b
    obtain ⟨W6c, W6f, W6l⟩ := rules W6b (Nat.le_refl _); have W6z0 := W6l (w.heap.size) (by first | (simp; done) | assumption | (simp; omega)); have W6z1 := W6l (w.heap.size + 1) (by first | (simp; done) | assumption | (simp; omega)); have W6z2 := W6l (w.heap.size + 1 + 1) (by first | (simp; done) | assumption | (simp; omega)); have W6y0 := W6l (W2.heap.size) (by first | (simp; done) | assumption | (simp; omega)); have W6y1 := W6l (W3.heap.size) (by first | (simp; done) | assumption | (simp; omega)); have W6y2 := W6l (W4.heap.size) (by first | (simp; done) | assumption | (simp; omega)); clear W6l
    go_wp2_with fail
    refine wp_region_over (by kernel_rfl) (by kernel_rfl) ?_
    repeat (go_big_quiet_step ((first | (go_at_call 27; with_reducible exact (has_eq _ hpa.out).over) | (go_at_call 27; with_reducible exact (has_eq _ hpb.out).over) | (go_at_call 27; with_reducible exact (has_eq _ hph.out).over) | (go_at_call 44; with_reducible exact (hull_eq _ hU.out.1).over))))
    refine wpQuiet_nil ?_
    intro W7 W7b
    obtain ⟨W7c, W7f, W7l⟩ := rules W7b (Nat.le_refl _); have W7z0 := W7l (w.heap.size) (by first | (simp; done) | assumption | (simp; omega)); have W7z1 := W7l (w.heap.size + 1) (by first | (simp; done) | assumption | (simp; omega)); have W7z2 := W7l (w.heap.size + 1 + 1) (by first | (simp; done) | assumption | (simp; omega)); clear W7l
    go_wp2
    go_ret
    exact ⟨rfl, (by repeat (first | with_reducible exact Below.refl _ _ | with_reducible assumption | with_reducible refine below_alloc ?_ _ | with_reducible refine below_draw ?_ | ((with_reducible apply bset); (focus (first | exact Nat.le_refl _ | (simp; done) | (simp; omega)))) | ((with_reducible apply bcall); assumption; (focus (first | exact Nat.le_refl _ | (simp; done) | (simp; omega))))))⟩
  · clear hV hpm
    obtain rfl : ph = true := h2.out (by simp)
    clear h1 h2
    refine wp_region_over (by kernel_rfl) (by kernel_rfl) ?_
    repeat (go_big_quiet_step ((first | (go_at_call 27; with_reducible exact (has_eq _ hpa.out).over) | (go_at_call 27; with_reducible exact (has_eq _ hpb.out).over) | (go_at_call 27; with_reducible exact (has_eq _ hpmc.out).over))))
    refine wpQuiet_nil ?_
    intro W6 W6b
    obtain ⟨W6c, W6f, W6l⟩ := rules W6b (Nat.le_refl _); have W6z0 := W6l (w.heap.size) (by first | (simp; done) | assumption | (simp; omega)); have W6z1 := W6l (w.heap.size + 1) (by first | (simp; done) | assumption | (simp; omega)); have W6z2 := W6l (w.heap.size + 1 + 1) (by first | (simp; done) | assumption | (simp; omega)); have W6y0 := W6l (W2.heap.size) (by first | (simp; done) | assumption | (simp; omega)); have W6y1 := W6l (W3.heap.size) (by first | (simp; done) | assumption | (simp; omega)); have W6y2 := W6l (W4.heap.size) (by first | (simp; done) | assumption | (simp; omega)); clear W6l
    go_wp2_with fail
    refine wp_region_over (by kernel_rfl) (by kernel_rfl) ?_
    repeat (go_big_quiet_step ((first | (go_at_call 27; with_reducible exact (has_eq _ hpa.out).over) | (go_at_call 27; with_reducible exact (has_eq _ hpb.out).over) | (go_at_call 27; with_reducible exact (has_eq _ hph.out).over) | (go_at_call 44; with_reducible exact (hull_eq _ hU.out.1).over))))
    refine wpQuiet_nil ?_
    intro W7 W7b
    obtain ⟨W7c, W7f, W7l⟩ := rules W7b (Nat.le_refl _); have W7z0 := W7l (w.heap.size) (by first | (simp; done) | assumption | (simp; omega)); have W7z1 := W7l (w.heap.size + 1) (by first | (simp; done) | assumption | (simp; omega)); have W7z2 := W7l (w.heap.size + 1 + 1) (by first | (simp; done) | assumption | (simp; omega)); clear W7l
    go_wp2
    go_ret
    exact ⟨rfl, (by repeat (first | with_reducible exact Below.refl _ _ | with_reducible assumption | with_reducible refine below_alloc ?_ _ | with_reducible refine below_draw ?_ | ((with_reducible apply bset); (focus (first | exact Nat.le_refl _ | (simp; done) | (simp; omega)))) | ((with_reducible apply bcall); assumption; (focus (first | exact Nat.le_refl _ | (simp; done) | (simp; omega))))))⟩
  · exact absurd h1.out (by simp)
  · obtain rfl : pmc = false := by simpa using h1.out
    clear hV hpm
    clear h1 h2
    refine wp_region_over (by kernel_rfl) (by kernel_rfl) ?_
    repeat (go_big_quiet_step ((first | (go_at_call 27; with_reducible exact (has_eq _ hpa.out).over) | (go_at_call 27; with_reducible exact (has_eq _ hpb.out).over) | (go_at_call 27; with_reducible exact (has_eq _ hpmc.out).over))))
    refine wpQuiet_nil ?_
    intro W6 W6b
    obtain ⟨W6c, W6f, W6l⟩ := rules W6b (Nat.le_refl _); have W6z0 := W6l (w.heap.size) (by first | (simp; done) | assumption | (simp; omega)); have W6z1 := W6l (w.heap.size + 1) (by first | (simp; done) | assumption | (simp; omega)); have W6z2 := W6l (w.heap.size + 1 + 1) (by first | (simp; done) | assumption | (simp; omega)); have W6y0 := W6l (W2.heap.size) (by first | (simp; done) | assumption | (simp; omega)); have W6y1 := W6l (W3.heap.size) (by first | (simp; done) | assumption | (simp; omega)); have W6y2 := W6l (W4.heap.size) (by first | (simp; done) | assumption | (simp; omega)); clear W6l
    go_wp2_with fail
    refine wp_region_over (by kernel_rfl) (by kernel_rfl) ?_
    repeat (go_big_quiet_step ((first | (go_at_call 27; with_reducible exact (has_eq _ hpa.out).over) | (go_at_call 27; with_reducible exact (has_eq _ hpb.out).over) | (go_at_call 27; with_reducible exact (has_eq _ hph.out).over) | (go_at_call 44; with_reducible exact (hull_eq _ hU.out.1).over))))
    refine wpQuiet_nil ?_
    intro W7 W7b
    obtain ⟨W7c, W7f, W7l⟩ := rules W7b (Nat.le_refl _); have W7z0 := W7l (w.heap.size) (by first | (simp; done) | assumption | (simp; omega)); have W7z1 := W7l (w.heap.size + 1) (by first | (simp; done) | assumption | (simp; omega)); have W7z2 := W7l (w.heap.size + 1 + 1) (by first | (simp; done) | assumption | (simp; omega)); clear W7l
    go_wp2
    go_ret
    exact ⟨rfl, (by repeat (first | with_reducible exact Below.refl _ _ | with_reducible assumption | with_reducible refine below_alloc ?_ _ | with_reducible refine below_draw ?_ | ((with_reducible apply bset); (focus (first | exact Nat.le_refl _ | (simp; done) | (simp; omega)))) | ((with_reducible apply bcall); assumption; (focus (first | exact Nat.le_refl _ | (simp; done) | (simp; omega))))))⟩
  · obtain rfl : pmc = false := by simpa using h1.out
    clear hV hpm
    obtain rfl : ph = true := h2.out (by simp)
    clear h1 h2
    refine wp_region_over (by kernel_rfl) (by kernel_rfl) ?_
    repeat (go_big_quiet_step ((first | (go_at_call 27; with_reducible exact (has_eq _ hpa.out).over) | (go_at_call 27; with_reducible exact (has_eq _ hpb.out).over) | (go_at_call 27; with_reducible exact (has_eq _ hpmc.out).over))))
    refine wpQuiet_nil ?_
    intro W6 W6b
    obtain ⟨W6c, W6f, W6l⟩ := rules W6b (Nat.le_refl _); have W6z0 := W6l (w.heap.size) (by first | (simp; done) | assumption | (simp; omega)); have W6z1 := W6l (w.heap.size + 1) (by first | (simp; done) | assumption | (simp; omega)); have W6z2 := W6l (w.heap.size + 1 + 1) (by first | (simp; done) | assumption | (simp; omega)); have W6y0 := W6l (W2.heap.size) (by first | (simp; done) | assumption | (simp; omega)); have W6y1 := W6l (W3.heap.size) (by first | (simp; done) | assumption | (simp; omega)); have W6y2 := W6l (W4.heap.size) (by first | (simp; done) | assumption | (simp; omega)); clear W6l
    go_wp2_with fail
    refine wp_region_over (by kernel_rfl) (by kernel_rfl) ?_
    repeat (go_big_quiet_step ((first | (go_at_call 27; with_reducible exact (has_eq _ hpa.out).over) | (go_at_call 27; with_reducible exact (has_eq _ hpb.out).over) | (go_at_call 27; with_reducible exact (has_eq _ hph.out).over) | (go_at_call 44; with_reducible exact (hull_eq _ hU.out.1).over))))
    refine wpQuiet_nil ?_
    intro W7 W7b
    obtain ⟨W7c, W7f, W7l⟩ := rules W7b (Nat.le_refl _); have W7z0 := W7l (w.heap.size) (by first | (simp; done) | assumption | (simp; omega)); have W7z1 := W7l (w.heap.size + 1) (by first | (simp; done) | assumption | (simp; omega)); have W7z2 := W7l (w.heap.size + 1 + 1) (by first | (simp; done) | assumption | (simp; omega)); clear W7l
    go_wp2
    go_ret
    exact ⟨rfl, (by repeat (first | with_reducible exact Below.refl _ _ | with_reducible assumption | with_reducible refine below_alloc ?_ _ | with_reducible refine below_draw ?_ | ((with_reducible apply bset); (focus (first | exact Nat.le_refl _ | (simp; done) | (simp; omega)))) | ((with_reducible apply bcall); assumption; (focus (first | exact Nat.le_refl _ | (simp; done) | (simp; omega))))))⟩
  · obtain rfl : pmc = false := by simpa using h1.out
    clear hV hpm
    obtain rfl : ph = true := h2.out (by simp)
    clear h1 h2
    refine wp_region_over (by kernel_rfl) (by kernel_rfl) ?_
    repeat (go_big_quiet_step ((first | (go_at_call 27; with_reducible exact (has_eq _ hpa.out).over) | (go_at_call 27; with_reducible exact (has_eq _ hpb.out).over) | (go_at_call 27; with_reducible exact (has_eq _ hpmc.out).over))))
    refine wpQuiet_nil ?_
    intro W6 W6b
    obtain ⟨W6c, W6f, W6l⟩ := rules W6b (Nat.le_refl _); have W6z0 := W6l (w.heap.size) (by first | (simp; done) | assumption | (simp; omega)); have W6z1 := W6l (w.heap.size + 1) (by first | (simp; done) | assumption | (simp; omega)); have W6z2 := W6l (w.heap.size + 1 + 1) (by first | (simp; done) | assumption | (simp; omega)); have W6y0 := W6l (W2.heap.size) (by first | (simp; done) | assumption | (simp; omega)); have W6y1 := W6l (W3.heap.size) (by first | (simp; done) | assumption | (simp; omega)); have W6y2 := W6l (W4.heap.size) (by first | (simp; done) | assumption | (simp; omega)); clear W6l
    go_wp2_with fail
    refine wp_region_over (by kernel_rfl) (by kernel_rfl) ?_
    repeat (go_big_quiet_step ((first | (go_at_call 27; with_reducible exact (has_eq _ hpa.out).over) | (go_at_call 27; with_reducible exact (has_eq _ hpb.out).over) | (go_at_call 27; with_reducible exact (has_eq _ hph.out).over) | (go_at_call 44; with_reducible exact (hull_eq _ hU.out.1).over))))
    refine wpQuiet_nil ?_
    intro W7 W7b
    obtain ⟨W7c, W7f, W7l⟩ := rules W7b (Nat.le_refl _); have W7z0 := W7l (w.heap.size) (by first | (simp; done) | assumption | (simp; omega)); have W7z1 := W7l (w.heap.size + 1) (by first | (simp; done) | assumption | (simp; omega)); have W7z2 := W7l (w.heap.size + 1 + 1) (by first | (simp; done) | assumption | (simp; omega)); clear W7l
    go_wp2
    go_ret
    exact ⟨rfl, (by repeat (first | with_reducible exact Below.refl _ _ | with_reducible assumption | with_reducible refine below_alloc ?_ _ | with_reducible refine below_draw ?_ | ((with_reducible apply bset); (focus (first | exact Nat.le_refl _ | (simp; done) | (simp; omega)))) | ((with_reducible apply bcall); assumption; (focus (first | exact Nat.le_refl _ | (simp; done) | (simp; omega))))))⟩
  · obtain rfl : pmc = true := by simpa using h1.out
    clear hV hpm
    obtain rfl : ph = true := h2.out (by simp)
    clear h1 h2
    refine wp_region_over (by kernel_rfl) (by kernel_rfl) ?_
    repeat (go_big_quiet_step ((first | (go_at_call 27; with_reducible exact (has_eq _ hpa.out).over) | (go_at_call 27; with_reducible exact (has_eq _ hpb.out).over) | (go_at_call 27; with_reducible exact (has_eq _ hpmc.out).over))))
    refine wpQuiet_nil ?_
    intro W6 W6b
    obtain ⟨W6c, W6f, W6l⟩ := rules W6b (Nat.le_refl _); have W6z0 := W6l (w.heap.size) (by first | (simp; done) | assumption | (simp; omega)); have W6z1 := W6l (w.heap.size + 1) (by first | (simp; done) | assumption | (simp; omega)); have W6z2 := W6l (w.heap.size + 1 + 1) (by first | (simp; done) | assumption | (simp; omega)); have W6y0 := W6l (W2.heap.size) (by first | (simp; done) | assumption | (simp; omega)); have W6y1 := W6l (W3.heap.size) (by first | (simp; done) | assumption | (simp; omega)); have W6y2 := W6l (W4.heap.size) (by first | (simp; done) | assumption | (simp; omega)); clear W6l
    go_wp2_with fail
    refine wp_region_over (by kernel_rfl) (by kernel_rfl) ?_
    repeat (go_big_quiet_step ((first | (go_at_call 27; with_reducible exact (has_eq _ hpa.out).over) | (go_at_call 27; with_reducible exact (has_eq _ hpb.out).over) | (go_at_call 27; with_reducible exact (has_eq _ hph.out).over) | (go_at_call 44; with_reducible exact (hull_eq _ hU.out.1).over))))
    refine wpQuiet_nil ?_
    intro W7 W7b
    obtain ⟨W7c, W7f, W7l⟩ := rules W7b (Nat.le_refl _); have W7z0 := W7l (w.heap.size) (by first | (simp; done) | assumption | (simp; omega)); have W7z1 := W7l (w.heap.size + 1) (by first | (simp; done) | assumption | (simp; omega)); have W7z2 := W7l (w.heap.size + 1 + 1) (by first | (simp; done) | assumption | (simp; omega)); clear W7l
    go_wp2
    go_ret
    exact ⟨rfl, (by repeat (first | with_reducible exact Below.refl _ _ | with_reducible assumption | with_reducible refine below_alloc ?_ _ | with_reducible refine below_draw ?_ | ((with_reducible apply bset); (focus (first | exact Nat.le_refl _ | (simp; done) | (simp; omega)))) | ((with_reducible apply bcall); assumption; (focus (first | exact Nat.le_refl _ | (simp; done) | (simp; omega))))))⟩
theorem rectJoins_walk (ax0 ay0 ax1 ay1 bx0 by0 bx1 by1 cx cy : Int) (w : World) (_a0 : (-9223372036854775808 ≤ ax0 ∧ ax0 ≤ 9223372036854775807)) (_a1 : (-9223372036854775808 ≤ ay0 ∧ ay0 ≤ 9223372036854775807)) (_a2 : (-9223372036854775808 ≤ ax1 ∧ ax1 ≤ 9223372036854775807)) (_a3 : (-9223372036854775808 ≤ ay1 ∧ ay1 ≤ 9223372036854775807)) (_b0 : (-9223372036854775808 ≤ bx0 ∧ bx0 ≤ 9223372036854775807)) (_b1 : (-9223372036854775808 ≤ by0 ∧ by0 ≤ 9223372036854775807)) (_b2 : (-9223372036854775808 ≤ bx1 ∧ bx1 ≤ 9223372036854775807)) (_b3 : (-9223372036854775808 ≤ by1 ∧ by1 ≤ 9223372036854775807)) (_c0 : (-9223372036854775808 ≤ cx ∧ cx ≤ 9223372036854775807)) (_c1 : (-9223372036854775808 ≤ cy ∧ cy ≤ 9223372036854775807)) :
    Calls Try.prog 11 #[.agg #[.int .i64 ax0, .int .i64 ay0, .int .i64 ax1, .int .i64 ay1], .agg #[.int .i64 bx0, .int .i64 by0, .int .i64 bx1, .int .i64 by1], .agg #[.int .i64 cx, .int .i64 cy]] w fun e w' => e = .returned (.bool true) ∧ Below w.heap.size w w' :=
  rectJoins_core _ _ _ _ _ _ _ _ cx cy _ _ _ _ _ _ _ w ⟨rfl, meetV_comm _ _⟩ ⟨rfl, meetB_comm _ _⟩ ⟨rfl, hullV_comm _ _⟩ rfl rfl rfl rfl (has_meet ⟨ax0, ay0, ax1, ay1⟩ ⟨bx0, by0, bx1, by1⟩ cx cy) (has_hull ⟨ax0, ay0, ax1, ay1⟩ ⟨bx0, by0, bx1, by1⟩ cx cy)
end Go.Proofs.Ytcklknlbmbinoaa
