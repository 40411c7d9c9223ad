/- Layer 23: RayTurns. -/
import Derived.Test.YtjhbomgfjffmdaaLaw23a
set_option linter.unusedVariables false
set_option linter.unusedSimpArgs false
namespace Go.Proofs.Ytjhbomgfjffmdaa
open Go.RowKit
theorem swap_N (ax ay bx by_ : Int) : rayN ⟨ay, ax⟩ ⟨by_, bx⟩ = rayN ⟨ax, ay⟩ ⟨bx, by_⟩ := by
  rw [rayN_max, rayN_max ⟨ax, ay⟩]
  simp only
  split <;> split <;> omega
theorem swap_at {ax ay bx by_ k : Int} (ha : canP ⟨ax, ay⟩) (hb : canP ⟨bx, by_⟩) (h0 : 0 ≤ k) (h1 : k ≤ rayN ⟨ax, ay⟩ ⟨bx, by_⟩) : rayAt ⟨ay, ax⟩ ⟨by_, bx⟩ k = ⟨(rayAt ⟨ax, ay⟩ ⟨bx, by_⟩ k).y, (rayAt ⟨ax, ay⟩ ⟨bx, by_⟩ k).x⟩ := by
  have hbd := ray_bd _ _ ha hb
  rcases Int.lt_or_le (ab (bx - ax)) (ab (by_ - ay)) with h | h
  · have s1 : steep ⟨ax, ay⟩ ⟨bx, by_⟩ := h
    have s2 : ¬ steep ⟨ay, ax⟩ ⟨by_, bx⟩ := by unfold steep; simp only; omega
    unfold rayAt rayN rayM
    rw [if_pos s1, if_neg s2, if_neg s2, if_neg s2, if_pos s1, if_pos s1]
  · rcases Int.lt_or_eq_of_le h with h | h
    · have s1 : ¬ steep ⟨ax, ay⟩ ⟨bx, by_⟩ := by unfold steep; simp only; omega
      have s2 : steep ⟨ay, ax⟩ ⟨by_, bx⟩ := h
      unfold rayAt rayN rayM
      rw [if_neg s1, if_pos s2, if_pos s2, if_pos s2, if_neg s1, if_neg s1]
    · have s1 : ¬ steep ⟨ax, ay⟩ ⟨bx, by_⟩ := by unfold steep; simp only; omega
      have s2 : ¬ steep ⟨ay, ax⟩ ⟨by_, bx⟩ := by unfold steep; simp only; omega
      have hn : rayN ⟨ax, ay⟩ ⟨bx, by_⟩ = ab (bx - ax) := if_neg s1
      have hK : rayK (ab (bx - ax)) (ab (bx - ax)) k = k := by
        rcases Int.lt_or_eq_of_le (ab_pos (bx - ax)) with hp | hp
        · exact K_eq hp
        · have : k = 0 := by omega
          subst this
          exact K_zero (ab_pos _)
      unfold rayAt rayN rayM
      rw [if_neg s1, if_neg s2, if_neg s2, if_neg s2, if_neg s1, if_neg s1]
      simp only
      rw [h, hK]
theorem mirror_N (ax ay bx by_ : Int) : rayN ⟨1023 - ax, ay⟩ ⟨1023 - bx, by_⟩ = rayN ⟨ax, ay⟩ ⟨bx, by_⟩ := by
  have e : ab (1023 - bx - (1023 - ax)) = ab (bx - ax) := by rw [show 1023 - bx - (1023 - ax) = -(bx - ax) by omega, ab_neg]
  unfold rayN steep
  simp only [e]
theorem mirror_M (ax ay bx by_ : Int) : rayM ⟨1023 - ax, ay⟩ ⟨1023 - bx, by_⟩ = rayM ⟨ax, ay⟩ ⟨bx, by_⟩ := by
  have e : ab (1023 - bx - (1023 - ax)) = ab (bx - ax) := by rw [show 1023 - bx - (1023 - ax) = -(bx - ax) by omega, ab_neg]
  unfold rayM steep
  simp only [e]
theorem sg_neg {n t : Int} (h : n = 0 → t = 0) : sg (-n) * t = -(sg n * t) := by
  unfold sg
  by_cases h0 : n = 0
  · rw [h h0]; simp
  · split <;> split <;> omega
theorem mirror_at {ax ay bx by_ k : Int} (ha : canP ⟨ax, ay⟩) (hb : canP ⟨bx, by_⟩) (h0 : 0 ≤ k) (h1 : k ≤ rayN ⟨ax, ay⟩ ⟨bx, by_⟩) : rayAt ⟨1023 - ax, ay⟩ ⟨1023 - bx, by_⟩ k = ⟨1023 - (rayAt ⟨ax, ay⟩ ⟨bx, by_⟩ k).x, (rayAt ⟨ax, ay⟩ ⟨bx, by_⟩ k).y⟩ := by
  have hbd := ray_bd _ _ ha hb
  have e0 : 1023 - bx - (1023 - ax) = -(bx - ax) := by omega
  have hs : steep ⟨1023 - ax, ay⟩ ⟨1023 - bx, by_⟩ ↔ steep ⟨ax, ay⟩ ⟨bx, by_⟩ := by unfold steep; simp only; rw [e0, ab_neg]
  have hN := mirror_N ax ay bx by_
  have hM := mirror_M ax ay bx by_
  by_cases s1 : steep ⟨ax, ay⟩ ⟨bx, by_⟩
  · have e1 : rayAt ⟨ax, ay⟩ ⟨bx, by_⟩ k = ⟨ax + sg (bx - ax) * rayK (rayN ⟨ax, ay⟩ ⟨bx, by_⟩) (rayM ⟨ax, ay⟩ ⟨bx, by_⟩) k, ay + sg (by_ - ay) * k⟩ := by unfold rayAt; rw [if_pos s1]
    have e2 : rayAt ⟨1023 - ax, ay⟩ ⟨1023 - bx, by_⟩ k = ⟨1023 - ax + sg (-(bx - ax)) * rayK (rayN ⟨ax, ay⟩ ⟨bx, by_⟩) (rayM ⟨ax, ay⟩ ⟨bx, by_⟩) k, ay + sg (by_ - ay) * k⟩ := by
      unfold rayAt; rw [if_pos (hs.2 s1), hN, hM]; simp only [e0]
    rw [e1, e2, sg_neg (fun hz => ?_)]
    · simp only; congr 1; omega
    · have : rayM ⟨ax, ay⟩ ⟨bx, by_⟩ = 0 := by unfold rayM; rw [if_pos s1]; simp only; rw [hz]; rfl
      rw [this]; exact K_flat (by omega)
  · have e1 : rayAt ⟨ax, ay⟩ ⟨bx, by_⟩ k = ⟨ax + sg (bx - ax) * k, ay + sg (by_ - ay) * rayK (rayN ⟨ax, ay⟩ ⟨bx, by_⟩) (rayM ⟨ax, ay⟩ ⟨bx, by_⟩) k⟩ := by unfold rayAt; rw [if_neg s1]
    have e2 : rayAt ⟨1023 - ax, ay⟩ ⟨1023 - bx, by_⟩ k = ⟨1023 - ax + sg (-(bx - ax)) * k, ay + sg (by_ - ay) * rayK (rayN ⟨ax, ay⟩ ⟨bx, by_⟩) (rayM ⟨ax, ay⟩ ⟨bx, by_⟩) k⟩ := by
      unfold rayAt; rw [if_neg (fun h => s1 (hs.1 h)), hN, hM]; simp only [e0]
    rw [e1, e2, sg_neg (fun hz => ?_)]
    · simp only; congr 1; omega
    · have : rayN ⟨ax, ay⟩ ⟨bx, by_⟩ = 0 := by unfold rayN; rw [if_neg s1]; simp only; rw [hz]; rfl
      omega

theorem turns_no (ax ay bx by_ : Int) (w : World) (h : ¬ (canP ⟨ax, ay⟩ ∧ canP ⟨bx, by_⟩)) :
    Calls Try.prog 4 #[.agg #[.int .i64 ax, .int .i64 ay], .agg #[.int .i64 bx, .int .i64 by_]] w fun r w' => r = .returned (.bool true) ∧ Below w.heap.size w w' := by
  go_enter Try.func4, Try.ntmps4
  go_wp2_with fail
  with_reducible refine (awake23_any _).mono ?_
  rintro e W1 ⟨rfl, q1b⟩
  obtain ⟨q1c, q1f, q1l⟩ := rules q1b (Nat.le_refl _); have q1z0 := q1l (w.heap.size) (by first | (simp; done) | assumption | omega | (simp; omega)); have q1z1 := q1l (w.heap.size + 1) (by first | (simp; done) | assumption | omega | (simp; omega))
  clear q1l
  go_wp2_with fail
  with_reducible refine (Row_no _ _ _ _ _ h).mono ?_
  rintro e W2 ⟨rfl, b2⟩
  go_wp2
  go_ret
  exact ⟨rfl, (by repeat (first | with_reducible exact Below.refl _ _ | with_reducible assumption | with_reducible refine below_alloc ?_ _ | with_reducible refine below_draw ?_ | ((with_reducible apply bset); (focus (first | exact Nat.le_refl _ | (simp; done) | omega | (simp; omega)))) | ((with_reducible apply bcall); assumption; (focus (first | exact Nat.le_refl _ | (simp; done) | omega | (simp; omega))))))⟩

set_option maxRecDepth 100000 in
set_option maxHeartbeats 4000000 in
theorem turns_ok (ax ay bx by_ : Int) (N : Nat) (w : World) (h : Hid (canP ⟨ax, ay⟩ ∧ canP ⟨bx, by_⟩)) (hn : Hid (rayN ⟨ax, ay⟩ ⟨bx, by_⟩ = (N : Int))) :
    Calls Try.prog 4 #[.agg #[.int .i64 ax, .int .i64 ay], .agg #[.int .i64 bx, .int .i64 by_]] w fun r w' => r = .returned (.bool true) ∧ Below w.heap.size w w' := by
  have hN : (N : Int) ≤ 1023 := by have := ray_bd ⟨ax, ay⟩ ⟨bx, by_⟩ h.out.1 h.out.2; rw [hn.out] at this; omega
  have hc2 : Hid (canP ⟨ay, ax⟩ ∧ canP ⟨by_, bx⟩) := Lib.hid (by have h1 := h.out; unfold canP at *; simp only at *; omega)
  have hc3 : Hid (canP ⟨1023 - ax, ay⟩ ∧ canP ⟨1023 - bx, by_⟩) := Lib.hid (by have h1 := h.out; unfold canP at *; simp only at *; omega)
  have hn2 : Hid (rayN ⟨ay, ax⟩ ⟨by_, bx⟩ = (N : Int)) := Lib.hid (by rw [swap_N]; exact hn.out)
  have hn3 : Hid (rayN ⟨1023 - ax, ay⟩ ⟨1023 - bx, by_⟩ = (N : Int)) := Lib.hid (by rw [mirror_N]; exact hn.out)
  have f2 : Hid (∀ k : Int, 0 ≤ k → k ≤ N → rayAt ⟨ay, ax⟩ ⟨by_, bx⟩ k = ⟨(rayAt ⟨ax, ay⟩ ⟨bx, by_⟩ k).y, (rayAt ⟨ax, ay⟩ ⟨bx, by_⟩ k).x⟩) := Lib.hid (fun k h0 h1 => swap_at h.out.1 h.out.2 h0 (by rw [hn.out]; exact h1))
  have f3 : Hid (∀ k : Int, 0 ≤ k → k ≤ N → rayAt ⟨1023 - ax, ay⟩ ⟨1023 - bx, by_⟩ k = ⟨1023 - (rayAt ⟨ax, ay⟩ ⟨bx, by_⟩ k).x, (rayAt ⟨ax, ay⟩ ⟨bx, by_⟩ k).y⟩) := Lib.hid (fun k h0 h1 => mirror_at h.out.1 h.out.2 h0 (by rw [hn.out]; exact h1))
  have f4 : Hid (∀ k : Int, 0 ≤ k → k ≤ N → -2000 ≤ (rayAt ⟨ax, ay⟩ ⟨bx, by_⟩ k).x ∧ (rayAt ⟨ax, ay⟩ ⟨bx, by_⟩ k).x ≤ 4000 ∧ -2000 ≤ (rayAt ⟨ax, ay⟩ ⟨bx, by_⟩ k).y ∧ (rayAt ⟨ax, ay⟩ ⟨bx, by_⟩ k).y ≤ 4000) := Lib.hid (fun k h0 h1 => at_bd h.out.1 h.out.2 h0 (by rw [hn.out]; exact h1))
  obtain ⟨⟨ha0, ha1, ha2, ha3⟩, hb0, hb1, hb2, hb3⟩ := h.out
  simp only at ha0 ha1 ha2 ha3 hb0 hb1 hb2 hb3
  go_enter Try.func4, Try.ntmps4
  go_wp2_with fail
  with_reducible refine (awake23_any _).mono ?_
  rintro e W1 ⟨rfl, q1b⟩
  obtain ⟨q1c, q1f, q1l⟩ := rules q1b (Nat.le_refl _); have q1z0 := q1l (w.heap.size) (by first | (simp; done) | assumption | omega | (simp; omega)); have q1z1 := q1l (w.heap.size + 1) (by first | (simp; done) | assumption | omega | (simp; omega))
  clear q1l
  go_wp2_with fail
  refine (Row_ok N _ h hn).mono ?_
  rintro e W2 ⟨vi1, rfl, o1, q2b⟩
  obtain ⟨Ai1, ci1, rfl, _, _⟩ := own_form o1
  have i1 := own_cells o1
  clear o1
  obtain ⟨q2c, q2f, q2l⟩ := rules q2b (Nat.le_refl _); have q2z0 := q2l (w.heap.size) (by first | (simp; done) | assumption | omega | (simp; omega)); have q2z1 := q2l (w.heap.size + 1) (by first | (simp; done) | assumption | omega | (simp; omega))
  clear q2l
  go_wp2_with fail
  refine (Row_ok N _ hc2 hn2).mono ?_
  rintro e W3 ⟨vi2, rfl, o2, q3b⟩
  obtain ⟨Ai2, ci2, rfl, _, _⟩ := own_form o2
  have i2 := own_cells o2
  clear o2
  obtain ⟨q3c, q3f, q3l⟩ := rules q3b (Nat.le_refl _); have q3z0 := q3l (w.heap.size) (by first | (simp; done) | assumption | omega | (simp; omega)); have q3z1 := q3l (w.heap.size + 1) (by first | (simp; done) | assumption | omega | (simp; omega))
  clear q3l
  have i1 := i1.below (Nat.le_refl _) q3b
  go_wp2_with fail
  refine (Row_ok N _ hc3 hn3).mono ?_
  rintro e W4 ⟨vi3, rfl, o3, q4b⟩
  obtain ⟨Ai3, ci3, rfl, _, _⟩ := own_form o3
  have i3 := own_cells o3
  clear o3
  obtain ⟨q4c, q4f, q4l⟩ := rules q4b (Nat.le_refl _); have q4z0 := q4l (w.heap.size) (by first | (simp; done) | assumption | omega | (simp; omega)); have q4z1 := q4l (w.heap.size + 1) (by first | (simp; done) | assumption | omega | (simp; omega))
  clear q4l
  have i1 := i1.below (Nat.le_refl _) q4b
  have i2 := i2.below (Nat.le_refl _) q4b
  have hbel : Below w.heap.size w W4 := (by repeat (first | with_reducible exact Below.refl _ _ | with_reducible assumption | with_reducible refine below_alloc ?_ _ | with_reducible refine below_draw ?_ | ((with_reducible apply bset); (focus (first | exact Nat.le_refl _ | (simp; done) | omega | (simp; omega)))) | ((with_reducible apply bcall); assumption; (focus (first | exact Nat.le_refl _ | (simp; done) | omega | (simp; omega))))))
  have hsz := hbel.size
  clear q1c q1f q2c q2f q3c q3f q4c q4f q1b q2b q3b q4b
  go_wp2
  go_loopw [11] (fun x wr => ∃ j : Nat, j ≤ N + 1 ∧ x = .int .i64 (j : Int) ∧ Below W4.heap.size W4 wr) (fun x _ => N + 1 - (intOf x).toNat)
  case atStart => exact ⟨0, Nat.zero_le _, rfl, Below.refl _ _⟩
  case round =>
    obtain ⟨j, hj, rfl, hE⟩ := hrel
    by_cases hlt : j < N + 1
    · have ir1 := i1.below (Nat.le_refl _) hE
      have ir2 := i2.below (Nat.le_refl _) hE
      have ir3 := i3.below (Nat.le_refl _) hE
      obtain ⟨b, off, rfl, hb, e0, e1⟩ := ir1.at_ hlt
      obtain ⟨b2, off2, rfl, hb2, e2, e3⟩ := ir2.at_ hlt
      obtain ⟨b3, off3, rfl, hb3, e4, e5⟩ := ir3.at_ hlt
      rw [cnth_row hlt] at e0 e1 e2 e3 e4 e5
      rw [f2.out (j : Int) (by omega) (by omega)] at e2 e3
      rw [f3.out (j : Int) (by omega) (by omega)] at e4 e5
      obtain ⟨p0, p1, p2, p3⟩ := f4.out (j : Int) (by omega) (by omega)
      generalize rayAt ⟨ax, ay⟩ ⟨bx, by_⟩ (j : Int) = p at *
      simp only at e0 e1 e2 e3 e4 e5
      have s0 : wrap64 (1023 - p.x) = 1023 - p.x := IntWalk.wrap64_in _ ⟨by omega, by omega⟩
      go_wp2
      refine wp_region_over (by kernel_rfl) (by kernel_rfl) ?_
      repeat (go_big_quiet_step ((fail)))
      refine wpQuiet_nil ?_
      intro w4 w4b
      obtain ⟨w4c, w4f, w4l⟩ := rules w4b (Nat.le_refl _); have w4y0 := w4l (b) (by first | (simp; done) | assumption | omega | (simp; omega)); have w4y1 := w4l (b2) (by first | (simp; done) | assumption | omega | (simp; omega)); have w4y2 := w4l (b3) (by first | (simp; done) | assumption | omega | (simp; omega)); clear w4l
      go_wp2
      go_roundw
      case rel => exact ⟨j + 1, by omega, by go_num, hE.trans (w4b.mono hE.size)⟩
      case measure => simp [intOf]; omega
    · have hjN : j = N + 1 := by omega
      subst hjN
      go_wp2
      go_ret
      exact ⟨rfl, hbel.trans (hE.mono hsz)⟩
theorem rayTurns_walk (ax ay bx by_ : Int) (w : World) (_a0 : (-9223372036854775808 ≤ ax ∧ ax ≤ 9223372036854775807)) (_a1 : (-9223372036854775808 ≤ ay ∧ ay ≤ 9223372036854775807)) (_a2 : (-9223372036854775808 ≤ bx ∧ bx ≤ 9223372036854775807)) (_a3 : (-9223372036854775808 ≤ by_ ∧ by_ ≤ 9223372036854775807)) :
    Calls Try.prog 4 #[.agg #[.int .i64 ax, .int .i64 ay], .agg #[.int .i64 bx, .int .i64 by_]] w fun r w' => r = .returned (.bool true) ∧ Below w.heap.size w w' := by
  by_cases h : canP ⟨ax, ay⟩ ∧ canP ⟨bx, by_⟩
  · obtain ⟨N, hN⟩ := Int.eq_ofNat_of_zero_le (show 0 ≤ rayN ⟨ax, ay⟩ ⟨bx, by_⟩ by have := ray_bd _ _ h.1 h.2; omega)
    exact turns_ok ax ay bx by_ N w h hN
  · exact turns_no ax ay bx by_ w h

end Go.Proofs.Ytjhbomgfjffmdaa
