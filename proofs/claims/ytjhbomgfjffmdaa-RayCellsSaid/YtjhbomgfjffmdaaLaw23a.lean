/- Layer 23: the example; RaySteps, RayTurns. -/
import Derived.Test.YtjhbomgfjffmdaaRay2
set_option linter.unusedVariables false
set_option linter.unusedSimpArgs false
namespace Go.Proofs.Ytjhbomgfjffmdaa
open Go.RowKit
theorem ab_sg {n t : Int} (h : 0 ≤ t) : ab (sg n * t) = t := by
  rcases sg_or n with e | e <;> rw [e] <;> unfold ab <;> split <;> omega
/-- what is left of the way from the k-th cell -/
theorem left_at {a b : Cl} (ha : canP a) (hb : canP b) {k : Int} (h0 : 0 ≤ k) (h1 : k ≤ rayN a b) : rayN (rayAt a b k) b = rayN a b - k := by
  have hbd := ray_bd a b ha hb
  have hK : 0 ≤ rayM a b - rayK (rayN a b) (rayM a b) k ∧ rayM a b - rayK (rayN a b) (rayM a b) k ≤ rayN a b - k := by
    rcases Int.lt_or_eq_of_le (show 0 ≤ rayN a b by omega) with h | h
    · have := K_bd (n := rayN a b) (m := rayM a b) (i := k) h (by omega) (by omega) h0 h1; omega
    · have : k = 0 := by omega
      subst this
      rw [K_zero (by omega)]; omega
  rw [rayN_max (rayAt a b k) b]
  generalize hkv : rayK (rayN a b) (rayM a b) k = kv at *
  have ex := sg_ab (b.x - a.x)
  have ey := sg_ab (b.y - a.y)
  by_cases h : steep a b
  · have en : rayN a b = ab (b.y - a.y) := if_pos h
    have em : rayM a b = ab (b.x - a.x) := if_pos h
    have e : rayAt a b k = ⟨a.x + sg (b.x - a.x) * kv, a.y + sg (b.y - a.y) * k⟩ := by unfold rayAt; rw [if_pos h, hkv]
    have e1 : b.x - (a.x + sg (b.x - a.x) * kv) = sg (b.x - a.x) * (rayM a b - kv) := by rw [Int.mul_sub, em]; omega
    have e2 : b.y - (a.y + sg (b.y - a.y) * k) = sg (b.y - a.y) * (rayN a b - k) := by rw [Int.mul_sub, en]; omega
    rw [e]
    simp only
    rw [e1, e2, ab_sg hK.1, ab_sg (by omega)]
    by_cases h2 : rayN a b - k < rayM a b - kv
    · rw [if_pos h2]; omega
    · rw [if_neg h2]
  · have en : rayN a b = ab (b.x - a.x) := if_neg h
    have em : rayM a b = ab (b.y - a.y) := if_neg h
    have e : rayAt a b k = ⟨a.x + sg (b.x - a.x) * k, a.y + sg (b.y - a.y) * kv⟩ := by unfold rayAt; rw [if_neg h, hkv]
    have e1 : b.y - (a.y + sg (b.y - a.y) * kv) = sg (b.y - a.y) * (rayM a b - kv) := by rw [Int.mul_sub, em]; omega
    have e2 : b.x - (a.x + sg (b.x - a.x) * k) = sg (b.x - a.x) * (rayN a b - k) := by rw [Int.mul_sub, en]; omega
    rw [e]
    simp only
    rw [e1, e2, ab_sg hK.1, ab_sg (by omega)]
    by_cases h2 : rayM a b - kv < rayN a b - k
    · rw [if_pos h2]
    · rw [if_neg h2]; omega
theorem at_end {a b : Cl} (ha : canP a) (hb : canP b) : rayAt a b (rayN a b) = b := by
  have hbd := ray_bd a b ha hb
  have hK := K_end (n := rayN a b) (m := rayM a b) (by omega) hbd.1 hbd.2.1
  have ex := sg_ab (b.x - a.x)
  have ey := sg_ab (b.y - a.y)
  unfold rayAt
  rw [hK]
  by_cases h : steep a b
  · have en : rayN a b = ab (b.y - a.y) := if_pos h
    have em : rayM a b = ab (b.x - a.x) := if_pos h
    rw [if_pos h, en, em, ex, ey]; cases b; simp only [Cl.mk.injEq]; omega
  · have en : rayN a b = ab (b.x - a.x) := if_neg h
    have em : rayM a b = ab (b.y - a.y) := if_neg h
    rw [if_neg h, en, em, ex, ey]; cases b; simp only [Cl.mk.injEq]; omega
/-- two cells that follow one another -/
def NextTo (p q : Cl) : Prop := -1 ≤ q.x - p.x ∧ q.x - p.x ≤ 1 ∧ -1 ≤ q.y - p.y ∧ q.y - p.y ≤ 1 ∧ ¬ (q.x - p.x = 0 ∧ q.y - p.y = 0)
theorem step_next {a b : Cl} (ha : canP a) (hb : canP b) {k : Int} (h0 : 0 ≤ k) (h1 : k < rayN a b) : NextTo (rayAt a b k) (rayAt a b (k + 1)) := by
  have hbd := ray_bd a b ha hb
  obtain ⟨s1, s2⟩ := at_step (k := k) (a := a) (b := b) rfl rfl rfl rfl (by omega) hbd.1 hbd.2.1
  have hx := sg_or (b.x - a.x)
  have hy := sg_or (b.y - a.y)
  unfold NextTo
  by_cases hc : 2 * rayN a b ≤ restI (rayN a b) (rayM a b) k + 2 * rayM a b
  · rw [(s1 hc).1]
    unfold rayA rayO
    by_cases h : steep a b
    · rw [if_pos h, if_pos h]; simp only; omega
    · rw [if_neg h, if_neg h]; simp only; omega
  · rw [(s2 hc).1]
    unfold rayA
    by_cases h : steep a b
    · rw [if_pos h]; simp only; omega
    · rw [if_neg h]; simp only; omega

set_option maxRecDepth 100000 in
theorem awake23_any (w : World) : Calls Try.prog 12 #[] w fun e w' => e = .returned (.bool true) ∧ Below w.heap.size w w' := by
  have hcan : Hid (canP ⟨0, 0⟩ ∧ canP ⟨3, 1⟩) := Lib.hid (by decide)
  have hr : rayRow ⟨0, 0⟩ ⟨3, 1⟩ 4 = [⟨0, 0⟩, ⟨1, 0⟩, ⟨2, 1⟩, ⟨3, 1⟩] := by decide +kernel
  go_enter Try.func12, Try.ntmps12
  go_wp2_with fail
  refine (Row_ok 3 _ hcan (Lib.hid (by decide +kernel))).mono ?_
  rintro e W1 ⟨v, rfl, o1, b1⟩
  rw [hr] at o1
  clear hr
  obtain ⟨A1, c1, rfl, _, _⟩ := own_form o1
  have i1 := own_cells o1
  have l2 := World.ownsRow_lit (base := 0) (e := 23) (size := 2) W1 #[.int .i64 0, .int .i64 0, .int .i64 1, .int .i64 0, .int .i64 2, .int .i64 1, .int .i64 3, .int .i64 1] 4 (Nat.zero_le _) (by decide) rfl
  have i2 : Cells (W1.alloc (.cells #[.int .i64 0, .int .i64 0, .int .i64 1, .int .i64 0, .int .i64 2, .int .i64 1, .int .i64 3, .int .i64 1] 23)) (some ⟨W1.heap.size, 0, none⟩) 4 [⟨0, 0⟩, ⟨1, 0⟩, ⟨2, 1⟩, ⟨3, 1⟩] := own_cells l2
  have i1' := i1.below (Nat.le_refl _) ((Below.refl _ _).alloc (Nat.le_refl _) (.cells #[.int .i64 0, .int .i64 0, .int .i64 1, .int .i64 0, .int .i64 2, .int .i64 1, .int .i64 3, .int .i64 1] 23))
  clear o1 l2 i1
  go_wp2_with fail
  refine (sameCells_yes _ _ _ _ _ _ _ i1' i2 (by decide)).mono ?_
  rintro e W2 ⟨rfl, b2⟩
  go_wp2
  go_ret
  exact ⟨rfl, (by repeat (first | with_reducible exact Below.refl _ _ | with_reducible assumption | with_reducible refine below_alloc ?_ _ | with_reducible refine below_draw ?_ | ((with_reducible apply bset); (focus (first | exact Nat.le_refl _ | (simp; done) | omega | (simp; omega)))) | ((with_reducible apply bcall); assumption; (focus (first | exact Nat.le_refl _ | (simp; done) | omega | (simp; omega))))))⟩

theorem steps_no (ax ay bx by_ : Int) (w : World) (h : ¬ (canP ⟨ax, ay⟩ ∧ canP ⟨bx, by_⟩)) :
    Calls Try.prog 3 #[.agg #[.int .i64 ax, .int .i64 ay], .agg #[.int .i64 bx, .int .i64 by_]] w fun r w' => r = .returned (.bool true) ∧ Below w.heap.size w w' := by
  go_enter Try.func3, Try.ntmps3
  go_wp2_with fail
  with_reducible refine (awake23_any _).mono ?_
  rintro e W1 ⟨rfl, q1b⟩
  obtain ⟨q1c, q1f, q1l⟩ := rules q1b (Nat.le_refl _); have q1z0 := q1l (w.heap.size) (by first | (simp; done) | assumption | omega | (simp; omega)); have q1z1 := q1l (w.heap.size + 1) (by first | (simp; done) | assumption | omega | (simp; omega))
  clear q1l
  go_wp2_with fail
  with_reducible refine (Row_no _ _ _ _ _ h).mono ?_
  rintro e W2 ⟨rfl, b2⟩
  go_wp2
  go_ret
  exact ⟨rfl, (by repeat (first | with_reducible exact Below.refl _ _ | with_reducible assumption | with_reducible refine below_alloc ?_ _ | with_reducible refine below_draw ?_ | ((with_reducible apply bset); (focus (first | exact Nat.le_refl _ | (simp; done) | omega | (simp; omega)))) | ((with_reducible apply bcall); assumption; (focus (first | exact Nat.le_refl _ | (simp; done) | omega | (simp; omega))))))⟩

theorem refLen_eq {ax ay bx by_ r : Int} (w : World) (h0 : -1000000 ≤ ax) (g0 : ax ≤ 1000000) (h1 : -1000000 ≤ ay) (g1 : ay ≤ 1000000) (h2 : -1000000 ≤ bx) (g2 : bx ≤ 1000000) (h3 : -1000000 ≤ by_) (g3 : by_ ≤ 1000000) (h : Hid (rayN ⟨ax, ay⟩ ⟨bx, by_⟩ = r)) :
    Calls Try.prog 14 #[.agg #[.int .i64 ax, .int .i64 ay], .agg #[.int .i64 bx, .int .i64 by_]] w fun e w' => e = .returned (.int .i64 r) ∧ Below w.heap.size w w' := by
  have := refLen_any ax ay bx by_ w h0 g0 h1 g1 h2 g2 h3 g3
  rw [h.out] at this
  exact this

set_option maxRecDepth 100000 in
set_option maxHeartbeats 4000000 in
theorem steps_ok (ax ay bx by_ : Int) (N : Nat) (w : World) (h : Hid (canP ⟨ax, ay⟩ ∧ canP ⟨bx, by_⟩)) (hn : Hid (rayN ⟨ax, ay⟩ ⟨bx, by_⟩ = (N : Int))) :
    Calls Try.prog 3 #[.agg #[.int .i64 ax, .int .i64 ay], .agg #[.int .i64 bx, .int .i64 by_]] w fun r w' => r = .returned (.bool true) ∧ Below w.heap.size w w' := by
  have hN : (N : Int) ≤ 1023 := by have := ray_bd ⟨ax, ay⟩ ⟨bx, by_⟩ h.out.1 h.out.2; rw [hn.out] at this; omega
  have f0 : Hid (rayAt ⟨ax, ay⟩ ⟨bx, by_⟩ ((0 : Nat) : Int) = ⟨ax, ay⟩) := Lib.hid (at_zero _ _ (by rw [hn.out]; omega))
  have f1 : Hid (rayAt ⟨ax, ay⟩ ⟨bx, by_⟩ (N : Int) = ⟨bx, by_⟩) := Lib.hid (by rw [← hn.out]; exact at_end h.out.1 h.out.2)
  have f2 : Hid (∀ k : Int, 0 ≤ k → k < N → NextTo (rayAt ⟨ax, ay⟩ ⟨bx, by_⟩ k) (rayAt ⟨ax, ay⟩ ⟨bx, by_⟩ (k + 1))) := Lib.hid (fun k h0 h1 => step_next h.out.1 h.out.2 h0 (by rw [hn.out]; exact h1))
  have f3 : Hid (∀ k : Int, 0 ≤ k → k ≤ N → rayN (rayAt ⟨ax, ay⟩ ⟨bx, by_⟩ k) ⟨bx, by_⟩ = N - k) := Lib.hid (fun k h0 h1 => by rw [left_at h.out.1 h.out.2 h0 (by rw [hn.out]; exact h1), hn.out])
  have f4 : Hid (∀ k : Int, 0 ≤ k → k ≤ N → -2000 ≤ (rayAt ⟨ax, ay⟩ ⟨bx, by_⟩ k).x ∧ (rayAt ⟨ax, ay⟩ ⟨bx, by_⟩ k).x ≤ 4000 ∧ -2000 ≤ (rayAt ⟨ax, ay⟩ ⟨bx, by_⟩ k).y ∧ (rayAt ⟨ax, ay⟩ ⟨bx, by_⟩ k).y ≤ 4000) := Lib.hid (fun k h0 h1 => at_bd h.out.1 h.out.2 h0 (by rw [hn.out]; exact h1))
  have hb' := h.out.2
  obtain ⟨hbx0, hbx1, hby0, hby1⟩ := hb'
  simp only at hbx0 hbx1 hby0 hby1
  go_enter Try.func3, Try.ntmps3
  go_wp2_with fail
  with_reducible refine (awake23_any _).mono ?_
  rintro e W1 ⟨rfl, q1b⟩
  obtain ⟨q1c, q1f, q1l⟩ := rules q1b (Nat.le_refl _); have q1z0 := q1l (w.heap.size) (by first | (simp; done) | assumption | omega | (simp; omega)); have q1z1 := q1l (w.heap.size + 1) (by first | (simp; done) | assumption | omega | (simp; omega))
  clear q1l
  go_wp2_with fail
  refine (Row_ok N _ h hn).mono ?_
  rintro e W2 ⟨v, rfl, o1, q2b⟩
  obtain ⟨A1, c1, rfl, _, _⟩ := own_form o1
  have i1 := own_cells o1
  clear o1
  obtain ⟨q2c, q2f, q2l⟩ := rules q2b (Nat.le_refl _); have q2z0 := q2l (w.heap.size) (by first | (simp; done) | assumption | omega | (simp; omega)); have q2z1 := q2l (w.heap.size + 1) (by first | (simp; done) | assumption | omega | (simp; omega))
  clear q2l
  obtain ⟨b, off, rfl, hb, e0, e1⟩ := i1.at_ (show 0 < N + 1 by omega)
  obtain ⟨_, e2, e3⟩ := i1.cell (show N < N + 1 by omega)
  rw [cnth_row (by omega), f0.out] at e0 e1
  rw [cnth_row (by omega), f1.out] at e2 e3
  rw [show off + 0 * 2 = off by omega] at e0 e1
  simp only at e0 e1 e2 e3
  have z0 : ((N : Int) + 1 == 0) = false := by simp; omega
  have z1 : wrap64 ((N : Int) + 1 - 1) = N := by rw [IntWalk.wrap64_in _ ⟨by omega, by omega⟩]; omega
  go_wp2
  refine wp_region_over (by kernel_rfl) (by kernel_rfl) ?_
  repeat (go_big_quiet_step ((fail)))
  refine wpQuiet_nil ?_
  intro W3 W3b
  obtain ⟨W3c, W3f, W3l⟩ := rules W3b (Nat.le_refl _); have W3z0 := W3l (w.heap.size) (by first | (simp; done) | assumption | omega | (simp; omega)); have W3z1 := W3l (w.heap.size + 1) (by first | (simp; done) | assumption | omega | (simp; omega)); have W3y0 := W3l (b) (by first | (simp; done) | assumption | omega | (simp; omega)); clear W3l
  have i3 := i1.below (Nat.le_refl _) W3b
  have g0 : W3.cell? ⟨w.heap.size + 1, 0, none⟩ = some (.int .i64 bx) := by simp [go_sem, *]
  have g1 : W3.cell? ⟨w.heap.size + 1, 1, none⟩ = some (.int .i64 by_) := by simp [go_sem, *]
  have hbel : Below w.heap.size w W3 := (by repeat (first | with_reducible exact Below.refl _ _ | with_reducible assumption | with_reducible refine below_alloc ?_ _ | with_reducible refine below_draw ?_ | ((with_reducible apply bset); (focus (first | exact Nat.le_refl _ | (simp; done) | omega | (simp; omega)))) | ((with_reducible apply bcall); assumption; (focus (first | exact Nat.le_refl _ | (simp; done) | omega | (simp; omega))))))
  have hsz := hbel.size
  have W3z : w.heap.size + 1 < W3.heap.size := by assumption
  clear W3c W3f q2c q2f q1c q1f W3b q2b q1b i1 e0 e1 e2 e3 hb
  go_wp2
  go_loopw [7] (fun x wr => ∃ j : Nat, j ≤ N ∧ x = .int .i64 ((j : Int) + 1) ∧ Below W3.heap.size W3 wr) (fun x _ => N + 1 - (intOf x).toNat)
  case atStart => exact ⟨0, Nat.zero_le _, rfl, Below.refl _ _⟩
  case round =>
    obtain ⟨j, hj, rfl, hE⟩ := hrel
    by_cases hlt : j < N
    · have ir := i3.below (Nat.le_refl _) hE
      have hEc := (rules hE (Nat.le_refl _)).1
      have g2 : wr.cell? ⟨w.heap.size + 1, 0, none⟩ = some (.int .i64 bx) := (hEc _ _ W3z).trans g0
      have g3 : wr.cell? ⟨w.heap.size + 1, 1, none⟩ = some (.int .i64 by_) := (hEc _ _ W3z).trans g1
      clear hEc g0 g1
      obtain ⟨hb, e0, e1⟩ := ir.cell (show j < N + 1 by omega)
      obtain ⟨_, e2, e3⟩ := ir.cell (show j + 1 < N + 1 by omega)
      rw [cnth_row (by omega)] at e0 e1 e2 e3
      rw [show ((j + 1 : Nat) : Int) = (j : Int) + 1 by omega] at e2 e3
      have nx := f2.out (j : Int) (by omega) (by omega)
      have l0 : Hid (rayN (rayAt ⟨ax, ay⟩ ⟨bx, by_⟩ j) ⟨bx, by_⟩ = (N : Int) - j) := Lib.hid (f3.out (j : Int) (by omega) (by omega))
      have l1 : Hid (rayN (rayAt ⟨ax, ay⟩ ⟨bx, by_⟩ ((j : Int) + 1)) ⟨bx, by_⟩ = (N : Int) - j - 1) := Lib.hid (by rw [f3.out ((j : Int) + 1) (by omega) (by omega)]; omega)
      obtain ⟨p0, p1, p2, p3⟩ := f4.out (j : Int) (by omega) (by omega)
      obtain ⟨p4, p5, p6, p7⟩ := f4.out ((j : Int) + 1) (by omega) (by omega)
      generalize rayAt ⟨ax, ay⟩ ⟨bx, by_⟩ (j : Int) = p at *
      generalize rayAt ⟨ax, ay⟩ ⟨bx, by_⟩ ((j : Int) + 1) = q at *
      obtain ⟨n0, n1, n2, n3, n4⟩ := nx
      have d0 : decide (q.x - p.x < -1) = false := by simp; omega
      have d1 : decide (1 < q.x - p.x) = false := by simp; omega
      have d2 : decide (q.y - p.y < -1) = false := by simp; omega
      have d3 : decide (1 < q.y - p.y) = false := by simp; omega
      have d4 : (q.x - p.x == 0 && q.y - p.y == 0) = false := by
        rw [← Bool.not_eq_true]; simp only [Bool.and_eq_true, beq_iff_eq]; exact n4
      have s0 : wrap64 (q.x - p.x) = q.x - p.x := IntWalk.wrap64_in _ ⟨by omega, by omega⟩
      have s1 : wrap64 (q.y - p.y) = q.y - p.y := IntWalk.wrap64_in _ ⟨by omega, by omega⟩
      have s2 : wrap64 ((j : Int) + 1 - 1) = j := by rw [IntWalk.wrap64_in _ ⟨by omega, by omega⟩]; omega
      clear n4
      have hz0 : w.heap.size < wr.heap.size := by have := hE.size; omega
      have hz1 : w.heap.size + 1 < wr.heap.size := by have := hE.size; omega
      by_cases n5 : q.x - p.x = 0
      · have d5 : (q.x - p.x == 0) = true := by simp only [beq_iff_eq]; exact n5
        have d6 : (q.y - p.y == 0) = false := by simpa [d5] using d4
        clear n5 d4
        go_wp2
        refine wp_region_over (by kernel_rfl) (by kernel_rfl) ?_
        repeat (go_big_quiet_step ((fail)))
        refine wpQuiet_nil ?_
        intro w4 w4b
        obtain ⟨w4c, w4f, w4l⟩ := rules w4b (Nat.le_refl _); have w4z0 := w4l (w.heap.size) (by first | (simp; done) | assumption | omega | (simp; omega)); have w4z1 := w4l (w.heap.size + 1) (by first | (simp; done) | assumption | omega | (simp; omega)); have w4y0 := w4l (b) (by first | (simp; done) | assumption | omega | (simp; omega)); clear w4l
        go_wp2
        refine wp_region_over (by kernel_rfl) (by kernel_rfl) ?_
        repeat (go_big_quiet_step ((first | (go_at_call 14; with_reducible exact (refLen_eq _ (by omega) (by omega) (by omega) (by omega) (by omega) (by omega) (by omega) (by omega) l1).over) | (go_at_call 14; with_reducible exact (refLen_eq _ (by omega) (by omega) (by omega) (by omega) (by omega) (by omega) (by omega) (by omega) l0).over))))
        refine wpQuiet_nil ?_
        intro w5 w5b
        obtain ⟨w5c, w5f, w5l⟩ := rules w5b (Nat.le_refl _); have w5z0 := w5l (w.heap.size) (by first | (simp; done) | assumption | omega | (simp; omega)); have w5z1 := w5l (w.heap.size + 1) (by first | (simp; done) | assumption | omega | (simp; omega)); have w5y0 := w5l (b) (by first | (simp; done) | assumption | omega | (simp; omega)); clear w5l
        go_wp2
        go_roundw
        case rel => exact ⟨j + 1, by omega, by go_num, (hE.trans (w4b.mono hE.size)).trans (w5b.mono (Nat.le_trans hE.size w4b.size))⟩
        case measure => simp [intOf]; omega
      · have d5 : (q.x - p.x == 0) = false := by rw [← Bool.not_eq_true]; simp only [beq_iff_eq]; exact n5
        clear n5 d4
        go_wp2
        refine wp_region_over (by kernel_rfl) (by kernel_rfl) ?_
        repeat (go_big_quiet_step ((fail)))
        refine wpQuiet_nil ?_
        intro w4 w4b
        obtain ⟨w4c, w4f, w4l⟩ := rules w4b (Nat.le_refl _); have w4z0 := w4l (w.heap.size) (by first | (simp; done) | assumption | omega | (simp; omega)); have w4z1 := w4l (w.heap.size + 1) (by first | (simp; done) | assumption | omega | (simp; omega)); have w4y0 := w4l (b) (by first | (simp; done) | assumption | omega | (simp; omega)); clear w4l
        go_wp2
        refine wp_region_over (by kernel_rfl) (by kernel_rfl) ?_
        repeat (go_big_quiet_step ((first | (go_at_call 14; with_reducible exact (refLen_eq _ (by omega) (by omega) (by omega) (by omega) (by omega) (by omega) (by omega) (by omega) l1).over) | (go_at_call 14; with_reducible exact (refLen_eq _ (by omega) (by omega) (by omega) (by omega) (by omega) (by omega) (by omega) (by omega) l0).over))))
        refine wpQuiet_nil ?_
        intro w5 w5b
        obtain ⟨w5c, w5f, w5l⟩ := rules w5b (Nat.le_refl _); have w5z0 := w5l (w.heap.size) (by first | (simp; done) | assumption | omega | (simp; omega)); have w5z1 := w5l (w.heap.size + 1) (by first | (simp; done) | assumption | omega | (simp; omega)); have w5y0 := w5l (b) (by first | (simp; done) | assumption | omega | (simp; omega)); clear w5l
        go_wp2
        go_roundw
        case rel => exact ⟨j + 1, by omega, by go_num, (hE.trans (w4b.mono hE.size)).trans (w5b.mono (Nat.le_trans hE.size w4b.size))⟩
        case measure => simp [intOf]; omega
    · have hjN : j = N := by omega
      subst hjN
      go_wp2
      go_ret
      exact ⟨rfl, hbel.trans (hE.mono hsz)⟩

theorem raySteps_walk (ax ay bx by_ : Int) (w : World) (_a0 : (-9223372036854775808 ≤ ax ∧ ax ≤ 9223372036854775807)) (_a1 : (-9223372036854775808 ≤ ay ∧ ay ≤ 9223372036854775807)) (_a2 : (-9223372036854775808 ≤ bx ∧ bx ≤ 9223372036854775807)) (_a3 : (-9223372036854775808 ≤ by_ ∧ by_ ≤ 9223372036854775807)) :
    Calls Try.prog 3 #[.agg #[.int .i64 ax, .int .i64 ay], .agg #[.int .i64 bx, .int .i64 by_]] w fun r w' => r = .returned (.bool true) ∧ Below w.heap.size w w' := by
  by_cases h : canP ⟨ax, ay⟩ ∧ canP ⟨bx, by_⟩
  · obtain ⟨N, hN⟩ := Int.eq_ofNat_of_zero_le (show 0 ≤ rayN ⟨ax, ay⟩ ⟨bx, by_⟩ by have := ray_bd _ _ h.1 h.2; omega)
    exact steps_ok ax ay bx by_ N w h hN
  · exact steps_no ax ay bx by_ w h

end Go.Proofs.Ytjhbomgfjffmdaa
