/- Layer 23: RayCells. -/
import Derived.Test.YtjhbomgfjffmdaaRay4
set_option linter.unusedVariables false
set_option linter.unusedSimpArgs false
namespace Go.Proofs.Ytjhbomgfjffmdaa
open Go.RowKit

set_option maxRecDepth 100000 in
set_option maxHeartbeats 2000000 in
theorem cells_no (ax ay bx by_ i : Int) (w : World) (h : ¬ (canP ⟨ax, ay⟩ ∧ canP ⟨bx, by_⟩)) :
    Calls Try.prog 5 #[.agg #[.int .i64 ax, .int .i64 ay], .agg #[.int .i64 bx, .int .i64 by_], .int .i64 i] w fun r w' => r = .returned (.bool true) ∧ Below w.heap.size w w' := by
  have hc : Hid (canB ax ay = true → canB bx by_ = false) := Lib.hid (fun h1 => canB_no (fun hb => h ⟨by simpa [canB] using h1, hb⟩))
  go_enter Try.func5, Try.ntmps5
  go_wp2_with fail
  with_reducible refine (awake23_any _).mono ?_
  rintro e W1 ⟨rfl, q1b⟩
  obtain ⟨q1c, q1f, q1l⟩ := rules q1b (Nat.le_refl _); have q1z0 := q1l (w.heap.size) (by first | (simp; done) | assumption | omega | (simp; omega)); have q1z1 := q1l (w.heap.size + 1) (by first | (simp; done) | assumption | omega | (simp; omega))
  clear q1l
  go_wp2_with fail
  with_reducible refine (Len_no _ _ _ _ _ h).mono ?_
  rintro e W2 ⟨rfl, q2b⟩
  obtain ⟨q2c, q2f, q2l⟩ := rules q2b (Nat.le_refl _); have q2z0 := q2l (w.heap.size) (by first | (simp; done) | assumption | omega | (simp; omega)); have q2z1 := q2l (w.heap.size + 1) (by first | (simp; done) | assumption | omega | (simp; omega))
  clear q2l
  go_wp2_with fail
  with_reducible refine (At_no _ _ _ _ _ _ h).mono ?_
  rintro e W3 ⟨rfl, q3b⟩
  obtain ⟨q3c, q3f, q3l⟩ := rules q3b (Nat.le_refl _); have q3z0 := q3l (w.heap.size) (by first | (simp; done) | assumption | omega | (simp; omega)); have q3z1 := q3l (w.heap.size + 1) (by first | (simp; done) | assumption | omega | (simp; omega))
  clear q3l
  go_wp2_with fail
  with_reducible refine (Row_no _ _ _ _ _ h).mono ?_
  rintro e W4 ⟨rfl, q4b⟩
  obtain ⟨q4c, q4f, q4l⟩ := rules q4b (Nat.le_refl _); have q4z0 := q4l (w.heap.size) (by first | (simp; done) | assumption | omega | (simp; omega)); have q4z1 := q4l (w.heap.size + 1) (by first | (simp; done) | assumption | omega | (simp; omega)); have q4y0 := q4l (W3.heap.size) (by first | (simp; done) | assumption | omega | (simp; omega))
  clear q4l
  cases c1 : canB ax ay
  · go_wp2_with (go_at_call 17; with_reducible refine (refCan_any _ _ _).mono ?_; rintro e kw ⟨rfl, kb⟩; obtain ⟨kc, kf, kl⟩ := rules kb (Nat.le_refl _); have kz0 := kl (w.heap.size) (by first | (simp; done) | assumption | omega | (simp; omega)); have kz1 := kl (w.heap.size + 1) (by first | (simp; done) | assumption | omega | (simp; omega)); have ky0 := kl (W3.heap.size) (by first | (simp; done) | assumption | omega | (simp; omega)); have ky1 := kl (W4.heap.size) (by first | (simp; done) | assumption | omega | (simp; omega)); clear kl)
    go_ret
    exact ⟨rfl, (by repeat (first | with_reducible exact Below.refl _ _ | with_reducible assumption | with_reducible refine below_alloc ?_ _ | with_reducible refine below_draw ?_ | ((with_reducible apply bset); (focus (first | exact Nat.le_refl _ | (simp; done) | omega | (simp; omega)))) | ((with_reducible apply bcall); assumption; (focus (first | exact Nat.le_refl _ | (simp; done) | omega | (simp; omega))))))⟩
  · have c2 := hc.out c1
    go_wp2_with (go_at_call 17; with_reducible refine (refCan_any _ _ _).mono ?_; rintro e kw ⟨rfl, kb⟩; obtain ⟨kc, kf, kl⟩ := rules kb (Nat.le_refl _); have kz0 := kl (w.heap.size) (by first | (simp; done) | assumption | omega | (simp; omega)); have kz1 := kl (w.heap.size + 1) (by first | (simp; done) | assumption | omega | (simp; omega)); have ky0 := kl (W3.heap.size) (by first | (simp; done) | assumption | omega | (simp; omega)); have ky1 := kl (W4.heap.size) (by first | (simp; done) | assumption | omega | (simp; omega)); clear kl)
    go_ret
    exact ⟨rfl, (by repeat (first | with_reducible exact Below.refl _ _ | with_reducible assumption | with_reducible refine below_alloc ?_ _ | with_reducible refine below_draw ?_ | ((with_reducible apply bset); (focus (first | exact Nat.le_refl _ | (simp; done) | omega | (simp; omega)))) | ((with_reducible apply bcall); assumption; (focus (first | exact Nat.le_refl _ | (simp; done) | omega | (simp; omega))))))⟩

set_option maxRecDepth 100000 in
set_option maxHeartbeats 4000000 in
theorem cells_lo (ax ay bx by_ i : Int) (N : Nat) (w : World) (h : Hid (canP ⟨ax, ay⟩ ∧ canP ⟨bx, by_⟩)) (hn : Hid (rayN ⟨ax, ay⟩ ⟨bx, by_⟩ = (N : Int))) (hi : i < 0) :
    Calls Try.prog 5 #[.agg #[.int .i64 ax, .int .i64 ay], .agg #[.int .i64 bx, .int .i64 by_], .int .i64 i] w fun r w' => r = .returned (.bool true) ∧ Below w.heap.size w w' := by
  have hN : (N : Int) ≤ 1023 := by have := ray_bd ⟨ax, ay⟩ ⟨bx, by_⟩ h.out.1 h.out.2; rw [hn.out] at this; omega
  obtain ⟨⟨ha0, ha1, ha2, ha3⟩, hb0, hb1, hb2, hb3⟩ := h.out
  simp only at ha0 ha1 ha2 ha3 hb0 hb1 hb2 hb3
  have hca := canB_yes h.out.1
  have hcb := canB_yes h.out.2
  go_enter Try.func5, Try.ntmps5
  go_wp2_with fail
  with_reducible refine (awake23_any _).mono ?_
  rintro e W1 ⟨rfl, q1b⟩
  obtain ⟨q1c, q1f, q1l⟩ := rules q1b (Nat.le_refl _); have q1z0 := q1l (w.heap.size) (by first | (simp; done) | assumption | omega | (simp; omega)); have q1z1 := q1l (w.heap.size + 1) (by first | (simp; done) | assumption | omega | (simp; omega))
  clear q1l
  go_wp2_with fail
  with_reducible refine (Len_ok _ h hn).mono ?_
  rintro e W2 ⟨rfl, q2b⟩
  obtain ⟨q2c, q2f, q2l⟩ := rules q2b (Nat.le_refl _); have q2z0 := q2l (w.heap.size) (by first | (simp; done) | assumption | omega | (simp; omega)); have q2z1 := q2l (w.heap.size + 1) (by first | (simp; done) | assumption | omega | (simp; omega))
  clear q2l
  go_wp2_with fail
  with_reducible refine (At_out _ h hn (.inl hi)).mono ?_
  rintro e W3 ⟨rfl, q3b⟩
  obtain ⟨q3c, q3f, q3l⟩ := rules q3b (Nat.le_refl _); have q3z0 := q3l (w.heap.size) (by first | (simp; done) | assumption | omega | (simp; omega)); have q3z1 := q3l (w.heap.size + 1) (by first | (simp; done) | assumption | omega | (simp; omega))
  clear q3l
  go_wp2_with fail
  refine (Row_ok N _ h hn).mono ?_
  rintro e W4 ⟨v, rfl, o1, q4b⟩
  obtain ⟨A1, c1, rfl, _, _⟩ := own_form o1
  have i1 := own_cells o1
  clear o1
  obtain ⟨q4c, q4f, q4l⟩ := rules q4b (Nat.le_refl _); have q4z0 := q4l (w.heap.size) (by first | (simp; done) | assumption | omega | (simp; omega)); have q4z1 := q4l (w.heap.size + 1) (by first | (simp; done) | assumption | omega | (simp; omega)); have q4y0 := q4l (W3.heap.size) (by first | (simp; done) | assumption | omega | (simp; omega))
  clear q4l
  have g0 : W4.cell? ⟨W3.heap.size, 0, none⟩ = some (.int .i64 0) := by simp [go_sem, *]
  have g1 : W4.cell? ⟨W3.heap.size, 1, none⟩ = some (.int .i64 0) := by simp [go_sem, *]
  have g2 : W4.cell? ⟨w.heap.size, 0, none⟩ = some (.int .i64 ax) := by simp [go_sem, *]
  have g3 : W4.cell? ⟨w.heap.size, 1, none⟩ = some (.int .i64 ay) := by simp [go_sem, *]
  have g4 : W4.cell? ⟨w.heap.size + 1, 0, none⟩ = some (.int .i64 bx) := by simp [go_sem, *]
  have g5 : W4.cell? ⟨w.heap.size + 1, 1, none⟩ = some (.int .i64 by_) := by simp [go_sem, *]
  have hbel : Below w.heap.size w W4 := (by repeat (first | with_reducible exact Below.refl _ _ | with_reducible assumption | with_reducible refine below_alloc ?_ _ | with_reducible refine below_draw ?_ | ((with_reducible apply bset); (focus (first | exact Nat.le_refl _ | (simp; done) | omega | (simp; omega)))) | ((with_reducible apply bcall); assumption; (focus (first | exact Nat.le_refl _ | (simp; done) | omega | (simp; omega))))))
  have hsz := hbel.size
  clear q1c q1f q2c q2f q3c q3f q4c q4f
  have i1 := i1.below (Nat.le_refl _) ((Below.refl _ _).alloc (Nat.le_refl _) (.cells #[.int .i64 0, .int .i64 0] 23))
  go_wp2_with (go_at_call 17; with_reducible refine (refCan_any _ _ _).mono ?_; rintro e kw ⟨rfl, kb⟩; obtain ⟨kc, kf, kl⟩ := rules kb (Nat.le_refl _); have kz0 := kl (w.heap.size) (by first | (simp; done) | assumption | omega | (simp; omega)); have kz1 := kl (w.heap.size + 1) (by first | (simp; done) | assumption | omega | (simp; omega)); have ky0 := kl (W3.heap.size) (by first | (simp; done) | assumption | omega | (simp; omega)); have ky1 := kl (W4.heap.size) (by first | (simp; done) | assumption | omega | (simp; omega)); clear kl)
  refine (refLen_eq _ (by omega) (by omega) (by omega) (by omega) (by omega) (by omega) (by omega) (by omega) hn).mono ?_
  rintro e W5 ⟨rfl, q5b⟩
  obtain ⟨q5c, q5f, q5l⟩ := rules q5b (Nat.le_refl _); have q5z0 := q5l (w.heap.size) (by first | (simp; done) | assumption | omega | (simp; omega)); have q5z1 := q5l (w.heap.size + 1) (by first | (simp; done) | assumption | omega | (simp; omega)); have q5y0 := q5l (W3.heap.size) (by first | (simp; done) | assumption | omega | (simp; omega)); have q5y1 := q5l (W4.heap.size) (by first | (simp; done) | assumption | omega | (simp; omega))
  clear q5l
  go_wp2_with fail
  refine (refRow_ok N _ h hn).mono ?_
  rintro e W6 ⟨v2, rfl, o2, q6b⟩
  obtain ⟨A2, c2, rfl, _, _⟩ := own_form o2
  have i2 := own_cells o2
  clear o2
  obtain ⟨q6c, q6f, q6l⟩ := rules q6b (Nat.le_refl _); have q6z0 := q6l (w.heap.size) (by first | (simp; done) | assumption | omega | (simp; omega)); have q6z1 := q6l (w.heap.size + 1) (by first | (simp; done) | assumption | omega | (simp; omega)); have q6y0 := q6l (W3.heap.size) (by first | (simp; done) | assumption | omega | (simp; omega)); have q6y1 := q6l (W4.heap.size) (by first | (simp; done) | assumption | omega | (simp; omega))
  clear q6l
  have b46 : Below (W4.alloc (.cells #[.int .i64 0, .int .i64 0] 23)).heap.size (W4.alloc (.cells #[.int .i64 0, .int .i64 0] 23)) W6 := (by repeat (first | with_reducible exact Below.refl _ _ | with_reducible assumption | with_reducible refine below_alloc ?_ _ | with_reducible refine below_draw ?_ | ((with_reducible apply bset); (focus (first | exact Nat.le_refl _ | (simp; done) | omega | (simp; omega)))) | ((with_reducible apply bcall); assumption; (focus (first | exact Nat.le_refl _ | (simp; done) | omega | (simp; omega))))))
  have i1 := i1.below (Nat.le_refl _) b46
  have s46 := b46.size
  simp only [World.size_alloc] at s46
  obtain ⟨bc, _, _⟩ := rules b46 (Nat.le_refl _)
  have e0 : W6.cell? ⟨W3.heap.size, 0, none⟩ = some (.int .i64 0) := by rw [bc _ _ (by simp; omega)]; simp [go_sem, *]
  have e1 : W6.cell? ⟨W3.heap.size, 1, none⟩ = some (.int .i64 0) := by rw [bc _ _ (by simp; omega)]; simp [go_sem, *]
  have e2 : W6.cell? ⟨W4.heap.size, 0, none⟩ = some (.int .i64 0) := by rw [bc _ _ (by simp)]; simp [go_sem]
  have e3 : W6.cell? ⟨W4.heap.size, 1, none⟩ = some (.int .i64 0) := by rw [bc _ _ (by simp)]; simp [go_sem]
  have z3 : W3.heap.size < W6.heap.size := by omega
  have z4 : W4.heap.size < W6.heap.size := by omega
  clear bc q5c q5f q6c q6f g0 g1 g2 g3 g4 g5
  go_wp2_with fail
  refine (sameCells_yes _ _ _ _ _ _ _ i1 i2 (by omega)).mono ?_
  rintro e W7 ⟨rfl, q7b⟩
  obtain ⟨q7c, q7f, q7l⟩ := rules q7b (Nat.le_refl _)
  have y3 := q7l _ z3
  have y4 := q7l _ z4
  have i1 := i1.below (Nat.le_refl _) q7b
  have hbel7 : Below w.heap.size w W7 := ((hbel.trans (((Below.refl _ _).alloc (Nat.le_refl _) _).mono hsz)).trans (b46.mono (by simp; omega))).trans (q7b.mono (by omega))
  clear q7l i2
  go_wp2
  go_ret
  exact ⟨rfl, hbel7⟩

set_option maxRecDepth 100000 in
set_option maxHeartbeats 4000000 in
theorem cells_hi (ax ay bx by_ i : Int) (N : Nat) (w : World) (h : Hid (canP ⟨ax, ay⟩ ∧ canP ⟨bx, by_⟩)) (hn : Hid (rayN ⟨ax, ay⟩ ⟨bx, by_⟩ = (N : Int))) (h0 : 0 ≤ i) (hi : (N : Int) < i) :
    Calls Try.prog 5 #[.agg #[.int .i64 ax, .int .i64 ay], .agg #[.int .i64 bx, .int .i64 by_], .int .i64 i] w fun r w' => r = .returned (.bool true) ∧ Below w.heap.size w w' := by
  have hN : (N : Int) ≤ 1023 := by have := ray_bd ⟨ax, ay⟩ ⟨bx, by_⟩ h.out.1 h.out.2; rw [hn.out] at this; omega
  obtain ⟨⟨ha0, ha1, ha2, ha3⟩, hb0, hb1, hb2, hb3⟩ := h.out
  simp only at ha0 ha1 ha2 ha3 hb0 hb1 hb2 hb3
  have hca := canB_yes h.out.1
  have hcb := canB_yes h.out.2
  go_enter Try.func5, Try.ntmps5
  go_wp2_with fail
  with_reducible refine (awake23_any _).mono ?_
  rintro e W1 ⟨rfl, q1b⟩
  obtain ⟨q1c, q1f, q1l⟩ := rules q1b (Nat.le_refl _); have q1z0 := q1l (w.heap.size) (by first | (simp; done) | assumption | omega | (simp; omega)); have q1z1 := q1l (w.heap.size + 1) (by first | (simp; done) | assumption | omega | (simp; omega))
  clear q1l
  go_wp2_with fail
  with_reducible refine (Len_ok _ h hn).mono ?_
  rintro e W2 ⟨rfl, q2b⟩
  obtain ⟨q2c, q2f, q2l⟩ := rules q2b (Nat.le_refl _); have q2z0 := q2l (w.heap.size) (by first | (simp; done) | assumption | omega | (simp; omega)); have q2z1 := q2l (w.heap.size + 1) (by first | (simp; done) | assumption | omega | (simp; omega))
  clear q2l
  go_wp2_with fail
  with_reducible refine (At_out _ h hn (.inr hi)).mono ?_
  rintro e W3 ⟨rfl, q3b⟩
  obtain ⟨q3c, q3f, q3l⟩ := rules q3b (Nat.le_refl _); have q3z0 := q3l (w.heap.size) (by first | (simp; done) | assumption | omega | (simp; omega)); have q3z1 := q3l (w.heap.size + 1) (by first | (simp; done) | assumption | omega | (simp; omega))
  clear q3l
  go_wp2_with fail
  refine (Row_ok N _ h hn).mono ?_
  rintro e W4 ⟨v, rfl, o1, q4b⟩
  obtain ⟨A1, c1, rfl, _, _⟩ := own_form o1
  have i1 := own_cells o1
  clear o1
  obtain ⟨q4c, q4f, q4l⟩ := rules q4b (Nat.le_refl _); have q4z0 := q4l (w.heap.size) (by first | (simp; done) | assumption | omega | (simp; omega)); have q4z1 := q4l (w.heap.size + 1) (by first | (simp; done) | assumption | omega | (simp; omega)); have q4y0 := q4l (W3.heap.size) (by first | (simp; done) | assumption | omega | (simp; omega))
  clear q4l
  have g0 : W4.cell? ⟨W3.heap.size, 0, none⟩ = some (.int .i64 0) := by simp [go_sem, *]
  have g1 : W4.cell? ⟨W3.heap.size, 1, none⟩ = some (.int .i64 0) := by simp [go_sem, *]
  have g2 : W4.cell? ⟨w.heap.size, 0, none⟩ = some (.int .i64 ax) := by simp [go_sem, *]
  have g3 : W4.cell? ⟨w.heap.size, 1, none⟩ = some (.int .i64 ay) := by simp [go_sem, *]
  have g4 : W4.cell? ⟨w.heap.size + 1, 0, none⟩ = some (.int .i64 bx) := by simp [go_sem, *]
  have g5 : W4.cell? ⟨w.heap.size + 1, 1, none⟩ = some (.int .i64 by_) := by simp [go_sem, *]
  have hbel : Below w.heap.size w W4 := (by repeat (first | with_reducible exact Below.refl _ _ | with_reducible assumption | with_reducible refine below_alloc ?_ _ | with_reducible refine below_draw ?_ | ((with_reducible apply bset); (focus (first | exact Nat.le_refl _ | (simp; done) | omega | (simp; omega)))) | ((with_reducible apply bcall); assumption; (focus (first | exact Nat.le_refl _ | (simp; done) | omega | (simp; omega))))))
  have hsz := hbel.size
  clear q1c q1f q2c q2f q3c q3f q4c q4f
  have i1 := i1.below (Nat.le_refl _) ((Below.refl _ _).alloc (Nat.le_refl _) (.cells #[.int .i64 0, .int .i64 0] 23))
  go_wp2_with (go_at_call 17; with_reducible refine (refCan_any _ _ _).mono ?_; rintro e kw ⟨rfl, kb⟩; obtain ⟨kc, kf, kl⟩ := rules kb (Nat.le_refl _); have kz0 := kl (w.heap.size) (by first | (simp; done) | assumption | omega | (simp; omega)); have kz1 := kl (w.heap.size + 1) (by first | (simp; done) | assumption | omega | (simp; omega)); have ky0 := kl (W3.heap.size) (by first | (simp; done) | assumption | omega | (simp; omega)); have ky1 := kl (W4.heap.size) (by first | (simp; done) | assumption | omega | (simp; omega)); clear kl)
  refine (refLen_eq _ (by omega) (by omega) (by omega) (by omega) (by omega) (by omega) (by omega) (by omega) hn).mono ?_
  rintro e W5 ⟨rfl, q5b⟩
  obtain ⟨q5c, q5f, q5l⟩ := rules q5b (Nat.le_refl _); have q5z0 := q5l (w.heap.size) (by first | (simp; done) | assumption | omega | (simp; omega)); have q5z1 := q5l (w.heap.size + 1) (by first | (simp; done) | assumption | omega | (simp; omega)); have q5y0 := q5l (W3.heap.size) (by first | (simp; done) | assumption | omega | (simp; omega)); have q5y1 := q5l (W4.heap.size) (by first | (simp; done) | assumption | omega | (simp; omega))
  clear q5l
  go_wp2_with fail
  refine (refRow_ok N _ h hn).mono ?_
  rintro e W6 ⟨v2, rfl, o2, q6b⟩
  obtain ⟨A2, c2, rfl, _, _⟩ := own_form o2
  have i2 := own_cells o2
  clear o2
  obtain ⟨q6c, q6f, q6l⟩ := rules q6b (Nat.le_refl _); have q6z0 := q6l (w.heap.size) (by first | (simp; done) | assumption | omega | (simp; omega)); have q6z1 := q6l (w.heap.size + 1) (by first | (simp; done) | assumption | omega | (simp; omega)); have q6y0 := q6l (W3.heap.size) (by first | (simp; done) | assumption | omega | (simp; omega)); have q6y1 := q6l (W4.heap.size) (by first | (simp; done) | assumption | omega | (simp; omega))
  clear q6l
  have b46 : Below (W4.alloc (.cells #[.int .i64 0, .int .i64 0] 23)).heap.size (W4.alloc (.cells #[.int .i64 0, .int .i64 0] 23)) W6 := (by repeat (first | with_reducible exact Below.refl _ _ | with_reducible assumption | with_reducible refine below_alloc ?_ _ | with_reducible refine below_draw ?_ | ((with_reducible apply bset); (focus (first | exact Nat.le_refl _ | (simp; done) | omega | (simp; omega)))) | ((with_reducible apply bcall); assumption; (focus (first | exact Nat.le_refl _ | (simp; done) | omega | (simp; omega))))))
  have i1 := i1.below (Nat.le_refl _) b46
  have s46 := b46.size
  simp only [World.size_alloc] at s46
  obtain ⟨bc, _, _⟩ := rules b46 (Nat.le_refl _)
  have e0 : W6.cell? ⟨W3.heap.size, 0, none⟩ = some (.int .i64 0) := by rw [bc _ _ (by simp; omega)]; simp [go_sem, *]
  have e1 : W6.cell? ⟨W3.heap.size, 1, none⟩ = some (.int .i64 0) := by rw [bc _ _ (by simp; omega)]; simp [go_sem, *]
  have e2 : W6.cell? ⟨W4.heap.size, 0, none⟩ = some (.int .i64 0) := by rw [bc _ _ (by simp)]; simp [go_sem]
  have e3 : W6.cell? ⟨W4.heap.size, 1, none⟩ = some (.int .i64 0) := by rw [bc _ _ (by simp)]; simp [go_sem]
  have z3 : W3.heap.size < W6.heap.size := by omega
  have z4 : W4.heap.size < W6.heap.size := by omega
  clear bc q5c q5f q6c q6f g0 g1 g2 g3 g4 g5
  go_wp2_with fail
  refine (sameCells_yes _ _ _ _ _ _ _ i1 i2 (by omega)).mono ?_
  rintro e W7 ⟨rfl, q7b⟩
  obtain ⟨q7c, q7f, q7l⟩ := rules q7b (Nat.le_refl _)
  have y3 := q7l _ z3
  have y4 := q7l _ z4
  have i1 := i1.below (Nat.le_refl _) q7b
  have hbel7 : Below w.heap.size w W7 := ((hbel.trans (((Below.refl _ _).alloc (Nat.le_refl _) _).mono hsz)).trans (b46.mono (by simp; omega))).trans (q7b.mono (by omega))
  clear q7l i2
  go_wp2
  go_ret
  exact ⟨rfl, hbel7⟩

set_option maxRecDepth 100000 in
set_option maxHeartbeats 4000000 in
theorem cells_in (ax ay bx by_ i : Int) (N : Nat) (w : World) (h : Hid (canP ⟨ax, ay⟩ ∧ canP ⟨bx, by_⟩)) (hn : Hid (rayN ⟨ax, ay⟩ ⟨bx, by_⟩ = (N : Int))) (h0 : 0 ≤ i) (hi : i ≤ N) :
    Calls Try.prog 5 #[.agg #[.int .i64 ax, .int .i64 ay], .agg #[.int .i64 bx, .int .i64 by_], .int .i64 i] w fun r w' => r = .returned (.bool true) ∧ Below w.heap.size w w' := by
  have hN : (N : Int) ≤ 1023 := by have := ray_bd ⟨ax, ay⟩ ⟨bx, by_⟩ h.out.1 h.out.2; rw [hn.out] at this; omega
  obtain ⟨⟨ha0, ha1, ha2, ha3⟩, hb0, hb1, hb2, hb3⟩ := h.out
  simp only at ha0 ha1 ha2 ha3 hb0 hb1 hb2 hb3
  have hca := canB_yes h.out.1
  have hcb := canB_yes h.out.2
  have hi' : i ≤ (N : Int) := hi
  have hq : Hid (rayAt ⟨ax, ay⟩ ⟨bx, by_⟩ i = rayAt ⟨ax, ay⟩ ⟨bx, by_⟩ i) := Lib.hid rfl
  generalize hqv : rayAt ⟨ax, ay⟩ ⟨bx, by_⟩ i = q at hq
  have hqv := Lib.hid hqv
  rename_i hqv0
  clear hqv0
  have d0 : decide ((N : Int) < i) = false := by simp; omega
  have d1 : decide (i < 0) = false := by simp; omega
  go_enter Try.func5, Try.ntmps5
  go_wp2_with fail
  with_reducible refine (awake23_any _).mono ?_
  rintro e W1 ⟨rfl, q1b⟩
  obtain ⟨q1c, q1f, q1l⟩ := rules q1b (Nat.le_refl _); have q1z0 := q1l (w.heap.size) (by first | (simp; done) | assumption | omega | (simp; omega)); have q1z1 := q1l (w.heap.size + 1) (by first | (simp; done) | assumption | omega | (simp; omega))
  clear q1l
  go_wp2_with fail
  with_reducible refine (Len_ok _ h hn).mono ?_
  rintro e W2 ⟨rfl, q2b⟩
  obtain ⟨q2c, q2f, q2l⟩ := rules q2b (Nat.le_refl _); have q2z0 := q2l (w.heap.size) (by first | (simp; done) | assumption | omega | (simp; omega)); have q2z1 := q2l (w.heap.size + 1) (by first | (simp; done) | assumption | omega | (simp; omega))
  clear q2l
  go_wp2_with fail
  with_reducible refine (At_ok _ h hn h0 hi hqv).mono ?_
  rintro e W3 ⟨rfl, q3b⟩
  obtain ⟨q3c, q3f, q3l⟩ := rules q3b (Nat.le_refl _); have q3z0 := q3l (w.heap.size) (by first | (simp; done) | assumption | omega | (simp; omega)); have q3z1 := q3l (w.heap.size + 1) (by first | (simp; done) | assumption | omega | (simp; omega))
  clear q3l
  go_wp2_with fail
  refine (Row_ok N _ h hn).mono ?_
  rintro e W4 ⟨v, rfl, o1, q4b⟩
  obtain ⟨A1, c1, rfl, _, _⟩ := own_form o1
  have i1 := own_cells o1
  clear o1
  obtain ⟨q4c, q4f, q4l⟩ := rules q4b (Nat.le_refl _); have q4z0 := q4l (w.heap.size) (by first | (simp; done) | assumption | omega | (simp; omega)); have q4z1 := q4l (w.heap.size + 1) (by first | (simp; done) | assumption | omega | (simp; omega)); have q4y0 := q4l (W3.heap.size) (by first | (simp; done) | assumption | omega | (simp; omega))
  clear q4l
  have g0 : W4.cell? ⟨W3.heap.size, 0, none⟩ = some (.int .i64 (q.x)) := by simp [go_sem, *]
  have g1 : W4.cell? ⟨W3.heap.size, 1, none⟩ = some (.int .i64 (q.y)) := by simp [go_sem, *]
  have g2 : W4.cell? ⟨w.heap.size, 0, none⟩ = some (.int .i64 ax) := by simp [go_sem, *]
  have g3 : W4.cell? ⟨w.heap.size, 1, none⟩ = some (.int .i64 ay) := by simp [go_sem, *]
  have g4 : W4.cell? ⟨w.heap.size + 1, 0, none⟩ = some (.int .i64 bx) := by simp [go_sem, *]
  have g5 : W4.cell? ⟨w.heap.size + 1, 1, none⟩ = some (.int .i64 by_) := by simp [go_sem, *]
  have hbel : Below w.heap.size w W4 := (by repeat (first | with_reducible exact Below.refl _ _ | with_reducible assumption | with_reducible refine below_alloc ?_ _ | with_reducible refine below_draw ?_ | ((with_reducible apply bset); (focus (first | exact Nat.le_refl _ | (simp; done) | omega | (simp; omega)))) | ((with_reducible apply bcall); assumption; (focus (first | exact Nat.le_refl _ | (simp; done) | omega | (simp; omega))))))
  have hsz := hbel.size
  clear q1c q1f q2c q2f q3c q3f q4c q4f
  have i1 := i1.below (Nat.le_refl _) ((Below.refl _ _).alloc (Nat.le_refl _) (.cells #[.int .i64 0, .int .i64 0] 23))
  go_wp2_with (go_at_call 17; with_reducible refine (refCan_any _ _ _).mono ?_; rintro e kw ⟨rfl, kb⟩; obtain ⟨kc, kf, kl⟩ := rules kb (Nat.le_refl _); have kz0 := kl (w.heap.size) (by first | (simp; done) | assumption | omega | (simp; omega)); have kz1 := kl (w.heap.size + 1) (by first | (simp; done) | assumption | omega | (simp; omega)); have ky0 := kl (W3.heap.size) (by first | (simp; done) | assumption | omega | (simp; omega)); have ky1 := kl (W4.heap.size) (by first | (simp; done) | assumption | omega | (simp; omega)); clear kl)
  refine (refLen_eq _ (by omega) (by omega) (by omega) (by omega) (by omega) (by omega) (by omega) (by omega) hn).mono ?_
  rintro e W5 ⟨rfl, q5b⟩
  obtain ⟨q5c, q5f, q5l⟩ := rules q5b (Nat.le_refl _); have q5z0 := q5l (w.heap.size) (by first | (simp; done) | assumption | omega | (simp; omega)); have q5z1 := q5l (w.heap.size + 1) (by first | (simp; done) | assumption | omega | (simp; omega)); have q5y0 := q5l (W3.heap.size) (by first | (simp; done) | assumption | omega | (simp; omega)); have q5y1 := q5l (W4.heap.size) (by first | (simp; done) | assumption | omega | (simp; omega))
  clear q5l
  go_wp2_with fail
  refine (refRow_ok N _ h hn).mono ?_
  rintro e W6 ⟨v2, rfl, o2, q6b⟩
  obtain ⟨A2, c2, rfl, _, _⟩ := own_form o2
  have i2 := own_cells o2
  clear o2
  obtain ⟨q6c, q6f, q6l⟩ := rules q6b (Nat.le_refl _); have q6z0 := q6l (w.heap.size) (by first | (simp; done) | assumption | omega | (simp; omega)); have q6z1 := q6l (w.heap.size + 1) (by first | (simp; done) | assumption | omega | (simp; omega)); have q6y0 := q6l (W3.heap.size) (by first | (simp; done) | assumption | omega | (simp; omega)); have q6y1 := q6l (W4.heap.size) (by first | (simp; done) | assumption | omega | (simp; omega))
  clear q6l
  have b46 : Below (W4.alloc (.cells #[.int .i64 0, .int .i64 0] 23)).heap.size (W4.alloc (.cells #[.int .i64 0, .int .i64 0] 23)) W6 := (by repeat (first | with_reducible exact Below.refl _ _ | with_reducible assumption | with_reducible refine below_alloc ?_ _ | with_reducible refine below_draw ?_ | ((with_reducible apply bset); (focus (first | exact Nat.le_refl _ | (simp; done) | omega | (simp; omega)))) | ((with_reducible apply bcall); assumption; (focus (first | exact Nat.le_refl _ | (simp; done) | omega | (simp; omega))))))
  have i1 := i1.below (Nat.le_refl _) b46
  have s46 := b46.size
  simp only [World.size_alloc] at s46
  obtain ⟨bc, _, _⟩ := rules b46 (Nat.le_refl _)
  have e0 : W6.cell? ⟨W3.heap.size, 0, none⟩ = some (.int .i64 (q.x)) := by rw [bc _ _ (by simp; omega)]; simp [go_sem, *]
  have e1 : W6.cell? ⟨W3.heap.size, 1, none⟩ = some (.int .i64 (q.y)) := by rw [bc _ _ (by simp; omega)]; simp [go_sem, *]
  have e2 : W6.cell? ⟨W4.heap.size, 0, none⟩ = some (.int .i64 0) := by rw [bc _ _ (by simp)]; simp [go_sem]
  have e3 : W6.cell? ⟨W4.heap.size, 1, none⟩ = some (.int .i64 0) := by rw [bc _ _ (by simp)]; simp [go_sem]
  have z3 : W3.heap.size < W6.heap.size := by omega
  have z4 : W4.heap.size < W6.heap.size := by omega
  clear bc q5c q5f q6c q6f g0 g1 g2 g3 g4 g5
  go_wp2_with fail
  refine (sameCells_yes _ _ _ _ _ _ _ i1 i2 (by omega)).mono ?_
  rintro e W7 ⟨rfl, q7b⟩
  obtain ⟨q7c, q7f, q7l⟩ := rules q7b (Nat.le_refl _)
  have y3 := q7l _ z3
  have y4 := q7l _ z4
  have i1 := i1.below (Nat.le_refl _) q7b
  have hbel7 : Below w.heap.size w W7 := ((hbel.trans (((Below.refl _ _).alloc (Nat.le_refl _) _).mono hsz)).trans (b46.mono (by simp; omega))).trans (q7b.mono (by omega))
  clear q7l i2
  have hw6 : Below W7.heap.size W7 W7 := Below.refl _ _
  obtain ⟨b, off, rfl, hb, f0, f1⟩ := i1.at_ (show i.toNat < N + 1 by omega)
  rw [cnth_row (by omega), show ((i.toNat : Nat) : Int) = i by omega, hqv.out] at f0 f1
  have f2 : W7.cell? ⟨W3.heap.size, 0, none⟩ = some (.int .i64 q.x) := (q7c _ _ z3).trans e0
  have f3 : W7.cell? ⟨W3.heap.size, 1, none⟩ = some (.int .i64 q.y) := (q7c _ _ z3).trans e1
  have f4 : i < (N : Int) + 1 := by omega
  clear q7c q7f e0 e1 e2 e3 i1
  go_wp2
  refine wp_region_over (by kernel_rfl) (by kernel_rfl) ?_
  repeat (go_big_quiet_step ((fail)))
  refine wpQuiet_nil ?_
  intro W8 W8b
  obtain ⟨W8c, W8f, W8l⟩ := rules W8b (Nat.le_refl _); clear W8l
  go_wp2
  go_ret
  exact ⟨rfl, hbel7.trans (W8b.mono hbel7.size)⟩

theorem rayCells_walk (ax ay bx by_ i : Int) (w : World) (_a0 : (-9223372036854775808 ≤ ax ∧ ax ≤ 9223372036854775807)) (_a1 : (-9223372036854775808 ≤ ay ∧ ay ≤ 9223372036854775807)) (_a2 : (-9223372036854775808 ≤ bx ∧ bx ≤ 9223372036854775807)) (_a3 : (-9223372036854775808 ≤ by_ ∧ by_ ≤ 9223372036854775807)) (_a4 : (-9223372036854775808 ≤ i ∧ i ≤ 9223372036854775807)) :
    Calls Try.prog 5 #[.agg #[.int .i64 ax, .int .i64 ay], .agg #[.int .i64 bx, .int .i64 by_], .int .i64 i] w fun r w' => r = .returned (.bool true) ∧ Below w.heap.size w w' := by
  by_cases h : canP ⟨ax, ay⟩ ∧ canP ⟨bx, by_⟩
  · obtain ⟨N, hN⟩ := Int.eq_ofNat_of_zero_le (show 0 ≤ rayN ⟨ax, ay⟩ ⟨bx, by_⟩ by have := ray_bd _ _ h.1 h.2; omega)
    by_cases h0 : i < 0
    · exact cells_lo ax ay bx by_ i N w h hN h0
    · by_cases h1 : (N : Int) < i
      · exact cells_hi ax ay bx by_ i N w h hN (by omega) h1
      · exact cells_in ax ay bx by_ i N w h hN (by omega) (by omega)
  · exact cells_no ax ay bx by_ i w h

end Go.Proofs.Ytjhbomgfjffmdaa
