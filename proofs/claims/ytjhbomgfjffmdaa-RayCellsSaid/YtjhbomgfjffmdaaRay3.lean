/- Layer 23: At; the reference's Can, At, Row. -/
import Derived.Test.YtjhbomgfjffmdaaLaw23a
set_option linter.unusedVariables false
set_option linter.unusedSimpArgs false
namespace Go.Proofs.Ytjhbomgfjffmdaa
open Go.RowKit
theorem toward_eq (p q k : Int) : p + sg (q - p) * k = if q < p then p - k else p + k := by
  unfold sg
  by_cases h : q < p
  · rw [if_pos (by omega), if_pos h]; omega
  · rw [if_neg (by omega), if_neg h]; omega
/-- the lesser axis' steps, as both texts reckon them -/
theorem K_wrap {n m i : Int} (hn : 0 < n) (hn1 : n ≤ 1023) (h0 : 0 ≤ m) (h1 : m ≤ n) (hi : 0 ≤ i) (hi1 : i ≤ n) :
    wrap64 (2 * i) = 2 * i ∧ wrap64 (2 * i * m) = 2 * i * m ∧ wrap64 (2 * i * m + n) = 2 * i * m + n ∧ wrap64 (2 * n) = 2 * n ∧ wrap64 ((2 * i * m + n).tdiv (2 * n)) = rayK n m i ∧ 0 ≤ 2 * i * m + n ∧ 0 ≤ rayK n m i ∧ rayK n m i ≤ 1023 := by
  have p0 : 0 ≤ 2 * i * m := Int.mul_nonneg (by omega) h0
  have p1 : 2 * i * m ≤ 2046 * 1023 := Int.mul_le_mul (by omega) (by omega) h0 (by omega)
  have hk := K_bd hn h0 h1 hi hi1
  refine ⟨IntWalk.wrap64_in _ ⟨by omega, by omega⟩, IntWalk.wrap64_in _ ⟨by omega, by omega⟩, IntWalk.wrap64_in _ ⟨by omega, by omega⟩, IntWalk.wrap64_in _ ⟨by omega, by omega⟩, ?_, by omega, by omega, by omega⟩
  rw [Int.tdiv_eq_ediv_of_nonneg (by omega)]
  exact IntWalk.wrap64_in _ ⟨by unfold rayK at hk; omega, by unfold rayK at hk; omega⟩

theorem refCan_any (x y : Int) (w : World) :
    Calls Try.prog 17 #[.agg #[.int .i64 x, .int .i64 y]] w fun r w' => r = .returned (.bool (canB x y)) ∧ Below w.heap.size w w' := by
  go_enter Try.func17, Try.ntmps17
  go_wp2
  all_goals
    go_ret
    refine ⟨ret_bool ?_, (by repeat (first | with_reducible exact Below.refl _ _ | with_reducible assumption | with_reducible refine below_alloc ?_ _ | with_reducible refine below_draw ?_ | ((with_reducible apply bset); (focus (first | exact Nat.le_refl _ | (simp; done) | omega | (simp; omega)))) | ((with_reducible apply bcall); assumption; (focus (first | exact Nat.le_refl _ | (simp; done) | omega | (simp; omega))))))⟩
    rw [eq_comm]
    simp only [canB, canP]
    first | (apply decide_eq_false; omega) | (rw [decide_eq_decide]; omega) | (rw [Bool.eq_iff_iff]; simp [*]; done) | (rw [Bool.eq_iff_iff]; simp [*]; omega)

theorem toward_any (p q k : Int) (w : World) (h0 : -1000000 ≤ p) (h1 : p ≤ 1000000) (h2 : -1000000 ≤ k) (h3 : k ≤ 1000000) :
    Calls Try.prog 63 #[.int .i64 p, .int .i64 q, .int .i64 k] w fun r w' => r = .returned (.int .i64 (p + sg (q - p) * k)) ∧ w = w' := by
  have e := toward_eq p q k
  by_cases h : q < p
  · rw [if_pos h] at e
    rw [e]
    clear e
    go_enter Try.func63, Try.ntmps63
    go_wp2
    go_ret
    exact ⟨rfl, rfl⟩
  · rw [if_neg h] at e
    rw [e]
    clear e
    go_enter Try.func63, Try.ntmps63
    go_wp2
    go_ret
    exact ⟨rfl, rfl⟩

set_option maxRecDepth 100000 in
set_option maxHeartbeats 2000000 in
theorem refAt_any {ax ay bx by_ i : Int} {q : Cl} (w : World) (h : Hid (canP ⟨ax, ay⟩ ∧ canP ⟨bx, by_⟩)) (hi : 0 ≤ i) (hi1 : i ≤ rayN ⟨ax, ay⟩ ⟨bx, by_⟩) (hq : Hid (rayAt ⟨ax, ay⟩ ⟨bx, by_⟩ i = q)) :
    Calls Try.prog 45 #[.agg #[.int .i64 ax, .int .i64 ay], .agg #[.int .i64 bx, .int .i64 by_], .int .i64 i] w fun r w' => r = .returned (.agg #[.int .i64 q.x, .int .i64 q.y]) ∧ Below w.heap.size w w' := by
  obtain ⟨⟨ha0, ha1, ha2, ha3⟩, hb0, hb1, hb2, hb3⟩ := h.out
  have hbd := ray_bd _ _ h.out.1 h.out.2
  simp only at ha0 ha1 ha2 ha3 hb0 hb1 hb2 hb3
  have u1 : wrap64 (bx - ax) = bx - ax := IntWalk.wrap64_in _ ⟨by omega, by omega⟩
  have u2 : wrap64 (by_ - ay) = by_ - ay := IntWalk.wrap64_in _ ⟨by omega, by omega⟩
  have x0 := ab_pos (bx - ax)
  have y0 := ab_pos (by_ - ay)
  have hqv := hq.out
  by_cases hs : ab (bx - ax) < ab (by_ - ay)
  · have s1 : steep ⟨ax, ay⟩ ⟨bx, by_⟩ := hs
    have en : rayN ⟨ax, ay⟩ ⟨bx, by_⟩ = ab (by_ - ay) := if_pos s1
    have em : rayM ⟨ax, ay⟩ ⟨bx, by_⟩ = ab (bx - ax) := if_pos s1
    rw [en] at hi1
    rw [en, em] at hbd
    have e : q = ⟨ax + sg (bx - ax) * rayK (ab (by_ - ay)) (ab (bx - ax)) i, ay + sg (by_ - ay) * i⟩ := by rw [← hqv]; unfold rayAt; rw [if_pos s1, en, em]
    rw [e]
    simp only
    clear e hqv hq en em s1 h
    obtain ⟨k1, k2, k3, k4, k5, k6, k7, k8⟩ := K_wrap (n := ab (by_ - ay)) (m := ab (bx - ax)) (i := i) (by omega) hbd.2.2 hbd.1 hbd.2.1 hi hi1
    have z1 : (ab (bx - ax) == 0 && ab (by_ - ay) == 0) = false := by simp; omega
    have z2 : (ab (by_ - ay) == 0) = false := by simp; omega
    have z3 : decide (ab (by_ - ay) ≤ ab (bx - ax)) = false := by simp; omega
    obtain ⟨_, _, _⟩ := hbd
    generalize hX : rayK (ab (by_ - ay)) (ab (bx - ax)) i = K at *
    clear hX
    by_cases z4 : ab (bx - ax) = 0
    · have z5 : (ab (bx - ax) == 0) = true := by simp [z4]
      clear z4 z1
      go_enter Try.func45, Try.ntmps45
      go_wp2
      refine wp_region_over (by kernel_rfl) (by kernel_rfl) ?_
      repeat (go_big_quiet_step ((first | (go_at_call 43; with_reducible exact (size_any _ _ (by omega) (by omega)).over_same))))
      refine wpQuiet_nil ?_
      intro W1 W1b
      obtain ⟨W1c, W1f, W1l⟩ := rules W1b (Nat.le_refl _); have W1z0 := W1l (w.heap.size) (by first | (simp; done) | assumption | omega | (simp; omega)); have W1z1 := W1l (w.heap.size + 1) (by first | (simp; done) | assumption | omega | (simp; omega)); have W1z2 := W1l (w.heap.size + 1 + 1) (by first | (simp; done) | assumption | omega | (simp; omega)); clear W1l
      go_wp2
      refine wp_region_over_tail 21 (by kernel_rfl) (by kernel_rfl) ?_
      simp only [List.take_succ_cons, List.take_zero, List.drop_succ_cons, List.drop_zero]
      repeat (go_big_quiet_step ((first | (go_at_call 63; with_reducible exact (toward_any _ _ _ _ (by omega) (by omega) (by omega) (by omega)).over_same))))
      refine wpQuiet_nil ?_
      intro W2 W2b
      obtain ⟨W2c, W2f, W2l⟩ := rules W2b (Nat.le_refl _); have W2z0 := W2l (w.heap.size) (by first | (simp; done) | assumption | omega | (simp; omega)); have W2z1 := W2l (w.heap.size + 1) (by first | (simp; done) | assumption | omega | (simp; omega)); have W2z2 := W2l (w.heap.size + 1 + 1) (by first | (simp; done) | assumption | omega | (simp; omega)); clear W2l
      go_wp2
      exact bodyPost_ret (v := .agg #[.int .i64 (ax + sg (bx - ax) * K), .int .i64 (ay + sg (by_ - ay) * i)]) (by simp [results, Try.results45, go_sem, *]) rfl ⟨rfl, (by repeat (first | with_reducible exact Below.refl _ _ | with_reducible assumption | with_reducible refine below_alloc ?_ _ | with_reducible refine below_draw ?_ | ((with_reducible apply bset); (focus (first | exact Nat.le_refl _ | (simp; done) | omega | (simp; omega)))) | ((with_reducible apply bcall); assumption; (focus (first | exact Nat.le_refl _ | (simp; done) | omega | (simp; omega))))))⟩
    · have z5 : (ab (bx - ax) == 0) = false := by simp [z4]
      clear z4 z1
      go_enter Try.func45, Try.ntmps45
      go_wp2
      refine wp_region_over (by kernel_rfl) (by kernel_rfl) ?_
      repeat (go_big_quiet_step ((first | (go_at_call 43; with_reducible exact (size_any _ _ (by omega) (by omega)).over_same))))
      refine wpQuiet_nil ?_
      intro W1 W1b
      obtain ⟨W1c, W1f, W1l⟩ := rules W1b (Nat.le_refl _); have W1z0 := W1l (w.heap.size) (by first | (simp; done) | assumption | omega | (simp; omega)); have W1z1 := W1l (w.heap.size + 1) (by first | (simp; done) | assumption | omega | (simp; omega)); have W1z2 := W1l (w.heap.size + 1 + 1) (by first | (simp; done) | assumption | omega | (simp; omega)); clear W1l
      go_wp2
      refine wp_region_over_tail 21 (by kernel_rfl) (by kernel_rfl) ?_
      simp only [List.take_succ_cons, List.take_zero, List.drop_succ_cons, List.drop_zero]
      repeat (go_big_quiet_step ((first | (go_at_call 63; with_reducible exact (toward_any _ _ _ _ (by omega) (by omega) (by omega) (by omega)).over_same))))
      refine wpQuiet_nil ?_
      intro W2 W2b
      obtain ⟨W2c, W2f, W2l⟩ := rules W2b (Nat.le_refl _); have W2z0 := W2l (w.heap.size) (by first | (simp; done) | assumption | omega | (simp; omega)); have W2z1 := W2l (w.heap.size + 1) (by first | (simp; done) | assumption | omega | (simp; omega)); have W2z2 := W2l (w.heap.size + 1 + 1) (by first | (simp; done) | assumption | omega | (simp; omega)); clear W2l
      go_wp2
      exact bodyPost_ret (v := .agg #[.int .i64 (ax + sg (bx - ax) * K), .int .i64 (ay + sg (by_ - ay) * i)]) (by simp [results, Try.results45, go_sem, *]) rfl ⟨rfl, (by repeat (first | with_reducible exact Below.refl _ _ | with_reducible assumption | with_reducible refine below_alloc ?_ _ | with_reducible refine below_draw ?_ | ((with_reducible apply bset); (focus (first | exact Nat.le_refl _ | (simp; done) | omega | (simp; omega)))) | ((with_reducible apply bcall); assumption; (focus (first | exact Nat.le_refl _ | (simp; done) | omega | (simp; omega))))))⟩
  · have s1 : ¬ steep ⟨ax, ay⟩ ⟨bx, by_⟩ := hs
    have en : rayN ⟨ax, ay⟩ ⟨bx, by_⟩ = ab (bx - ax) := if_neg s1
    have em : rayM ⟨ax, ay⟩ ⟨bx, by_⟩ = ab (by_ - ay) := if_neg s1
    rw [en] at hi1
    rw [en, em] at hbd
    have hle : ab (by_ - ay) ≤ ab (bx - ax) := by omega
    by_cases z4 : ab (bx - ax) = 0
    · have hi0 : i = 0 := by omega
      subst hi0
      have e : q = ⟨ax, ay⟩ := by rw [← hqv]; exact at_zero _ _ (by rw [en]; omega)
      rw [e]
      simp only
      have z5 : (ab (bx - ax) == 0) = true := by simp [z4]
      have z6 : (ab (by_ - ay) == 0) = true := by simp; omega
      clear e hqv hq en em s1 h z4
      go_enter Try.func45, Try.ntmps45
      go_wp2
      refine wp_region_over (by kernel_rfl) (by kernel_rfl) ?_
      repeat (go_big_quiet_step ((first | (go_at_call 43; with_reducible exact (size_any _ _ (by omega) (by omega)).over_same))))
      refine wpQuiet_nil ?_
      intro W1 W1b
      obtain ⟨W1c, W1f, W1l⟩ := rules W1b (Nat.le_refl _); have W1z0 := W1l (w.heap.size) (by first | (simp; done) | assumption | omega | (simp; omega)); have W1z1 := W1l (w.heap.size + 1) (by first | (simp; done) | assumption | omega | (simp; omega)); have W1z2 := W1l (w.heap.size + 1 + 1) (by first | (simp; done) | assumption | omega | (simp; omega)); clear W1l
      go_wp2
      exact bodyPost_ret (v := .agg #[.int .i64 ax, .int .i64 ay]) (by simp [results, Try.results45, go_sem, *]) rfl ⟨rfl, (by repeat (first | with_reducible exact Below.refl _ _ | with_reducible assumption | with_reducible refine below_alloc ?_ _ | with_reducible refine below_draw ?_ | ((with_reducible apply bset); (focus (first | exact Nat.le_refl _ | (simp; done) | omega | (simp; omega)))) | ((with_reducible apply bcall); assumption; (focus (first | exact Nat.le_refl _ | (simp; done) | omega | (simp; omega))))))⟩
    · have e : q = ⟨ax + sg (bx - ax) * i, ay + sg (by_ - ay) * rayK (ab (bx - ax)) (ab (by_ - ay)) i⟩ := by rw [← hqv]; unfold rayAt; rw [if_neg s1, en, em]
      rw [e]
      simp only
      have z5 : (ab (bx - ax) == 0) = false := by simp [z4]
      have hp : 0 < ab (bx - ax) := by omega
      obtain ⟨k1, k2, k3, k4, k5, k6, k7, k8⟩ := K_wrap (n := ab (bx - ax)) (m := ab (by_ - ay)) (i := i) (by omega) hbd.2.2 hbd.1 hbd.2.1 hi hi1
      obtain ⟨_, _, _⟩ := hbd
      generalize hX : rayK (ab (bx - ax)) (ab (by_ - ay)) i = K at *
      clear hX e hqv hq en em s1 h z4
      go_enter Try.func45, Try.ntmps45
      go_wp2
      refine wp_region_over (by kernel_rfl) (by kernel_rfl) ?_
      repeat (go_big_quiet_step ((first | (go_at_call 43; with_reducible exact (size_any _ _ (by omega) (by omega)).over_same))))
      refine wpQuiet_nil ?_
      intro W1 W1b
      obtain ⟨W1c, W1f, W1l⟩ := rules W1b (Nat.le_refl _); have W1z0 := W1l (w.heap.size) (by first | (simp; done) | assumption | omega | (simp; omega)); have W1z1 := W1l (w.heap.size + 1) (by first | (simp; done) | assumption | omega | (simp; omega)); have W1z2 := W1l (w.heap.size + 1 + 1) (by first | (simp; done) | assumption | omega | (simp; omega)); clear W1l
      go_wp2
      refine wp_region_over_tail 21 (by kernel_rfl) (by kernel_rfl) ?_
      simp only [List.take_succ_cons, List.take_zero, List.drop_succ_cons, List.drop_zero]
      repeat (go_big_quiet_step ((first | (go_at_call 63; with_reducible exact (toward_any _ _ _ _ (by omega) (by omega) (by omega) (by omega)).over_same))))
      refine wpQuiet_nil ?_
      intro W2 W2b
      obtain ⟨W2c, W2f, W2l⟩ := rules W2b (Nat.le_refl _); have W2z0 := W2l (w.heap.size) (by first | (simp; done) | assumption | omega | (simp; omega)); have W2z1 := W2l (w.heap.size + 1) (by first | (simp; done) | assumption | omega | (simp; omega)); have W2z2 := W2l (w.heap.size + 1 + 1) (by first | (simp; done) | assumption | omega | (simp; omega)); clear W2l
      go_wp2
      exact bodyPost_ret (v := .agg #[.int .i64 (ax + sg (bx - ax) * i), .int .i64 (ay + sg (by_ - ay) * K)]) (by simp [results, Try.results45, go_sem, *]) rfl ⟨rfl, (by repeat (first | with_reducible exact Below.refl _ _ | with_reducible assumption | with_reducible refine below_alloc ?_ _ | with_reducible refine below_draw ?_ | ((with_reducible apply bset); (focus (first | exact Nat.le_refl _ | (simp; done) | omega | (simp; omega)))) | ((with_reducible apply bcall); assumption; (focus (first | exact Nat.le_refl _ | (simp; done) | omega | (simp; omega))))))⟩

set_option maxRecDepth 100000 in
set_option maxHeartbeats 2000000 in
theorem refRow_ok {ax ay bx by_ : Int} (N : Nat) (w : World) (h : Hid (canP ⟨ax, ay⟩ ∧ canP ⟨bx, by_⟩)) (hn : Hid (rayN ⟨ax, ay⟩ ⟨bx, by_⟩ = (N : Int))) :
    Calls Try.prog 19 #[.agg #[.int .i64 ax, .int .i64 ay], .agg #[.int .i64 bx, .int .i64 by_]] w fun r w' => ∃ v, r = .returned v ∧ w'.ownsRow w.heap.size 23 2 v (N + 1) (ccells (rayRow ⟨ax, ay⟩ ⟨bx, by_⟩ (N + 1))) ∧ Below w.heap.size w w' := by
  have hN : (N : Int) ≤ 1023 := by have := ray_bd ⟨ax, ay⟩ ⟨bx, by_⟩ h.out.1 h.out.2; rw [hn.out] at this; omega
  obtain ⟨⟨ha0, ha1, ha2, ha3⟩, hb0, hb1, hb2, hb3⟩ := h.out
  simp only at ha0 ha1 ha2 ha3 hb0 hb1 hb2 hb3
  go_enter Try.func19, Try.ntmps19
  go_wp2
  have l0 := World.ownsRow_lit (base := w.heap.size + 1 + 1) (e := 23) (size := 2) ((w.alloc (.cells #[.int .i64 ax, .int .i64 ay] 23)).alloc (.cells #[.int .i64 bx, .int .i64 by_] 23)) #[] 0 (by simp) (Nat.zero_le _) rfl
  go_loopw [5, 6] (fun v x wr => ∃ (k : Nat) (V : Value), k ≤ N + 1 ∧ x = .int .i64 k ∧ V = v ∧ wr.ownsRow (w.heap.size + 1 + 1) 23 2 V k (ccells (rayRow ⟨ax, ay⟩ ⟨bx, by_⟩ k)) ∧ Below (w.heap.size + 1 + 1) ((w.alloc (.cells #[.int .i64 ax, .int .i64 ay] 23)).alloc (.cells #[.int .i64 bx, .int .i64 by_] 23)) wr ∧ w.heap.size + 2 ≤ wr.heap.size) (fun _ x _ => N + 1 - (intOf x).toNat)
  case atStart => exact ⟨0, _, Nat.zero_le _, rfl, rfl, by simp only [World.size_alloc] at l0; exact l0, (Below.refl _ _).alloc (by simp) _, by simp⟩
  case round =>
    clear l0
    obtain ⟨k, V, hk, rfl, rfl, hown, hE, hs⟩ := hrel
    obtain ⟨hEc, hEf, _⟩ := rules hE (by simp)
    have g0 : wr.cell? ⟨w.heap.size, 0, none⟩ = some (.int .i64 ax) := by rw [hEc _ _ (by omega)]; simp [go_sem]
    have g1 : wr.cell? ⟨w.heap.size, 1, none⟩ = some (.int .i64 ay) := by rw [hEc _ _ (by omega)]; simp [go_sem]
    have g2 : wr.cell? ⟨w.heap.size + 1, 0, none⟩ = some (.int .i64 bx) := by rw [hEc _ _ (by omega)]; simp [go_sem]
    have g3 : wr.cell? ⟨w.heap.size + 1, 1, none⟩ = some (.int .i64 by_) := by rw [hEc _ _ (by omega)]; simp [go_sem]
    clear hEc hEf
    have z0 : w.heap.size < wr.heap.size := by omega
    have z1 : w.heap.size + 1 < wr.heap.size := by omega
    go_wp2_with fail
    refine (refLen_eq _ (by omega) (by omega) (by omega) (by omega) (by omega) (by omega) (by omega) (by omega) hn).mono ?_
    rintro e W1 ⟨rfl, q1b⟩
    obtain ⟨q1c, q1f, q1l⟩ := rules q1b (Nat.le_refl _); have q1z0 := q1l (w.heap.size) (by first | (simp; done) | assumption | omega | (simp; omega)); have q1z1 := q1l (w.heap.size + 1) (by first | (simp; done) | assumption | omega | (simp; omega))
    clear q1l
    have hown := own_keep hown q1b (Nat.le_refl _)
    have hE := hE.trans (q1b.mono (by omega))
    have hs := Nat.le_trans hs q1b.size
    by_cases hlt : k < N + 1
    · generalize hq : rayAt ⟨ax, ay⟩ ⟨bx, by_⟩ (k : Int) = q
      have Hq := Lib.hid hq
      have hq2 := Lib.hid (rayRow_succ ⟨ax, ay⟩ ⟨bx, by_⟩ k)
      clear hq
      have hkN : (k : Int) ≤ rayN ⟨ax, ay⟩ ⟨bx, by_⟩ := by rw [hn.out]; omega
      have HkN := Lib.hid hkN
      clear hkN
      go_wp2_with fail
      refine (refAt_any _ h (by omega) HkN.out Hq).mono ?_
      rintro e W2 ⟨rfl, q2b⟩
      have hown := own_keep hown q2b (Nat.le_refl _)
      have hE := hE.trans (q2b.mono (by omega))
      have hs := Nat.le_trans hs q2b.size
      clear q1c q1f
      go_wp2_with (at_builtin; refine wpList_push rfl (.tmp 15) (.tmp 20) 25 23 rfl Try.underlying25 _ 2 16 cell_info rfl (by decide) _ (k) _ rfl (w.heap.size + 1 + 1) hown _ hE (by omega) _ _ _ (by simp) rfl rfl (by simp [Value.oneCell']) (by unfold maxLen; omega) (by omega) ?_; intro v' w' hown' hE' hB')
      have hsz := hE'.size
      go_wp2
      go_roundw
      case rel => exact ⟨k + 1, _, by omega, by go_num, rfl, by rw [hq2.out, ccells_snoc, Hq.out]; exact hown', hE', by simp at hsz; omega⟩
      case measure => simp [intOf]; omega
    · have hkN : k = N + 1 := by omega
      subst hkN
      go_wp2
      go_ret
      exact ⟨_, rfl, own_mono hown (by omega), (((Below.refl w.heap.size w).alloc (Nat.le_refl _) _).alloc (by simp) _).trans (hE.mono (by omega))⟩

end Go.Proofs.Ytjhbomgfjffmdaa
