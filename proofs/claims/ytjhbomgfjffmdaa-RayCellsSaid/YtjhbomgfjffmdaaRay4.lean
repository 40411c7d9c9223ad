/- Layer 23: At; RayCells. -/
import Derived.Test.YtjhbomgfjffmdaaRay3
set_option linter.unusedVariables false
set_option linter.unusedSimpArgs false
namespace Go.Proofs.Ytjhbomgfjffmdaa
open Go.RowKit

theorem At_no (ax ay bx by_ i : Int) (w : World) (h : ¬ (canP ⟨ax, ay⟩ ∧ canP ⟨bx, by_⟩)) :
    Calls Try.prog 16 #[.agg #[.int .i64 ax, .int .i64 ay], .agg #[.int .i64 bx, .int .i64 by_], .int .i64 i] w fun r w' => r = .returned (.tuple #[.agg #[.int .i64 0, .int .i64 0], .int .i64 4]) ∧ Below w.heap.size w w' := by
  go_enter Try.func16, Try.ntmps16
  go_wp2_with (go_at_call 15; refine (Len_no _ _ _ _ _ h).mono ?_; rintro e w' ⟨rfl, qb⟩; obtain ⟨qc, qf, ql⟩ := rules qb (Nat.le_refl _); have qz0 := ql (w.heap.size) (by first | (simp; done) | assumption | omega | (simp; omega)); have qz1 := ql (w.heap.size + 1) (by first | (simp; done) | assumption | omega | (simp; omega)); have qz2 := ql (w.heap.size + 1 + 1) (by first | (simp; done) | assumption | omega | (simp; omega)); clear ql)
  exact bodyPost_ret (v := .tuple #[.agg #[.int .i64 0, .int .i64 0], .int .i64 4]) (by simp [results, Try.results16, go_sem, *]) rfl ⟨rfl, (by repeat (first | with_reducible exact Below.refl _ _ | with_reducible assumption | with_reducible refine below_alloc ?_ _ | with_reducible refine below_draw ?_ | ((with_reducible apply bset); (focus (first | exact Nat.le_refl _ | (simp; done) | omega | (simp; omega)))) | ((with_reducible apply bcall); assumption; (focus (first | exact Nat.le_refl _ | (simp; done) | omega | (simp; omega))))))⟩

theorem At_out {ax ay bx by_ n i : Int} (w : World) (h : Hid (canP ⟨ax, ay⟩ ∧ canP ⟨bx, by_⟩)) (hn : Hid (rayN ⟨ax, ay⟩ ⟨bx, by_⟩ = n)) (hi : i < 0 ∨ n < i) :
    Calls Try.prog 16 #[.agg #[.int .i64 ax, .int .i64 ay], .agg #[.int .i64 bx, .int .i64 by_], .int .i64 i] w fun r w' => r = .returned (.tuple #[.agg #[.int .i64 0, .int .i64 0], .int .i64 11]) ∧ Below w.heap.size w w' := by
  by_cases h0 : i < 0
  · clear hi
    go_enter Try.func16, Try.ntmps16
    go_wp2_with (go_at_call 15; refine (Len_ok _ h hn).mono ?_; rintro e w' ⟨rfl, qb⟩; obtain ⟨qc, qf, ql⟩ := rules qb (Nat.le_refl _); have qz0 := ql (w.heap.size) (by first | (simp; done) | assumption | omega | (simp; omega)); have qz1 := ql (w.heap.size + 1) (by first | (simp; done) | assumption | omega | (simp; omega)); have qz2 := ql (w.heap.size + 1 + 1) (by first | (simp; done) | assumption | omega | (simp; omega)); clear ql)
    exact bodyPost_ret (v := .tuple #[.agg #[.int .i64 0, .int .i64 0], .int .i64 11]) (by simp [results, Try.results16, go_sem, *]) rfl ⟨rfl, (by repeat (first | with_reducible exact Below.refl _ _ | with_reducible assumption | with_reducible refine below_alloc ?_ _ | with_reducible refine below_draw ?_ | ((with_reducible apply bset); (focus (first | exact Nat.le_refl _ | (simp; done) | omega | (simp; omega)))) | ((with_reducible apply bcall); assumption; (focus (first | exact Nat.le_refl _ | (simp; done) | omega | (simp; omega))))))⟩
  · have h1 : n < i := by omega
    have h2 : 0 ≤ i := by omega
    clear hi h0
    go_enter Try.func16, Try.ntmps16
    go_wp2_with (go_at_call 15; refine (Len_ok _ h hn).mono ?_; rintro e w' ⟨rfl, qb⟩; obtain ⟨qc, qf, ql⟩ := rules qb (Nat.le_refl _); have qz0 := ql (w.heap.size) (by first | (simp; done) | assumption | omega | (simp; omega)); have qz1 := ql (w.heap.size + 1) (by first | (simp; done) | assumption | omega | (simp; omega)); have qz2 := ql (w.heap.size + 1 + 1) (by first | (simp; done) | assumption | omega | (simp; omega)); clear ql)
    exact bodyPost_ret (v := .tuple #[.agg #[.int .i64 0, .int .i64 0], .int .i64 11]) (by simp [results, Try.results16, go_sem, *]) rfl ⟨rfl, (by repeat (first | with_reducible exact Below.refl _ _ | with_reducible assumption | with_reducible refine below_alloc ?_ _ | with_reducible refine below_draw ?_ | ((with_reducible apply bset); (focus (first | exact Nat.le_refl _ | (simp; done) | omega | (simp; omega)))) | ((with_reducible apply bcall); assumption; (focus (first | exact Nat.le_refl _ | (simp; done) | omega | (simp; omega))))))⟩

set_option maxRecDepth 100000 in
set_option maxHeartbeats 2000000 in
theorem At_ok {ax ay bx by_ n i : Int} {q : Cl} (w : World) (h : Hid (canP ⟨ax, ay⟩ ∧ canP ⟨bx, by_⟩)) (hn : Hid (rayN ⟨ax, ay⟩ ⟨bx, by_⟩ = n)) (h0 : 0 ≤ i) (h1 : i ≤ n) (hq : Hid (rayAt ⟨ax, ay⟩ ⟨bx, by_⟩ i = q)) :
    Calls Try.prog 16 #[.agg #[.int .i64 ax, .int .i64 ay], .agg #[.int .i64 bx, .int .i64 by_], .int .i64 i] w fun r w' => r = .returned (.tuple #[.agg #[.int .i64 q.x, .int .i64 q.y], .int .i64 0]) ∧ Below w.heap.size w w' := by
  obtain ⟨⟨ha0, ha1, ha2, ha3⟩, hb0, hb1, hb2, hb3⟩ := h.out
  have hbd := ray_bd _ _ h.out.1 h.out.2
  simp only at ha0 ha1 ha2 ha3 hb0 hb1 hb2 hb3
  rw [hn.out] at hbd
  have d0 : decide (n < i) = false := by simp; omega
  have d1 : decide (i < 0) = false := by simp; omega
  by_cases hz : n = 0
  · have hi : i = 0 := by omega
    have e : q = ⟨ax, ay⟩ := by rw [← hq.out, hi]; exact at_zero _ _ (by rw [hn.out]; omega)
    have z0 : (n == 0) = true := by simp [hz]
    rw [e]
    simp only
    clear hz hi e hbd hq
    go_enter Try.func16, Try.ntmps16
    go_wp2_with (go_at_call 15; refine (Len_ok _ h hn).mono ?_; rintro e w' ⟨rfl, qb⟩; obtain ⟨qc, qf, ql⟩ := rules qb (Nat.le_refl _); have qz0 := ql (w.heap.size) (by first | (simp; done) | assumption | omega | (simp; omega)); have qz1 := ql (w.heap.size + 1) (by first | (simp; done) | assumption | omega | (simp; omega)); have qz2 := ql (w.heap.size + 1 + 1) (by first | (simp; done) | assumption | omega | (simp; omega)); clear ql)
    exact bodyPost_ret (v := .tuple #[.agg #[.int .i64 ax, .int .i64 ay], .int .i64 0]) (by simp [results, Try.results16, go_sem, *]) rfl ⟨rfl, (by repeat (first | with_reducible exact Below.refl _ _ | with_reducible assumption | with_reducible refine below_alloc ?_ _ | with_reducible refine below_draw ?_ | ((with_reducible apply bset); (focus (first | exact Nat.le_refl _ | (simp; done) | omega | (simp; omega)))) | ((with_reducible apply bcall); assumption; (focus (first | exact Nat.le_refl _ | (simp; done) | omega | (simp; omega))))))⟩
  · have z0 : (n == 0) = false := by simp [hz]
    have hp : 0 < n := by omega
    have e : q = ⟨ax + i * (rayA ⟨ax, ay⟩ ⟨bx, by_⟩).x + rayK n (rayM ⟨ax, ay⟩ ⟨bx, by_⟩) i * (rayO ⟨ax, ay⟩ ⟨bx, by_⟩).x, ay + i * (rayA ⟨ax, ay⟩ ⟨bx, by_⟩).y + rayK n (rayM ⟨ax, ay⟩ ⟨bx, by_⟩) i * (rayO ⟨ax, ay⟩ ⟨bx, by_⟩).y⟩ := by rw [← hq.out, rayAt_eq, hn.out]
    have huA := unit_A ⟨ax, ay⟩ ⟨bx, by_⟩
    have huO := unit_O ⟨ax, ay⟩ ⟨bx, by_⟩
    rw [e]
    simp only
    clear e hq hz
    generalize hm : rayM ⟨ax, ay⟩ ⟨bx, by_⟩ = m at *
    generalize hA : rayA ⟨ax, ay⟩ ⟨bx, by_⟩ = A at *
    generalize hO : rayO ⟨ax, ay⟩ ⟨bx, by_⟩ = O at *
    have hm := Lib.hid hm
    have hA := Lib.hid hA
    have hO := Lib.hid hO
    rename_i hm0 hA0 hO0
    clear hm0 hA0 hO0
    obtain ⟨k1, k2, k3, k4, k5, k6, k7, k8⟩ := K_wrap (n := n) (m := m) (i := i) hp hbd.2.2 hbd.1 hbd.2.1 h0 h1
    obtain ⟨_, _, _⟩ := hbd
    generalize rayK n m i = K at *
    obtain ⟨x4, x5⟩ := mul_unit (k := i) (K := 1023) (by omega) (by omega) huA.1
    obtain ⟨x6, x7⟩ := mul_unit (k := i) (K := 1023) (by omega) (by omega) huA.2
    obtain ⟨x8, x9⟩ := mul_unit (k := K) (K := 1023) (by omega) (by omega) huO.1
    obtain ⟨xa, xb⟩ := mul_unit (k := K) (K := 1023) (by omega) (by omega) huO.2
    clear huA huO
    go_enter Try.func16, Try.ntmps16
    go_wp2_with (first | (go_at_call 15; refine (Len_ok _ h hn).mono ?_; rintro e w' ⟨rfl, qb⟩; obtain ⟨qc, qf, ql⟩ := rules qb (Nat.le_refl _); have qz0 := ql (w.heap.size) (by first | (simp; done) | assumption | omega | (simp; omega)); have qz1 := ql (w.heap.size + 1) (by first | (simp; done) | assumption | omega | (simp; omega)); have qz2 := ql (w.heap.size + 1 + 1) (by first | (simp; done) | assumption | omega | (simp; omega)); clear ql) | (go_at_call 41; refine (of_eq _ h hn hm hA hO).mono ?_; rintro e W2 ⟨rfl, q2b⟩; obtain ⟨q2c, q2f, q2l⟩ := rules q2b (Nat.le_refl _); have q2z0 := q2l (w.heap.size) (by first | (simp; done) | assumption | omega | (simp; omega)); have q2z1 := q2l (w.heap.size + 1) (by first | (simp; done) | assumption | omega | (simp; omega)); have q2z2 := q2l (w.heap.size + 1 + 1) (by first | (simp; done) | assumption | omega | (simp; omega)); clear q2l))
    refine wp_region_over_tail 18 (by kernel_rfl) (by kernel_rfl) ?_
    simp only [List.take_succ_cons, List.take_zero, List.drop_succ_cons, List.drop_zero]
    repeat (go_big_quiet_step ((first | (go_at_call 42; with_reducible exact (plus_any _ _ _ _ _ _ (by omega) (by omega) (by omega) (by omega) (by omega) (by omega) (by omega) (by omega)).over))))
    refine wpQuiet_nil ?_
    intro W3 W3b
    obtain ⟨W3c, W3f, W3l⟩ := rules W3b (Nat.le_refl _); have W3z0 := W3l (w.heap.size) (by first | (simp; done) | assumption | omega | (simp; omega)); have W3z1 := W3l (w.heap.size + 1) (by first | (simp; done) | assumption | omega | (simp; omega)); have W3z2 := W3l (w.heap.size + 1 + 1) (by first | (simp; done) | assumption | omega | (simp; omega)); have W3y0 := W3l (W2.heap.size) (by first | (simp; done) | assumption | omega | (simp; omega)); clear W3l
    go_wp2
    exact bodyPost_ret (v := .tuple #[.agg #[.int .i64 (ax + i * A.x + K * O.x), .int .i64 (ay + i * A.y + K * O.y)], .int .i64 0]) (by simp [results, Try.results16, go_sem, *]) rfl ⟨rfl, (by repeat (first | with_reducible exact Below.refl _ _ | with_reducible assumption | with_reducible refine below_alloc ?_ _ | with_reducible refine below_draw ?_ | ((with_reducible apply bset); (focus (first | exact Nat.le_refl _ | (simp; done) | omega | (simp; omega)))) | ((with_reducible apply bcall); assumption; (focus (first | exact Nat.le_refl _ | (simp; done) | omega | (simp; omega))))))⟩

end Go.Proofs.Ytjhbomgfjffmdaa
