/- Layer 24: SlopeCompares. -/
import Derived.Test.YtjhbomgfjffmdaaSlope3
set_option linter.unusedVariables false
set_option linter.unusedSimpArgs false
namespace Go.Proofs.Ytjhbomgfjffmdaa
open Go.RowKit

set_option maxRecDepth 100000 in
set_option maxHeartbeats 2000000 in
theorem compares_no (a p b o : Int) (w : World) (_a0 : -9223372036854775808 ≤ a) (_a1 : a ≤ 9223372036854775807) (_p0 : -9223372036854775808 ≤ p) (_p1 : p ≤ 9223372036854775807) (_b0 : -9223372036854775808 ≤ b) (_b1 : b ≤ 9223372036854775807) (_o0 : -9223372036854775808 ≤ o) (_o1 : o ≤ 9223372036854775807) (h : ¬ (1 ≤ p ∧ 1 ≤ o)) :
    Calls Try.prog 6 #[.agg #[.int .i64 a, .int .i64 p], .agg #[.int .i64 b, .int .i64 o]] w fun r w' => r = .returned (.bool true) ∧ Below w.heap.size w w' := by
  have hc1 : Hid (∀ W : World, Calls Try.prog 21 #[.agg #[.int .i64 a, .int .i64 p], .agg #[.int .i64 b, .int .i64 o]] W fun r w' => r = .returned (.tuple #[.int .i64 0, .int .i64 13]) ∧ Below W.heap.size W w') := Lib.hid (fun W => Cmp_no a p b o W h)
  have hc2 : Hid (∀ W : World, Calls Try.prog 21 #[.agg #[.int .i64 b, .int .i64 o], .agg #[.int .i64 a, .int .i64 p]] W fun r w' => r = .returned (.tuple #[.int .i64 0, .int .i64 13]) ∧ Below W.heap.size W w') := Lib.hid (fun W => Cmp_no b o a p W (fun q => h ⟨q.2, q.1⟩))
  by_cases hp : 1 ≤ p
  · have ho : o < 1 := by omega
    have hr : Hid (∀ W : World, Calls Try.prog 24 #[.int .i64 a, .int .i64 p] W fun r w' => r = .returned (.int .i64 (a / p)) ∧ W = w') := Lib.hid (fun W => R24Floor_any a p W (by omega) (by omega) hp (by omega))
    have hf : Hid (∀ W : World, Calls Try.prog 22 #[.agg #[.int .i64 a, .int .i64 p]] W fun r w' => r = .returned (.tuple #[.int .i64 (a / p), .int .i64 0]) ∧ Below W.heap.size W w') := Lib.hid (fun W => Floor_ok a p W (by omega) (by omega) hp (by omega))
    generalize a / p = f at *
    have g1 : decide (1 ≤ p) = true := by simp; exact hp
    clear h
    go_enter Try.func6, Try.ntmps6
    go_wp2_with (first | (go_at_call 20; with_reducible refine (awake24_any _).mono ?_; rintro e W1 ⟨rfl, u1b⟩; obtain ⟨u1c, u1f, u1l⟩ := rules u1b (Nat.le_refl _); have u1z0 := u1l (w.heap.size) (by first | (simp; done) | assumption | omega | (simp; omega)); have u1z1 := u1l (w.heap.size + 1) (by first | (simp; done) | assumption | omega | (simp; omega)); clear u1l) | (go_at_call 21; with_reducible refine (hc1.out _).mono ?_; rintro e W2 ⟨rfl, u2b⟩; obtain ⟨u2c, u2f, u2l⟩ := rules u2b (Nat.le_refl _); have u2z0 := u2l (w.heap.size) (by first | (simp; done) | assumption | omega | (simp; omega)); have u2z1 := u2l (w.heap.size + 1) (by first | (simp; done) | assumption | omega | (simp; omega)); clear u2l) | (go_at_call 21; with_reducible refine (hc2.out _).mono ?_; rintro e W3 ⟨rfl, u3b⟩; obtain ⟨u3c, u3f, u3l⟩ := rules u3b (Nat.le_refl _); have u3z0 := u3l (w.heap.size) (by first | (simp; done) | assumption | omega | (simp; omega)); have u3z1 := u3l (w.heap.size + 1) (by first | (simp; done) | assumption | omega | (simp; omega)); clear u3l) | (go_at_call 22; with_reducible refine (hf.out _).mono ?_; rintro e W4 ⟨rfl, u4b⟩; obtain ⟨u4c, u4f, u4l⟩ := rules u4b (Nat.le_refl _); have u4z0 := u4l (w.heap.size) (by first | (simp; done) | assumption | omega | (simp; omega)); have u4z1 := u4l (w.heap.size + 1) (by first | (simp; done) | assumption | omega | (simp; omega)); clear u4l))
    refine wp_region_over (by kernel_rfl) (by kernel_rfl) ?_
    repeat (go_big_quiet_step ((first | (go_at_call 23; with_reducible exact (Right_any _ _ _).over))))
    refine wpQuiet_nil ?_
    intro W5 W5b
    obtain ⟨W5c, W5f, W5l⟩ := rules W5b (Nat.le_refl _); have W5z0 := W5l (w.heap.size) (by first | (simp; done) | assumption | omega | (simp; omega)); have W5z1 := W5l (w.heap.size + 1) (by first | (simp; done) | assumption | omega | (simp; omega)); clear W5l
    go_wp2_with (first | (go_at_call 24; with_reducible refine (hr.out _).mono ?_; rintro e w' ⟨rfl, rfl⟩))
    go_ret
    exact ⟨rfl, (by repeat (first | with_reducible exact Below.refl _ _ | with_reducible assumption | with_reducible refine below_alloc ?_ _ | with_reducible refine below_draw ?_ | ((with_reducible apply bset); (focus (first | exact Nat.le_refl _ | (simp; done) | omega | (simp; omega)))) | ((with_reducible apply bcall); assumption; (focus (first | exact Nat.le_refl _ | (simp; done) | omega | (simp; omega))))))⟩
  · have hf : Hid (∀ W : World, Calls Try.prog 22 #[.agg #[.int .i64 a, .int .i64 p]] W fun r w' => r = .returned (.tuple #[.int .i64 0, .int .i64 13]) ∧ Below W.heap.size W w') := Lib.hid (fun W => Floor_no a p W hp)
    have g1 : decide (1 ≤ p) = false := by simp; omega
    have g2 : p < 1 := by omega
    clear h hp
    go_enter Try.func6, Try.ntmps6
    go_wp2_with (first | (go_at_call 20; with_reducible refine (awake24_any _).mono ?_; rintro e W1 ⟨rfl, u1b⟩; obtain ⟨u1c, u1f, u1l⟩ := rules u1b (Nat.le_refl _); have u1z0 := u1l (w.heap.size) (by first | (simp; done) | assumption | omega | (simp; omega)); have u1z1 := u1l (w.heap.size + 1) (by first | (simp; done) | assumption | omega | (simp; omega)); clear u1l) | (go_at_call 21; with_reducible refine (hc1.out _).mono ?_; rintro e W2 ⟨rfl, u2b⟩; obtain ⟨u2c, u2f, u2l⟩ := rules u2b (Nat.le_refl _); have u2z0 := u2l (w.heap.size) (by first | (simp; done) | assumption | omega | (simp; omega)); have u2z1 := u2l (w.heap.size + 1) (by first | (simp; done) | assumption | omega | (simp; omega)); clear u2l) | (go_at_call 21; with_reducible refine (hc2.out _).mono ?_; rintro e W3 ⟨rfl, u3b⟩; obtain ⟨u3c, u3f, u3l⟩ := rules u3b (Nat.le_refl _); have u3z0 := u3l (w.heap.size) (by first | (simp; done) | assumption | omega | (simp; omega)); have u3z1 := u3l (w.heap.size + 1) (by first | (simp; done) | assumption | omega | (simp; omega)); clear u3l) | (go_at_call 22; with_reducible refine (hf.out _).mono ?_; rintro e W4 ⟨rfl, u4b⟩; obtain ⟨u4c, u4f, u4l⟩ := rules u4b (Nat.le_refl _); have u4z0 := u4l (w.heap.size) (by first | (simp; done) | assumption | omega | (simp; omega)); have u4z1 := u4l (w.heap.size + 1) (by first | (simp; done) | assumption | omega | (simp; omega)); clear u4l))
    refine wp_region_over (by kernel_rfl) (by kernel_rfl) ?_
    repeat (go_big_quiet_step ((first | (go_at_call 23; with_reducible exact (Right_any _ _ _).over))))
    refine wpQuiet_nil ?_
    intro W5 W5b
    obtain ⟨W5c, W5f, W5l⟩ := rules W5b (Nat.le_refl _); have W5z0 := W5l (w.heap.size) (by first | (simp; done) | assumption | omega | (simp; omega)); have W5z1 := W5l (w.heap.size + 1) (by first | (simp; done) | assumption | omega | (simp; omega)); clear W5l
    go_wp2
    go_ret
    exact ⟨rfl, (by repeat (first | with_reducible exact Below.refl _ _ | with_reducible assumption | with_reducible refine below_alloc ?_ _ | with_reducible refine below_draw ?_ | ((with_reducible apply bset); (focus (first | exact Nat.le_refl _ | (simp; done) | omega | (simp; omega)))) | ((with_reducible apply bcall); assumption; (focus (first | exact Nat.le_refl _ | (simp; done) | omega | (simp; omega))))))⟩


set_option maxRecDepth 100000 in
set_option maxHeartbeats 2000000 in
theorem compares_ok (a p b o : Int) (w : World) (_a0 : -9223372036854775808 ≤ a) (_a1 : a ≤ 9223372036854775807) (_p0 : -9223372036854775808 ≤ p) (_p1 : p ≤ 9223372036854775807) (_b0 : -9223372036854775808 ≤ b) (_b1 : b ≤ 9223372036854775807) (_o0 : -9223372036854775808 ≤ o) (_o1 : o ≤ 9223372036854775807) (hp : 1 ≤ p) (ho : 1 ≤ o) :
    Calls Try.prog 6 #[.agg #[.int .i64 a, .int .i64 p], .agg #[.int .i64 b, .int .i64 o]] w fun r w' => r = .returned (.bool true) ∧ Below w.heap.size w w' := by
  have hr : Hid (∀ W : World, Calls Try.prog 24 #[.int .i64 a, .int .i64 p] W fun r w' => r = .returned (.int .i64 (a / p)) ∧ W = w') := Lib.hid (fun W => R24Floor_any a p W (by omega) (by omega) hp (by omega))
  have hf : Hid (∀ W : World, Calls Try.prog 22 #[.agg #[.int .i64 a, .int .i64 p]] W fun r w' => r = .returned (.tuple #[.int .i64 (a / p), .int .i64 0]) ∧ Below W.heap.size W w') := Lib.hid (fun W => Floor_ok a p W (by omega) (by omega) hp (by omega))
  generalize a / p = f at *
  have hc1 : Hid (∀ W : World, Calls Try.prog 21 #[.agg #[.int .i64 a, .int .i64 p], .agg #[.int .i64 b, .int .i64 o]] W fun r w' => r = .returned (.tuple #[.int .i64 (cmpI (a * o) (b * p)), .int .i64 0]) ∧ Below W.heap.size W w') := Lib.hid (fun W => Cmp_ok a p b o W (by omega) (by omega) (by omega) (by omega) (by omega) (by omega) (by omega) (by omega) hp ho)
  have hc2 : Hid (∀ W : World, Calls Try.prog 21 #[.agg #[.int .i64 b, .int .i64 o], .agg #[.int .i64 a, .int .i64 p]] W fun r w' => r = .returned (.tuple #[.int .i64 (0 - cmpI (a * o) (b * p)), .int .i64 0]) ∧ Below W.heap.size W w') := Lib.hid (fun W => by
    have := Cmp_ok b o a p W (by omega) (by omega) (by omega) (by omega) (by omega) (by omega) (by omega) (by omega) ho hp
    rw [cmpI_swap, ← Int.zero_sub] at this
    exact this)
  have hx : Hid (∀ W : World, Calls Try.prog 25 #[.int .i64 a, .int .i64 p, .int .i64 b, .int .i64 o] W fun r w' => r = .returned (.int .i64 (cmpI (a * o) (b * p))) ∧ W = w') := Lib.hid (fun W => R24Cmp_any a p b o W (by omega) (by omega) (by omega) (by omega) (by omega) (by omega) (by omega) (by omega))
  obtain ⟨v0, v1⟩ := cmpI_bd (a * o) (b * p)
  generalize cmpI (a * o) (b * p) = cv at *
  have g1 : decide (1 ≤ p) = true := by simp; exact hp
  go_enter Try.func6, Try.ntmps6
  go_wp2_with (first | (go_at_call 20; with_reducible refine (awake24_any _).mono ?_; rintro e W1 ⟨rfl, u1b⟩; obtain ⟨u1c, u1f, u1l⟩ := rules u1b (Nat.le_refl _); have u1z0 := u1l (w.heap.size) (by first | (simp; done) | assumption | omega | (simp; omega)); have u1z1 := u1l (w.heap.size + 1) (by first | (simp; done) | assumption | omega | (simp; omega)); clear u1l) | (go_at_call 21; with_reducible refine (hc1.out _).mono ?_; rintro e W2 ⟨rfl, u2b⟩; obtain ⟨u2c, u2f, u2l⟩ := rules u2b (Nat.le_refl _); have u2z0 := u2l (w.heap.size) (by first | (simp; done) | assumption | omega | (simp; omega)); have u2z1 := u2l (w.heap.size + 1) (by first | (simp; done) | assumption | omega | (simp; omega)); clear u2l) | (go_at_call 21; with_reducible refine (hc2.out _).mono ?_; rintro e W3 ⟨rfl, u3b⟩; obtain ⟨u3c, u3f, u3l⟩ := rules u3b (Nat.le_refl _); have u3z0 := u3l (w.heap.size) (by first | (simp; done) | assumption | omega | (simp; omega)); have u3z1 := u3l (w.heap.size + 1) (by first | (simp; done) | assumption | omega | (simp; omega)); clear u3l) | (go_at_call 22; with_reducible refine (hf.out _).mono ?_; rintro e W4 ⟨rfl, u4b⟩; obtain ⟨u4c, u4f, u4l⟩ := rules u4b (Nat.le_refl _); have u4z0 := u4l (w.heap.size) (by first | (simp; done) | assumption | omega | (simp; omega)); have u4z1 := u4l (w.heap.size + 1) (by first | (simp; done) | assumption | omega | (simp; omega)); clear u4l))
  refine wp_region_over (by kernel_rfl) (by kernel_rfl) ?_
  repeat (go_big_quiet_step ((first | (go_at_call 23; with_reducible exact (Right_any _ _ _).over))))
  refine wpQuiet_nil ?_
  intro W5 W5b
  obtain ⟨W5c, W5f, W5l⟩ := rules W5b (Nat.le_refl _); have W5z0 := W5l (w.heap.size) (by first | (simp; done) | assumption | omega | (simp; omega)); have W5z1 := W5l (w.heap.size + 1) (by first | (simp; done) | assumption | omega | (simp; omega)); clear W5l
  go_wp2_with (first | (go_at_call 24; with_reducible refine (hr.out _).mono ?_; rintro e w' ⟨rfl, rfl⟩) | (go_at_call 25; with_reducible refine (hx.out _).mono ?_; rintro e w' ⟨rfl, rfl⟩))
  go_ret
  exact ⟨rfl, (by repeat (first | with_reducible exact Below.refl _ _ | with_reducible assumption | with_reducible refine below_alloc ?_ _ | with_reducible refine below_draw ?_ | ((with_reducible apply bset); (focus (first | exact Nat.le_refl _ | (simp; done) | omega | (simp; omega)))) | ((with_reducible apply bcall); assumption; (focus (first | exact Nat.le_refl _ | (simp; done) | omega | (simp; omega))))))⟩


theorem slopeCompares_walk (a p b o : Int) (w : World) (_a0 : (-9223372036854775808 ≤ a ∧ a ≤ 9223372036854775807)) (_a1 : (-9223372036854775808 ≤ p ∧ p ≤ 9223372036854775807)) (_a2 : (-9223372036854775808 ≤ b ∧ b ≤ 9223372036854775807)) (_a3 : (-9223372036854775808 ≤ o ∧ o ≤ 9223372036854775807)) :
    Calls Try.prog 6 #[.agg #[.int .i64 a, .int .i64 p], .agg #[.int .i64 b, .int .i64 o]] w fun r w' => r = .returned (.bool true) ∧ Below w.heap.size w w' := by
  by_cases h : 1 ≤ p ∧ 1 ≤ o
  · exact compares_ok a p b o w _a0.1 _a0.2 _a1.1 _a1.2 _a2.1 _a2.2 _a3.1 _a3.2 h.1 h.2
  · exact compares_no a p b o w _a0.1 _a0.2 _a1.1 _a1.2 _a2.1 _a2.2 _a3.1 _a3.2 h

end Go.Proofs.Ytjhbomgfjffmdaa
