/- Layer 7: RectAround. -/
import Derived.Test.YtcklknlbmbinoaaLaw7b
import Derived.Test.YtcklknlbmbinoaaTwo
set_option linter.unusedVariables false
set_option linter.unusedSimpArgs false
namespace Go.Proofs.Ytcklknlbmbinoaa
open Go.RowKit
def clipI (n : Int) : Int := if n < 0 then 0 else if 1023 < n then 1023 else n
theorem meet_clip {x y n a b : Int} (hn0 : 0 ≤ n) (_hn1 : n ≤ 1024) (ha1 : a ≤ 1024) (hb1 : b ≤ 1024) (hx0 : 0 ≤ x) (hx1 : x < a) (hy0 : 0 ≤ y) (hy1 : y < b) :
    meetV ⟨0, 0, a - 1, b - 1⟩ ⟨clipI (x - n), clipI (y - n), clipI (x + n), clipI (y + n)⟩ = ⟨mx (x - n) 0, mx (y - n) 0, mn (x + n) (a - 1), mn (y + n) (b - 1)⟩ := by
  have e : meetR ⟨0, 0, a - 1, b - 1⟩ ⟨clipI (x - n), clipI (y - n), clipI (x + n), clipI (y + n)⟩ = ⟨mx (x - n) 0, mx (y - n) 0, mn (x + n) (a - 1), mn (y + n) (b - 1)⟩ := by
    simp only [meetR, mx_eq, mn_eq, Rt.mk.injEq]
    unfold clipI
    omega
  have h : meetOk ⟨0, 0, a - 1, b - 1⟩ ⟨clipI (x - n), clipI (y - n), clipI (x + n), clipI (y + n)⟩ := by
    unfold meetOk
    rw [e]
    simp only [Rt.right, RightP, mx_eq, mn_eq]
    unfold clipI
    omega
  rw [meetV_yes h, e]

theorem clip_any (n : Int) (w : World) :
    Calls Try.prog 59 #[.int .i64 n] w fun r w' => r = .returned (.int .i64 (clipI n)) ∧ w = w' := by
  by_cases h0 : n < 0
  · have hv : clipI n = 0 := by unfold clipI; rw [if_pos h0]
    rw [hv]
    clear hv
    go_enter Try.func59, Try.ntmps59
    go_wp2
    go_ret
    exact ⟨rfl, rfl⟩
  · by_cases h1 : 1023 < n
    · have hv : clipI n = 1023 := by unfold clipI; rw [if_neg h0, if_pos h1]
      rw [hv]
      clear hv
      go_enter Try.func59, Try.ntmps59
      go_wp2
      go_ret
      exact ⟨rfl, rfl⟩
    · have hv : clipI n = n := by unfold clipI; rw [if_neg h0, if_neg h1]
      rw [hv]
      clear hv
      go_enter Try.func59, Try.ntmps59
      go_wp2
      go_ret
      exact ⟨rfl, rfl⟩

set_option maxHeartbeats 1000000 in
theorem refAround_any (x y n a b : Int) (w : World) (hw1 : -9223372036854775808 ≤ a) (hw2 : a ≤ 9223372036854775807) (hh1 : -9223372036854775808 ≤ b) (hh2 : b ≤ 9223372036854775807) :
    Calls Try.prog 38 #[.agg #[.int .i64 x, .int .i64 y], .int .i64 n, .int .i64 a, .int .i64 b] w fun r w' => r = .returned (.tuple #[.agg #[.int .i64 (aroundV x y n a b).x0, .int .i64 (aroundV x y n a b).y0, .int .i64 (aroundV x y n a b).x1, .int .i64 (aroundV x y n a b).y1], .int .i64 (aroundC x y n a b)]) ∧ Below w.heap.size w w' := by
  by_cases h0 : withinC x y x y a b = 0
  · have h0' : (withinC x y x y a b != 0) = false := by simp [h0]
    obtain ⟨⟨_, _, _, _⟩, _, _, _, _, _, _⟩ := within_zero hw1 hw2 hh1 hh2 h0
    by_cases hn : 0 ≤ n ∧ n ≤ 1024
    · have hv : aroundC x y n a b = 0 := by simp [aroundC, h0, hn]
      have hv2 : aroundV x y n a b = ⟨mx (x - n) 0, mx (y - n) 0, mn (x + n) (a - 1), mn (y + n) (b - 1)⟩ := by simp [aroundV, hv]
      rw [hv2, hv]
      obtain ⟨_, _⟩ := hn
      have hm := Lib.hid (meet_clip (x := x) (y := y) (n := n) (a := a) (b := b) (by omega) (by omega) (by omega) (by omega) (by omega) (by omega) (by omega) (by omega))
      clear hv hv2
      go_enter Try.func38, Try.ntmps38
      go_wp2_with (go_at_call 24; refine (refWithin_any _ _ _ _ _ _ _ hw1 hw2 hh1 hh2).mono ?_; rintro e w' ⟨rfl, hb⟩; obtain ⟨hc, hf, hl⟩ := rules hb (Nat.le_refl _); have hz0 := hl (w.heap.size) (by first | (simp; done) | assumption | omega | (simp; omega)); have hz1 := hl (w.heap.size + 1) (by first | (simp; done) | assumption | omega | (simp; omega)); clear hl)
      refine wp_region_two [0, 1, 2, 3, 4, 5, 6, 7, 8, 9, 10, 11, 12, 13, 14, 15, 16, 17, 18, 19, 20, 21, 22, 23, 24, 25, 26, 27, 28, 29] [30, 31, 32] ?_ (by kernel_rfl) (by kernel_rfl) (by rfl) ?_ ?_
      rotate_left 1
      · intro X0 X0b
        obtain ⟨X0c, X0f, X0l⟩ := rules X0b (Nat.le_refl _); have X0z0 := X0l (w.heap.size) (by first | (simp; done) | assumption | omega | (simp; omega)); have X0z1 := X0l (w.heap.size + 1) (by first | (simp; done) | assumption | omega | (simp; omega)); clear X0l
        simp only [pick, List.getElem?_cons_succ, List.getElem?_cons_zero]
        repeat (go_big_quiet_step ((first | (go_at_call 43; with_reducible exact (refMeet_eq _ hm.out rfl).over) | (go_at_call 59; with_reducible exact (clip_any _ _).over_same))))
        refine wpQuiet_nil ?_
        exact sameAct _
      intro X0 X0b
      obtain ⟨X0c, X0f, X0l⟩ := rules X0b (Nat.le_refl _); have X0z0 := X0l (w.heap.size) (by first | (simp; done) | assumption | omega | (simp; omega)); have X0z1 := X0l (w.heap.size + 1) (by first | (simp; done) | assumption | omega | (simp; omega)); clear X0l; have X0s := X0b.size; try simp at X0s
      simp only [pick, List.getElem?_cons_succ, List.getElem?_cons_zero]
      unfold wpHav
      go_wp2
      refine ⟨(by repeat (first | with_reducible exact Below.refl _ _ | with_reducible assumption | with_reducible refine below_alloc ?_ _ | with_reducible refine below_draw ?_ | ((with_reducible apply bset); (focus (first | exact Nat.le_refl _ | (simp; done) | omega | (simp; omega)))) | ((with_reducible apply bcall); assumption; (focus (first | exact Nat.le_refl _ | (simp; done) | omega | (simp; omega)))))), fun X1 X1b => ?_⟩
      obtain ⟨X1c, X1f, X1l⟩ := rules X1b (by simp); have X1y0 := X1l (X0.heap.size) (by first | (simp; done) | assumption | omega | (simp; omega)); have X1y1 := X1l (w.heap.size) (by first | (simp; done) | assumption | omega | (simp; omega)); have X1y2 := X1l (w.heap.size + 1) (by first | (simp; done) | assumption | omega | (simp; omega)); clear X1l; have X1s := X1b.size; try simp at X1s
      unfold wpHav
      go_wp2
      refine ⟨(by repeat (first | with_reducible exact Below.refl _ _ | with_reducible assumption | with_reducible refine below_alloc ?_ _ | with_reducible refine below_draw ?_ | ((with_reducible apply bset); (focus (first | exact Nat.le_refl _ | (simp; done) | omega | (simp; omega)))) | ((with_reducible apply bcall); assumption; (focus (first | exact Nat.le_refl _ | (simp; done) | omega | (simp; omega)))))), fun X2 X2b => ?_⟩
      obtain ⟨X2c, X2f, X2l⟩ := rules X2b (by simp); have X2y0 := X2l (X0.heap.size) (by first | (simp; done) | assumption | omega | (simp; omega)); have X2y1 := X2l (w.heap.size) (by first | (simp; done) | assumption | omega | (simp; omega)); have X2y2 := X2l (w.heap.size + 1) (by first | (simp; done) | assumption | omega | (simp; omega)); clear X2l; have X2s := X2b.size; try simp at X2s
      unfold wpHav
      go_wp2
      refine ⟨(by repeat (first | with_reducible exact Below.refl _ _ | with_reducible assumption | with_reducible refine below_alloc ?_ _ | with_reducible refine below_draw ?_ | ((with_reducible apply bset); (focus (first | exact Nat.le_refl _ | (simp; done) | omega | (simp; omega)))) | ((with_reducible apply bcall); assumption; (focus (first | exact Nat.le_refl _ | (simp; done) | omega | (simp; omega)))))), fun X3 X3b => ?_⟩
      obtain ⟨X3c, X3f, X3l⟩ := rules X3b (by simp); have X3y0 := X3l (X0.heap.size) (by first | (simp; done) | assumption | omega | (simp; omega)); have X3y1 := X3l (w.heap.size) (by first | (simp; done) | assumption | omega | (simp; omega)); have X3y2 := X3l (w.heap.size + 1) (by first | (simp; done) | assumption | omega | (simp; omega)); clear X3l; have X3s := X3b.size; try simp at X3s
      unfold wpHav
      go_wp2
      exact bodyPost_ret (v := .tuple #[.agg #[.int .i64 (mx (x - n) 0), .int .i64 (mx (y - n) 0), .int .i64 (mn (x + n) (a - 1)), .int .i64 (mn (y + n) (b - 1))], .int .i64 0]) (by simp [results, Try.results38, go_sem, *]) rfl ⟨rfl, (by repeat (first | with_reducible exact Below.refl _ _ | with_reducible assumption | with_reducible refine below_alloc ?_ _ | with_reducible refine below_draw ?_ | ((with_reducible apply bset); (focus (first | exact Nat.le_refl _ | (simp; done) | omega | (simp; omega)))) | ((with_reducible apply bcall); assumption; (focus (first | exact Nat.le_refl _ | (simp; done) | omega | (simp; omega))))))⟩
    · have hv : aroundC x y n a b = 9 := by simp [aroundC, h0, hn]
      have hv2 : aroundV x y n a b = ⟨0, 0, 0, 0⟩ := by simp [aroundV, hv]
      rw [hv2, hv]
      clear hv hv2
      by_cases hn0 : 0 ≤ n
      · have hn1 : 1024 < n := by omega
        clear hn
        go_enter Try.func38, Try.ntmps38
        go_wp2_with (go_at_call 24; refine (refWithin_any _ _ _ _ _ _ _ hw1 hw2 hh1 hh2).mono ?_; rintro e w' ⟨rfl, hb⟩; obtain ⟨hc, hf, hl⟩ := rules hb (Nat.le_refl _); have hz0 := hl (w.heap.size) (by first | (simp; done) | assumption | omega | (simp; omega)); have hz1 := hl (w.heap.size + 1) (by first | (simp; done) | assumption | omega | (simp; omega)); clear hl)
        exact bodyPost_ret (v := .tuple #[.agg #[.int .i64 0, .int .i64 0, .int .i64 0, .int .i64 0], .int .i64 9]) (by simp [results, Try.results38, go_sem, *]) rfl ⟨rfl, (by repeat (first | with_reducible exact Below.refl _ _ | with_reducible assumption | with_reducible refine below_alloc ?_ _ | with_reducible refine below_draw ?_ | ((with_reducible apply bset); (focus (first | exact Nat.le_refl _ | (simp; done) | omega | (simp; omega)))) | ((with_reducible apply bcall); assumption; (focus (first | exact Nat.le_refl _ | (simp; done) | omega | (simp; omega))))))⟩
      · clear hn
        go_enter Try.func38, Try.ntmps38
        go_wp2_with (go_at_call 24; refine (refWithin_any _ _ _ _ _ _ _ hw1 hw2 hh1 hh2).mono ?_; rintro e w' ⟨rfl, hb⟩; obtain ⟨hc, hf, hl⟩ := rules hb (Nat.le_refl _); have hz0 := hl (w.heap.size) (by first | (simp; done) | assumption | omega | (simp; omega)); have hz1 := hl (w.heap.size + 1) (by first | (simp; done) | assumption | omega | (simp; omega)); clear hl)
        exact bodyPost_ret (v := .tuple #[.agg #[.int .i64 0, .int .i64 0, .int .i64 0, .int .i64 0], .int .i64 9]) (by simp [results, Try.results38, go_sem, *]) rfl ⟨rfl, (by repeat (first | with_reducible exact Below.refl _ _ | with_reducible assumption | with_reducible refine below_alloc ?_ _ | with_reducible refine below_draw ?_ | ((with_reducible apply bset); (focus (first | exact Nat.le_refl _ | (simp; done) | omega | (simp; omega)))) | ((with_reducible apply bcall); assumption; (focus (first | exact Nat.le_refl _ | (simp; done) | omega | (simp; omega))))))⟩
  · have h0' : (withinC x y x y a b != 0) = true := by simp [h0]
    have hv : aroundC x y n a b = withinC x y x y a b := by simp [aroundC, h0]
    have hv2 : aroundV x y n a b = ⟨0, 0, 0, 0⟩ := by simp [aroundV, hv, h0]
    rw [hv2, hv]
    clear hv hv2 h0
    go_enter Try.func38, Try.ntmps38
    go_wp2_with (go_at_call 24; refine (refWithin_any _ _ _ _ _ _ _ hw1 hw2 hh1 hh2).mono ?_; rintro e w' ⟨rfl, hb⟩; obtain ⟨hc, hf, hl⟩ := rules hb (Nat.le_refl _); have hz0 := hl (w.heap.size) (by first | (simp; done) | assumption | omega | (simp; omega)); have hz1 := hl (w.heap.size + 1) (by first | (simp; done) | assumption | omega | (simp; omega)); clear hl)
    exact bodyPost_ret (v := .tuple #[.agg #[.int .i64 0, .int .i64 0, .int .i64 0, .int .i64 0], .int .i64 (withinC x y x y a b)]) (by simp [results, Try.results38, go_sem, *]) rfl ⟨rfl, (by repeat (first | with_reducible exact Below.refl _ _ | with_reducible assumption | with_reducible refine below_alloc ?_ _ | with_reducible refine below_draw ?_ | ((with_reducible apply bset); (focus (first | exact Nat.le_refl _ | (simp; done) | omega | (simp; omega)))) | ((with_reducible apply bcall); assumption; (focus (first | exact Nat.le_refl _ | (simp; done) | omega | (simp; omega))))))⟩

theorem around_eq {x y n a b : Int} {V : Rt} {k : Int} (w : World) (hw1 : -9223372036854775808 ≤ a) (hw2 : a ≤ 9223372036854775807) (hh1 : -9223372036854775808 ≤ b) (hh2 : b ≤ 9223372036854775807) (hV : aroundV x y n a b = V) (hk : aroundC x y n a b = k) :
    Calls Try.prog 37 #[.agg #[.int .i64 x, .int .i64 y], .int .i64 n, .int .i64 a, .int .i64 b] w fun r w' => r = .returned (.tuple #[.agg #[.int .i64 (V).x0, .int .i64 (V).y0, .int .i64 (V).x1, .int .i64 (V).y1], .int .i64 k]) ∧ Below w.heap.size w w' := by
  subst hV hk
  exact around_any _ _ _ _ _ w hw1 hw2 hh1 hh2

theorem refAround_eq {x y n a b : Int} {V : Rt} {k : Int} (w : World) (hw1 : -9223372036854775808 ≤ a) (hw2 : a ≤ 9223372036854775807) (hh1 : -9223372036854775808 ≤ b) (hh2 : b ≤ 9223372036854775807) (hV : aroundV x y n a b = V) (hk : aroundC x y n a b = k) :
    Calls Try.prog 38 #[.agg #[.int .i64 x, .int .i64 y], .int .i64 n, .int .i64 a, .int .i64 b] w fun r w' => r = .returned (.tuple #[.agg #[.int .i64 (V).x0, .int .i64 (V).y0, .int .i64 (V).x1, .int .i64 (V).y1], .int .i64 k]) ∧ Below w.heap.size w w' := by
  subst hV hk
  exact refAround_any _ _ _ _ _ w hw1 hw2 hh1 hh2

theorem within_eq {x0 y0 x1 y1 a b : Int} {k : Int} (w : World) (hk : withinC x0 y0 x1 y1 a b = k) :
    Calls Try.prog 23 #[.agg #[.int .i64 x0, .int .i64 y0, .int .i64 x1, .int .i64 y1], .int .i64 a, .int .i64 b] w fun r w' => r = .returned (.int .i64 k) ∧ Below w.heap.size w w' := by
  subst hk
  exact within_any _ _ _ _ _ _ w

def farP (x y n dx dy : Int) : Prop := n < dx - x ∨ n < x - dx ∨ n < dy - y ∨ n < y - dy
theorem around_has {x y n a b dx dy : Int} (hw1 : -9223372036854775808 ≤ a) (hw2 : a ≤ 9223372036854775807) (hh1 : -9223372036854775808 ≤ b) (hh2 : b ≤ 9223372036854775807) (h : aroundC x y n a b = 0) :
    (0 ≤ x ∧ x < a ∧ a ≤ 1024 ∧ 0 ≤ y ∧ y < b ∧ b ≤ 1024 ∧ 0 ≤ n ∧ n ≤ 1024) ∧ withinC (aroundV x y n a b).x0 (aroundV x y n a b).y0 (aroundV x y n a b).x1 (aroundV x y n a b).y1 a b = 0 ∧
    (0 ≤ dx → dx < a → 0 ≤ dy → dy < b → (hasB (aroundV x y n a b).x0 (aroundV x y n a b).y0 (aroundV x y n a b).x1 (aroundV x y n a b).y1 dx dy = true ↔ ¬ farP x y n dx dy)) := by
  have hc := h
  unfold aroundC at hc
  by_cases h0 : withinC x y x y a b = 0
  · rw [if_pos h0] at hc
    obtain ⟨⟨_, _, _, _⟩, _, _, _, _, _, _⟩ := within_zero hw1 hw2 hh1 hh2 h0
    by_cases hn : 0 ≤ n ∧ n ≤ 1024
    · have hv2 : aroundV x y n a b = ⟨mx (x - n) 0, mx (y - n) 0, mn (x + n) (a - 1), mn (y + n) (b - 1)⟩ := by simp [aroundV, h]
      rw [hv2]
      refine ⟨by omega, ?_, fun _ _ _ _ => ?_⟩
      · unfold withinC
        simp only [insideB_not, mx_eq, mn_eq]
        rw [if_neg (by unfold wrap64; omega), if_neg (by omega), if_neg (by omega)]
      · simp only [hasB, Bool.and_eq_true, decide_eq_true_eq, rightB_iff, RightP, mx_eq, mn_eq, farP]
        omega
    · rw [if_neg hn] at hc; cases hc
  · rw [if_neg h0] at hc; exact absurd hc h0

set_option maxHeartbeats 2000000 in
theorem around_err (x y n a b dx dy k : Int) (V : Rt) (w : World) (hw1 : -9223372036854775808 ≤ a) (hw2 : a ≤ 9223372036854775807) (hh1 : -9223372036854775808 ≤ b) (hh2 : b ≤ 9223372036854775807) (hV : Hid (aroundV x y n a b = V)) (hk : Hid (aroundC x y n a b = k)) (h0 : (k != 0) = true) :
    Calls Try.prog 8 #[.agg #[.int .i64 x, .int .i64 y], .int .i64 n, .int .i64 a, .int .i64 b, .agg #[.int .i64 dx, .int .i64 dy]] w fun e w' => e = .returned (.bool true) ∧ Below w.heap.size w w' := by
  go_enter Try.func8, Try.ntmps8
  go_wp2_with fail
  refine (awake7_any _).mono ?_
  rintro e W1 ⟨rfl, i1b⟩
  obtain ⟨i1c, i1f, i1l⟩ := rules i1b (Nat.le_refl _); have i1z0 := i1l (w.heap.size) (by first | (simp; done) | assumption | omega | (simp; omega)); have i1z1 := i1l (w.heap.size + 1) (by first | (simp; done) | assumption | omega | (simp; omega))
  clear i1l
  go_wp2_with fail
  refine (around_eq _ hw1 hw2 hh1 hh2 hV.out hk.out).mono ?_
  rintro e W2 ⟨rfl, i2b⟩
  obtain ⟨i2c, i2f, i2l⟩ := rules i2b (Nat.le_refl _); have i2z0 := i2l (w.heap.size) (by first | (simp; done) | assumption | omega | (simp; omega)); have i2z1 := i2l (w.heap.size + 1) (by first | (simp; done) | assumption | omega | (simp; omega))
  clear i2l
  go_wp2_with fail
  refine (refAround_eq _ hw1 hw2 hh1 hh2 hV.out hk.out).mono ?_
  rintro e W3 ⟨rfl, i3b⟩
  obtain ⟨i3c, i3f, i3l⟩ := rules i3b (Nat.le_refl _); have i3z0 := i3l (w.heap.size) (by first | (simp; done) | assumption | omega | (simp; omega)); have i3z1 := i3l (w.heap.size + 1) (by first | (simp; done) | assumption | omega | (simp; omega)); have i3y0 := i3l (W2.heap.size) (by first | (simp; done) | assumption | omega | (simp; omega))
  clear i3l
  go_wp2_with fail
  go_ret
  exact ⟨rfl, (by repeat (first | with_reducible exact Below.refl _ _ | with_reducible assumption | with_reducible refine below_alloc ?_ _ | with_reducible refine below_draw ?_ | ((with_reducible apply bset); (focus (first | exact Nat.le_refl _ | (simp; done) | omega | (simp; omega)))) | ((with_reducible apply bcall); assumption; (focus (first | exact Nat.le_refl _ | (simp; done) | omega | (simp; omega))))))⟩
set_option maxHeartbeats 2000000 in
theorem around_o1 (x y n a b dx dy k : Int) (V : Rt) (w : World) (hw1 : -9223372036854775808 ≤ a) (hw2 : a ≤ 9223372036854775807) (hh1 : -9223372036854775808 ≤ b) (hh2 : b ≤ 9223372036854775807) (hV : Hid (aroundV x y n a b = V)) (hk : Hid (aroundC x y n a b = k)) (h0 : (k != 0) = false) (d1 : dx < 0) :
    Calls Try.prog 8 #[.agg #[.int .i64 x, .int .i64 y], .int .i64 n, .int .i64 a, .int .i64 b, .agg #[.int .i64 dx, .int .i64 dy]] w fun e w' => e = .returned (.bool true) ∧ Below w.heap.size w w' := by
  go_enter Try.func8, Try.ntmps8
  go_wp2_with fail
  refine (awake7_any _).mono ?_
  rintro e W1 ⟨rfl, i1b⟩
  obtain ⟨i1c, i1f, i1l⟩ := rules i1b (Nat.le_refl _); have i1z0 := i1l (w.heap.size) (by first | (simp; done) | assumption | omega | (simp; omega)); have i1z1 := i1l (w.heap.size + 1) (by first | (simp; done) | assumption | omega | (simp; omega))
  clear i1l
  go_wp2_with fail
  refine (around_eq _ hw1 hw2 hh1 hh2 hV.out hk.out).mono ?_
  rintro e W2 ⟨rfl, i2b⟩
  obtain ⟨i2c, i2f, i2l⟩ := rules i2b (Nat.le_refl _); have i2z0 := i2l (w.heap.size) (by first | (simp; done) | assumption | omega | (simp; omega)); have i2z1 := i2l (w.heap.size + 1) (by first | (simp; done) | assumption | omega | (simp; omega))
  clear i2l
  go_wp2_with fail
  refine (refAround_eq _ hw1 hw2 hh1 hh2 hV.out hk.out).mono ?_
  rintro e W3 ⟨rfl, i3b⟩
  obtain ⟨i3c, i3f, i3l⟩ := rules i3b (Nat.le_refl _); have i3z0 := i3l (w.heap.size) (by first | (simp; done) | assumption | omega | (simp; omega)); have i3z1 := i3l (w.heap.size + 1) (by first | (simp; done) | assumption | omega | (simp; omega)); have i3y0 := i3l (W2.heap.size) (by first | (simp; done) | assumption | omega | (simp; omega))
  clear i3l
  go_wp2_with fail
  go_ret
  exact ⟨rfl, (by repeat (first | with_reducible exact Below.refl _ _ | with_reducible assumption | with_reducible refine below_alloc ?_ _ | with_reducible refine below_draw ?_ | ((with_reducible apply bset); (focus (first | exact Nat.le_refl _ | (simp; done) | omega | (simp; omega)))) | ((with_reducible apply bcall); assumption; (focus (first | exact Nat.le_refl _ | (simp; done) | omega | (simp; omega))))))⟩
set_option maxHeartbeats 2000000 in
theorem around_o2 (x y n a b dx dy k : Int) (V : Rt) (w : World) (hw1 : -9223372036854775808 ≤ a) (hw2 : a ≤ 9223372036854775807) (hh1 : -9223372036854775808 ≤ b) (hh2 : b ≤ 9223372036854775807) (hV : Hid (aroundV x y n a b = V)) (hk : Hid (aroundC x y n a b = k)) (h0 : (k != 0) = false) (d1 : 0 ≤ dx) (d2 : a ≤ dx) :
    Calls Try.prog 8 #[.agg #[.int .i64 x, .int .i64 y], .int .i64 n, .int .i64 a, .int .i64 b, .agg #[.int .i64 dx, .int .i64 dy]] w fun e w' => e = .returned (.bool true) ∧ Below w.heap.size w w' := by
  go_enter Try.func8, Try.ntmps8
  go_wp2_with fail
  refine (awake7_any _).mono ?_
  rintro e W1 ⟨rfl, i1b⟩
  obtain ⟨i1c, i1f, i1l⟩ := rules i1b (Nat.le_refl _); have i1z0 := i1l (w.heap.size) (by first | (simp; done) | assumption | omega | (simp; omega)); have i1z1 := i1l (w.heap.size + 1) (by first | (simp; done) | assumption | omega | (simp; omega))
  clear i1l
  go_wp2_with fail
  refine (around_eq _ hw1 hw2 hh1 hh2 hV.out hk.out).mono ?_
  rintro e W2 ⟨rfl, i2b⟩
  obtain ⟨i2c, i2f, i2l⟩ := rules i2b (Nat.le_refl _); have i2z0 := i2l (w.heap.size) (by first | (simp; done) | assumption | omega | (simp; omega)); have i2z1 := i2l (w.heap.size + 1) (by first | (simp; done) | assumption | omega | (simp; omega))
  clear i2l
  go_wp2_with fail
  refine (refAround_eq _ hw1 hw2 hh1 hh2 hV.out hk.out).mono ?_
  rintro e W3 ⟨rfl, i3b⟩
  obtain ⟨i3c, i3f, i3l⟩ := rules i3b (Nat.le_refl _); have i3z0 := i3l (w.heap.size) (by first | (simp; done) | assumption | omega | (simp; omega)); have i3z1 := i3l (w.heap.size + 1) (by first | (simp; done) | assumption | omega | (simp; omega)); have i3y0 := i3l (W2.heap.size) (by first | (simp; done) | assumption | omega | (simp; omega))
  clear i3l
  go_wp2_with fail
  go_ret
  exact ⟨rfl, (by repeat (first | with_reducible exact Below.refl _ _ | with_reducible assumption | with_reducible refine below_alloc ?_ _ | with_reducible refine below_draw ?_ | ((with_reducible apply bset); (focus (first | exact Nat.le_refl _ | (simp; done) | omega | (simp; omega)))) | ((with_reducible apply bcall); assumption; (focus (first | exact Nat.le_refl _ | (simp; done) | omega | (simp; omega))))))⟩
set_option maxHeartbeats 2000000 in
theorem around_o3 (x y n a b dx dy k : Int) (V : Rt) (w : World) (hw1 : -9223372036854775808 ≤ a) (hw2 : a ≤ 9223372036854775807) (hh1 : -9223372036854775808 ≤ b) (hh2 : b ≤ 9223372036854775807) (hV : Hid (aroundV x y n a b = V)) (hk : Hid (aroundC x y n a b = k)) (h0 : (k != 0) = false) (d1 : 0 ≤ dx) (d2 : dx < a) (d3 : dy < 0) :
    Calls Try.prog 8 #[.agg #[.int .i64 x, .int .i64 y], .int .i64 n, .int .i64 a, .int .i64 b, .agg #[.int .i64 dx, .int .i64 dy]] w fun e w' => e = .returned (.bool true) ∧ Below w.heap.size w w' := by
  go_enter Try.func8, Try.ntmps8
  go_wp2_with fail
  refine (awake7_any _).mono ?_
  rintro e W1 ⟨rfl, i1b⟩
  obtain ⟨i1c, i1f, i1l⟩ := rules i1b (Nat.le_refl _); have i1z0 := i1l (w.heap.size) (by first | (simp; done) | assumption | omega | (simp; omega)); have i1z1 := i1l (w.heap.size + 1) (by first | (simp; done) | assumption | omega | (simp; omega))
  clear i1l
  go_wp2_with fail
  refine (around_eq _ hw1 hw2 hh1 hh2 hV.out hk.out).mono ?_
  rintro e W2 ⟨rfl, i2b⟩
  obtain ⟨i2c, i2f, i2l⟩ := rules i2b (Nat.le_refl _); have i2z0 := i2l (w.heap.size) (by first | (simp; done) | assumption | omega | (simp; omega)); have i2z1 := i2l (w.heap.size + 1) (by first | (simp; done) | assumption | omega | (simp; omega))
  clear i2l
  go_wp2_with fail
  refine (refAround_eq _ hw1 hw2 hh1 hh2 hV.out hk.out).mono ?_
  rintro e W3 ⟨rfl, i3b⟩
  obtain ⟨i3c, i3f, i3l⟩ := rules i3b (Nat.le_refl _); have i3z0 := i3l (w.heap.size) (by first | (simp; done) | assumption | omega | (simp; omega)); have i3z1 := i3l (w.heap.size + 1) (by first | (simp; done) | assumption | omega | (simp; omega)); have i3y0 := i3l (W2.heap.size) (by first | (simp; done) | assumption | omega | (simp; omega))
  clear i3l
  go_wp2_with fail
  go_ret
  exact ⟨rfl, (by repeat (first | with_reducible exact Below.refl _ _ | with_reducible assumption | with_reducible refine below_alloc ?_ _ | with_reducible refine below_draw ?_ | ((with_reducible apply bset); (focus (first | exact Nat.le_refl _ | (simp; done) | omega | (simp; omega)))) | ((with_reducible apply bcall); assumption; (focus (first | exact Nat.le_refl _ | (simp; done) | omega | (simp; omega))))))⟩
set_option maxHeartbeats 2000000 in
theorem around_o4 (x y n a b dx dy k : Int) (V : Rt) (w : World) (hw1 : -9223372036854775808 ≤ a) (hw2 : a ≤ 9223372036854775807) (hh1 : -9223372036854775808 ≤ b) (hh2 : b ≤ 9223372036854775807) (hV : Hid (aroundV x y n a b = V)) (hk : Hid (aroundC x y n a b = k)) (h0 : (k != 0) = false) (d1 : 0 ≤ dx) (d2 : dx < a) (d3 : 0 ≤ dy) (d4 : b ≤ dy) :
    Calls Try.prog 8 #[.agg #[.int .i64 x, .int .i64 y], .int .i64 n, .int .i64 a, .int .i64 b, .agg #[.int .i64 dx, .int .i64 dy]] w fun e w' => e = .returned (.bool true) ∧ Below w.heap.size w w' := by
  go_enter Try.func8, Try.ntmps8
  go_wp2_with fail
  refine (awake7_any _).mono ?_
  rintro e W1 ⟨rfl, i1b⟩
  obtain ⟨i1c, i1f, i1l⟩ := rules i1b (Nat.le_refl _); have i1z0 := i1l (w.heap.size) (by first | (simp; done) | assumption | omega | (simp; omega)); have i1z1 := i1l (w.heap.size + 1) (by first | (simp; done) | assumption | omega | (simp; omega))
  clear i1l
  go_wp2_with fail
  refine (around_eq _ hw1 hw2 hh1 hh2 hV.out hk.out).mono ?_
  rintro e W2 ⟨rfl, i2b⟩
  obtain ⟨i2c, i2f, i2l⟩ := rules i2b (Nat.le_refl _); have i2z0 := i2l (w.heap.size) (by first | (simp; done) | assumption | omega | (simp; omega)); have i2z1 := i2l (w.heap.size + 1) (by first | (simp; done) | assumption | omega | (simp; omega))
  clear i2l
  go_wp2_with fail
  refine (refAround_eq _ hw1 hw2 hh1 hh2 hV.out hk.out).mono ?_
  rintro e W3 ⟨rfl, i3b⟩
  obtain ⟨i3c, i3f, i3l⟩ := rules i3b (Nat.le_refl _); have i3z0 := i3l (w.heap.size) (by first | (simp; done) | assumption | omega | (simp; omega)); have i3z1 := i3l (w.heap.size + 1) (by first | (simp; done) | assumption | omega | (simp; omega)); have i3y0 := i3l (W2.heap.size) (by first | (simp; done) | assumption | omega | (simp; omega))
  clear i3l
  go_wp2_with fail
  go_ret
  exact ⟨rfl, (by repeat (first | with_reducible exact Below.refl _ _ | with_reducible assumption | with_reducible refine below_alloc ?_ _ | with_reducible refine below_draw ?_ | ((with_reducible apply bset); (focus (first | exact Nat.le_refl _ | (simp; done) | omega | (simp; omega)))) | ((with_reducible apply bcall); assumption; (focus (first | exact Nat.le_refl _ | (simp; done) | omega | (simp; omega))))))⟩
set_option maxHeartbeats 2000000 in
theorem around_f1 (x y n a b dx dy k : Int) (V : Rt) (w : World) (hw1 : -9223372036854775808 ≤ a) (hw2 : a ≤ 9223372036854775807) (hh1 : -9223372036854775808 ≤ b) (hh2 : b ≤ 9223372036854775807) (hV : Hid (aroundV x y n a b = V)) (hk : Hid (aroundC x y n a b = k)) (h0 : (k != 0) = false) (b1 : 0 ≤ x) (b2 : x < a) (b3 : a ≤ 1024) (b4 : 0 ≤ y) (b5 : y < b) (b6 : b ≤ 1024) (b7 : 0 ≤ n) (b8 : n ≤ 1024) (d1 : 0 ≤ dx) (d2 : dx < a) (d3 : 0 ≤ dy) (d4 : dy < b) (hz : Hid (withinC V.x0 V.y0 V.x1 V.y1 a b = 0)) (hp : Hid (hasB V.x0 V.y0 V.x1 V.y1 dx dy = false)) (f1 : n < dx - x) :
    Calls Try.prog 8 #[.agg #[.int .i64 x, .int .i64 y], .int .i64 n, .int .i64 a, .int .i64 b, .agg #[.int .i64 dx, .int .i64 dy]] w fun e w' => e = .returned (.bool true) ∧ Below w.heap.size w w' := by
  go_enter Try.func8, Try.ntmps8
  go_wp2_with fail
  refine (awake7_any _).mono ?_
  rintro e W1 ⟨rfl, i1b⟩
  obtain ⟨i1c, i1f, i1l⟩ := rules i1b (Nat.le_refl _); have i1z0 := i1l (w.heap.size) (by first | (simp; done) | assumption | omega | (simp; omega)); have i1z1 := i1l (w.heap.size + 1) (by first | (simp; done) | assumption | omega | (simp; omega))
  clear i1l
  go_wp2_with fail
  refine (around_eq _ hw1 hw2 hh1 hh2 hV.out hk.out).mono ?_
  rintro e W2 ⟨rfl, i2b⟩
  obtain ⟨i2c, i2f, i2l⟩ := rules i2b (Nat.le_refl _); have i2z0 := i2l (w.heap.size) (by first | (simp; done) | assumption | omega | (simp; omega)); have i2z1 := i2l (w.heap.size + 1) (by first | (simp; done) | assumption | omega | (simp; omega))
  clear i2l
  go_wp2_with fail
  refine (refAround_eq _ hw1 hw2 hh1 hh2 hV.out hk.out).mono ?_
  rintro e W3 ⟨rfl, i3b⟩
  obtain ⟨i3c, i3f, i3l⟩ := rules i3b (Nat.le_refl _); have i3z0 := i3l (w.heap.size) (by first | (simp; done) | assumption | omega | (simp; omega)); have i3z1 := i3l (w.heap.size + 1) (by first | (simp; done) | assumption | omega | (simp; omega)); have i3y0 := i3l (W2.heap.size) (by first | (simp; done) | assumption | omega | (simp; omega))
  clear i3l
  go_wp2_with (first | (go_at_call 27; with_reducible refine (has_eq _ hp.out).mono ?_; rintro e W4 ⟨rfl, i4b⟩; obtain ⟨i4c, i4f, i4l⟩ := rules i4b (Nat.le_refl _); have i4z0 := i4l (w.heap.size) (by first | (simp; done) | assumption | omega | (simp; omega)); have i4z1 := i4l (w.heap.size + 1) (by first | (simp; done) | assumption | omega | (simp; omega)); have i4y0 := i4l (W2.heap.size) (by first | (simp; done) | assumption | omega | (simp; omega)); have i4y1 := i4l (W3.heap.size) (by first | (simp; done) | assumption | omega | (simp; omega)); clear i4l) | (go_at_call 23; with_reducible refine (within_eq _ hz.out).mono ?_; rintro e W5 ⟨rfl, i5b⟩))
  go_ret
  exact ⟨rfl, (by repeat (first | with_reducible exact Below.refl _ _ | with_reducible assumption | with_reducible refine below_alloc ?_ _ | with_reducible refine below_draw ?_ | ((with_reducible apply bset); (focus (first | exact Nat.le_refl _ | (simp; done) | omega | (simp; omega)))) | ((with_reducible apply bcall); assumption; (focus (first | exact Nat.le_refl _ | (simp; done) | omega | (simp; omega))))))⟩
set_option maxHeartbeats 2000000 in
theorem around_f2 (x y n a b dx dy k : Int) (V : Rt) (w : World) (hw1 : -9223372036854775808 ≤ a) (hw2 : a ≤ 9223372036854775807) (hh1 : -9223372036854775808 ≤ b) (hh2 : b ≤ 9223372036854775807) (hV : Hid (aroundV x y n a b = V)) (hk : Hid (aroundC x y n a b = k)) (h0 : (k != 0) = false) (b1 : 0 ≤ x) (b2 : x < a) (b3 : a ≤ 1024) (b4 : 0 ≤ y) (b5 : y < b) (b6 : b ≤ 1024) (b7 : 0 ≤ n) (b8 : n ≤ 1024) (d1 : 0 ≤ dx) (d2 : dx < a) (d3 : 0 ≤ dy) (d4 : dy < b) (hz : Hid (withinC V.x0 V.y0 V.x1 V.y1 a b = 0)) (hp : Hid (hasB V.x0 V.y0 V.x1 V.y1 dx dy = false)) (f1 : dx - x ≤ n) (f2 : n < x - dx) :
    Calls Try.prog 8 #[.agg #[.int .i64 x, .int .i64 y], .int .i64 n, .int .i64 a, .int .i64 b, .agg #[.int .i64 dx, .int .i64 dy]] w fun e w' => e = .returned (.bool true) ∧ Below w.heap.size w w' := by
  go_enter Try.func8, Try.ntmps8
  go_wp2_with fail
  refine (awake7_any _).mono ?_
  rintro e W1 ⟨rfl, i1b⟩
  obtain ⟨i1c, i1f, i1l⟩ := rules i1b (Nat.le_refl _); have i1z0 := i1l (w.heap.size) (by first | (simp; done) | assumption | omega | (simp; omega)); have i1z1 := i1l (w.heap.size + 1) (by first | (simp; done) | assumption | omega | (simp; omega))
  clear i1l
  go_wp2_with fail
  refine (around_eq _ hw1 hw2 hh1 hh2 hV.out hk.out).mono ?_
  rintro e W2 ⟨rfl, i2b⟩
  obtain ⟨i2c, i2f, i2l⟩ := rules i2b (Nat.le_refl _); have i2z0 := i2l (w.heap.size) (by first | (simp; done) | assumption | omega | (simp; omega)); have i2z1 := i2l (w.heap.size + 1) (by first | (simp; done) | assumption | omega | (simp; omega))
  clear i2l
  go_wp2_with fail
  refine (refAround_eq _ hw1 hw2 hh1 hh2 hV.out hk.out).mono ?_
  rintro e W3 ⟨rfl, i3b⟩
  obtain ⟨i3c, i3f, i3l⟩ := rules i3b (Nat.le_refl _); have i3z0 := i3l (w.heap.size) (by first | (simp; done) | assumption | omega | (simp; omega)); have i3z1 := i3l (w.heap.size + 1) (by first | (simp; done) | assumption | omega | (simp; omega)); have i3y0 := i3l (W2.heap.size) (by first | (simp; done) | assumption | omega | (simp; omega))
  clear i3l
  go_wp2_with (first | (go_at_call 27; with_reducible refine (has_eq _ hp.out).mono ?_; rintro e W4 ⟨rfl, i4b⟩; obtain ⟨i4c, i4f, i4l⟩ := rules i4b (Nat.le_refl _); have i4z0 := i4l (w.heap.size) (by first | (simp; done) | assumption | omega | (simp; omega)); have i4z1 := i4l (w.heap.size + 1) (by first | (simp; done) | assumption | omega | (simp; omega)); have i4y0 := i4l (W2.heap.size) (by first | (simp; done) | assumption | omega | (simp; omega)); have i4y1 := i4l (W3.heap.size) (by first | (simp; done) | assumption | omega | (simp; omega)); clear i4l) | (go_at_call 23; with_reducible refine (within_eq _ hz.out).mono ?_; rintro e W5 ⟨rfl, i5b⟩))
  go_ret
  exact ⟨rfl, (by repeat (first | with_reducible exact Below.refl _ _ | with_reducible assumption | with_reducible refine below_alloc ?_ _ | with_reducible refine below_draw ?_ | ((with_reducible apply bset); (focus (first | exact Nat.le_refl _ | (simp; done) | omega | (simp; omega)))) | ((with_reducible apply bcall); assumption; (focus (first | exact Nat.le_refl _ | (simp; done) | omega | (simp; omega))))))⟩
set_option maxHeartbeats 2000000 in
theorem around_f3 (x y n a b dx dy k : Int) (V : Rt) (w : World) (hw1 : -9223372036854775808 ≤ a) (hw2 : a ≤ 9223372036854775807) (hh1 : -9223372036854775808 ≤ b) (hh2 : b ≤ 9223372036854775807) (hV : Hid (aroundV x y n a b = V)) (hk : Hid (aroundC x y n a b = k)) (h0 : (k != 0) = false) (b1 : 0 ≤ x) (b2 : x < a) (b3 : a ≤ 1024) (b4 : 0 ≤ y) (b5 : y < b) (b6 : b ≤ 1024) (b7 : 0 ≤ n) (b8 : n ≤ 1024) (d1 : 0 ≤ dx) (d2 : dx < a) (d3 : 0 ≤ dy) (d4 : dy < b) (hz : Hid (withinC V.x0 V.y0 V.x1 V.y1 a b = 0)) (hp : Hid (hasB V.x0 V.y0 V.x1 V.y1 dx dy = false)) (f1 : dx - x ≤ n) (f2 : x - dx ≤ n) (f3 : n < dy - y) :
    Calls Try.prog 8 #[.agg #[.int .i64 x, .int .i64 y], .int .i64 n, .int .i64 a, .int .i64 b, .agg #[.int .i64 dx, .int .i64 dy]] w fun e w' => e = .returned (.bool true) ∧ Below w.heap.size w w' := by
  go_enter Try.func8, Try.ntmps8
  go_wp2_with fail
  refine (awake7_any _).mono ?_
  rintro e W1 ⟨rfl, i1b⟩
  obtain ⟨i1c, i1f, i1l⟩ := rules i1b (Nat.le_refl _); have i1z0 := i1l (w.heap.size) (by first | (simp; done) | assumption | omega | (simp; omega)); have i1z1 := i1l (w.heap.size + 1) (by first | (simp; done) | assumption | omega | (simp; omega))
  clear i1l
  go_wp2_with fail
  refine (around_eq _ hw1 hw2 hh1 hh2 hV.out hk.out).mono ?_
  rintro e W2 ⟨rfl, i2b⟩
  obtain ⟨i2c, i2f, i2l⟩ := rules i2b (Nat.le_refl _); have i2z0 := i2l (w.heap.size) (by first | (simp; done) | assumption | omega | (simp; omega)); have i2z1 := i2l (w.heap.size + 1) (by first | (simp; done) | assumption | omega | (simp; omega))
  clear i2l
  go_wp2_with fail
  refine (refAround_eq _ hw1 hw2 hh1 hh2 hV.out hk.out).mono ?_
  rintro e W3 ⟨rfl, i3b⟩
  obtain ⟨i3c, i3f, i3l⟩ := rules i3b (Nat.le_refl _); have i3z0 := i3l (w.heap.size) (by first | (simp; done) | assumption | omega | (simp; omega)); have i3z1 := i3l (w.heap.size + 1) (by first | (simp; done) | assumption | omega | (simp; omega)); have i3y0 := i3l (W2.heap.size) (by first | (simp; done) | assumption | omega | (simp; omega))
  clear i3l
  go_wp2_with (first | (go_at_call 27; with_reducible refine (has_eq _ hp.out).mono ?_; rintro e W4 ⟨rfl, i4b⟩; obtain ⟨i4c, i4f, i4l⟩ := rules i4b (Nat.le_refl _); have i4z0 := i4l (w.heap.size) (by first | (simp; done) | assumption | omega | (simp; omega)); have i4z1 := i4l (w.heap.size + 1) (by first | (simp; done) | assumption | omega | (simp; omega)); have i4y0 := i4l (W2.heap.size) (by first | (simp; done) | assumption | omega | (simp; omega)); have i4y1 := i4l (W3.heap.size) (by first | (simp; done) | assumption | omega | (simp; omega)); clear i4l) | (go_at_call 23; with_reducible refine (within_eq _ hz.out).mono ?_; rintro e W5 ⟨rfl, i5b⟩))
  go_ret
  exact ⟨rfl, (by repeat (first | with_reducible exact Below.refl _ _ | with_reducible assumption | with_reducible refine below_alloc ?_ _ | with_reducible refine below_draw ?_ | ((with_reducible apply bset); (focus (first | exact Nat.le_refl _ | (simp; done) | omega | (simp; omega)))) | ((with_reducible apply bcall); assumption; (focus (first | exact Nat.le_refl _ | (simp; done) | omega | (simp; omega))))))⟩
set_option maxHeartbeats 2000000 in
theorem around_f4 (x y n a b dx dy k : Int) (V : Rt) (w : World) (hw1 : -9223372036854775808 ≤ a) (hw2 : a ≤ 9223372036854775807) (hh1 : -9223372036854775808 ≤ b) (hh2 : b ≤ 9223372036854775807) (hV : Hid (aroundV x y n a b = V)) (hk : Hid (aroundC x y n a b = k)) (h0 : (k != 0) = false) (b1 : 0 ≤ x) (b2 : x < a) (b3 : a ≤ 1024) (b4 : 0 ≤ y) (b5 : y < b) (b6 : b ≤ 1024) (b7 : 0 ≤ n) (b8 : n ≤ 1024) (d1 : 0 ≤ dx) (d2 : dx < a) (d3 : 0 ≤ dy) (d4 : dy < b) (hz : Hid (withinC V.x0 V.y0 V.x1 V.y1 a b = 0)) (hp : Hid (hasB V.x0 V.y0 V.x1 V.y1 dx dy = false)) (f1 : dx - x ≤ n) (f2 : x - dx ≤ n) (f3 : dy - y ≤ n) (f4 : n < y - dy) :
    Calls Try.prog 8 #[.agg #[.int .i64 x, .int .i64 y], .int .i64 n, .int .i64 a, .int .i64 b, .agg #[.int .i64 dx, .int .i64 dy]] w fun e w' => e = .returned (.bool true) ∧ Below w.heap.size w w' := by
  go_enter Try.func8, Try.ntmps8
  go_wp2_with fail
  refine (awake7_any _).mono ?_
  rintro e W1 ⟨rfl, i1b⟩
  obtain ⟨i1c, i1f, i1l⟩ := rules i1b (Nat.le_refl _); have i1z0 := i1l (w.heap.size) (by first | (simp; done) | assumption | omega | (simp; omega)); have i1z1 := i1l (w.heap.size + 1) (by first | (simp; done) | assumption | omega | (simp; omega))
  clear i1l
  go_wp2_with fail
  refine (around_eq _ hw1 hw2 hh1 hh2 hV.out hk.out).mono ?_
  rintro e W2 ⟨rfl, i2b⟩
  obtain ⟨i2c, i2f, i2l⟩ := rules i2b (Nat.le_refl _); have i2z0 := i2l (w.heap.size) (by first | (simp; done) | assumption | omega | (simp; omega)); have i2z1 := i2l (w.heap.size + 1) (by first | (simp; done) | assumption | omega | (simp; omega))
  clear i2l
  go_wp2_with fail
  refine (refAround_eq _ hw1 hw2 hh1 hh2 hV.out hk.out).mono ?_
  rintro e W3 ⟨rfl, i3b⟩
  obtain ⟨i3c, i3f, i3l⟩ := rules i3b (Nat.le_refl _); have i3z0 := i3l (w.heap.size) (by first | (simp; done) | assumption | omega | (simp; omega)); have i3z1 := i3l (w.heap.size + 1) (by first | (simp; done) | assumption | omega | (simp; omega)); have i3y0 := i3l (W2.heap.size) (by first | (simp; done) | assumption | omega | (simp; omega))
  clear i3l
  go_wp2_with (first | (go_at_call 27; with_reducible refine (has_eq _ hp.out).mono ?_; rintro e W4 ⟨rfl, i4b⟩; obtain ⟨i4c, i4f, i4l⟩ := rules i4b (Nat.le_refl _); have i4z0 := i4l (w.heap.size) (by first | (simp; done) | assumption | omega | (simp; omega)); have i4z1 := i4l (w.heap.size + 1) (by first | (simp; done) | assumption | omega | (simp; omega)); have i4y0 := i4l (W2.heap.size) (by first | (simp; done) | assumption | omega | (simp; omega)); have i4y1 := i4l (W3.heap.size) (by first | (simp; done) | assumption | omega | (simp; omega)); clear i4l) | (go_at_call 23; with_reducible refine (within_eq _ hz.out).mono ?_; rintro e W5 ⟨rfl, i5b⟩))
  go_ret
  exact ⟨rfl, (by repeat (first | with_reducible exact Below.refl _ _ | with_reducible assumption | with_reducible refine below_alloc ?_ _ | with_reducible refine below_draw ?_ | ((with_reducible apply bset); (focus (first | exact Nat.le_refl _ | (simp; done) | omega | (simp; omega)))) | ((with_reducible apply bcall); assumption; (focus (first | exact Nat.le_refl _ | (simp; done) | omega | (simp; omega))))))⟩
set_option maxHeartbeats 2000000 in
theorem around_in (x y n a b dx dy k : Int) (V : Rt) (w : World) (hw1 : -9223372036854775808 ≤ a) (hw2 : a ≤ 9223372036854775807) (hh1 : -9223372036854775808 ≤ b) (hh2 : b ≤ 9223372036854775807) (hV : Hid (aroundV x y n a b = V)) (hk : Hid (aroundC x y n a b = k)) (h0 : (k != 0) = false) (b1 : 0 ≤ x) (b2 : x < a) (b3 : a ≤ 1024) (b4 : 0 ≤ y) (b5 : y < b) (b6 : b ≤ 1024) (b7 : 0 ≤ n) (b8 : n ≤ 1024) (d1 : 0 ≤ dx) (d2 : dx < a) (d3 : 0 ≤ dy) (d4 : dy < b) (hz : Hid (withinC V.x0 V.y0 V.x1 V.y1 a b = 0)) (hp : Hid (hasB V.x0 V.y0 V.x1 V.y1 dx dy = true)) (f1 : decide (n < dx - x) = false) (f2 : decide (n < x - dx) = false) (f3 : decide (n < dy - y) = false) (f4 : decide (n < y - dy) = false) :
    Calls Try.prog 8 #[.agg #[.int .i64 x, .int .i64 y], .int .i64 n, .int .i64 a, .int .i64 b, .agg #[.int .i64 dx, .int .i64 dy]] w fun e w' => e = .returned (.bool true) ∧ Below w.heap.size w w' := by
  go_enter Try.func8, Try.ntmps8
  go_wp2_with fail
  refine (awake7_any _).mono ?_
  rintro e W1 ⟨rfl, i1b⟩
  obtain ⟨i1c, i1f, i1l⟩ := rules i1b (Nat.le_refl _); have i1z0 := i1l (w.heap.size) (by first | (simp; done) | assumption | omega | (simp; omega)); have i1z1 := i1l (w.heap.size + 1) (by first | (simp; done) | assumption | omega | (simp; omega))
  clear i1l
  go_wp2_with fail
  refine (around_eq _ hw1 hw2 hh1 hh2 hV.out hk.out).mono ?_
  rintro e W2 ⟨rfl, i2b⟩
  obtain ⟨i2c, i2f, i2l⟩ := rules i2b (Nat.le_refl _); have i2z0 := i2l (w.heap.size) (by first | (simp; done) | assumption | omega | (simp; omega)); have i2z1 := i2l (w.heap.size + 1) (by first | (simp; done) | assumption | omega | (simp; omega))
  clear i2l
  go_wp2_with fail
  refine (refAround_eq _ hw1 hw2 hh1 hh2 hV.out hk.out).mono ?_
  rintro e W3 ⟨rfl, i3b⟩
  obtain ⟨i3c, i3f, i3l⟩ := rules i3b (Nat.le_refl _); have i3z0 := i3l (w.heap.size) (by first | (simp; done) | assumption | omega | (simp; omega)); have i3z1 := i3l (w.heap.size + 1) (by first | (simp; done) | assumption | omega | (simp; omega)); have i3y0 := i3l (W2.heap.size) (by first | (simp; done) | assumption | omega | (simp; omega))
  clear i3l
  go_wp2_with (first | (go_at_call 27; with_reducible refine (has_eq _ hp.out).mono ?_; rintro e W4 ⟨rfl, i4b⟩; obtain ⟨i4c, i4f, i4l⟩ := rules i4b (Nat.le_refl _); have i4z0 := i4l (w.heap.size) (by first | (simp; done) | assumption | omega | (simp; omega)); have i4z1 := i4l (w.heap.size + 1) (by first | (simp; done) | assumption | omega | (simp; omega)); have i4y0 := i4l (W2.heap.size) (by first | (simp; done) | assumption | omega | (simp; omega)); have i4y1 := i4l (W3.heap.size) (by first | (simp; done) | assumption | omega | (simp; omega)); clear i4l) | (go_at_call 23; with_reducible refine (within_eq _ hz.out).mono ?_; rintro e W5 ⟨rfl, i5b⟩))
  go_ret
  exact ⟨rfl, (by repeat (first | with_reducible exact Below.refl _ _ | with_reducible assumption | with_reducible refine below_alloc ?_ _ | with_reducible refine below_draw ?_ | ((with_reducible apply bset); (focus (first | exact Nat.le_refl _ | (simp; done) | omega | (simp; omega)))) | ((with_reducible apply bcall); assumption; (focus (first | exact Nat.le_refl _ | (simp; done) | omega | (simp; omega))))))⟩
theorem rectAround_walk (x y n a b dx dy : Int) (w : World) (_a0 : (-9223372036854775808 ≤ x ∧ x ≤ 9223372036854775807)) (_a1 : (-9223372036854775808 ≤ y ∧ y ≤ 9223372036854775807)) (_a2 : (-9223372036854775808 ≤ n ∧ n ≤ 9223372036854775807)) (_a3 : (-9223372036854775808 ≤ a ∧ a ≤ 9223372036854775807)) (_a4 : (-9223372036854775808 ≤ b ∧ b ≤ 9223372036854775807)) (_a5 : (-9223372036854775808 ≤ dx ∧ dx ≤ 9223372036854775807)) (_a6 : (-9223372036854775808 ≤ dy ∧ dy ≤ 9223372036854775807)) :
    Calls Try.prog 8 #[.agg #[.int .i64 x, .int .i64 y], .int .i64 n, .int .i64 a, .int .i64 b, .agg #[.int .i64 dx, .int .i64 dy]] w fun e w' => e = .returned (.bool true) ∧ Below w.heap.size w w' := by
  obtain ⟨hw1, hw2⟩ := _a3
  obtain ⟨hh1, hh2⟩ := _a4
  by_cases h0 : aroundC x y n a b = 0
  · have hZ : (aroundC x y n a b != 0) = false := by simp [h0]
    obtain ⟨⟨b1, b2, b3, b4, b5, b6, b7, b8⟩, hz, hp⟩ := around_has (dx := dx) (dy := dy) hw1 hw2 hh1 hh2 h0
    by_cases d1 : 0 ≤ dx
    · by_cases d2 : dx < a
      · by_cases d3 : 0 ≤ dy
        · by_cases d4 : dy < b
          · have hp := hp d1 d2 d3 d4
            by_cases hf : farP x y n dx dy
            · have hp' : hasB (aroundV x y n a b).x0 (aroundV x y n a b).y0 (aroundV x y n a b).x1 (aroundV x y n a b).y1 dx dy = false := by
                rw [← Bool.not_eq_true]; exact fun h => hp.1 h hf
              unfold farP at hf
              by_cases f1 : n < dx - x
              · exact around_f1 _ _ _ _ _ _ _ _ _ w hw1 hw2 hh1 hh2 rfl rfl hZ b1 b2 b3 b4 b5 b6 b7 b8 d1 d2 d3 d4 hz hp' f1
              · by_cases f2 : n < x - dx
                · exact around_f2 _ _ _ _ _ _ _ _ _ w hw1 hw2 hh1 hh2 rfl rfl hZ b1 b2 b3 b4 b5 b6 b7 b8 d1 d2 d3 d4 hz hp' (by omega) f2
                · by_cases f3 : n < dy - y
                  · exact around_f3 _ _ _ _ _ _ _ _ _ w hw1 hw2 hh1 hh2 rfl rfl hZ b1 b2 b3 b4 b5 b6 b7 b8 d1 d2 d3 d4 hz hp' (by omega) (by omega) f3
                  · exact around_f4 _ _ _ _ _ _ _ _ _ w hw1 hw2 hh1 hh2 rfl rfl hZ b1 b2 b3 b4 b5 b6 b7 b8 d1 d2 d3 d4 hz hp' (by omega) (by omega) (by omega) (by omega)
            · have hp' := hp.2 hf
              unfold farP at hf
              exact around_in _ _ _ _ _ _ _ _ _ w hw1 hw2 hh1 hh2 rfl rfl hZ b1 b2 b3 b4 b5 b6 b7 b8 d1 d2 d3 d4 hz hp' (by simp; omega) (by simp; omega) (by simp; omega) (by simp; omega)
          · exact around_o4 _ _ _ _ _ _ _ _ _ w hw1 hw2 hh1 hh2 rfl rfl hZ d1 d2 d3 (by omega)
        · exact around_o3 _ _ _ _ _ _ _ _ _ w hw1 hw2 hh1 hh2 rfl rfl hZ d1 d2 (by omega)
      · exact around_o2 _ _ _ _ _ _ _ _ _ w hw1 hw2 hh1 hh2 rfl rfl hZ d1 (by omega)
    · exact around_o1 _ _ _ _ _ _ _ _ _ w hw1 hw2 hh1 hh2 rfl rfl hZ (by omega)
  · exact around_err _ _ _ _ _ _ _ _ _ w hw1 hw2 hh1 hh2 rfl rfl (by simp [h0])
end Go.Proofs.Ytcklknlbmbinoaa
