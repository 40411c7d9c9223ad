/- Contracts of package rect: floor, Nth, Rank. -/
import Derived.Test.YtkphmcaoioaglaaRect0
import Derived.Lib.Hide
set_option linter.unusedVariables false
set_option linter.unusedSimpArgs false
namespace Go.Proofs.Ytkphmcaoioaglaa
open Go.RowKit
def floorI (n : Int) : Int := 16 * (n / 16)
theorem floor_bits : ∀ n : Nat, n < 1024 → bits .andNot .i64 (n : Int) 15 = 16 * ((n : Int) / 16) := by decide +kernel

theorem floor_any (n : Int) (w : World) (h0 : 0 ≤ n) (h1 : n < 1024) :
    Calls Try.prog 121 #[.int .i64 n] w fun r w' => r = .returned (.int .i64 (floorI n)) ∧ w = w' := by
  obtain ⟨k, rfl⟩ := Int.eq_ofNat_of_zero_le h0
  have hk := floor_bits k (by omega)
  have Hk := Lib.hid hk
  clear hk
  go_enter Try.func121, Try.ntmps121
  go_wp2
  go_ret
  exact ⟨ret_int Hk.out, rfl⟩

/-- 'Nth': is there one, and which -/
def nthB (x0 y0 x1 y1 i : Int) : Bool := insideB i (areaI x0 y0 x1 y1)
def nthX (x0 y0 x1 y1 i : Int) : Int := if nthB x0 y0 x1 y1 i then x0 + i % (x1 - x0 + 1) else 0
def nthY (x0 y0 x1 y1 i : Int) : Int := if nthB x0 y0 x1 y1 i then y0 + i / (x1 - x0 + 1) else 0
theorem area_right {x0 y0 x1 y1 i : Int} (h : insideB i (areaI x0 y0 x1 y1) = true) : RightP x0 y0 x1 y1 := by
  rw [insideB_iff] at h
  by_cases hr : RightP x0 y0 x1 y1
  · exact hr
  · rw [areaI, if_neg hr] at h; omega
theorem nth_bd {x0 y0 x1 y1 i : Int} (hr : RightP x0 y0 x1 y1) (h0 : 0 ≤ i) (h1 : i < areaI x0 y0 x1 y1) : 0 ≤ i % (x1 - x0 + 1) ∧ i % (x1 - x0 + 1) ≤ x1 - x0 ∧ 0 ≤ i / (x1 - x0 + 1) ∧ i / (x1 - x0 + 1) ≤ y1 - y0 := by
  rw [areaI, if_pos hr] at h1
  unfold RightP at hr
  have a := Int.emod_nonneg i (b := x1 - x0 + 1) (by omega)
  have b := Int.emod_lt_of_pos i (b := x1 - x0 + 1) (by omega)
  have d := Int.ediv_nonneg h0 (b := x1 - x0 + 1) (by omega)
  have e : i / (x1 - x0 + 1) < y1 - y0 + 1 := Int.ediv_lt_of_lt_mul (by omega) (by rw [Int.mul_comm]; exact h1)
  omega

set_option maxHeartbeats 1000000 in
theorem nth_any (x0 y0 x1 y1 i : Int) (w : World) :
    Calls Try.prog 112 #[.agg #[.int .i64 x0, .int .i64 y0, .int .i64 x1, .int .i64 y1], .int .i64 i] w fun r w' => r = .returned (.tuple #[.agg #[.int .i64 (nthX x0 y0 x1 y1 i), .int .i64 (nthY x0 y0 x1 y1 i)], .bool (nthB x0 y0 x1 y1 i)]) ∧ Below w.heap.size w w' := by
  by_cases hi : nthB x0 y0 x1 y1 i = true
  · have hr := area_right hi
    have hr' := hr
    unfold RightP at hr'
    obtain ⟨h0, h1⟩ := (insideB_iff _ _).1 hi
    obtain ⟨_, _, _, _⟩ := nth_bd hr h0 h1
    rw [nthX, nthY, if_pos hi, if_pos hi, hi]
    have hi' : insideB i (areaI x0 y0 x1 y1) = true := hi
    have hd1 : wrap64 (i.tdiv (x1 - x0 + 1)) = i / (x1 - x0 + 1) := by rw [Int.tdiv_eq_ediv_of_nonneg h0, IntWalk.wrap64_in _ ⟨by omega, by omega⟩]
    have hd2 : wrap64 (y0 + i / (x1 - x0 + 1)) = y0 + i / (x1 - x0 + 1) := IntWalk.wrap64_in _ ⟨by omega, by omega⟩
    clear hi h1
    go_enter Try.func112, Try.ntmps112
    go_wp2_with (first | (go_at_call 85; refine (area_any _ _ _ _ _).mono ?_; rintro e w' ⟨rfl, hb⟩; obtain ⟨hc, hf, hl⟩ := rules hb (Nat.le_refl _); have hz0 := hl (w.heap.size) (by first | (simp; done) | assumption | (simp; omega)); have hz1 := hl (w.heap.size + 1) (by first | (simp; done) | assumption | (simp; omega)); clear hl) | (go_at_call 117; refine (inside_any _ _ _).mono ?_; rintro e w' ⟨rfl, rfl⟩))
    refine wp_region_over_tail 15 (by kernel_rfl) (by kernel_rfl) ?_
    simp only [List.take_succ_cons, List.take_zero, List.drop_succ_cons, List.drop_zero]
    repeat (go_big_quiet_step ((first | (go_at_call 118; exact (width_any _ _ _ _ _ hr).over))))
    refine wpQuiet_nil ?_
    intro w2 w2b
    obtain ⟨w2c, w2f, w2l⟩ := rules w2b (Nat.le_refl _); have w2z0 := w2l (w.heap.size) (by first | (simp; done) | assumption | (simp; omega)); have w2z1 := w2l (w.heap.size + 1) (by first | (simp; done) | assumption | (simp; omega)); clear w2l
    go_wp2
    exact bodyPost_ret (v := .tuple #[.agg #[.int .i64 (x0 + i % (x1 - x0 + 1)), .int .i64 (y0 + i / (x1 - x0 + 1))], .bool true]) (by simp [results, Try.results112, go_sem, *]) rfl ⟨rfl, (by repeat (first | with_reducible exact Below.refl _ _ | with_reducible assumption | with_reducible refine below_alloc ?_ _ | with_reducible refine below_draw ?_ | ((with_reducible apply bset); (focus (first | exact Nat.le_refl _ | (simp; done) | (simp; omega)))) | ((with_reducible apply bcall); assumption; (focus (first | exact Nat.le_refl _ | (simp; done) | (simp; omega))))))⟩
  · rw [nthX, nthY, if_neg hi, if_neg hi]
    have hb : nthB x0 y0 x1 y1 i = false := by simpa using hi
    have hi' : insideB i (areaI x0 y0 x1 y1) = false := hb
    rw [hb]
    clear hi hb
    go_enter Try.func112, Try.ntmps112
    go_wp2_with (first | (go_at_call 85; refine (area_any _ _ _ _ _).mono ?_; rintro e w' ⟨rfl, hb⟩; obtain ⟨hc, hf, hl⟩ := rules hb (Nat.le_refl _); have hz0 := hl (w.heap.size) (by first | (simp; done) | assumption | (simp; omega)); have hz1 := hl (w.heap.size + 1) (by first | (simp; done) | assumption | (simp; omega)); clear hl) | (go_at_call 117; refine (inside_any _ _ _).mono ?_; rintro e w' ⟨rfl, rfl⟩))
    exact bodyPost_ret (v := .tuple #[.agg #[.int .i64 0, .int .i64 0], .bool false]) (by simp [results, Try.results112, go_sem, *]) rfl ⟨rfl, (by repeat (first | with_reducible exact Below.refl _ _ | with_reducible assumption | with_reducible refine below_alloc ?_ _ | with_reducible refine below_draw ?_ | ((with_reducible apply bset); (focus (first | exact Nat.le_refl _ | (simp; done) | (simp; omega)))) | ((with_reducible apply bcall); assumption; (focus (first | exact Nat.le_refl _ | (simp; done) | (simp; omega))))))⟩

/-- 'Rank': which of them -/
def rankI (x0 y0 x1 y1 x y : Int) : Int := if hasB x0 y0 x1 y1 x y then (y - y0) * (x1 - x0 + 1) + x - x0 else 0

end Go.Proofs.Ytkphmcaoioaglaa
