/- Contracts of package slope: product, compare, Cmp, Floor, Hides. -/
import Derived.Test.YtgkkbeomhkggjaaDoorSlope0
set_option linter.unusedVariables false
set_option linter.unusedSimpArgs false
namespace Go.Proofs.YtgkkbeomhkggjaaDoor
open Go.RowKit
def or2 (x y : Int) : Int := if x = 0 then y else x
theorem ab_pos' (n : Int) : 0 ≤ ab n := by unfold ab; split <;> omega
theorem ab_le {n : Int} (h0 : -9223372036854775808 ≤ n) (h1 : n ≤ 9223372036854775807) : ab n ≤ 9223372036854775808 := by unfold ab; split <;> omega
theorem cmp2_eq {p q : Int} (hp : 0 ≤ p) (hq : 0 ≤ q) : or2 (cmpI (p / 18446744073709551616) (q / 18446744073709551616)) (cmpI (p % 18446744073709551616) (q % 18446744073709551616)) = cmpI p q := by
  unfold or2
  rcases Int.lt_trichotomy (p / 18446744073709551616) (q / 18446744073709551616) with h | h | h
  · rw [cmpI_lt h, if_neg (by decide)]; exact (cmpI_lt (by omega)).symm
  · rw [cmpI_eq h, if_pos rfl]; exact cmpI_iff (by omega) (by omega)
  · rw [cmpI_gt h, if_neg (by decide)]; exact (cmpI_gt (by omega)).symm
theorem cmpI_neg (x y : Int) : -cmpI x y = cmpI (-x) (-y) := by
  rcases Int.lt_trichotomy x y with h | h | h
  · rw [cmpI_lt h, cmpI_gt (by omega)]; rfl
  · rw [cmpI_eq h, cmpI_eq (by omega)]; rfl
  · rw [cmpI_gt h, cmpI_lt (by omega)]

theorem or_any (x y : Int) (A : Option Addr) (cap : Nat) (w : World) (h : Ints .i64 w A 2 [x, y]) :
    Calls Tryd.prog 108 #[.slice A 2 cap] w fun r w' => r = .returned (.int .i64 (or2 x y)) ∧ w = w' := by
  obtain ⟨b, off, rfl, hb, hc⟩ := h.2 (by decide)
  have c0 := hc 0 (by decide)
  have c1 := hc 1 (by decide)
  rw [Nat.add_zero] at c0
  change w.cell? ⟨b, off, none⟩ = some (.int .i64 x) at c0
  change w.cell? ⟨b, off + 1, none⟩ = some (.int .i64 y) at c1
  clear hc
  by_cases hx : x = 0
  · have hv : or2 x y = y := if_pos hx
    have z0 : (x != 0) = false := by simp [hx]
    rw [hv]
    clear hv hx
    go_enter Tryd.func108, Tryd.ntmps108
    go_wp2
    go_loop [8] (fun q => q = .int .i64 0 ∨ q = .int .i64 1 ∨ (q = .int .i64 2 ∧ y = 0)) (fun q => 2 - (intOf q).toNat)
    case atStart => exact .inl rfl
    case round =>
      rcases hrel with rfl | rfl | ⟨rfl, hy⟩
      · go_wp2
        go_round
        case rel => exact .inr (.inl rfl)
        case measure => simp [intOf]
      · by_cases hy : y = 0
        · have z1 : (y != 0) = false := by simp [hy]
          have hy' := Lib.hid hy
          clear hy
          go_wp2
          go_round
          case rel => exact .inr (.inr ⟨rfl, hy'.out⟩)
          case measure => simp [intOf]
        · have z1 : (y != 0) = true := by simp [hy]
          clear hy
          go_wp2
          go_ret
          exact ⟨rfl, rfl⟩
      · have hy' := Lib.hid hy
        clear hy
        go_wp2
        go_ret
        exact ⟨ret_int hy'.out.symm, rfl⟩
  · have hv : or2 x y = x := if_neg hx
    have z0 : (x != 0) = true := by simp [hx]
    rw [hv]
    clear hv hx
    go_enter Tryd.func108, Tryd.ntmps108
    go_wp2
    go_loop [8] (fun q => q = .int .i64 0) (fun q => 2 - (intOf q).toNat)
    case atStart => rfl
    case round =>
      obtain rfl := hrel
      go_wp2
      go_ret
      exact ⟨rfl, rfl⟩

theorem product_any (a b : Int) {hi lo : Int} (w : World) (h0 : 0 ≤ a) (h1 : a < 18446744073709551616) (h2 : 0 ≤ b) (h3 : b < 18446744073709551616) (hh : Hid (a * b / 18446744073709551616 = hi)) (hl : Hid (a * b % 18446744073709551616 = lo)) :
    Calls Tryd.prog 90 #[.int .u64 a, .int .u64 b] w fun r w' => r = .returned (.agg #[.int .u64 hi, .int .u64 lo]) ∧ Below w.heap.size w w' := by
  have Hc : Hid (∀ W : World, Calls Tryd.prog 110 #[.int .u64 a, .int .u64 b] W fun r w' => r = .returned (.tuple #[.int .u64 hi, .int .u64 lo]) ∧ W = w') := Lib.hid (fun W => by
    have := mul64_any a b W h0 h1 h2 h3
    rw [hh.out, hl.out] at this
    exact this)
  go_enter Tryd.func90, Tryd.ntmps90
  go_wp2_with (go_at_call 110; refine (Hc.out _).mono ?_; rintro e w' ⟨rfl, rfl⟩)
  exact bodyPost_ret (v := .agg #[.int .u64 hi, .int .u64 lo]) (by simp [results, Tryd.results90, go_sem, *]) rfl ⟨rfl, (by repeat (first | with_reducible exact Below.refl _ _ | with_reducible assumption | with_reducible refine below_alloc ?_ _ | with_reducible refine below_draw ?_ | ((with_reducible apply bset); (focus (first | exact Nat.le_refl _ | (simp; done) | omega | (simp; omega)))) | ((with_reducible apply bcall); assumption; (focus (first | exact Nat.le_refl _ | (simp; done) | omega | (simp; omega))))))⟩

set_option maxHeartbeats 1000000 in
theorem compare_any (x y u v : Int) (w : World) :
    Calls Tryd.prog 89 #[.agg #[.int .u64 x, .int .u64 y], .agg #[.int .u64 u, .int .u64 v]] w fun r w' => r = .returned (.int .i64 (or2 (cmpI x u) (cmpI y v))) ∧ Below w.heap.size w w' := by
  go_enter Tryd.func89, Tryd.ntmps89
  go_wp2
  refine wp_region_two [0, 1, 2, 3, 4, 5, 6, 7, 8, 9] [10, 11, 12] ?_ (by kernel_rfl) (by kernel_rfl) (by rfl) ?_ ?_
  rotate_left 1
  · intro X0 X0b
    obtain ⟨X0c, X0f, X0l⟩ := rules X0b (Nat.le_refl _); have X0z0 := X0l (w.heap.size) (by first | (simp; done) | assumption | omega | (simp; omega)); have X0z1 := X0l (w.heap.size + 1) (by first | (simp; done) | assumption | omega | (simp; omega)); clear X0l
    simp only [pick, List.getElem?_cons_succ, List.getElem?_cons_zero]
    repeat (go_big_quiet_step ((first | (go_at_call 109; with_reducible exact (compare_uint64 _ _ _).over_same))))
    refine wpQuiet_nil ?_
    exact sameAct _
  intro X0 X0b
  obtain ⟨X0c, X0f, X0l⟩ := rules X0b (Nat.le_refl _); have X0z0 := X0l (w.heap.size) (by first | (simp; done) | assumption | omega | (simp; omega)); have X0z1 := X0l (w.heap.size + 1) (by first | (simp; done) | assumption | omega | (simp; omega)); clear X0l; have X0s := X0b.size; try simp at X0s
  simp only [pick, List.getElem?_cons_succ, List.getElem?_cons_zero]
  unfold wpHav
  go_wp2
  refine ⟨(by first | ((repeat (first | with_reducible exact Below.refl _ _ | with_reducible assumption | with_reducible refine below_alloc ?_ _ | with_reducible refine below_draw ?_ | ((with_reducible apply bset); (focus (first | exact Nat.le_refl _ | (simp; done) | omega | (simp; omega)))) | ((with_reducible apply bcall); assumption; (focus (first | exact Nat.le_refl _ | (simp; done) | omega | (simp; omega)))))); done) | (refine below_own ?_ (by simp); repeat (first | with_reducible exact Below.refl _ _ | with_reducible assumption | with_reducible refine below_alloc ?_ _ | with_reducible refine below_draw ?_ | ((with_reducible apply bset); (focus (first | exact Nat.le_refl _ | (simp; done) | omega | (simp; omega)))) | ((with_reducible apply bcall); assumption; (focus (first | exact Nat.le_refl _ | (simp; done) | omega | (simp; omega))))))), fun X1 X1b => ?_⟩
  obtain ⟨X1c, X1f, X1l⟩ := rules X1b (by simp); have X1y0 := X1l (X0.heap.size) (by first | (simp; done) | assumption | omega | (simp; omega)); clear X1l; have X1s := X1b.size; try simp at X1s
  unfold wpHav
  have hi : Ints .i64 X1 (some ⟨X0.heap.size, 0, none⟩) 2 [cmpI x u, cmpI y v] := by
    have h0 := own_ints (k := .i64) (zs := [cmpI x u, cmpI y v]) (World.ownsRow_lit (base := 0) (e := 3) (size := 1) X0 #[.int .i64 (cmpI x u), .int .i64 (cmpI y v)] 2 (Nat.zero_le _) (by decide) rfl)
    exact h0.below (by simp) X1b
  go_wp2_with (go_at_call 108; refine (or_any _ _ _ _ _ hi).mono ?_; rintro e w' ⟨rfl, rfl⟩)
  refine ⟨(by first | ((repeat (first | with_reducible exact Below.refl _ _ | with_reducible assumption | with_reducible refine below_alloc ?_ _ | with_reducible refine below_draw ?_ | ((with_reducible apply bset); (focus (first | exact Nat.le_refl _ | (simp; done) | omega | (simp; omega)))) | ((with_reducible apply bcall); assumption; (focus (first | exact Nat.le_refl _ | (simp; done) | omega | (simp; omega)))))); done) | (refine below_own ?_ (by simp); repeat (first | with_reducible exact Below.refl _ _ | with_reducible assumption | with_reducible refine below_alloc ?_ _ | with_reducible refine below_draw ?_ | ((with_reducible apply bset); (focus (first | exact Nat.le_refl _ | (simp; done) | omega | (simp; omega)))) | ((with_reducible apply bcall); assumption; (focus (first | exact Nat.le_refl _ | (simp; done) | omega | (simp; omega))))))), fun X2 X2b => ?_⟩
  obtain ⟨X2c, X2f, X2l⟩ := rules X2b (by simp); have X2y0 := X2l (X0.heap.size) (by first | (simp; done) | assumption | omega | (simp; omega)); clear X2l; have X2s := X2b.size; try simp at X2s
  unfold wpHav
  go_wp2
  refine ⟨(by first | ((repeat (first | with_reducible exact Below.refl _ _ | with_reducible assumption | with_reducible refine below_alloc ?_ _ | with_reducible refine below_draw ?_ | ((with_reducible apply bset); (focus (first | exact Nat.le_refl _ | (simp; done) | omega | (simp; omega)))) | ((with_reducible apply bcall); assumption; (focus (first | exact Nat.le_refl _ | (simp; done) | omega | (simp; omega)))))); done) | (refine below_own ?_ (by simp); repeat (first | with_reducible exact Below.refl _ _ | with_reducible assumption | with_reducible refine below_alloc ?_ _ | with_reducible refine below_draw ?_ | ((with_reducible apply bset); (focus (first | exact Nat.le_refl _ | (simp; done) | omega | (simp; omega)))) | ((with_reducible apply bcall); assumption; (focus (first | exact Nat.le_refl _ | (simp; done) | omega | (simp; omega))))))), fun X3 X3b => ?_⟩
  obtain ⟨X3c, X3f, X3l⟩ := rules X3b (by simp); have X3y0 := X3l (X0.heap.size) (by first | (simp; done) | assumption | omega | (simp; omega)); clear X3l; have X3s := X3b.size; try simp at X3s
  unfold wpHav
  go_wp2
  go_ret
  exact ⟨rfl, (by repeat (first | with_reducible exact Below.refl _ _ | with_reducible assumption | with_reducible refine below_alloc ?_ _ | with_reducible refine below_draw ?_ | ((with_reducible apply bset); (focus (first | exact Nat.le_refl _ | (simp; done) | omega | (simp; omega)))) | ((with_reducible apply bcall); assumption; (focus (first | exact Nat.le_refl _ | (simp; done) | omega | (simp; omega))))))⟩

theorem Right_any (u o : Int) (w : World) :
    Calls Tryd.prog 86 #[.agg #[.int .i64 u, .int .i64 o]] w fun r w' => r = .returned (.bool (decide (1 ≤ o))) ∧ Below w.heap.size w w' := by
  go_enter Tryd.func86, Tryd.ntmps86
  go_wp2
  go_ret
  exact ⟨rfl, (by repeat (first | with_reducible exact Below.refl _ _ | with_reducible assumption | with_reducible refine below_alloc ?_ _ | with_reducible refine below_draw ?_ | ((with_reducible apply bset); (focus (first | exact Nat.le_refl _ | (simp; done) | omega | (simp; omega)))) | ((with_reducible apply bcall); assumption; (focus (first | exact Nat.le_refl _ | (simp; done) | omega | (simp; omega))))))⟩

end Go.Proofs.YtgkkbeomhkggjaaDoor
