/- Package slope: Steepest. -/
import Derived.Test.YtjhbomgfjffmdaaSlope3
import Derived.Test.YtjhbomgfjffmdaaPairs
set_option linter.unusedVariables false
set_option linter.unusedSimpArgs false
namespace Go.Proofs.Ytjhbomgfjffmdaa
open Go.RowKit
/-- the place m holds the steepest of the first n; none ahead of it is as steep -/
def BestS (U O : Nat → Int) (m n : Nat) : Prop := ∀ j, j < n → U j * O m ≤ U m * O j ∧ (j < m → U j * O m < U m * O j)
def OkS (O : Nat → Int) (n : Nat) : Prop := ∀ j, j < n → 1 ≤ O j
theorem ok_succ {O : Nat → Int} {k : Nat} (h : OkS O k) (hk : 1 ≤ O k) : OkS O (k + 1) := fun j hj => by
  rcases Nat.lt_or_eq_of_le (Nat.le_of_lt_succ hj) with h1 | rfl
  · exact h j h1
  · exact hk
theorem best_keep {U O : Nat → Int} {m k : Nat} (hm : m ≤ k) (h : BestS U O m k) (hk : ¬ U m * O k < U k * O m) : BestS U O m (k + 1) := fun j hj => by
  rcases Nat.lt_or_eq_of_le (Nat.le_of_lt_succ hj) with h1 | rfl
  · exact h j h1
  · exact ⟨by omega, fun h => by omega⟩
theorem cross_lt {a p b o c q : Int} (hp : 1 ≤ p) (ho : 1 ≤ o) (hq : 1 ≤ q) (h1 : a * o ≤ b * p) (h2 : b * q < c * o) : a * q < c * p := by
  have e1 : a * o * q ≤ b * p * q := Int.mul_le_mul_of_nonneg_right h1 (by omega)
  have e2 : b * q * p < c * o * p := Int.mul_lt_mul_of_pos_right h2 (by omega)
  rw [Int.mul_right_comm] at e1
  rw [Int.mul_right_comm b q p, Int.mul_right_comm c o p] at e2
  have e3 : a * q * o < c * p * o := by omega
  exact Int.lt_of_mul_lt_mul_right e3 (by omega)
theorem best_turn {U O : Nat → Int} {m k : Nat} (hm : m < k) (hO : OkS O k) (hk1 : 1 ≤ O k) (h : BestS U O m k) (hk : U m * O k < U k * O m) : BestS U O k (k + 1) := fun j hj => by
  rcases Nat.lt_or_eq_of_le (Nat.le_of_lt_succ hj) with h1 | rfl
  · have := cross_lt (hO j h1) (hO m hm) hk1 (h j h1).1 hk
    exact ⟨by omega, fun _ => this⟩
  · exact ⟨Int.le_refl _, fun h => absurd h (Nat.lt_irrefl _)⟩

set_option maxRecDepth 100000 in
set_option maxHeartbeats 2000000 in
theorem Steepest_any (U O : Nat → Int) (A : Option Addr) (n cap : Nat) (w : World) (h : Pairs .i64 w A n U O) (hU : ∀ j, j < n → -9223372036854775808 ≤ U j ∧ U j ≤ 9223372036854775807) (hO : ∀ j, j < n → -9223372036854775808 ≤ O j ∧ O j ≤ 9223372036854775807) (hn : n ≤ 100) (hn0 : 0 < n) :
    Calls Try.prog 27 #[.slice A n cap] w fun r w' => ((r = .returned (.tuple #[.int .i64 0, .int .i64 13]) ∧ ¬ OkS O n) ∨ (OkS O n ∧ ∃ m, m < n ∧ BestS U O m n ∧ r = .returned (.tuple #[.int .i64 (m : Int), .int .i64 0]))) ∧ Below w.heap.size w w' := by
  go_enter Try.func27, Try.ntmps27
  go_wp2
  go_loopw [4, 14] (fun q4 q14 wr => ∃ k m : Nat, k ≤ n ∧ q14 = .int .i64 k ∧ q4 = .int .i64 m ∧ m ≤ k ∧ (m < k ∨ k = 0) ∧ Hid (OkS O k) ∧ Hid (BestS U O m k) ∧ Below w.heap.size w wr) (fun _ q _ => n - (intOf q).toNat)
  case atStart => exact ⟨0, 0, Nat.zero_le _, rfl, rfl, Nat.le_refl _, .inr rfl, Lib.hid (fun j h => absurd h (Nat.not_lt_zero _)), Lib.hid (fun j h => absurd h (Nat.not_lt_zero _)), Below.refl _ _⟩
  case round =>
    obtain ⟨k, m, hk, rfl, rfl, hmk, hm0, hA, hB, hE⟩ := hrel
    by_cases hlt : k < n
    · have h' := h.below (Nat.le_refl _) hE
      obtain ⟨b, off, rfl, hb, hc⟩ := h' hn0
      obtain ⟨ck0, ck1⟩ := hc k hlt
      obtain ⟨cm0, cm1⟩ := hc m (by omega)
      clear hc
      obtain ⟨uk0, uk1⟩ := hU k hlt
      obtain ⟨um0, um1⟩ := hU m (by omega)
      obtain ⟨ok0, ok1⟩ := hO k hlt
      obtain ⟨om0, om1⟩ := hO m (by omega)
      by_cases hok : 1 ≤ O k
      · have hom : 1 ≤ O m := by
          rcases hm0 with h1 | h1
          · exact hA.out m h1
          · have : m = k := by omega
            rw [this]; exact hok
        have hcmp : Hid (∀ W : World, Calls Try.prog 21 #[.agg #[.int .i64 (U k), .int .i64 (O k)], .agg #[.int .i64 (U m), .int .i64 (O m)]] W fun r w' => r = .returned (.tuple #[.int .i64 (cmpI (U k * O m) (U m * O k)), .int .i64 0]) ∧ Below W.heap.size W w') := Lib.hid (fun W => Cmp_ok (U k) (O k) (U m) (O m) W uk0 uk1 ok0 ok1 um0 um1 om0 om1 hok hom)
        by_cases hmore : U m * O k < U k * O m
        · rw [cmpI_gt hmore] at hcmp
          have hmk' : m < k := by
            rcases hm0 with h1 | h1
            · exact h1
            · have : m = k := by omega
              subst this
              exact absurd hmore (Int.lt_irrefl _)
          have hA' := Lib.hid (ok_succ hA.out hok)
          have hB' := Lib.hid (best_turn hmk' hA.out hok hB.out hmore)
          clear hmore
          go_wp2
          refine wp_region_over (by kernel_rfl) (by kernel_rfl) ?_
          repeat (go_big_quiet_step ((first | (go_at_call 21; with_reducible exact (hcmp.out _).over))))
          refine wpQuiet_nil ?_
          intro w2 w2b
          obtain ⟨w2c, w2f, w2l⟩ := rules w2b (Nat.le_refl _); have w2y0 := w2l (b) (by first | (simp; done) | assumption | omega | (simp; omega)); have w2y1 := w2l (wr.heap.size) (by first | (simp; done) | assumption | omega | (simp; omega)); clear w2l
          go_wp2
          go_roundw
          case rel => exact ⟨k + 1, k, by omega, by go_num, rfl, by omega, .inl (by omega), hA', hB', hE.trans (Below.mono (B := wr.heap.size) (by repeat (first | with_reducible exact Below.refl _ _ | with_reducible assumption | with_reducible refine below_alloc ?_ _ | with_reducible refine below_draw ?_ | ((with_reducible apply bset); (focus (first | exact Nat.le_refl _ | (simp; done) | omega | (simp; omega)))) | ((with_reducible apply bcall); assumption; (focus (first | exact Nat.le_refl _ | (simp; done) | omega | (simp; omega)))))) hE.size)⟩
          case measure => simp [intOf]; omega
        · have hcv : decide (0 < cmpI (U k * O m) (U m * O k)) = false := by
            rcases Int.lt_or_eq_of_le (show U k * O m ≤ U m * O k by omega) with h | h
            · rw [cmpI_lt h]; rfl
            · rw [cmpI_eq h]; rfl
          have hA' := Lib.hid (ok_succ hA.out hok)
          have hB' := Lib.hid (best_keep hmk hB.out hmore)
          generalize cmpI (U k * O m) (U m * O k) = cv at *
          clear hmore
          go_wp2
          refine wp_region_over (by kernel_rfl) (by kernel_rfl) ?_
          repeat (go_big_quiet_step ((first | (go_at_call 21; with_reducible exact (hcmp.out _).over))))
          refine wpQuiet_nil ?_
          intro w2 w2b
          obtain ⟨w2c, w2f, w2l⟩ := rules w2b (Nat.le_refl _); have w2y0 := w2l (b) (by first | (simp; done) | assumption | omega | (simp; omega)); have w2y1 := w2l (wr.heap.size) (by first | (simp; done) | assumption | omega | (simp; omega)); clear w2l
          go_wp2
          go_roundw
          case rel => exact ⟨k + 1, m, by omega, by go_num, rfl, by omega, .inl (by omega), hA', hB', hE.trans (Below.mono (B := wr.heap.size) (by repeat (first | with_reducible exact Below.refl _ _ | with_reducible assumption | with_reducible refine below_alloc ?_ _ | with_reducible refine below_draw ?_ | ((with_reducible apply bset); (focus (first | exact Nat.le_refl _ | (simp; done) | omega | (simp; omega)))) | ((with_reducible apply bcall); assumption; (focus (first | exact Nat.le_refl _ | (simp; done) | omega | (simp; omega)))))) hE.size)⟩
          case measure => simp [intOf]; omega
      · have hcmp : Hid (∀ W : World, Calls Try.prog 21 #[.agg #[.int .i64 (U k), .int .i64 (O k)], .agg #[.int .i64 (U m), .int .i64 (O m)]] W fun r w' => r = .returned (.tuple #[.int .i64 0, .int .i64 13]) ∧ Below W.heap.size W w') := Lib.hid (fun W => Cmp_no (U k) (O k) (U m) (O m) W (fun q => hok q.1))
        have hno : ¬ OkS O n := fun q => hok (q k hlt)
        have hno' := Lib.hid hno
        clear hno
        go_wp2
        refine wp_region_over (by kernel_rfl) (by kernel_rfl) ?_
        repeat (go_big_quiet_step ((first | (go_at_call 21; with_reducible exact (hcmp.out _).over))))
        refine wpQuiet_nil ?_
        intro w2 w2b
        obtain ⟨w2c, w2f, w2l⟩ := rules w2b (Nat.le_refl _); have w2y0 := w2l (b) (by first | (simp; done) | assumption | omega | (simp; omega)); have w2y1 := w2l (wr.heap.size) (by first | (simp; done) | assumption | omega | (simp; omega)); clear w2l
        go_wp2
        go_ret2
        exact ⟨.inl ⟨rfl, hno'.out⟩, hE.trans (Below.mono (B := wr.heap.size) (by repeat (first | with_reducible exact Below.refl _ _ | with_reducible assumption | with_reducible refine below_alloc ?_ _ | with_reducible refine below_draw ?_ | ((with_reducible apply bset); (focus (first | exact Nat.le_refl _ | (simp; done) | omega | (simp; omega)))) | ((with_reducible apply bcall); assumption; (focus (first | exact Nat.le_refl _ | (simp; done) | omega | (simp; omega)))))) hE.size)⟩
    · have hkn : k = n := by omega
      subst hkn
      go_wp2
      go_ret2
      exact ⟨.inr ⟨hA.out, m, by omega, hB.out, rfl⟩, hE⟩

end Go.Proofs.Ytjhbomgfjffmdaa
