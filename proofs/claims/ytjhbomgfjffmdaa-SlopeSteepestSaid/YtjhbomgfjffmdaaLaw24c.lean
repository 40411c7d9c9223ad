/- Layer 24: SlopeSteepest. -/
import Derived.Test.YtjhbomgfjffmdaaSlope4
set_option linter.unusedVariables false
set_option linter.unusedSimpArgs false
namespace Go.Proofs.Ytjhbomgfjffmdaa
open Go.RowKit

theorem Steepest_nil (A : Option Addr) (cap : Nat) (w : World) :
    Calls Try.prog 27 #[.slice A 0 cap] w fun r w' => r = .returned (.tuple #[.int .i64 0, .int .i64 15]) ∧ w = w' := by
  go_enter Try.func27, Try.ntmps27
  go_wp2
  go_ret2
  exact ⟨rfl, rfl⟩

set_option maxRecDepth 100000 in
set_option maxHeartbeats 2000000 in
theorem steep_long (U O : Nat → Int) (A : Option Addr) (n cap : Nat) (w : World) (hn : 100 < n) (hm : n ≤ maxLen) :
    Calls Try.prog 8 #[.slice A n cap] w fun r w' => r = .returned (.bool true) ∧ Below w.heap.size w w' := by
  have hm' : (n : Int) ≤ maxLen := by omega
  go_enter Try.func8, Try.ntmps8
  go_wp2_with (go_at_call 20; with_reducible refine (awake24_any _).mono ?_; rintro e W1 ⟨rfl, u1b⟩)
  go_ret
  exact ⟨rfl, (by repeat (first | with_reducible exact Below.refl _ _ | with_reducible assumption | with_reducible refine below_alloc ?_ _ | with_reducible refine below_draw ?_ | ((with_reducible apply bset); (focus (first | exact Nat.le_refl _ | (simp; done) | omega | (simp; omega)))) | ((with_reducible apply bcall); assumption; (focus (first | exact Nat.le_refl _ | (simp; done) | omega | (simp; omega))))))⟩

set_option maxRecDepth 100000 in
set_option maxHeartbeats 2000000 in
theorem steep_nil (U O : Nat → Int) (A : Option Addr) (n cap : Nat) (w : World) (hn : n = 0) :
    Calls Try.prog 8 #[.slice A n cap] w fun r w' => r = .returned (.bool true) ∧ Below w.heap.size w w' := by
  subst hn
  go_enter Try.func8, Try.ntmps8
  go_wp2_with (first | (go_at_call 20; with_reducible refine (awake24_any _).mono ?_; rintro e W1 ⟨rfl, u1b⟩) | (go_at_call 27; with_reducible refine (Steepest_nil _ _ _).mono ?_; rintro e w' ⟨rfl, rfl⟩))
  go_ret
  exact ⟨rfl, (by repeat (first | with_reducible exact Below.refl _ _ | with_reducible assumption | with_reducible refine below_alloc ?_ _ | with_reducible refine below_draw ?_ | ((with_reducible apply bset); (focus (first | exact Nat.le_refl _ | (simp; done) | omega | (simp; omega)))) | ((with_reducible apply bcall); assumption; (focus (first | exact Nat.le_refl _ | (simp; done) | omega | (simp; omega))))))⟩

set_option maxRecDepth 100000 in
set_option maxHeartbeats 2000000 in
theorem steep_bad (U O : Nat → Int) (A : Option Addr) (n cap : Nat) (w : World) (h : Pairs .i64 w A n U O) (hU : ∀ j, j < n → -9223372036854775808 ≤ U j ∧ U j ≤ 9223372036854775807) (hO : ∀ j, j < n → -9223372036854775808 ≤ O j ∧ O j ≤ 9223372036854775807) (hn : n ≤ 100) (hn0 : 0 < n) (hbad : Hid (¬ OkS O n)) :
    Calls Try.prog 8 #[.slice A n cap] w fun r w' => r = .returned (.bool true) ∧ Below w.heap.size w w' := by
  have hs : Hid (∀ W : World, Below w.heap.size w W → Calls Try.prog 27 #[.slice A n cap] W fun r w' => r = .returned (.tuple #[.int .i64 0, .int .i64 13]) ∧ Below W.heap.size W w') := Lib.hid (fun W hW => (Steepest_any U O A n cap W (h.below (Nat.le_refl _) hW) hU hO hn hn0).mono (fun e W' ⟨hr, hb⟩ => by
    rcases hr with ⟨hr, _⟩ | ⟨hr, _⟩
    · exact ⟨hr, hb⟩
    · exact absurd hr hbad.out))
  go_enter Try.func8, Try.ntmps8
  go_wp2_with (first | (go_at_call 20; with_reducible refine (awake24_any _).mono ?_; rintro e W1 ⟨rfl, u1b⟩) | (go_at_call 27; with_reducible refine (hs.out _ u1b).mono ?_; rintro e W2 ⟨rfl, u2b⟩))
  have hE2 : Below w.heap.size w W2 := u1b.trans (u2b.mono u1b.size)
  go_loopw [5] (fun q wr => ∃ k : Nat, k ≤ n ∧ q = .int .i64 k ∧ Hid (OkS O k) ∧ Below w.heap.size w wr) (fun q _ => n - (intOf q).toNat)
  case atStart => exact ⟨0, Nat.zero_le _, rfl, Lib.hid (fun j h => absurd h (Nat.not_lt_zero _)), hE2⟩
  case round =>
    obtain ⟨k, hk, rfl, hA, hE⟩ := hrel
    by_cases hlt : k < n
    · have h' := h.below (Nat.le_refl _) hE
      obtain ⟨b, off, rfl, hb, hc⟩ := h' hn0
      obtain ⟨ck0, ck1⟩ := hc k hlt
      clear hc
      by_cases hok : 1 ≤ O k
      · have hA' := Lib.hid (ok_succ hA.out hok)
        go_wp2
        go_roundw
        case rel => exact ⟨k + 1, by omega, by go_num, hA', hE⟩
        case measure => simp [intOf]; omega
      · have hok' : O k < 1 := by omega
        clear hok
        go_wp2
        go_ret
        exact ⟨rfl, hE⟩
    · have hkn : k = n := by omega
      subst hkn
      exact absurd hA.out hbad.out

set_option maxRecDepth 100000 in
set_option maxHeartbeats 2000000 in
theorem steep_ok (U O : Nat → Int) (A : Option Addr) (n cap : Nat) (w : World) (h : Pairs .i64 w A n U O) (hU : ∀ j, j < n → -9223372036854775808 ≤ U j ∧ U j ≤ 9223372036854775807) (hO : ∀ j, j < n → -9223372036854775808 ≤ O j ∧ O j ≤ 9223372036854775807) (hn : n ≤ 100) (hn0 : 0 < n) (hok : OkS O n) :
    Calls Try.prog 8 #[.slice A n cap] w fun r w' => r = .returned (.bool true) ∧ Below w.heap.size w w' := by
  have hs : Hid (∀ W : World, Below w.heap.size w W → Calls Try.prog 27 #[.slice A n cap] W fun r w' => (∃ m : Nat, m < n ∧ Hid (BestS U O m n) ∧ r = .returned (.tuple #[.int .i64 (m : Int), .int .i64 0])) ∧ Below W.heap.size W w') := Lib.hid (fun W hW => (Steepest_any U O A n cap W (h.below (Nat.le_refl _) hW) hU hO hn hn0).mono (fun e W' ⟨hr, hb⟩ => by
    rcases hr with ⟨_, hr⟩ | ⟨_, m, h1, h2, h3⟩
    · exact absurd hok hr
    · exact ⟨⟨m, h1, Lib.hid h2, h3⟩, hb⟩))
  go_enter Try.func8, Try.ntmps8
  go_wp2_with (first | (go_at_call 20; with_reducible refine (awake24_any _).mono ?_; rintro e W1 ⟨rfl, u1b⟩) | (go_at_call 27; with_reducible refine (hs.out _ u1b).mono ?_; rintro e W2 ⟨⟨m, hm, hB, rfl⟩, u2b⟩))
  have hE2 : Below w.heap.size w W2 := u1b.trans (u2b.mono u1b.size)
  go_loopw [5] (fun q wr => ∃ k : Nat, k ≤ n ∧ q = .int .i64 k ∧ Below w.heap.size w wr) (fun q _ => n - (intOf q).toNat)
  case atStart => exact ⟨0, Nat.zero_le _, rfl, hE2⟩
  case round =>
    obtain ⟨k, hk, rfl, hE⟩ := hrel
    by_cases hlt : k < n
    · have h' := h.below (Nat.le_refl _) hE
      obtain ⟨b, off, rfl, hb, hc⟩ := h' hn0
      obtain ⟨ck0, ck1⟩ := hc k hlt
      clear hc
      have hk1 := hok k hlt
      go_wp2
      go_roundw
      case rel => exact ⟨k + 1, by omega, by go_num, hE⟩
      case measure => simp [intOf]; omega
    · have hkn : k = n := by omega
      subst hkn
      go_wp2
      go_loopw [6] (fun q wr => ∃ j : Nat, j ≤ k ∧ q = .int .i64 j ∧ Below w.heap.size w wr) (fun q _ => k - (intOf q).toNat)
      case atStart => exact ⟨0, Nat.zero_le _, rfl, hE⟩
      case round =>
        rename_i wr0
        clear hE
        obtain ⟨j, hj, rfl, hE⟩ := hrel
        by_cases hlt2 : j < k
        · have h' := h.below (Nat.le_refl _) hE
          obtain ⟨b, off, rfl, hb, hc⟩ := h' hn0
          obtain ⟨cj0, cj1⟩ := hc j hlt2
          obtain ⟨cm0, cm1⟩ := hc m hm
          clear hc
          have hx : Hid (∀ W : World, Calls Try.prog 25 #[.int .i64 (U m), .int .i64 (O m), .int .i64 (U j), .int .i64 (O j)] W fun r w' => r = .returned (.int .i64 (cmpI (U m * O j) (U j * O m))) ∧ W = w') := Lib.hid (fun W => R24Cmp_any (U m) (O m) (U j) (O j) W (hU m hm).1 (hU m hm).2 (hok m hm) (hO m hm).2 (hU j hlt2).1 (hU j hlt2).2 (hok j hlt2) (hO j hlt2).2)
          obtain ⟨hb1, hb2⟩ := hB.out j hlt2
          have c0 : decide (cmpI (U m * O j) (U j * O m) < 0) = false := by
            rcases Int.lt_or_eq_of_le hb1 with h | h
            · rw [cmpI_gt h]; rfl
            · rw [cmpI_eq h.symm]; rfl
          have c1 : j < m → (cmpI (U m * O j) (U j * O m) == 0) = false := fun hjm => by
            rw [cmpI_gt (hb2 hjm)]; rfl
          clear hb1 hb2
          generalize cmpI (U m * O j) (U j * O m) = cv at *
          by_cases hjm : j < m
          · have c2 := c1 hjm
            clear c1
            go_wp2
            refine wp_region_over (by kernel_rfl) (by kernel_rfl) ?_
            repeat (go_big_quiet_step ((first | (go_at_call 25; with_reducible exact (hx.out _).over_same))))
            refine wpQuiet_nil ?_
            intro w2 w2b
            obtain ⟨w2c, w2f, w2l⟩ := rules w2b (Nat.le_refl _); have w2y0 := w2l (b) (by first | (simp; done) | assumption | omega | (simp; omega)); clear w2l
            go_wp2
            go_roundw
            case rel => exact ⟨j + 1, by omega, by go_num, hE.trans (w2b.mono hE.size)⟩
            case measure => simp [intOf]; omega
          · clear c1
            go_wp2
            refine wp_region_over (by kernel_rfl) (by kernel_rfl) ?_
            repeat (go_big_quiet_step ((first | (go_at_call 25; with_reducible exact (hx.out _).over_same))))
            refine wpQuiet_nil ?_
            intro w2 w2b
            obtain ⟨w2c, w2f, w2l⟩ := rules w2b (Nat.le_refl _); have w2y0 := w2l (b) (by first | (simp; done) | assumption | omega | (simp; omega)); clear w2l
            go_wp2
            go_roundw
            case rel => exact ⟨j + 1, by omega, by go_num, hE.trans (w2b.mono hE.size)⟩
            case measure => simp [intOf]; omega
        · have hjk : j = k := by omega
          subst hjk
          go_wp2
          go_ret
          exact ⟨rfl, hE⟩

theorem slopeSteepest_walk (U O : Nat → Int) (A : Option Addr) (n cap : Nat) (w : World) (h : Pairs .i64 w A n U O) (hl : n ≤ cap) (hm : cap ≤ maxLen) (hU : ∀ j, j < n → -9223372036854775808 ≤ U j ∧ U j ≤ 9223372036854775807) (hO : ∀ j, j < n → -9223372036854775808 ≤ O j ∧ O j ≤ 9223372036854775807) :
    Calls Try.prog 8 #[.slice A n cap] w fun r w' => r = .returned (.bool true) ∧ Below w.heap.size w w' := by
  by_cases hn : n ≤ 100
  · by_cases h0 : n = 0
    · exact steep_nil U O A n cap w h0
    · by_cases hok : OkS O n
      · exact steep_ok U O A n cap w h hU hO hn (by omega) hok
      · exact steep_bad U O A n cap w h hU hO hn (by omega) (Lib.hid hok)
  · exact steep_long U O A n cap w (by omega) (by omega)

end Go.Proofs.Ytjhbomgfjffmdaa
