/- Layer 4: the example; PredGuesses, PredRests, PredCells. -/
import Derived.Test.YtcklknlbmbinoaaRef4b
set_option linter.unusedVariables false
set_option linter.unusedSimpArgs false
namespace Go.Proofs.Ytcklknlbmbinoaa
open Go.RowKit
theorem ints_lit (k : IntKind) (e : TypeId) (zs : List Int) (w : World) (hl : zs.length ≤ maxLen) : Ints k (w.alloc (.cells (zs.map (Value.int k)).toArray e)) (some ⟨w.heap.size, 0, none⟩) zs.length zs := by
  have h := World.ownsRow_lit (base := 0) (e := e) (size := 1) w (zs.map (Value.int k)).toArray zs.length (Nat.zero_le _) hl (by simp)
  exact own_ints h

theorem awake4_any (w : World) : Calls Try.prog 14 #[] w fun e w' => e = .returned (.bool true) ∧ Below w.heap.size w w' := by
  have hi : Ints .i64 (w.alloc (.cells #[.int .i64 5, .int .i64 7, .int .i64 6, .int .i64 0] 2)) (some ⟨w.heap.size, 0, none⟩) 4 [5, 7, 6, 0] := ints_lit .i64 2 [5, 7, 6, 0] w (by decide)
  have hcall := Guess_ok _ 2 [5, 7, 6, 0] _ 4 4 2 3 (by decide) (by decide) hi (by decide) (by decide) (Lib.hid (by unfold AllMay; decide))
  rw [show guessI 2 [5, 7, 6, 0] 2 ((3 : Nat) : Int) = 7 by decide +kernel, show ((3 : Nat) : Int) = 3 from rfl] at hcall
  have Hcall := Lib.hid hcall
  clear hcall hi
  go_enter Try.func14, Try.ntmps14
  go_wp2_with (go_at_call 15; with_reducible refine (Hcall.out).mono ?_; rintro e hw ⟨rfl, hb⟩)
  go_ret
  exact ⟨rfl, (by repeat (first | with_reducible exact Below.refl _ _ | with_reducible assumption | with_reducible refine below_alloc ?_ _ | with_reducible refine below_draw ?_ | ((with_reducible apply bset); (focus (first | exact Nat.le_refl _ | (simp; done) | omega | (simp; omega)))) | ((with_reducible apply bcall); assumption; (focus (first | exact Nat.le_refl _ | (simp; done) | omega | (simp; omega))))))⟩

set_option maxHeartbeats 2000000 in
theorem lawG_no (kind width i : Int) (zs : List Int) (A : Option Addr) (n cap : Nat) (w : World) (h : Ints .i64 w A n zs) (hn : n ≤ 600) (hcap : n ≤ cap) (hr : ¬ right4 kind width n) :
    Calls Try.prog 3 #[.int .i64 kind, .int .i64 width, .int .i64 i, .slice A n cap] w fun e w' => e = .returned (.bool true) ∧ Below w.heap.size w w' := by
  have hR := right4_no hr
  go_enter Try.func3, Try.ntmps3
  go_wp2_with fail
  with_reducible refine (awake4_any _).mono ?_
  rintro e W1 ⟨rfl, b1⟩
  have h1 := h.below (Nat.le_refl _) b1
  go_wp2_with fail
  with_reducible refine (Guess_no _ _ zs _ _ _ _ _ hr).mono ?_
  rintro e W2 ⟨rfl, b2⟩
  have h2 := h1.below (Nat.le_refl _) b2
  clear h h1
  go_wp2_with (first | (go_at_call 19; refine (right4_any _ _ _ _).mono ?_; rintro e w' ⟨rfl, rfl⟩) | (go_at_call 16; refine (refRight4_any _ _ _ _).mono ?_; rintro e w' ⟨rfl, rfl⟩) | fail)
  go_loop [12, 13] (fun y x => y = .int .i64 11 ∧ x = .int .i64 0) (fun _ _ => 0)
  case atStart => exact ⟨rfl, rfl⟩
  case round =>
    obtain ⟨rfl, rfl⟩ := hrel
    go_wp2_with (first | (go_at_call 19; refine (right4_any _ _ _ _).mono ?_; rintro e w' ⟨rfl, rfl⟩) | (go_at_call 16; refine (refRight4_any _ _ _ _).mono ?_; rintro e w' ⟨rfl, rfl⟩)  | fail)
    go_ret
    exact ⟨rfl, (by repeat (first | with_reducible exact Below.refl _ _ | with_reducible assumption | with_reducible refine below_alloc ?_ _ | with_reducible refine below_draw ?_ | ((with_reducible apply bset); (focus (first | exact Nat.le_refl _ | (simp; done) | omega | (simp; omega)))) | ((with_reducible apply bcall); assumption; (focus (first | exact Nat.le_refl _ | (simp; done) | omega | (simp; omega))))))⟩

set_option maxHeartbeats 2000000 in
theorem lawG_place1 (kind width i : Int) (zs : List Int) (A : Option Addr) (n cap : Nat) (w : World) (h : Ints .i64 w A n zs) (hn : n ≤ 600) (hcap : n ≤ cap) (hr : right4 kind width n) (hi : i < 0) :
    Calls Try.prog 3 #[.int .i64 kind, .int .i64 width, .int .i64 i, .slice A n cap] w fun e w' => e = .returned (.bool true) ∧ Below w.heap.size w w' := by
  have hR := right4_yes hr
  go_enter Try.func3, Try.ntmps3
  go_wp2_with fail
  with_reducible refine (awake4_any _).mono ?_
  rintro e W1 ⟨rfl, b1⟩
  have h1 := h.below (Nat.le_refl _) b1
  go_wp2_with fail
  with_reducible refine (Guess_place _ _ zs _ _ _ _ _ hr (.inl hi)).mono ?_
  rintro e W2 ⟨rfl, b2⟩
  have h2 := h1.below (Nat.le_refl _) b2
  clear h h1
  go_wp2_with (first | (go_at_call 19; refine (right4_any _ _ _ _).mono ?_; rintro e w' ⟨rfl, rfl⟩) | (go_at_call 16; refine (refRight4_any _ _ _ _).mono ?_; rintro e w' ⟨rfl, rfl⟩) | fail)
  go_loop [12, 13] (fun y x => y = .int .i64 4 ∧ x = .int .i64 0) (fun _ _ => 0)
  case atStart => exact ⟨rfl, rfl⟩
  case round =>
    obtain ⟨rfl, rfl⟩ := hrel
    go_wp2_with (first | (go_at_call 19; refine (right4_any _ _ _ _).mono ?_; rintro e w' ⟨rfl, rfl⟩) | (go_at_call 16; refine (refRight4_any _ _ _ _).mono ?_; rintro e w' ⟨rfl, rfl⟩)  | fail)
    go_ret
    exact ⟨rfl, (by repeat (first | with_reducible exact Below.refl _ _ | with_reducible assumption | with_reducible refine below_alloc ?_ _ | with_reducible refine below_draw ?_ | ((with_reducible apply bset); (focus (first | exact Nat.le_refl _ | (simp; done) | omega | (simp; omega)))) | ((with_reducible apply bcall); assumption; (focus (first | exact Nat.le_refl _ | (simp; done) | omega | (simp; omega))))))⟩

set_option maxHeartbeats 2000000 in
theorem lawG_place2 (kind width i : Int) (zs : List Int) (A : Option Addr) (n cap : Nat) (w : World) (h : Ints .i64 w A n zs) (hn : n ≤ 600) (hcap : n ≤ cap) (hr : right4 kind width n) (hi0 : 0 ≤ i) (hi : n ≤ i) :
    Calls Try.prog 3 #[.int .i64 kind, .int .i64 width, .int .i64 i, .slice A n cap] w fun e w' => e = .returned (.bool true) ∧ Below w.heap.size w w' := by
  have hR := right4_yes hr
  go_enter Try.func3, Try.ntmps3
  go_wp2_with fail
  with_reducible refine (awake4_any _).mono ?_
  rintro e W1 ⟨rfl, b1⟩
  have h1 := h.below (Nat.le_refl _) b1
  go_wp2_with fail
  with_reducible refine (Guess_place _ _ zs _ _ _ _ _ hr (.inr hi)).mono ?_
  rintro e W2 ⟨rfl, b2⟩
  have h2 := h1.below (Nat.le_refl _) b2
  clear h h1
  go_wp2_with (first | (go_at_call 19; refine (right4_any _ _ _ _).mono ?_; rintro e w' ⟨rfl, rfl⟩) | (go_at_call 16; refine (refRight4_any _ _ _ _).mono ?_; rintro e w' ⟨rfl, rfl⟩) | fail)
  go_loop [12, 13] (fun y x => y = .int .i64 4 ∧ x = .int .i64 0) (fun _ _ => 0)
  case atStart => exact ⟨rfl, rfl⟩
  case round =>
    obtain ⟨rfl, rfl⟩ := hrel
    go_wp2_with (first | (go_at_call 19; refine (right4_any _ _ _ _).mono ?_; rintro e w' ⟨rfl, rfl⟩) | (go_at_call 16; refine (refRight4_any _ _ _ _).mono ?_; rintro e w' ⟨rfl, rfl⟩)  | fail)
    go_ret
    exact ⟨rfl, (by repeat (first | with_reducible exact Below.refl _ _ | with_reducible assumption | with_reducible refine below_alloc ?_ _ | with_reducible refine below_draw ?_ | ((with_reducible apply bset); (focus (first | exact Nat.le_refl _ | (simp; done) | omega | (simp; omega)))) | ((with_reducible apply bcall); assumption; (focus (first | exact Nat.le_refl _ | (simp; done) | omega | (simp; omega))))))⟩

set_option maxHeartbeats 2000000 in
theorem lawG_ok (kind width : Int) (zs : List Int) (A : Option Addr) (n cap m : Nat) (w : World) (h : Ints .i64 w A n zs) (hn : n ≤ 600) (hcap : n ≤ cap) (hr : right4 kind width n) (him : m < n) (hm : Hid (AllMay zs m)) :
    Calls Try.prog 3 #[.int .i64 kind, .int .i64 width, .int .i64 m, .slice A n cap] w fun e w' => e = .returned (.bool true) ∧ Below w.heap.size w w' := by
  have hR := right4_yes hr
  have hw := hr.2.2.1
  have hz0 : decide ((m : Int) < 0) = false := by simp
  have hz1 : decide (n ≤ m) = false := by simp; omega
  have hr := Lib.hid hr
  go_enter Try.func3, Try.ntmps3
  go_wp2_with fail
  with_reducible refine (awake4_any _).mono ?_
  rintro e W1 ⟨rfl, b1⟩
  have h1 := h.below (Nat.le_refl _) b1
  go_wp2_with fail
  with_reducible refine (Guess_ok _ _ zs _ _ _ _ _ hr.out him h1 (by omega) hcap hm).mono ?_
  rintro e W2 ⟨rfl, b2⟩
  have h2 := h1.below (Nat.le_refl _) b2
  clear h h1
  go_wp2_with (first | (go_at_call 19; refine (right4_any _ _ _ _).mono ?_; rintro e w' ⟨rfl, rfl⟩) | (go_at_call 16; refine (refRight4_any _ _ _ _).mono ?_; rintro e w' ⟨rfl, rfl⟩) | fail)
  go_loop [12, 13] (fun y x => ∃ k : Nat, k ≤ m ∧ x = .int .i64 k ∧ y = .int .i64 0 ∧ Hid (AllMay zs k)) (fun _ x => m - (intOf x).toNat)
  case atStart => exact ⟨0, Nat.zero_le _, rfl, rfl, fun j hj => by omega⟩
  case round =>
    obtain ⟨k, hk, rfl, rfl, hall⟩ := hrel
    by_cases hlt : k < m
    · obtain ⟨b, off, rfl, hb, hc⟩ := h2.at_ (show k < n by omega)
      by_cases hv : mayB (nth zs k) = true
      · go_wp2_with (first | (go_at_call 17; refine (refMay_any _ _).mono ?_; rintro e w' ⟨rfl, rfl⟩) | fail)
        go_round
        case rel => exact ⟨k + 1, by omega, by go_num, rfl, gstep hall.out hv⟩
        case measure => simp [intOf]; omega
      · exact absurd (hm.out k hlt) hv
    have hkm : k = m := by omega
    subst hkm
    go_wp2_with (first | (go_at_call 19; refine (right4_any _ _ _ _).mono ?_; rintro e w' ⟨rfl, rfl⟩) | (go_at_call 16; refine (refRight4_any _ _ _ _).mono ?_; rintro e w' ⟨rfl, rfl⟩) | (go_at_call 18; with_reducible refine (refGuess_any _ kind zs _ n cap k width k h2 hall.out (by omega) hw (by omega) (by omega) (by omega)).mono ?_; rintro e gw ⟨rfl, gb⟩) | fail)
    go_ret
    exact ⟨rfl, (by repeat (first | with_reducible exact Below.refl _ _ | with_reducible assumption | with_reducible refine below_alloc ?_ _ | with_reducible refine below_draw ?_ | ((with_reducible apply bset); (focus (first | exact Nat.le_refl _ | (simp; done) | omega | (simp; omega)))) | ((with_reducible apply bcall); assumption; (focus (first | exact Nat.le_refl _ | (simp; done) | omega | (simp; omega))))))⟩

set_option maxHeartbeats 2000000 in
theorem lawG_val (kind width : Int) (zs : List Int) (A : Option Addr) (n cap m : Nat) (w : World) (h : Ints .i64 w A n zs) (hn : n ≤ 600) (hcap : n ≤ cap) (hr : right4 kind width n) (him : m < n) (hm : Hid (¬ AllMay zs m)) :
    Calls Try.prog 3 #[.int .i64 kind, .int .i64 width, .int .i64 m, .slice A n cap] w fun e w' => e = .returned (.bool true) ∧ Below w.heap.size w w' := by
  have hR := right4_yes hr
  have hw := hr.2.2.1
  have hz0 : decide ((m : Int) < 0) = false := by simp
  have hz1 : decide (n ≤ m) = false := by simp; omega
  have hr := Lib.hid hr
  go_enter Try.func3, Try.ntmps3
  go_wp2_with fail
  with_reducible refine (awake4_any _).mono ?_
  rintro e W1 ⟨rfl, b1⟩
  have h1 := h.below (Nat.le_refl _) b1
  go_wp2_with fail
  with_reducible refine (Guess_val _ _ zs _ _ _ _ _ hr.out him h1 (by omega) hcap hm).mono ?_
  rintro e W2 ⟨rfl, b2⟩
  have h2 := h1.below (Nat.le_refl _) b2
  clear h h1
  go_wp2_with (first | (go_at_call 19; refine (right4_any _ _ _ _).mono ?_; rintro e w' ⟨rfl, rfl⟩) | (go_at_call 16; refine (refRight4_any _ _ _ _).mono ?_; rintro e w' ⟨rfl, rfl⟩) | fail)
  go_loop [12, 13] (fun y x => ∃ k : Nat, k ≤ m ∧ x = .int .i64 k ∧ (y = .int .i64 0 ∧ Hid (AllMay zs k) ∨ y = .int .i64 7)) (fun _ x => m - (intOf x).toNat)
  case atStart => exact ⟨0, Nat.zero_le _, rfl, .inl ⟨rfl, fun j hj => by omega⟩⟩
  case round =>
    obtain ⟨k, hk, rfl, hrel⟩ := hrel
    rcases hrel with ⟨rfl, hall⟩ | rfl
    · by_cases hlt : k < m
      · obtain ⟨b, off, rfl, hb, hc⟩ := h2.at_ (show k < n by omega)
        by_cases hv : mayB (nth zs k) = true
        · go_wp2_with (first | (go_at_call 17; refine (refMay_any _ _).mono ?_; rintro e w' ⟨rfl, rfl⟩) | fail)
          go_round
          case rel => exact ⟨k + 1, by omega, by go_num, .inl ⟨rfl, gstep hall.out hv⟩⟩
          case measure => simp [intOf]; omega
        · have hv' : mayB (nth zs k) = false := by simpa using hv
          clear hv
          go_wp2_with (first | (go_at_call 17; refine (refMay_any _ _).mono ?_; rintro e w' ⟨rfl, rfl⟩) | fail)
          go_round
          case rel => exact ⟨k + 1, by omega, by go_num, .inr rfl⟩
          case measure => simp [intOf]; omega
      · have hkm : k = m := by omega
        subst hkm
        exact absurd hall.out hm.out
    clear hk
    go_wp2_with (first | (go_at_call 19; refine (right4_any _ _ _ _).mono ?_; rintro e w' ⟨rfl, rfl⟩) | (go_at_call 16; refine (refRight4_any _ _ _ _).mono ?_; rintro e w' ⟨rfl, rfl⟩)  | fail)
    go_ret
    exact ⟨rfl, (by repeat (first | with_reducible exact Below.refl _ _ | with_reducible assumption | with_reducible refine below_alloc ?_ _ | with_reducible refine below_draw ?_ | ((with_reducible apply bset); (focus (first | exact Nat.le_refl _ | (simp; done) | omega | (simp; omega)))) | ((with_reducible apply bcall); assumption; (focus (first | exact Nat.le_refl _ | (simp; done) | omega | (simp; omega))))))⟩

theorem big4 (kind width i : Int) (A : Option Addr) (n cap : Nat) (w : World) (hn : 600 < n) (hm : n ≤ maxLen) :
    Calls Try.prog 3 #[.int .i64 kind, .int .i64 width, .int .i64 i, .slice A n cap] w fun e w' => e = .returned (.bool true) ∧ Below w.heap.size w w' := by
  unfold maxLen at hm
  go_enter Try.func3, Try.ntmps3
  go_wp2_with (go_at_call 14; with_reducible refine (awake4_any _).mono ?_; rintro e aw ⟨rfl, ab⟩)
  go_ret
  exact ⟨rfl, (by repeat (first | with_reducible exact Below.refl _ _ | with_reducible assumption | with_reducible refine below_alloc ?_ _ | with_reducible refine below_draw ?_ | ((with_reducible apply bset); (focus (first | exact Nat.le_refl _ | (simp; done) | omega | (simp; omega)))) | ((with_reducible apply bcall); assumption; (focus (first | exact Nat.le_refl _ | (simp; done) | omega | (simp; omega))))))⟩
theorem predGuesses_walk (kind width i : Int) (zs : List Int) (A : Option Addr) (n cap : Nat) (w : World) (_b0 : (-9223372036854775808 ≤ kind ∧ kind ≤ 9223372036854775807)) (_b1 : (-9223372036854775808 ≤ width ∧ width ≤ 9223372036854775807)) (_b2 : (-9223372036854775808 ≤ i ∧ i ≤ 9223372036854775807)) (h : Ints .i64 w A n zs) (hcap : n ≤ cap) (hmax : cap ≤ maxLen) (_hz : ∀ z ∈ zs, (-9223372036854775808 ≤ z ∧ z ≤ 9223372036854775807)) :
    Calls Try.prog 3 #[.int .i64 kind, .int .i64 width, .int .i64 i, .slice A n cap] w fun e w' => e = .returned (.bool true) ∧ Below w.heap.size w w' := by
  by_cases hn : n ≤ 600
  · by_cases hr : right4 kind width n
    · by_cases h0 : i < 0
      · exact lawG_place1 _ _ _ zs _ _ _ w h hn hcap hr h0
      · by_cases h1 : (n : Int) ≤ i
        · exact lawG_place2 _ _ _ zs _ _ _ w h hn hcap hr (by omega) h1
        · obtain ⟨m, rfl⟩ := Int.eq_ofNat_of_zero_le (show 0 ≤ i by omega)
          by_cases hm : AllMay zs m
          · exact lawG_ok _ _ zs _ _ _ m w h hn hcap hr (by omega) hm
          · exact lawG_val _ _ zs _ _ _ m w h hn hcap hr (by omega) hm
    · exact lawG_no _ _ _ zs _ _ _ w h hn hcap hr
  · exact big4 _ _ _ _ _ _ w (by omega) (Nat.le_trans hcap hmax)

end Go.Proofs.Ytcklknlbmbinoaa
