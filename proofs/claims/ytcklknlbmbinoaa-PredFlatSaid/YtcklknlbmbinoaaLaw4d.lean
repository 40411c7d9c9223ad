/- Layer 4: PredRests, PredCells. -/
import Derived.Test.YtcklknlbmbinoaaLaw4a
set_option linter.unusedVariables false
set_option linter.unusedSimpArgs false
namespace Go.Proofs.Ytcklknlbmbinoaa
open Go.RowKit
theorem rest_far {kind width : Int} {zs : List Int} {n k : Nat} (hw : 1 ≤ width) (hm : AllMay zs n) (hk : k < n) : -4294967295 ≤ nth (restsL kind zs width n) k ∧ nth (restsL kind zs width n) k ≤ 4294967295 := by
  have hg := guess_bd hm (kind := kind) (width := width) (i := (k : Int)) hw (by omega) (by omega)
  have hv := (mayB_iff _).1 (hm k hk)
  rw [restsL_get hk]
  omega

set_option maxHeartbeats 2000000 in
theorem big4r (kind width : Int) (zs : List Int) (A : Option Addr) (n cap : Nat) (w : World) (hn : 600 < n) (hm : n ≤ maxLen) :
    Calls Try.prog 12 #[.int .i64 kind, .int .i64 width, .slice A n cap] w fun e w' => e = .returned (.bool true) ∧ Below w.heap.size w w' := by
  unfold maxLen at hm
  go_enter Try.func12, Try.ntmps12
  go_wp2_with (go_at_call 14; with_reducible refine (awake4_any _).mono ?_; rintro e aw ⟨rfl, ab⟩)
  go_ret
  exact ⟨rfl, (by repeat (first | with_reducible exact Below.refl _ _ | with_reducible assumption | with_reducible refine below_alloc ?_ _ | with_reducible refine below_draw ?_ | ((with_reducible apply bset); (focus (first | exact Nat.le_refl _ | (simp; done) | omega | (simp; omega)))) | ((with_reducible apply bcall); assumption; (focus (first | exact Nat.le_refl _ | (simp; done) | omega | (simp; omega))))))⟩

set_option maxHeartbeats 2000000 in
theorem rests4_no (kind width : Int) (zs : List Int) (A : Option Addr) (n cap : Nat) (w : World) (h : Ints .i64 w A n zs) (hn : n ≤ 600) (hcap : n ≤ cap) (hr : ¬ right4 kind width n) :
    Calls Try.prog 12 #[.int .i64 kind, .int .i64 width, .slice A n cap] w fun e w' => e = .returned (.bool true) ∧ Below w.heap.size w w' := by
  go_enter Try.func12, Try.ntmps12
  go_wp2_with fail
  with_reducible refine (awake4_any _).mono ?_
  rintro e W1 ⟨rfl, b1⟩
  have h1 := h.below (Nat.le_refl _) b1
  go_wp2_with fail
  with_reducible refine (Rests_no _ _ zs _ _ _ _ hr).mono ?_
  rintro e W2 ⟨rfl, b2⟩
  have h2 := h1.below (Nat.le_refl _) b2
  go_wp2_with fail
  with_reducible refine (refRests_no _ _ zs _ _ _ _ hr).mono ?_
  rintro e W3 ⟨rfl, b3⟩
  go_wp2_with (go_at_call 47; with_reducible refine (refSame_yes _ _ _ _ _ _ _ (Ints.nil_ _ _) (Ints.nil_ _ _) (by omega)).mono ?_; rintro e sw ⟨rfl, sb⟩)
  go_ret
  exact ⟨rfl, (by repeat (first | with_reducible exact Below.refl _ _ | with_reducible assumption | with_reducible refine below_alloc ?_ _ | with_reducible refine below_draw ?_ | ((with_reducible apply bset); (focus (first | exact Nat.le_refl _ | (simp; done) | omega | (simp; omega)))) | ((with_reducible apply bcall); assumption; (focus (first | exact Nat.le_refl _ | (simp; done) | omega | (simp; omega))))))⟩

set_option maxHeartbeats 2000000 in
theorem rests4_val (kind width : Int) (zs : List Int) (A : Option Addr) (n cap : Nat) (w : World) (h : Ints .i64 w A n zs) (hn : n ≤ 600) (hcap : n ≤ cap) (hr : right4 kind width n) (hm : Hid (¬ AllMay zs n)) :
    Calls Try.prog 12 #[.int .i64 kind, .int .i64 width, .slice A n cap] w fun e w' => e = .returned (.bool true) ∧ Below w.heap.size w w' := by
  go_enter Try.func12, Try.ntmps12
  go_wp2_with fail
  with_reducible refine (awake4_any _).mono ?_
  rintro e W1 ⟨rfl, b1⟩
  have h1 := h.below (Nat.le_refl _) b1
  go_wp2_with fail
  with_reducible refine (Rests_val _ zs _ _ _ _ _ hr h1 (by omega) hcap hm).mono ?_
  rintro e W2 ⟨rfl, b2⟩
  have h2 := h1.below (Nat.le_refl _) b2
  go_wp2_with fail
  with_reducible refine (refRests_val _ _ zs _ _ _ _ hr h2 (by omega) hm).mono ?_
  rintro e W3 ⟨rfl, b3⟩
  go_wp2_with (go_at_call 47; with_reducible refine (refSame_yes _ _ _ _ _ _ _ (Ints.nil_ _ _) (Ints.nil_ _ _) (by omega)).mono ?_; rintro e sw ⟨rfl, sb⟩)
  go_ret
  exact ⟨rfl, (by repeat (first | with_reducible exact Below.refl _ _ | with_reducible assumption | with_reducible refine below_alloc ?_ _ | with_reducible refine below_draw ?_ | ((with_reducible apply bset); (focus (first | exact Nat.le_refl _ | (simp; done) | omega | (simp; omega)))) | ((with_reducible apply bcall); assumption; (focus (first | exact Nat.le_refl _ | (simp; done) | omega | (simp; omega))))))⟩

set_option maxHeartbeats 2000000 in
theorem rests4_ok (kind width : Int) (zs : List Int) (A : Option Addr) (n cap : Nat) (w : World) (h : Ints .i64 w A n zs) (hn : n ≤ 600) (hcap : n ≤ cap) (hr : right4 kind width n) (hm : Hid (AllMay zs n)) :
    Calls Try.prog 12 #[.int .i64 kind, .int .i64 width, .slice A n cap] w fun e w' => e = .returned (.bool true) ∧ Below w.heap.size w w' := by
  have hw := hr.2.2.1
  go_enter Try.func12, Try.ntmps12
  go_wp2_with fail
  with_reducible refine (awake4_any _).mono ?_
  rintro e W1 ⟨rfl, b1⟩
  have h1 := h.below (Nat.le_refl _) b1
  go_wp2_with fail
  with_reducible refine (Rests_ok _ zs _ _ _ _ _ hr h1 (by omega) hcap hm).mono ?_
  rintro e W2 ⟨v1, rfl, o1, b2⟩
  obtain ⟨A1, c1, rfl, c1l, c1m⟩ := own_form o1
  have i1 := own_ints o1
  have h2 := h1.below (Nat.le_refl _) b2
  go_wp2_with fail
  with_reducible refine (refRests_ok _ zs _ _ _ _ _ hr h2 (by omega) hm).mono ?_
  rintro e W3 ⟨v2, rfl, o2, b3⟩
  obtain ⟨A2, c2, rfl, _, _⟩ := own_form o2
  have i2 := own_ints o2
  have h3 := h2.below (Nat.le_refl _) b3
  have i1 := i1.below (Nat.le_refl _) b3
  go_wp2_with fail
  with_reducible refine (refSame_yes _ _ _ _ _ _ _ i1 i2 (by omega)).mono ?_
  rintro e W4 ⟨rfl, b4⟩
  have h4 := h3.below (Nat.le_refl _) b4
  have i1 := i1.below (Nat.le_refl _) b4
  clear i2 o1 o2 h h1 h2 h3
  go_wp2
  go_loop [11] (fun x => ∃ k : Nat, k ≤ n ∧ x = .int .i64 k) (fun x => n - (intOf x).toNat)
  case atStart => exact ⟨0, Nat.zero_le _, rfl⟩
  case round =>
    obtain ⟨k, hk, rfl⟩ := hrel
    by_cases hlt : k < n
    · obtain ⟨b, off, rfl, hb, hc⟩ := i1.at_ hlt
      obtain ⟨_, _⟩ := rest_far (kind := kind) hw hm.out hlt
      go_wp2
      go_round
      case rel => exact ⟨k + 1, by omega, by go_num⟩
      case measure => simp [intOf]; omega
    · have hkn : k = n := by omega
      subst hkn
      have hback := Lib.hid (cells_of_rests (kind := kind) hw h4.len hm.out k (Nat.le_refl _))
      have htk : zs.take k = zs := List.take_of_length_le (by rw [h4.len]; exact Nat.le_refl _)
      rw [htk] at hback
      clear htk
      go_wp2_with fail
      with_reducible refine (Cells_ok _ _ _ _ _ _ zs _ hr i1 (by omega) c1l hback).mono ?_
      rintro e W5 ⟨v3, rfl, o3, b5⟩
      obtain ⟨A3, c3, rfl, _, _⟩ := own_form o3
      have i3 := own_ints o3
      have h5 := h4.below (Nat.le_refl _) b5
      clear o3 hback
      go_wp2_with (go_at_call 47; with_reducible refine (refSame_yes _ _ _ _ _ _ _ i3 h5 (by omega)).mono ?_; rintro e sw ⟨rfl, sb⟩)
      go_ret
      exact ⟨rfl, (by repeat (first | with_reducible exact Below.refl _ _ | with_reducible assumption | with_reducible refine below_alloc ?_ _ | with_reducible refine below_draw ?_ | ((with_reducible apply bset); (focus (first | exact Nat.le_refl _ | (simp; done) | omega | (simp; omega)))) | ((with_reducible apply bcall); assumption; (focus (first | exact Nat.le_refl _ | (simp; done) | omega | (simp; omega))))))⟩

theorem predRests_walk (kind width : Int) (zs : List Int) (A : Option Addr) (n cap : Nat) (w : World) (_b0 : (-9223372036854775808 ≤ kind ∧ kind ≤ 9223372036854775807)) (_b1 : (-9223372036854775808 ≤ width ∧ width ≤ 9223372036854775807)) (h : Ints .i64 w A n zs) (hcap : n ≤ cap) (hmax : cap ≤ maxLen) (_hz : ∀ z ∈ zs, (-9223372036854775808 ≤ z ∧ z ≤ 9223372036854775807)) :
    Calls Try.prog 12 #[.int .i64 kind, .int .i64 width, .slice A n cap] w fun e w' => e = .returned (.bool true) ∧ Below w.heap.size w w' := by
  by_cases hn : n ≤ 600
  · by_cases hr : right4 kind width n
    · by_cases hm : AllMay zs n
      · exact rests4_ok _ _ zs _ _ _ w h hn hcap hr hm
      · exact rests4_val _ _ zs _ _ _ w h hn hcap hr hm
    · exact rests4_no _ _ zs _ _ _ w h hn hcap hr
  · exact big4r _ _ zs _ _ _ w (by omega) (Nat.le_trans hcap hmax)

set_option maxHeartbeats 2000000 in
theorem big4c (kind width : Int) (zs : List Int) (A : Option Addr) (n cap : Nat) (w : World) (hn : 600 < n) (hm : n ≤ maxLen) :
    Calls Try.prog 13 #[.int .i64 kind, .int .i64 width, .slice A n cap] w fun e w' => e = .returned (.bool true) ∧ Below w.heap.size w w' := by
  unfold maxLen at hm
  go_enter Try.func13, Try.ntmps13
  go_wp2_with (go_at_call 14; with_reducible refine (awake4_any _).mono ?_; rintro e aw ⟨rfl, ab⟩)
  go_ret
  exact ⟨rfl, (by repeat (first | with_reducible exact Below.refl _ _ | with_reducible assumption | with_reducible refine below_alloc ?_ _ | with_reducible refine below_draw ?_ | ((with_reducible apply bset); (focus (first | exact Nat.le_refl _ | (simp; done) | omega | (simp; omega)))) | ((with_reducible apply bcall); assumption; (focus (first | exact Nat.le_refl _ | (simp; done) | omega | (simp; omega))))))⟩

set_option maxHeartbeats 2000000 in
theorem cells4_no (kind width : Int) (zs : List Int) (A : Option Addr) (n cap : Nat) (w : World) (h : Ints .i64 w A n zs) (hn : n ≤ 600) (hcap : n ≤ cap) (hr : ¬ right4 kind width n) :
    Calls Try.prog 13 #[.int .i64 kind, .int .i64 width, .slice A n cap] w fun e w' => e = .returned (.bool true) ∧ Below w.heap.size w w' := by
  go_enter Try.func13, Try.ntmps13
  go_wp2_with fail
  with_reducible refine (awake4_any _).mono ?_
  rintro e W1 ⟨rfl, b1⟩
  have h1 := h.below (Nat.le_refl _) b1
  go_wp2_with fail
  with_reducible refine (Cells_no _ _ zs _ _ _ _ hr).mono ?_
  rintro e W2 ⟨rfl, b2⟩
  have h2 := h1.below (Nat.le_refl _) b2
  go_wp2_with fail
  with_reducible refine (refCells_no _ _ zs _ _ _ _ hr).mono ?_
  rintro e W3 ⟨rfl, b3⟩
  go_wp2_with (go_at_call 47; with_reducible refine (refSame_yes _ _ _ _ _ _ _ (Ints.nil_ _ _) (Ints.nil_ _ _) (by omega)).mono ?_; rintro e sw ⟨rfl, sb⟩)
  go_ret
  exact ⟨rfl, (by repeat (first | with_reducible exact Below.refl _ _ | with_reducible assumption | with_reducible refine below_alloc ?_ _ | with_reducible refine below_draw ?_ | ((with_reducible apply bset); (focus (first | exact Nat.le_refl _ | (simp; done) | omega | (simp; omega)))) | ((with_reducible apply bcall); assumption; (focus (first | exact Nat.le_refl _ | (simp; done) | omega | (simp; omega))))))⟩

set_option maxHeartbeats 2000000 in
theorem cells4_val (kind width : Int) (zs : List Int) (A : Option Addr) (n cap : Nat) (w : World) (h : Ints .i64 w A n zs) (hn : n ≤ 600) (hcap : n ≤ cap) (hr : right4 kind width n) (hok : Hid (cellsN kind width zs n = none)) :
    Calls Try.prog 13 #[.int .i64 kind, .int .i64 width, .slice A n cap] w fun e w' => e = .returned (.bool true) ∧ Below w.heap.size w w' := by
  go_enter Try.func13, Try.ntmps13
  go_wp2_with fail
  with_reducible refine (awake4_any _).mono ?_
  rintro e W1 ⟨rfl, b1⟩
  have h1 := h.below (Nat.le_refl _) b1
  go_wp2_with fail
  with_reducible refine (Cells_val _ zs _ _ _ _ _ hr h1 (by omega) hcap hok).mono ?_
  rintro e W2 ⟨rfl, b2⟩
  have h2 := h1.below (Nat.le_refl _) b2
  go_wp2_with fail
  with_reducible refine (refCells_val _ zs _ _ _ _ _ hr h2 (by omega) hok).mono ?_
  rintro e W3 ⟨rfl, b3⟩
  go_wp2_with (go_at_call 47; with_reducible refine (refSame_yes _ _ _ _ _ _ _ (Ints.nil_ _ _) (Ints.nil_ _ _) (by omega)).mono ?_; rintro e sw ⟨rfl, sb⟩)
  go_ret
  exact ⟨rfl, (by repeat (first | with_reducible exact Below.refl _ _ | with_reducible assumption | with_reducible refine below_alloc ?_ _ | with_reducible refine below_draw ?_ | ((with_reducible apply bset); (focus (first | exact Nat.le_refl _ | (simp; done) | omega | (simp; omega)))) | ((with_reducible apply bcall); assumption; (focus (first | exact Nat.le_refl _ | (simp; done) | omega | (simp; omega))))))⟩

set_option maxHeartbeats 2000000 in
theorem cells4_ok (kind width : Int) (zs : List Int) (A : Option Addr) (n cap : Nat) (w : World) (out : List Int) (h : Ints .i64 w A n zs) (hn : n ≤ 600) (hcap : n ≤ cap) (hr : right4 kind width n) (hok : Hid (cellsN kind width zs n = some out)) :
    Calls Try.prog 13 #[.int .i64 kind, .int .i64 width, .slice A n cap] w fun e w' => e = .returned (.bool true) ∧ Below w.heap.size w w' := by
  have hw := hr.2.2.1
  go_enter Try.func13, Try.ntmps13
  go_wp2_with fail
  with_reducible refine (awake4_any _).mono ?_
  rintro e W1 ⟨rfl, b1⟩
  have h1 := h.below (Nat.le_refl _) b1
  go_wp2_with fail
  with_reducible refine (Cells_ok _ zs _ _ _ _ out _ hr h1 (by omega) hcap hok).mono ?_
  rintro e W2 ⟨v1, rfl, o1, b2⟩
  obtain ⟨A1, c1, rfl, c1l, c1m⟩ := own_form o1
  have i1 := own_ints o1
  have h2 := h1.below (Nat.le_refl _) b2
  go_wp2_with fail
  with_reducible refine (refCells_ok _ zs _ _ _ _ out _ hr h2 (by omega) hok).mono ?_
  rintro e W3 ⟨v2, rfl, o2, b3⟩
  obtain ⟨A2, c2, rfl, _, _⟩ := own_form o2
  have i2 := own_ints o2
  have h3 := h2.below (Nat.le_refl _) b3
  have i1 := i1.below (Nat.le_refl _) b3
  go_wp2_with fail
  with_reducible refine (refSame_yes _ _ _ _ _ _ _ i1 i2 (by omega)).mono ?_
  rintro e W4 ⟨rfl, b4⟩
  have h4 := h3.below (Nat.le_refl _) b4
  have i1 := i1.below (Nat.le_refl _) b4
  clear i2 o1 o2 h h1 h2 h3
  have hback := Lib.hid (rests_of_cells hw h4.len hok.out)
  go_wp2_with fail
  have hcall := Rests_ok _ out _ _ _ _ _ hr i1 (by omega) c1l (cellsN_may hok.out)
  rw [hback.out] at hcall
  with_reducible refine hcall.mono ?_
  rintro e W5 ⟨v3, rfl, o3, b5⟩
  obtain ⟨A3, c3, rfl, _, _⟩ := own_form o3
  have i3 := own_ints o3
  have h5 := h4.below (Nat.le_refl _) b5
  clear o3 hback hcall
  go_wp2_with (go_at_call 47; with_reducible refine (refSame_yes _ _ _ _ _ _ _ i3 h5 (by omega)).mono ?_; rintro e sw ⟨rfl, sb⟩)
  go_ret
  exact ⟨rfl, (by repeat (first | with_reducible exact Below.refl _ _ | with_reducible assumption | with_reducible refine below_alloc ?_ _ | with_reducible refine below_draw ?_ | ((with_reducible apply bset); (focus (first | exact Nat.le_refl _ | (simp; done) | omega | (simp; omega)))) | ((with_reducible apply bcall); assumption; (focus (first | exact Nat.le_refl _ | (simp; done) | omega | (simp; omega))))))⟩

theorem predCells_walk (kind width : Int) (zs : List Int) (A : Option Addr) (n cap : Nat) (w : World) (_b0 : (-9223372036854775808 ≤ kind ∧ kind ≤ 9223372036854775807)) (_b1 : (-9223372036854775808 ≤ width ∧ width ≤ 9223372036854775807)) (h : Ints .i64 w A n zs) (hcap : n ≤ cap) (hmax : cap ≤ maxLen) (_hz : ∀ z ∈ zs, (-9223372036854775808 ≤ z ∧ z ≤ 9223372036854775807)) :
    Calls Try.prog 13 #[.int .i64 kind, .int .i64 width, .slice A n cap] w fun e w' => e = .returned (.bool true) ∧ Below w.heap.size w w' := by
  by_cases hn : n ≤ 600
  · by_cases hr : right4 kind width n
    · cases hok : cellsN kind width zs n with
      | none => exact cells4_val _ _ zs _ _ _ w h hn hcap hr hok
      | some out => exact cells4_ok _ _ zs _ _ _ w out h hn hcap hr hok
    · exact cells4_no _ _ zs _ _ _ w h hn hcap hr
  · exact big4c _ _ zs _ _ _ w (by omega) (Nat.le_trans hcap hmax)

end Go.Proofs.Ytcklknlbmbinoaa
