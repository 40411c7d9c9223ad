/- Contracts of package pred: Guess, Rests, Cells. -/
import Derived.Test.YtbnjbgcadkdljaaDoorPred0
import Derived.Laws.MakeOwn
set_option linter.unusedVariables false
set_option linter.unusedSimpArgs false
namespace Go.Proofs.YtbnjbgcadkdljaaDoor
open Go.RowKit
theorem right4_yes {kind width n : Int} (h : right4 kind width n) : right4B kind width n = true := by simp [right4B, h]
theorem right4_no {kind width n : Int} (h : ¬ right4 kind width n) : right4B kind width n = false := by simp [right4B, h]

theorem info_i64 : (Tryd.prog.info? 2).map (fun i => (i.zero, i.size, i.bytes)) = some (some (.int .i64 0), 1, 8) := by kernel_rfl
theorem gstep {zs : List Int} {k : Nat} (hall : AllMay zs k) (hv : mayB (nth zs k) = true) : AllMay zs (k + 1) := fun j hj => by
  rcases Nat.lt_or_ge j k with hl | hg
  · exact hall j hl
  · obtain rfl : j = k := by omega
    exact hv

theorem Rests_no (w : World) (kind : Int) (zs : List Int) (A : Option Addr) (n cap : Nat) (width : Int) (hr : ¬ right4 kind width n) :
    Calls Tryd.prog 32 #[.int .i64 kind, .slice A n cap, .int .i64 width] w fun r w' => r = .returned (.tuple #[.slice none 0 0, .int .i64 11]) ∧ Below w.heap.size w w' := by
  have hR := right4_no hr
  clear hr
  go_enter Tryd.func32, Tryd.ntmps32
  go_wp2_with (go_at_call 11; refine (right4_any _ _ _ _).mono ?_; rintro e w' ⟨rfl, rfl⟩)
  go_ret2
  exact ⟨rfl, Below.refl _ _⟩

set_option maxHeartbeats 1000000 in
theorem Rests_ok (kind : Int) (zs : List Int) (A : Option Addr) (n cap : Nat) (width : Int) (w : World) (hr : right4 kind width n) (h : Ints .i64 w A n zs) (hn : n ≤ 1000000) (hcap : n ≤ cap) (hm : Hid (AllMay zs n)) :
    Calls Tryd.prog 32 #[.int .i64 kind, .slice A n cap, .int .i64 width] w fun e w' => ∃ v, e = .returned (.tuple #[v, .int .i64 0]) ∧ w'.ownsRow w.heap.size 2 1 v n ((restsL kind zs width n).map (Value.int .i64)) ∧ Below w.heap.size w w' := by
  have hw := hr.2.2.1
  have hR := right4_yes hr
  clear hr
  have hmk := fun W => run_make_row' (P := Tryd.prog) 39 2 (.int .i64 0) 8 Tryd.underlying39 info_i64 rfl .i64 .i64 n (by omega) (by omega) W
  go_enter Tryd.func32, Tryd.ntmps32
  go_wp2_with (go_at_call 11; refine (right4_any _ _ _ _).mono ?_; rintro e w' ⟨rfl, rfl⟩)
  have hown0 := ownI_make .i64 2 w w.heap.size n (Nat.le_refl _) (by unfold maxLen; omega)
  go_loopw [22] (fun x wr => ∃ k : Nat, k ≤ n ∧ x = .int .i64 k ∧ Hid (AllMay zs k) ∧ OwnI .i64 2 wr w.heap.size w.heap.size n (restsL kind zs width k ++ List.replicate (n - k) 0) ∧ Below w.heap.size w wr ∧ w.heap.size < wr.heap.size) (fun x _ => n - (intOf x).toNat)
  case atStart => exact ⟨0, Nat.zero_le _, rfl, fun j hj => by omega, hown0, (by repeat (first | with_reducible exact Below.refl _ _ | with_reducible assumption | with_reducible refine below_alloc ?_ _ | with_reducible refine below_draw ?_ | ((with_reducible apply bset); (focus (first | exact Nat.le_refl _ | (simp; done) | omega | (simp; omega)))) | ((with_reducible apply bcall); assumption; (focus (first | exact Nat.le_refl _ | (simp; done) | omega | (simp; omega)))))), by simp⟩
  case round =>
    obtain ⟨k, hk, rfl, hall, hown, hE, hs⟩ := hrel
    clear hown0
    have hEc := (rules hE (Nat.le_refl _)).1
    by_cases hlt : k < n
    · have h' := h
      obtain ⟨b, off, rfl, hb, hc⟩ := h.at_ hlt
      have hw2 := h'.below (Nat.le_refl _) hE
      have oc := hown.cell hlt
      have of := hown.free k
      by_cases hv : mayB (nth zs k) = true
      · have hgb := guess_bd hall.out (kind := kind) (i := k) hw (by omega) (by omega)
        obtain ⟨_, _⟩ := hgb
        obtain ⟨_, _⟩ := (mayB_iff _).1 hv
        go_wp2_with (first | (go_at_call 49; refine (may_any _ _).mono ?_; rintro e w' ⟨rfl, rfl⟩) | (go_at_call 50; refine (guess_any _ kind zs _ n cap k width k hw2 hall.out (by omega) hw (by omega) (by omega) hn).mono ?_; rintro e w2 ⟨rfl, gb⟩; obtain ⟨gc, gf, gl⟩ := rules gb (Nat.le_refl _); have gz := gl _ hs; clear gl))
        have ho2 := (hown.keep gb (Nat.le_refl _)).set_ k (nth zs k - guessI kind zs width (k : Int))
        have e2 := fill_at (v := nth zs k - guessI kind zs width (k : Int)) (restsL_len kind zs width k) hlt
        rw [← restsL_succ] at e2
        rw [e2] at ho2
        have hEn : Below w.heap.size w (w2.setCell ⟨w.heap.size, k, none⟩ (.int .i64 (nth zs k - guessI kind zs width (k : Int)))) := (hE.trans (gb.mono (by omega))).setCell (Nat.le_refl _) _
        clear e2 hown
        go_roundw
        case rel => exact ⟨k + 1, by omega, by go_num, gstep hall.out hv, ho2, hEn, by simp; omega⟩
        case measure => simp [intOf]; omega
      · have hv' : mayB (nth zs k) = false := by simpa using hv
        exact absurd (hm.out k hlt) hv
    · obtain rfl : k = n := by omega
      go_wp2
      go_ret2
      exact ⟨_, rfl, by simpa [OwnI] using hown, hE⟩
set_option maxHeartbeats 1000000 in
theorem Rests_val (kind : Int) (zs : List Int) (A : Option Addr) (n cap : Nat) (width : Int) (w : World) (hr : right4 kind width n) (h : Ints .i64 w A n zs) (hn : n ≤ 1000000) (hcap : n ≤ cap) (hm : Hid (¬ AllMay zs n)) :
    Calls Tryd.prog 32 #[.int .i64 kind, .slice A n cap, .int .i64 width] w fun e w' => e = .returned (.tuple #[.slice none 0 0, .int .i64 7]) ∧ Below w.heap.size w w' := by
  have hw := hr.2.2.1
  have hR := right4_yes hr
  clear hr
  have hmk := fun W => run_make_row' (P := Tryd.prog) 39 2 (.int .i64 0) 8 Tryd.underlying39 info_i64 rfl .i64 .i64 n (by omega) (by omega) W
  go_enter Tryd.func32, Tryd.ntmps32
  go_wp2_with (go_at_call 11; refine (right4_any _ _ _ _).mono ?_; rintro e w' ⟨rfl, rfl⟩)
  have hown0 := ownI_make .i64 2 w w.heap.size n (Nat.le_refl _) (by unfold maxLen; omega)
  go_loopw [22] (fun x wr => ∃ k : Nat, k ≤ n ∧ x = .int .i64 k ∧ Hid (AllMay zs k) ∧ OwnI .i64 2 wr w.heap.size w.heap.size n (restsL kind zs width k ++ List.replicate (n - k) 0) ∧ Below w.heap.size w wr ∧ w.heap.size < wr.heap.size) (fun x _ => n - (intOf x).toNat)
  case atStart => exact ⟨0, Nat.zero_le _, rfl, fun j hj => by omega, hown0, (by repeat (first | with_reducible exact Below.refl _ _ | with_reducible assumption | with_reducible refine below_alloc ?_ _ | with_reducible refine below_draw ?_ | ((with_reducible apply bset); (focus (first | exact Nat.le_refl _ | (simp; done) | omega | (simp; omega)))) | ((with_reducible apply bcall); assumption; (focus (first | exact Nat.le_refl _ | (simp; done) | omega | (simp; omega)))))), by simp⟩
  case round =>
    obtain ⟨k, hk, rfl, hall, hown, hE, hs⟩ := hrel
    clear hown0
    have hEc := (rules hE (Nat.le_refl _)).1
    by_cases hlt : k < n
    · have h' := h
      obtain ⟨b, off, rfl, hb, hc⟩ := h.at_ hlt
      have hw2 := h'.below (Nat.le_refl _) hE
      have oc := hown.cell hlt
      have of := hown.free k
      by_cases hv : mayB (nth zs k) = true
      · have hgb := guess_bd hall.out (kind := kind) (i := k) hw (by omega) (by omega)
        obtain ⟨_, _⟩ := hgb
        obtain ⟨_, _⟩ := (mayB_iff _).1 hv
        go_wp2_with (first | (go_at_call 49; refine (may_any _ _).mono ?_; rintro e w' ⟨rfl, rfl⟩) | (go_at_call 50; refine (guess_any _ kind zs _ n cap k width k hw2 hall.out (by omega) hw (by omega) (by omega) hn).mono ?_; rintro e w2 ⟨rfl, gb⟩; obtain ⟨gc, gf, gl⟩ := rules gb (Nat.le_refl _); have gz := gl _ hs; clear gl))
        have ho2 := (hown.keep gb (Nat.le_refl _)).set_ k (nth zs k - guessI kind zs width (k : Int))
        have e2 := fill_at (v := nth zs k - guessI kind zs width (k : Int)) (restsL_len kind zs width k) hlt
        rw [← restsL_succ] at e2
        rw [e2] at ho2
        have hEn : Below w.heap.size w (w2.setCell ⟨w.heap.size, k, none⟩ (.int .i64 (nth zs k - guessI kind zs width (k : Int)))) := (hE.trans (gb.mono (by omega))).setCell (Nat.le_refl _) _
        clear e2 hown
        go_roundw
        case rel => exact ⟨k + 1, by omega, by go_num, gstep hall.out hv, ho2, hEn, by simp; omega⟩
        case measure => simp [intOf]; omega
      · have hv' : mayB (nth zs k) = false := by simpa using hv
        clear hv
        go_wp2_with (go_at_call 49; refine (may_any _ _).mono ?_; rintro e w' ⟨rfl, rfl⟩)
        go_ret2
        exact ⟨rfl, hE⟩
    · obtain rfl : k = n := by omega
      exact absurd hall.out hm.out
theorem far_none {kind width : Int} {rs outs : List Int} {k : Nat} (hw : 1 ≤ width) (ho : cellsN kind width rs k = some outs) (hr : 4294967295 < nth rs k ∨ nth rs k < -4294967295) : cellsN kind width rs (k + 1) = none := by
  have hb := guess_bd (cellsN_may ho) (kind := kind) (width := width) (i := k) hw (by omega) (by omega)
  rw [cellsN_next ho, if_neg]
  rw [mayB_iff]
  omega
theorem app_may {outs : List Int} {k m : Nat} (hl : outs.length = k) (h : AllMay outs k) : AllMay (outs ++ List.replicate m 0) k := fun j hj => by rw [nth_app_lt (by omega)]; exact h j hj
theorem app_guess {kind width : Int} {outs : List Int} {k m : Nat} (hw : 1 ≤ width) (hl : outs.length = k) : guessI kind (outs ++ List.replicate m 0) width (k : Int) = guessI kind outs width (k : Int) :=
  guess_congr hw (by omega) fun j hj => nth_app_lt (by omega)

end Go.Proofs.YtbnjbgcadkdljaaDoor
