/- Texts as one: Ref7, Ref7b, Ref7q. -/
import Derived.Test.YtbnjbgcadkdljaaGreatDoorMD
import Derived.Deep.DeepCutAuto
import Derived.Test.YtbnjbgcadkdljaaGreatDoorMC
set_option linter.unusedVariables false
set_option linter.unusedSimpArgs false
namespace Go.Proofs.YtbnjbgcadkdljaaGreatDoor
open Go.RowKit

theorem refRight_any (x0 y0 x1 y1 : Int) (w : World) :
    Calls Tryz.prog 89 #[.agg #[.int .i64 x0, .int .i64 y0, .int .i64 x1, .int .i64 y1]] w fun r w' => r = .returned (.bool (rightB x0 y0 x1 y1)) ∧ Below w.heap.size w w' := by
  go_enter Tryz.func89, Tryz.ntmps89
  go_wp2
  all_goals
    go_ret
    refine ⟨ret_bool ?_, (by repeat (first | with_reducible exact Below.refl _ _ | with_reducible assumption | with_reducible refine below_alloc ?_ _ | with_reducible refine below_draw ?_ | ((with_reducible apply bset); (focus (first | exact Nat.le_refl _ | (simp; done) | (simp; omega)))) | ((with_reducible apply bcall); assumption; (focus (first | exact Nat.le_refl _ | (simp; done) | (simp; omega))))))⟩
    rw [eq_comm]
    simp only [rightB, RightP]
    first | (apply decide_eq_false; omega) | (rw [decide_eq_decide]; omega) | (simp_all; done) | (simp_all; omega)

set_option maxHeartbeats 2000000 in
theorem refWithin_any (x0 y0 x1 y1 a b : Int) (w : World) (al : -9223372036854775808 ≤ a) (au : a ≤ 9223372036854775807) (bl : -9223372036854775808 ≤ b) (bu : b ≤ 9223372036854775807) :
    Calls Tryz.prog 48 #[.agg #[.int .i64 x0, .int .i64 y0, .int .i64 x1, .int .i64 y1], .int .i64 a, .int .i64 b] w fun r w' => r = .returned (.int .i64 (withinC x0 y0 x1 y1 a b)) ∧ Below w.heap.size w w' := by
  have hA : insideB (wrap64 (a - 1)) 1024 = decide (1 ≤ a ∧ a ≤ 1024) := by rw [Bool.eq_iff_iff, insideB_iff, decide_eq_true_eq]; unfold wrap64; omega
  have hB : insideB (wrap64 (b - 1)) 1024 = decide (1 ≤ b ∧ b ≤ 1024) := by rw [Bool.eq_iff_iff, insideB_iff, decide_eq_true_eq]; unfold wrap64; omega
  have hv : withinC x0 y0 x1 y1 a b = if ¬ (1 ≤ a ∧ a ≤ 1024) ∨ ¬ (1 ≤ b ∧ b ≤ 1024) then 3 else if ¬ (0 ≤ x0 ∧ x0 < a) ∨ ¬ (0 ≤ x1 ∧ x1 < a) ∨ ¬ (0 ≤ y0 ∧ y0 < b) ∨ ¬ (0 ≤ y1 ∧ y1 < b) then 4 else if x1 < x0 ∨ y1 < y0 then 5 else 0 := by
    unfold withinC
    rw [hA, hB]
    simp only [insideB_not, decide_eq_false_iff_not]
  have Hv := Lib.hid hv
  clear hA hB hv
  go_enter Tryz.func48, Tryz.ntmps48
  go_wp2
  all_goals
    go_ret
    refine ⟨ret_int ?_, (by repeat (first | with_reducible exact Below.refl _ _ | with_reducible assumption | with_reducible refine below_alloc ?_ _ | with_reducible refine below_draw ?_ | ((with_reducible apply bset); (focus (first | exact Nat.le_refl _ | (simp; done) | (simp; omega)))) | ((with_reducible apply bcall); assumption; (focus (first | exact Nat.le_refl _ | (simp; done) | (simp; omega))))))⟩
    rw [Hv.out]
    first | (rw [if_pos (by omega)]; done) | (rw [if_neg (by omega), if_pos (by omega)]; done) | (rw [if_neg (by omega), if_neg (by omega), if_pos (by omega)]; done) | (rw [if_neg (by omega), if_neg (by omega), if_neg (by omega)]; done)

theorem refArea_any (x0 y0 x1 y1 : Int) (w : World) :
    Calls Tryz.prog 49 #[.agg #[.int .i64 x0, .int .i64 y0, .int .i64 x1, .int .i64 y1]] w fun r w' => r = .returned (.int .i64 (areaI x0 y0 x1 y1)) ∧ Below w.heap.size w w' := by
  by_cases hr : RightP x0 y0 x1 y1
  · have hR := (rightB_iff _ _ _ _).2 hr
    have hr' := hr
    unfold RightP at hr'
    have hp := area_bd (a := x1 + 1 - x0) (b := y1 + 1 - y0) (by omega) (by omega) (by omega) (by omega)
    have e1 : x1 - x0 + 1 = x1 + 1 - x0 := by omega
    have e2 : y1 - y0 + 1 = y1 + 1 - y0 := by omega
    rw [areaI, if_pos hr, e1, e2]
    clear e1 e2 hr
    go_enter Tryz.func49, Tryz.ntmps49
    go_wp2_with (go_at_call 89; refine (refRight_any _ _ _ _ _).mono ?_; rintro e w' ⟨rfl, hb⟩; obtain ⟨hc, hf, hl⟩ := rules hb (Nat.le_refl _); have hz0 := hl (w.heap.size) (by first | (simp; done) | assumption | (simp; omega)); clear hl)
    go_ret
    exact ⟨rfl, (by repeat (first | with_reducible exact Below.refl _ _ | with_reducible assumption | with_reducible refine below_alloc ?_ _ | with_reducible refine below_draw ?_ | ((with_reducible apply bset); (focus (first | exact Nat.le_refl _ | (simp; done) | (simp; omega)))) | ((with_reducible apply bcall); assumption; (focus (first | exact Nat.le_refl _ | (simp; done) | (simp; omega))))))⟩
  · have hR := (rightB_not _ _ _ _).2 hr
    rw [areaI, if_neg hr]
    clear hr
    go_enter Tryz.func49, Tryz.ntmps49
    go_wp2_with (go_at_call 89; refine (refRight_any _ _ _ _ _).mono ?_; rintro e w' ⟨rfl, hb⟩; obtain ⟨hc, hf, hl⟩ := rules hb (Nat.le_refl _); have hz0 := hl (w.heap.size) (by first | (simp; done) | assumption | (simp; omega)); clear hl)
    go_ret
    exact ⟨rfl, (by repeat (first | with_reducible exact Below.refl _ _ | with_reducible assumption | with_reducible refine below_alloc ?_ _ | with_reducible refine below_draw ?_ | ((with_reducible apply bset); (focus (first | exact Nat.le_refl _ | (simp; done) | (simp; omega)))) | ((with_reducible apply bcall); assumption; (focus (first | exact Nat.le_refl _ | (simp; done) | (simp; omega))))))⟩

end Go.Proofs.YtbnjbgcadkdljaaGreatDoor

namespace Go.Proofs.YtbnjbgcadkdljaaGreatDoor
open Go.RowKit
theorem mx_pos {a b : Int} (h : a < b) : mx a b = b := if_pos h
theorem mx_neg {a b : Int} (h : b ≤ a) : mx a b = a := if_neg (by omega)
theorem mn_pos {a b : Int} (h : b < a) : mn a b = b := if_pos h
theorem mn_neg {a b : Int} (h : a ≤ b) : mn a b = a := if_neg (by omega)
/-- A store of what is there changes nothing. -/
theorem setCell_same {w : World} {a : Addr} {v : Value} (h : w.cell? a = some v) : w.setCell a v = w := by
  unfold World.cell? at h
  unfold World.setCell
  have : w.heap.modify a.block (fun | .cells c elem frozen => .cells (if a.spot.isSome then c else c.setIfInBounds a.off v) elem frozen | o => o) = w.heap := by
    apply Array.ext_getElem?
    intro i
    rw [Array.getElem?_modify]
    by_cases e : a.block = i
    · subst e
      rw [if_pos rfl]
      cases hh : w.heap[a.block]? with
      | none => rfl
      | some o =>
        rw [hh] at h
        cases o with
        | cells c el fr =>
          simp only [Option.map_some]
          by_cases hs : a.spot.isSome
          · simp [hs]
          · simp only [hs] at h ⊢
            simp only [if_false, Bool.false_eq_true] at h ⊢
            congr 2
            apply Array.ext_getElem?
            intro j
            rw [Array.getElem?_setIfInBounds]
            by_cases ej : a.off = j
            · subst ej
              rw [if_pos rfl, if_pos (by rw [Array.getElem?_eq_some_iff] at h; exact h.1), h]
            · rw [if_neg ej]
        | _ => rfl
    · rw [if_neg e]
  exact congrArg (fun hp : Array Obj => ({ w with heap := hp } : World)) this

set_option maxHeartbeats 4000000 in
theorem refMeet_both (ax0 ay0 ax1 ay1 bx0 by0 bx1 by1 : Int) (w : World) (ha : Rt.right ⟨ax0, ay0, ax1, ay1⟩) (hb : Rt.right ⟨bx0, by0, bx1, by1⟩) :
    Calls Tryz.prog 84 #[.agg #[.int .i64 ax0, .int .i64 ay0, .int .i64 ax1, .int .i64 ay1], .agg #[.int .i64 bx0, .int .i64 by0, .int .i64 bx1, .int .i64 by1]] w fun r w' => r = .returned (.tuple #[.agg #[.int .i64 (meetV ⟨ax0, ay0, ax1, ay1⟩ ⟨bx0, by0, bx1, by1⟩).x0, .int .i64 (meetV ⟨ax0, ay0, ax1, ay1⟩ ⟨bx0, by0, bx1, by1⟩).y0, .int .i64 (meetV ⟨ax0, ay0, ax1, ay1⟩ ⟨bx0, by0, bx1, by1⟩).x1, .int .i64 (meetV ⟨ax0, ay0, ax1, ay1⟩ ⟨bx0, by0, bx1, by1⟩).y1], .bool (meetB ⟨ax0, ay0, ax1, ay1⟩ ⟨bx0, by0, bx1, by1⟩)]) ∧ Below w.heap.size w w' := by
  have hA : rightB ax0 ay0 ax1 ay1 = true := (rightB_iff _ _ _ _).2 ha
  have hB : rightB bx0 by0 bx1 by1 = true := (rightB_iff _ _ _ _).2 hb
  go_enter Tryz.func84, Tryz.ntmps84
  go_wp2_with fail
  refine (refRight_any _ _ _ _ _).mono ?_
  rintro e W1 ⟨rfl, h1b⟩
  obtain ⟨h1c, h1f, h1l⟩ := rules h1b (Nat.le_refl _); have h1z0 := h1l (w.heap.size) (by first | (simp; done) | assumption | (simp; omega)); have h1z1 := h1l (w.heap.size + 1) (by first | (simp; done) | assumption | (simp; omega)); have h1z2 := h1l (w.heap.size + 1 + 1) (by first | (simp; done) | assumption | (simp; omega))
  clear h1l
  go_wp2_with fail
  refine (refRight_any _ _ _ _ _).mono ?_
  rintro e W2 ⟨rfl, h2b⟩
  obtain ⟨h2c, h2f, h2l⟩ := rules h2b (Nat.le_refl _); have h2z0 := h2l (w.heap.size) (by first | (simp; done) | assumption | (simp; omega)); have h2z1 := h2l (w.heap.size + 1) (by first | (simp; done) | assumption | (simp; omega)); have h2z2 := h2l (w.heap.size + 1 + 1) (by first | (simp; done) | assumption | (simp; omega))
  clear h2l
  go_upto_if 19 with fail
  go_cut [] (fun wc => wc = (W2.setCell ⟨w.heap.size, 0, none⟩ (.int .i64 (mx ax0 bx0))))
  case first =>
    go_wp2_with fail
    all_goals go_meet
    · rw [mx_pos (a := ax0) (b := bx0) (by assumption)]
    · rw [mx_neg (a := ax0) (b := bx0) (by assumption)]; exact (setCell_same (by simp [go_sem, *])).symm
  obtain rfl := hcut
  go_upto_if 27 with fail
  go_cut [] (fun wc => wc = ((W2.setCell ⟨w.heap.size, 0, none⟩ (.int .i64 (mx ax0 bx0))).setCell ⟨w.heap.size, 1, none⟩ (.int .i64 (mx ay0 by0))))
  case first =>
    go_wp2_with fail
    all_goals go_meet
    · rw [mx_pos (a := ay0) (b := by0) (by assumption)]
    · rw [mx_neg (a := ay0) (b := by0) (by assumption)]; exact (setCell_same (by simp [go_sem, *])).symm
  obtain rfl := hcut
  go_upto_if 35 with fail
  go_cut [] (fun wc => wc = (((W2.setCell ⟨w.heap.size, 0, none⟩ (.int .i64 (mx ax0 bx0))).setCell ⟨w.heap.size, 1, none⟩ (.int .i64 (mx ay0 by0))).setCell ⟨w.heap.size, 2, none⟩ (.int .i64 (mn ax1 bx1))))
  case first =>
    go_wp2_with fail
    all_goals go_meet
    · rw [mn_pos (a := ax1) (b := bx1) (by assumption)]
    · rw [mn_neg (a := ax1) (b := bx1) (by assumption)]; exact (setCell_same (by simp [go_sem, *])).symm
  obtain rfl := hcut
  go_upto_if 43 with fail
  go_cut [] (fun wc => wc = ((((W2.setCell ⟨w.heap.size, 0, none⟩ (.int .i64 (mx ax0 bx0))).setCell ⟨w.heap.size, 1, none⟩ (.int .i64 (mx ay0 by0))).setCell ⟨w.heap.size, 2, none⟩ (.int .i64 (mn ax1 bx1))).setCell ⟨w.heap.size, 3, none⟩ (.int .i64 (mn ay1 by1))))
  case first =>
    go_wp2_with fail
    all_goals go_meet
    · rw [mn_pos (a := ay1) (b := by1) (by assumption)]
    · rw [mn_neg (a := ay1) (b := by1) (by assumption)]; exact (setCell_same (by simp [go_sem, *])).symm
  obtain rfl := hcut
  by_cases c0 : mn ax1 bx1 < mx ax0 bx0
  · have no : ¬ meetOk ⟨ax0, ay0, ax1, ay1⟩ ⟨bx0, by0, bx1, by1⟩ := fun h => by have h1 := h.2.2.2.1; simp only [meetR] at h1; omega
    go_wp2
    exact bodyPost_ret (v := .tuple #[.agg #[.int .i64 0, .int .i64 0, .int .i64 0, .int .i64 0], .bool false]) (by simp [results, Tryz.results84, go_sem, *]) rfl ⟨by rw [meetV_no no, meetB_no no], (by repeat (first | with_reducible exact Below.refl _ _ | with_reducible assumption | with_reducible refine below_alloc ?_ _ | with_reducible refine below_draw ?_ | ((with_reducible apply bset); (focus (first | exact Nat.le_refl _ | (simp; done) | (simp; omega)))) | ((with_reducible apply bcall); assumption; (focus (first | exact Nat.le_refl _ | (simp; done) | (simp; omega))))))⟩
  · by_cases c1 : mn ay1 by1 < mx ay0 by0
    · have no : ¬ meetOk ⟨ax0, ay0, ax1, ay1⟩ ⟨bx0, by0, bx1, by1⟩ := fun h => by have h1 := h.2.2.2.2.2.2.1; simp only [meetR] at h1; omega
      go_wp2
      exact bodyPost_ret (v := .tuple #[.agg #[.int .i64 0, .int .i64 0, .int .i64 0, .int .i64 0], .bool false]) (by simp [results, Tryz.results84, go_sem, *]) rfl ⟨by rw [meetV_no no, meetB_no no], (by repeat (first | with_reducible exact Below.refl _ _ | with_reducible assumption | with_reducible refine below_alloc ?_ _ | with_reducible refine below_draw ?_ | ((with_reducible apply bset); (focus (first | exact Nat.le_refl _ | (simp; done) | (simp; omega)))) | ((with_reducible apply bcall); assumption; (focus (first | exact Nat.le_refl _ | (simp; done) | (simp; omega))))))⟩
    · have hm : meetOk ⟨ax0, ay0, ax1, ay1⟩ ⟨bx0, by0, bx1, by1⟩ := by
        refine ⟨ha, hb, ?_⟩
        obtain ⟨_, _, _, _, _, _⟩ := ha
        obtain ⟨_, _, _, _, _, _⟩ := hb
        simp only [meetR, Rt.right, RightP, mx_eq, mn_eq] at *
        omega
      go_wp2
      exact bodyPost_ret (v := .tuple #[.agg #[.int .i64 (mx ax0 bx0), .int .i64 (mx ay0 by0), .int .i64 (mn ax1 bx1), .int .i64 (mn ay1 by1)], .bool true]) (by simp [results, Tryz.results84, go_sem, *]) rfl ⟨by rw [meetV_yes hm, meetB_yes hm]; rfl, (by repeat (first | with_reducible exact Below.refl _ _ | with_reducible assumption | with_reducible refine below_alloc ?_ _ | with_reducible refine below_draw ?_ | ((with_reducible apply bset); (focus (first | exact Nat.le_refl _ | (simp; done) | (simp; omega)))) | ((with_reducible apply bcall); assumption; (focus (first | exact Nat.le_refl _ | (simp; done) | (simp; omega))))))⟩

set_option maxHeartbeats 1000000 in
theorem refMeet_any (ax0 ay0 ax1 ay1 bx0 by0 bx1 by1 : Int) (w : World) :
    Calls Tryz.prog 84 #[.agg #[.int .i64 ax0, .int .i64 ay0, .int .i64 ax1, .int .i64 ay1], .agg #[.int .i64 bx0, .int .i64 by0, .int .i64 bx1, .int .i64 by1]] w fun r w' => r = .returned (.tuple #[.agg #[.int .i64 (meetV ⟨ax0, ay0, ax1, ay1⟩ ⟨bx0, by0, bx1, by1⟩).x0, .int .i64 (meetV ⟨ax0, ay0, ax1, ay1⟩ ⟨bx0, by0, bx1, by1⟩).y0, .int .i64 (meetV ⟨ax0, ay0, ax1, ay1⟩ ⟨bx0, by0, bx1, by1⟩).x1, .int .i64 (meetV ⟨ax0, ay0, ax1, ay1⟩ ⟨bx0, by0, bx1, by1⟩).y1], .bool (meetB ⟨ax0, ay0, ax1, ay1⟩ ⟨bx0, by0, bx1, by1⟩)]) ∧ Below w.heap.size w w' := by
  by_cases ha : Rt.right ⟨ax0, ay0, ax1, ay1⟩
  · by_cases hb : Rt.right ⟨bx0, by0, bx1, by1⟩
    · exact refMeet_both _ _ _ _ _ _ _ _ w ha hb
    · have hA : rightB ax0 ay0 ax1 ay1 = true := (rightB_iff _ _ _ _).2 ha
      have hB : rightB bx0 by0 bx1 by1 = false := (rightB_not _ _ _ _).2 hb
      rw [meetV_no (fun h => hb h.2.1), meetB_no (fun h => hb h.2.1)]
      clear ha hb
      go_enter Tryz.func84, Tryz.ntmps84
      go_wp2_with (go_at_call 89; refine (refRight_any _ _ _ _ _).mono ?_; rintro e w' ⟨rfl, hb⟩; obtain ⟨hc, hf, hl⟩ := rules hb (Nat.le_refl _); have hz0 := hl (w.heap.size) (by first | (simp; done) | assumption | (simp; omega)); have hz1 := hl (w.heap.size + 1) (by first | (simp; done) | assumption | (simp; omega)); have hz2 := hl (w.heap.size + 1 + 1) (by first | (simp; done) | assumption | (simp; omega)); clear hl)
      exact bodyPost_ret (v := .tuple #[.agg #[.int .i64 0, .int .i64 0, .int .i64 0, .int .i64 0], .bool false]) (by simp [results, Tryz.results84, go_sem, *]) rfl ⟨rfl, (by repeat (first | with_reducible exact Below.refl _ _ | with_reducible assumption | with_reducible refine below_alloc ?_ _ | with_reducible refine below_draw ?_ | ((with_reducible apply bset); (focus (first | exact Nat.le_refl _ | (simp; done) | (simp; omega)))) | ((with_reducible apply bcall); assumption; (focus (first | exact Nat.le_refl _ | (simp; done) | (simp; omega))))))⟩
  · have hA : rightB ax0 ay0 ax1 ay1 = false := (rightB_not _ _ _ _).2 ha
    rw [meetV_no (fun h => ha h.1), meetB_no (fun h => ha h.1)]
    clear ha
    go_enter Tryz.func84, Tryz.ntmps84
    go_wp2_with (go_at_call 89; refine (refRight_any _ _ _ _ _).mono ?_; rintro e w' ⟨rfl, hb⟩; obtain ⟨hc, hf, hl⟩ := rules hb (Nat.le_refl _); have hz0 := hl (w.heap.size) (by first | (simp; done) | assumption | (simp; omega)); have hz1 := hl (w.heap.size + 1) (by first | (simp; done) | assumption | (simp; omega)); have hz2 := hl (w.heap.size + 1 + 1) (by first | (simp; done) | assumption | (simp; omega)); clear hl)
    exact bodyPost_ret (v := .tuple #[.agg #[.int .i64 0, .int .i64 0, .int .i64 0, .int .i64 0], .bool false]) (by simp [results, Tryz.results84, go_sem, *]) rfl ⟨rfl, (by repeat (first | with_reducible exact Below.refl _ _ | with_reducible assumption | with_reducible refine below_alloc ?_ _ | with_reducible refine below_draw ?_ | ((with_reducible apply bset); (focus (first | exact Nat.le_refl _ | (simp; done) | (simp; omega)))) | ((with_reducible apply bcall); assumption; (focus (first | exact Nat.le_refl _ | (simp; done) | (simp; omega))))))⟩

end Go.Proofs.YtbnjbgcadkdljaaGreatDoor

namespace Go.Proofs.YtbnjbgcadkdljaaGreatDoor
open Go Go.RowKit
theorem kfref7q_1 : (Tryz.prog.info? 54).map (fun i => (i.size, i.zero.map Value.cells)) = some (4, some (List.toArray [(.int .i64 0), (.int .i64 0), (.int .i64 0), (.int .i64 0)])) := by kernel_rfl
theorem kfref7q_2 : aggB Tryz.prog 54 4 = true := by kernel_rfl
theorem kfref7q_3 : (Tryz.prog.info? 54).bind (fun i => i.zero.map Value.cells) = some (List.toArray [(.int .i64 0), (.int .i64 0), (.int .i64 0), (.int .i64 0)]) := by kernel_rfl
theorem kfref7q_4 : callB Tryz.prog 84 = true := by kernel_rfl
theorem kfref7q_5 : szB Tryz.prog 54 4 = true := by kernel_rfl
theorem kfref7q_6 : (Tryz.prog.info? 54).map (fun i => (i.zero.map (·.cells.toList), i.size, i.bytes)) = some (some [(.int .i64 0), (.int .i64 0), (.int .i64 0), (.int .i64 0)], 4, 32) := by kernel_rfl
/-! lists of rectangles as cells -/
def rc (r : Rt) : List Value := [.int .i64 r.x0, .int .i64 r.y0, .int .i64 r.x1, .int .i64 r.y1]
def rn (l : List Rt) (i : Nat) : Rt := l.getD i ⟨0, 0, 0, 0⟩
theorem rcells_cons (r : Rt) (l : List Rt) : rcells (r :: l) = rc r ++ rcells l := by simp [rcells, rc]
theorem rc_part {l : List Rt} {i : Nat} (h : i < l.length) : ∀ j v, (rc (rn l i))[j]? = some v → (rcells l)[i * 4 + j]? = some v := by
  induction l generalizing i with
  | nil => simp at h
  | cons r l ih =>
    intro j v hv
    have hj : j < 4 := (List.getElem?_eq_some_iff.1 hv).1
    rw [rcells_cons]
    cases i with
    | zero =>
      rw [Nat.zero_mul, Nat.zero_add, List.getElem?_append_left (by simpa [rc] using hj)]
      exact hv
    | succ i =>
      have : (i + 1) * 4 + j = (rc r).length + (i * 4 + j) := by simp [rc]; omega
      rw [this, List.getElem?_append_right (by omega), Nat.add_sub_cancel_left]
      exact ih (by simpa using h) j v hv
theorem rc_push {l : List Rt} {r : Rt} : rcells l ++ [.int .i64 r.x0, .int .i64 r.y0, .int .i64 r.x1, .int .i64 r.y1] = rcells (l ++ [r]) := (rcells_snoc l r).symm
/-- what an elder contract says -/
theorem ret_old {P : Program} {f : FuncId} {args : List Value} {w : World} {v : Value} {Q : World → Prop} (h : Calls P f args.toArray w fun r w' => r = .returned v ∧ Q w') : Ret P f args w (fun u w' => u = v ∧ Q w') :=
  Calls.mono h fun e w' ⟨he, hq⟩ => ⟨v, he, rfl, hq⟩
theorem hs_of_own {w w' : World} {v : Value} {l : List Rt} (h : OwnRects w.heap.size w' v l) (hb : Below w.heap.size w w') : ∃ A cap, v = .slice A l.length cap ∧ HS w w' [.row A l.length cap (rcells l) 54 4] := by
  obtain ⟨A, cap, rfl, _, _⟩ := own_form h
  exact ⟨A, cap, rfl, ⟨hb, (fun o ho => by
    cases ho with
    | head => exact own_of h
    | tail _ h => cases h), List.pairwise_singleton _ _⟩⟩
theorem pieces_ret (x0 y0 x1 y1 : Int) (w : World) : Ret Tryz.prog 36 [.agg #[.int .i64 x0, .int .i64 y0, .int .i64 x1, .int .i64 y1]] w (fun v w' => ∃ A cap, v = .slice A (piecesL ⟨x0, y0, x1, y1⟩).length cap ∧ HS w w' [.row A (piecesL ⟨x0, y0, x1, y1⟩).length cap (rcells (piecesL ⟨x0, y0, x1, y1⟩)) 54 4]) :=
  Calls.mono (pieces_any x0 y0 x1 y1 w) fun e w' ⟨v, he, ho, hb⟩ => ⟨v, he, hs_of_own ho hb⟩
/-! sums over pieces -/
/-- a piece is right, and lies in one tile -/
def PieceOk (p : Rt) : Prop := p.right ∧ p.x0 / 16 = p.x1 / 16 ∧ p.y0 / 16 = p.y1 / 16
theorem pieceAt_ok {r : Rt} (hr : r.right) {j k : Nat} (hj : j < tilesOf r.x0 r.x1) (hk : k < tilesOf r.y0 r.y1) : PieceOk (pieceAt r (floorI r.y0 + 16 * (k : Int)) (floorI r.x0 + 16 * (j : Int))) := by
  obtain ⟨a1, a2, a3, b1, b2, b3⟩ := hr
  have h1 := (tiles_lt a1 a2 j).2 hj
  have h2 := (tiles_lt b1 b2 k).2 hk
  unfold PieceOk Rt.right RightP pieceAt
  simp only [mx_eq, mn_eq]
  unfold floorI at *
  omega
theorem pieces_ok (r : Rt) : ∀ p ∈ piecesL r, PieceOk p := by
  intro p hp
  unfold piecesL at hp
  split at hp
  · rename_i hr
    have key : ∀ K : Nat, K ≤ tilesOf r.y0 r.y1 → p ∈ pieceRows r (tilesOf r.x0 r.x1) K → PieceOk p := by
      intro K
      induction K with
      | zero => intro _ h; simp [pieceRows] at h
      | succ K ih =>
        intro hK h
        simp only [pieceRows] at h
        rcases List.mem_append.1 h with h | h
        · exact ih (by omega) h
        · unfold pieceRow at h
          obtain ⟨j, hj, rfl⟩ := List.mem_map.1 h
          exact pieceAt_ok hr (by simpa using hj) (by omega)
    exact key _ (Nat.le_refl _) hp
  · cases hp
theorem pieces_len (r : Rt) : (piecesL r).length ≤ 4096 := by rw [← allL_eq]; exact allL_len r 64
set_option maxRecDepth 100000 in
theorem refPieces_any (x0 y0 x1 y1 : Int) (w : World) :
    Ret Tryz.prog 43 [.agg #[.int .i64 x0, .int .i64 y0, .int .i64 x1, .int .i64 y1]] w (fun v w' => ∃ A cap, v = .slice A (piecesL ⟨x0, y0, x1, y1⟩).length cap ∧ HS w w' [.row A (piecesL ⟨x0, y0, x1, y1⟩).length cap (rcells (piecesL ⟨x0, y0, x1, y1⟩)) 54 4]) := by
  refine ret_enter Tryz.func43 rfl rfl rfl ?_
  have H0 := HS.start w
  refine cw_seq ?_
  refine cw_reg ?_
  refine reg_op (op_box (cs := [.int _ _, .int _ _, .int _ _, .int _ _]) H0 rfl rfl rfl) rfl rfl ?_
  rintro _ w2 ⟨b1, rfl, H3⟩
  refine ry (y_asg rfl rfl) rfl rfl ?_
  refine reg_nil ?_
  refine fn_next ?_
  refine cw_seq ?_
  refine cw_reg ?_
  refine reg_op (op_lit (parts := []) (vs := []) (cs := []) H3 rfl Tryz.underlying47 kfref7q_1 rfl trivial rfl rfl) rfl rfl ?_
  rintro _ w5 ⟨b4, rfl, H6⟩
  have H7 := H6.asrow (m := 0) (size := 4) rfl (by decide)
  refine ry (y_asg rfl rfl) rfl rfl ?_
  refine reg_nil ?_
  refine fn_next ?_
  refine cw_seq ?_
  refine cw_seq ?_
  refine cw_reg ?_
  refine ry (y_asg rfl rfl) rfl rfl ?_
  refine reg_nil ?_
  refine fn_next ?_
  refine cw_block ?_
  refine cw_loopJ [3, 4, 5, 6, 7, 9, 10, 11, 12, 13, 14, 15, 16, 17, 18, 19, 20, 21, 22, 23, 24, 25, 26, 27, 28, 29, 30, 31, 32, 33, 34, 35, 36, 37] (fun M wl ml => ∃ (y : Nat) (A : Option Addr) (cap : Nat), M = [(3, .slice A (allL ⟨x0, y0, x1, y1⟩ y).length cap), (4, .int .i64 (y : Int))] ∧ HS w wl [.row A (allL ⟨x0, y0, x1, y1⟩ y).length cap (rcells (allL ⟨x0, y0, x1, y1⟩ y)) 54 4, .blk b1 [.int .i64 x0, .int .i64 y0, .int .i64 x1, .int .i64 y1] 54] ∧ (y ≤ 64) ∧ ml = 65 - y) ⟨0, _, _, rfl, H7, by omega, rfl⟩ ⟨rfl, rfl, trivial⟩ ?_
  rintro M w8 m10 ⟨y, A, cap, rfl, H9, hp0, rfl⟩
  have hl1 := allL_len ⟨x0, y0, x1, y1⟩ y
  refine cw_seq ?_
  refine cw_seq ?_
  refine cw_reg ?_
  refine ry (y_mov rfl rfl) rfl rfl ?_
  refine ry (y_lss rfl rfl rfl) rfl rfl ?_
  refine reg_nil ?_
  refine fn_next ?_
  refine cw_condd rfl (fun h11 => ?_) (fun h11 => ?_)
  · skip
    refine cw_skip ?_
    refine fn_next ?_
    refine cw_seq ?_
    refine cw_block ?_
    refine cw_seq ?_
    refine cw_reg ?_
    refine ry (y_asg rfl rfl) rfl rfl ?_
    refine reg_nil ?_
    refine fn_next ?_
    refine cw_block ?_
    have happ : allL ⟨x0, y0, x1, y1⟩ y = allL ⟨x0, y0, x1, y1⟩ y ++ rowL ⟨x0, y0, x1, y1⟩ y 0 := by simp [rowL]
    rw [happ] at H9
    refine cw_loopJ [3, 5, 6, 7, 13, 14, 15, 16, 17, 18, 19, 20, 21, 22, 23, 24, 25, 26, 27, 28, 29, 30, 31, 32, 33, 34, 35, 36, 37] (fun M wl ml => ∃ (x : Nat) (A : Option Addr) (cap : Nat), M = [(3, .slice A (allL ⟨x0, y0, x1, y1⟩ y ++ rowL ⟨x0, y0, x1, y1⟩ y x).length cap), (5, .int .i64 (x : Int))] ∧ HS w wl [.row A (allL ⟨x0, y0, x1, y1⟩ y ++ rowL ⟨x0, y0, x1, y1⟩ y x).length cap (rcells (allL ⟨x0, y0, x1, y1⟩ y ++ rowL ⟨x0, y0, x1, y1⟩ y x)) 54 4, .blk b1 [.int .i64 x0, .int .i64 y0, .int .i64 x1, .int .i64 y1] 54] ∧ (x ≤ 64) ∧ ml = 65 - x) ⟨0, _, _, rfl, H9, by omega, rfl⟩ ⟨by rw [← happ]; rfl, rfl, trivial⟩ ?_
    rintro M w12 m14 ⟨x, A2, cap2, rfl, H13, hp0, rfl⟩
    have hl2 := rowL_len ⟨x0, y0, x1, y1⟩ y x
    have hl3 : (allL ⟨x0, y0, x1, y1⟩ y ++ rowL ⟨x0, y0, x1, y1⟩ y x).length = (allL ⟨x0, y0, x1, y1⟩ y).length + (rowL ⟨x0, y0, x1, y1⟩ y x).length := List.length_append
    refine cw_seq ?_
    refine cw_seq ?_
    refine cw_reg ?_
    refine ry (y_mov rfl rfl) rfl rfl ?_
    refine ry (y_lss rfl rfl rfl) rfl rfl ?_
    refine reg_nil ?_
    refine fn_next ?_
    refine cw_condd rfl (fun h15 => ?_) (fun h15 => ?_)
    · skip
      refine cw_skip ?_
      refine fn_next ?_
      refine cw_seq ?_
      refine cw_block ?_
      refine cw_seq ?_
      refine cw_reg ?_
      refine ry (y_ldb (i := 1) (cs := [_, _, _, _]) H13 rfl rfl kfref7q_2 rfl rfl) rfl rfl ?_
      refine ry (y_mov rfl rfl) rfl rfl ?_
      refine ry (y_mul rfl rfl rfl (wi (by omega))) rfl rfl ?_
      refine ry (y_mov rfl rfl) rfl rfl ?_
      refine ry (y_mul rfl rfl rfl (wi (by omega))) rfl rfl ?_
      refine ry (y_mov rfl rfl) rfl rfl ?_
      refine ry (y_mul rfl rfl rfl (wi (by omega))) rfl rfl ?_
      refine ry (y_add rfl rfl rfl (wi (by omega))) rfl rfl ?_
      refine ry (y_mov rfl rfl) rfl rfl ?_
      refine ry (y_mul rfl rfl rfl (wi (by omega))) rfl rfl ?_
      refine ry (y_add rfl rfl rfl (wi (by omega))) rfl rfl ?_
      refine ry (y_build (places := [(0, 1), (1, 1), (2, 1), (3, 1)]) (parts := [(0, _), (1, _), (2, _), (3, _)]) (vs := [(0, _), (1, _), (2, _), (3, _)]) (cs := [.int _ _, .int _ _, .int _ _, .int _ _]) rfl Tryz.underlying54 (by kernel_rfl) kfref7q_3 rfl ⟨rfl, rfl, rfl, rfl, trivial⟩ rfl) rfl rfl ?_
      refine reg_op (op_call (ret_old (refMeet_any x0 y0 x1 y1 (16 * (x : Int)) (16 * (y : Int)) (16 * (x : Int) + 15) (16 * (y : Int) + 15) _)) rfl kfref7q_4 ⟨rfl, rfl, trivial⟩) rfl rfl ?_
      rintro _ w17 ⟨rfl, e16⟩
      have H18 := H13.ext e16
      refine ry (y_mov rfl rfl) rfl rfl ?_
      refine ry (y_ext rfl rfl rfl) rfl rfl ?_
      refine ry (y_ext rfl rfl rfl) rfl rfl ?_
      refine reg_op (op_alloc H18 rfl kfref7q_3) rfl rfl ?_
      rintro _ w20 ⟨b19, rfl, H21⟩
      refine reg_op (op_st (i := 0) (vs := [.int _ _, .int _ _, .int _ _, .int _ _]) H21 rfl rfl rfl rfl rfl kfref7q_5 rfl rfl rfl) rfl rfl ?_
      rintro _ w22 H23
      refine ry (y_asg rfl rfl) rfl rfl ?_
      refine reg_nil ?_
      refine fn_next ?_
      refine cw_seq ?_
      refine cw_reg ?_
      refine ry (y_mov rfl rfl) rfl rfl ?_
      refine reg_nil ?_
      refine fn_next ?_
      refine cw_cond rfl (fun h24 => ?_) (fun h24 => ?_)
      · skip
        have hm : meetOk ⟨x0, y0, x1, y1⟩ (tileS x y) := of_decide_eq_true h24
        have hrow : rowL ⟨x0, y0, x1, y1⟩ y (x + 1) = rowL ⟨x0, y0, x1, y1⟩ y x ++ [meetR ⟨x0, y0, x1, y1⟩ (tileS x y)] := by simp only [rowL, if_pos hm]
        have hmv : meetV ⟨x0, y0, x1, y1⟩ ⟨16 * (x : Int), 16 * (y : Int), 16 * (x : Int) + 15, 16 * (y : Int) + 15⟩ = meetR ⟨x0, y0, x1, y1⟩ (tileS x y) := meetV_yes hm
        rw [hmv] at H23
        refine cw_reg ?_
        refine ry (y_mov rfl rfl) rfl rfl ?_
        refine ry (y_ldb (i := 0) (cs := [_, _, _, _]) H23 rfl rfl kfref7q_2 rfl rfl) rfl rfl ?_
        refine reg_op (op_lit (parts := [(0, _)]) (vs := [(0, _)]) (cs := [.int _ _, .int _ _, .int _ _, .int _ _]) H23 rfl Tryz.underlying47 kfref7q_1 rfl ⟨rfl, trivial⟩ rfl rfl) rfl rfl ?_
        rintro _ w26 ⟨b25, rfl, H27⟩
        have H28 := H27.asrow (m := 1) (size := 4) rfl (by decide)
        refine reg_op (op_app (i := 2) H28 rfl rfl rfl rfl (H28.rd (i := 0) rfl) (rfl) (rfl) Tryz.underlying47 kfref7q_6 rfl rfl (by unfold maxLen; omega) (by omega)) rfl rfl ?_
        rintro _ w31 ⟨A29, c30, rfl, H32⟩
        refine ry (y_asg rfl rfl) rfl rfl ?_
        refine reg_nil ?_
        refine fn_block ?_
        refine fn_next ?_
        refine cw_reg ?_
        refine ry (y_mov rfl rfl) rfl rfl ?_
        refine ry (y_add rfl rfl rfl (wi (by omega))) rfl rfl ?_
        refine ry (y_asg rfl rfl) rfl rfl ?_
        refine reg_nil ?_
        have hle : (allL ⟨x0, y0, x1, y1⟩ y ++ rowL ⟨x0, y0, x1, y1⟩ y x).length + 1 = (allL ⟨x0, y0, x1, y1⟩ y ++ rowL ⟨x0, y0, x1, y1⟩ y (x + 1)).length := by rw [hrow, ← List.append_assoc, List.length_append (bs := [_])]; rfl
        rw [hle, rc_push (r := meetR ⟨x0, y0, x1, y1⟩ (tileS x y)), List.append_assoc, ← hrow] at H32
        refine fn_roundJ ⟨x + 1, _, _, rfl, (H32.pick [2, 3] rfl (by decide)), by omega, rfl⟩ ⟨by rw [← hle]; rfl, rfl, trivial⟩ (by omega) (by repeat (first | exact kp_refl | refine kp_app rfl rfl ?_ | refine kp_cons rfl ?_)) rfl
      · skip
        have hm : ¬ meetOk ⟨x0, y0, x1, y1⟩ (tileS x y) := of_decide_eq_false h24
        have hrow : rowL ⟨x0, y0, x1, y1⟩ y (x + 1) = rowL ⟨x0, y0, x1, y1⟩ y x := by simp only [rowL, if_neg hm, List.append_nil]
        refine cw_skip ?_
        refine fn_block ?_
        refine fn_next ?_
        refine cw_reg ?_
        refine ry (y_mov rfl rfl) rfl rfl ?_
        refine ry (y_add rfl rfl rfl (wi (by omega))) rfl rfl ?_
        refine ry (y_asg rfl rfl) rfl rfl ?_
        refine reg_nil ?_
        rw [← hrow] at H23
        refine fn_roundJ ⟨x + 1, _, _, rfl, (H23.pick [1, 2] rfl (by decide)), by omega, rfl⟩ ⟨by rw [hrow]; rfl, rfl, trivial⟩ (by omega) (by repeat (first | exact kp_refl | refine kp_app rfl rfl ?_ | refine kp_cons rfl ?_)) rfl
    · skip
      obtain rfl : x = 64 := by omega
      refine cw_exit ?_
      refine fn_then_exit (fn_then_exit (fn_block_exit ?_))
      refine fn_block ?_
      refine fn_next ?_
      refine cw_reg ?_
      refine ry (y_mov rfl rfl) rfl rfl ?_
      refine ry (y_add rfl rfl rfl (wi (by omega))) rfl rfl ?_
      refine ry (y_asg rfl rfl) rfl rfl ?_
      refine reg_nil ?_
      refine fn_roundJ ⟨y + 1, _, _, rfl, H13, by omega, rfl⟩ ⟨rfl, rfl, trivial⟩ (by omega) (by repeat (first | exact kp_refl | refine kp_app rfl rfl ?_ | refine kp_cons rfl ?_)) rfl
  · skip
    obtain rfl : y = 64 := by omega
    refine cw_exit ?_
    refine fn_then_exit (fn_then_exit (fn_block_exit ?_))
    refine fn_next ?_
    refine cw_seq ?_
    refine cw_reg ?_
    refine ry (y_mov rfl rfl) rfl rfl ?_
    refine ry (y_asg rfl rfl) rfl rfl ?_
    refine reg_nil ?_
    refine fn_next ?_
    refine cw_ret ?_
    refine fn_ret1 rfl rfl ?_
    rw [allL_eq] at H9 ⊢
    exact ⟨_, _, rfl, H9.pick [0] rfl (by decide)⟩

end Go.Proofs.YtbnjbgcadkdljaaGreatDoor
