/- The reference of layer 7: Meet, Hull. -/
import Derived.Test.YtkphmcaoioaglaaRef7
import Derived.Deep.DeepCutAuto
set_option linter.unusedVariables false
set_option linter.unusedSimpArgs false
namespace Go.Proofs.Ytkphmcaoioaglaa
open Go.RowKit
theorem mx_pos {a b : Int} (h : a < b) : mx a b = b := if_pos h
theorem mx_neg {a b : Int} (h : b ≤ a) : mx a b = a := if_neg (by omega)
theorem mn_pos {a b : Int} (h : b < a) : mn a b = b := if_pos h
theorem mn_neg {a b : Int} (h : a ≤ b) : mn a b = a := if_neg (by omega)
/-- A store of what is there changes nothing. -/
theorem setCell_same {w : World} {a : Addr} {v : Value} (h : w.cell? a = some v) : w.setCell a v = w := by
  unfold World.cell? at h
  unfold World.setCell
  have : w.heap.modify a.block (fun | .cells c elem frozen => .cells (if a.spot.isSome then c else c.setIfInBounds a.off v) elem frozen | o => o) = w.heap := by
    apply Array.ext_getElem?
    intro i
    rw [Array.getElem?_modify]
    by_cases e : a.block = i
    · subst e
      rw [if_pos rfl]
      cases hh : w.heap[a.block]? with
      | none => rfl
      | some o =>
        rw [hh] at h
        cases o with
        | cells c el fr =>
          simp only [Option.map_some]
          by_cases hs : a.spot.isSome
          · simp [hs]
          · simp only [hs] at h ⊢
            simp only [if_false, Bool.false_eq_true] at h ⊢
            congr 2
            apply Array.ext_getElem?
            intro j
            rw [Array.getElem?_setIfInBounds]
            by_cases ej : a.off = j
            · subst ej
              rw [if_pos rfl, if_pos (by rw [Array.getElem?_eq_some_iff] at h; exact h.1), h]
            · rw [if_neg ej]
        | _ => rfl
    · rw [if_neg e]
  exact congrArg (fun hp : Array Obj => ({ w with heap := hp } : World)) this

set_option maxHeartbeats 4000000 in
theorem refMeet_both (ax0 ay0 ax1 ay1 bx0 by0 bx1 by1 : Int) (w : World) (ha : Rt.right ⟨ax0, ay0, ax1, ay1⟩) (hb : Rt.right ⟨bx0, by0, bx1, by1⟩) :
    Calls Try.prog 122 #[.agg #[.int .i64 ax0, .int .i64 ay0, .int .i64 ax1, .int .i64 ay1], .agg #[.int .i64 bx0, .int .i64 by0, .int .i64 bx1, .int .i64 by1]] w fun r w' => r = .returned (.tuple #[.agg #[.int .i64 (meetV ⟨ax0, ay0, ax1, ay1⟩ ⟨bx0, by0, bx1, by1⟩).x0, .int .i64 (meetV ⟨ax0, ay0, ax1, ay1⟩ ⟨bx0, by0, bx1, by1⟩).y0, .int .i64 (meetV ⟨ax0, ay0, ax1, ay1⟩ ⟨bx0, by0, bx1, by1⟩).x1, .int .i64 (meetV ⟨ax0, ay0, ax1, ay1⟩ ⟨bx0, by0, bx1, by1⟩).y1], .bool (meetB ⟨ax0, ay0, ax1, ay1⟩ ⟨bx0, by0, bx1, by1⟩)]) ∧ Below w.heap.size w w' := by
  have hA : rightB ax0 ay0 ax1 ay1 = true := (rightB_iff _ _ _ _).2 ha
  have hB : rightB bx0 by0 bx1 by1 = true := (rightB_iff _ _ _ _).2 hb
  go_enter Try.func122, Try.ntmps122
  go_wp2_with fail
  refine (refRight_any _ _ _ _ _).mono ?_
  rintro e W1 ⟨rfl, h1b⟩
  obtain ⟨h1c, h1f, h1l⟩ := rules h1b (Nat.le_refl _); have h1z0 := h1l (w.heap.size) (by first | (simp; done) | assumption | (simp; omega)); have h1z1 := h1l (w.heap.size + 1) (by first | (simp; done) | assumption | (simp; omega)); have h1z2 := h1l (w.heap.size + 1 + 1) (by first | (simp; done) | assumption | (simp; omega))
  clear h1l
  go_wp2_with fail
  refine (refRight_any _ _ _ _ _).mono ?_
  rintro e W2 ⟨rfl, h2b⟩
  obtain ⟨h2c, h2f, h2l⟩ := rules h2b (Nat.le_refl _); have h2z0 := h2l (w.heap.size) (by first | (simp; done) | assumption | (simp; omega)); have h2z1 := h2l (w.heap.size + 1) (by first | (simp; done) | assumption | (simp; omega)); have h2z2 := h2l (w.heap.size + 1 + 1) (by first | (simp; done) | assumption | (simp; omega))
  clear h2l
  go_upto_if 19 with fail
  go_cut [] (fun wc => wc = (W2.setCell ⟨w.heap.size, 0, none⟩ (.int .i64 (mx ax0 bx0))))
  case first =>
    go_wp2_with fail
    all_goals go_meet
    · rw [mx_pos (a := ax0) (b := bx0) (by assumption)]
    · rw [mx_neg (a := ax0) (b := bx0) (by assumption)]; exact (setCell_same (by simp [go_sem, *])).symm
  obtain rfl := hcut
  go_upto_if 27 with fail
  go_cut [] (fun wc => wc = ((W2.setCell ⟨w.heap.size, 0, none⟩ (.int .i64 (mx ax0 bx0))).setCell ⟨w.heap.size, 1, none⟩ (.int .i64 (mx ay0 by0))))
  case first =>
    go_wp2_with fail
    all_goals go_meet
    · rw [mx_pos (a := ay0) (b := by0) (by assumption)]
    · rw [mx_neg (a := ay0) (b := by0) (by assumption)]; exact (setCell_same (by simp [go_sem, *])).symm
  obtain rfl := hcut
  go_upto_if 35 with fail
  go_cut [] (fun wc => wc = (((W2.setCell ⟨w.heap.size, 0, none⟩ (.int .i64 (mx ax0 bx0))).setCell ⟨w.heap.size, 1, none⟩ (.int .i64 (mx ay0 by0))).setCell ⟨w.heap.size, 2, none⟩ (.int .i64 (mn ax1 bx1))))
  case first =>
    go_wp2_with fail
    all_goals go_meet
    · rw [mn_pos (a := ax1) (b := bx1) (by assumption)]
    · rw [mn_neg (a := ax1) (b := bx1) (by assumption)]; exact (setCell_same (by simp [go_sem, *])).symm
  obtain rfl := hcut
  go_upto_if 43 with fail
  go_cut [] (fun wc => wc = ((((W2.setCell ⟨w.heap.size, 0, none⟩ (.int .i64 (mx ax0 bx0))).setCell ⟨w.heap.size, 1, none⟩ (.int .i64 (mx ay0 by0))).setCell ⟨w.heap.size, 2, none⟩ (.int .i64 (mn ax1 bx1))).setCell ⟨w.heap.size, 3, none⟩ (.int .i64 (mn ay1 by1))))
  case first =>
    go_wp2_with fail
    all_goals go_meet
    · rw [mn_pos (a := ay1) (b := by1) (by assumption)]
    · rw [mn_neg (a := ay1) (b := by1) (by assumption)]; exact (setCell_same (by simp [go_sem, *])).symm
  obtain rfl := hcut
  by_cases c0 : mn ax1 bx1 < mx ax0 bx0
  · have no : ¬ meetOk ⟨ax0, ay0, ax1, ay1⟩ ⟨bx0, by0, bx1, by1⟩ := fun h => by have h1 := h.2.2.2.1; simp only [meetR] at h1; omega
    go_wp2
    exact bodyPost_ret (v := .tuple #[.agg #[.int .i64 0, .int .i64 0, .int .i64 0, .int .i64 0], .bool false]) (by simp [results, Try.results122, go_sem, *]) rfl ⟨by rw [meetV_no no, meetB_no no], (by repeat (first | with_reducible exact Below.refl _ _ | with_reducible assumption | with_reducible refine below_alloc ?_ _ | with_reducible refine below_draw ?_ | ((with_reducible apply bset); (focus (first | exact Nat.le_refl _ | (simp; done) | (simp; omega)))) | ((with_reducible apply bcall); assumption; (focus (first | exact Nat.le_refl _ | (simp; done) | (simp; omega))))))⟩
  · by_cases c1 : mn ay1 by1 < mx ay0 by0
    · have no : ¬ meetOk ⟨ax0, ay0, ax1, ay1⟩ ⟨bx0, by0, bx1, by1⟩ := fun h => by have h1 := h.2.2.2.2.2.2.1; simp only [meetR] at h1; omega
      go_wp2
      exact bodyPost_ret (v := .tuple #[.agg #[.int .i64 0, .int .i64 0, .int .i64 0, .int .i64 0], .bool false]) (by simp [results, Try.results122, go_sem, *]) rfl ⟨by rw [meetV_no no, meetB_no no], (by repeat (first | with_reducible exact Below.refl _ _ | with_reducible assumption | with_reducible refine below_alloc ?_ _ | with_reducible refine below_draw ?_ | ((with_reducible apply bset); (focus (first | exact Nat.le_refl _ | (simp; done) | (simp; omega)))) | ((with_reducible apply bcall); assumption; (focus (first | exact Nat.le_refl _ | (simp; done) | (simp; omega))))))⟩
    · have hm : meetOk ⟨ax0, ay0, ax1, ay1⟩ ⟨bx0, by0, bx1, by1⟩ := by
        refine ⟨ha, hb, ?_⟩
        obtain ⟨_, _, _, _, _, _⟩ := ha
        obtain ⟨_, _, _, _, _, _⟩ := hb
        simp only [meetR, Rt.right, RightP, mx_eq, mn_eq] at *
        omega
      go_wp2
      exact bodyPost_ret (v := .tuple #[.agg #[.int .i64 (mx ax0 bx0), .int .i64 (mx ay0 by0), .int .i64 (mn ax1 bx1), .int .i64 (mn ay1 by1)], .bool true]) (by simp [results, Try.results122, go_sem, *]) rfl ⟨by rw [meetV_yes hm, meetB_yes hm]; rfl, (by repeat (first | with_reducible exact Below.refl _ _ | with_reducible assumption | with_reducible refine below_alloc ?_ _ | with_reducible refine below_draw ?_ | ((with_reducible apply bset); (focus (first | exact Nat.le_refl _ | (simp; done) | (simp; omega)))) | ((with_reducible apply bcall); assumption; (focus (first | exact Nat.le_refl _ | (simp; done) | (simp; omega))))))⟩

set_option maxHeartbeats 1000000 in
theorem refMeet_any (ax0 ay0 ax1 ay1 bx0 by0 bx1 by1 : Int) (w : World) :
    Calls Try.prog 122 #[.agg #[.int .i64 ax0, .int .i64 ay0, .int .i64 ax1, .int .i64 ay1], .agg #[.int .i64 bx0, .int .i64 by0, .int .i64 bx1, .int .i64 by1]] w fun r w' => r = .returned (.tuple #[.agg #[.int .i64 (meetV ⟨ax0, ay0, ax1, ay1⟩ ⟨bx0, by0, bx1, by1⟩).x0, .int .i64 (meetV ⟨ax0, ay0, ax1, ay1⟩ ⟨bx0, by0, bx1, by1⟩).y0, .int .i64 (meetV ⟨ax0, ay0, ax1, ay1⟩ ⟨bx0, by0, bx1, by1⟩).x1, .int .i64 (meetV ⟨ax0, ay0, ax1, ay1⟩ ⟨bx0, by0, bx1, by1⟩).y1], .bool (meetB ⟨ax0, ay0, ax1, ay1⟩ ⟨bx0, by0, bx1, by1⟩)]) ∧ Below w.heap.size w w' := by
  by_cases ha : Rt.right ⟨ax0, ay0, ax1, ay1⟩
  · by_cases hb : Rt.right ⟨bx0, by0, bx1, by1⟩
    · exact refMeet_both _ _ _ _ _ _ _ _ w ha hb
    · have hA : rightB ax0 ay0 ax1 ay1 = true := (rightB_iff _ _ _ _).2 ha
      have hB : rightB bx0 by0 bx1 by1 = false := (rightB_not _ _ _ _).2 hb
      rw [meetV_no (fun h => hb h.2.1), meetB_no (fun h => hb h.2.1)]
      clear ha hb
      go_enter Try.func122, Try.ntmps122
      go_wp2_with (go_at_call 127; refine (refRight_any _ _ _ _ _).mono ?_; rintro e w' ⟨rfl, hb⟩; obtain ⟨hc, hf, hl⟩ := rules hb (Nat.le_refl _); have hz0 := hl (w.heap.size) (by first | (simp; done) | assumption | (simp; omega)); have hz1 := hl (w.heap.size + 1) (by first | (simp; done) | assumption | (simp; omega)); have hz2 := hl (w.heap.size + 1 + 1) (by first | (simp; done) | assumption | (simp; omega)); clear hl)
      exact bodyPost_ret (v := .tuple #[.agg #[.int .i64 0, .int .i64 0, .int .i64 0, .int .i64 0], .bool false]) (by simp [results, Try.results122, go_sem, *]) rfl ⟨rfl, (by repeat (first | with_reducible exact Below.refl _ _ | with_reducible assumption | with_reducible refine below_alloc ?_ _ | with_reducible refine below_draw ?_ | ((with_reducible apply bset); (focus (first | exact Nat.le_refl _ | (simp; done) | (simp; omega)))) | ((with_reducible apply bcall); assumption; (focus (first | exact Nat.le_refl _ | (simp; done) | (simp; omega))))))⟩
  · have hA : rightB ax0 ay0 ax1 ay1 = false := (rightB_not _ _ _ _).2 ha
    rw [meetV_no (fun h => ha h.1), meetB_no (fun h => ha h.1)]
    clear ha
    go_enter Try.func122, Try.ntmps122
    go_wp2_with (go_at_call 127; refine (refRight_any _ _ _ _ _).mono ?_; rintro e w' ⟨rfl, hb⟩; obtain ⟨hc, hf, hl⟩ := rules hb (Nat.le_refl _); have hz0 := hl (w.heap.size) (by first | (simp; done) | assumption | (simp; omega)); have hz1 := hl (w.heap.size + 1) (by first | (simp; done) | assumption | (simp; omega)); have hz2 := hl (w.heap.size + 1 + 1) (by first | (simp; done) | assumption | (simp; omega)); clear hl)
    exact bodyPost_ret (v := .tuple #[.agg #[.int .i64 0, .int .i64 0, .int .i64 0, .int .i64 0], .bool false]) (by simp [results, Try.results122, go_sem, *]) rfl ⟨rfl, (by repeat (first | with_reducible exact Below.refl _ _ | with_reducible assumption | with_reducible refine below_alloc ?_ _ | with_reducible refine below_draw ?_ | ((with_reducible apply bset); (focus (first | exact Nat.le_refl _ | (simp; done) | (simp; omega)))) | ((with_reducible apply bcall); assumption; (focus (first | exact Nat.le_refl _ | (simp; done) | (simp; omega))))))⟩

end Go.Proofs.Ytkphmcaoioaglaa
