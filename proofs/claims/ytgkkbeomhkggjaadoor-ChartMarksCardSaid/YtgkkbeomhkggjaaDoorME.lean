/- Texts as one: Ref7, Ref7b, Ref7q. -/
import Derived.Test.YtgkkbeomhkggjaaDoorMD
import Derived.Deep.DeepCutAuto
import Derived.Test.YtgkkbeomhkggjaaDoorMC
set_option linter.unusedVariables false
set_option linter.unusedSimpArgs false
namespace Go.Proofs.YtgkkbeomhkggjaaDoor
open Go.RowKit

end Go.Proofs.YtgkkbeomhkggjaaDoor

namespace Go.Proofs.YtgkkbeomhkggjaaDoor
open Go.RowKit
theorem mx_pos {a b : Int} (h : a < b) : mx a b = b := if_pos h
theorem mx_neg {a b : Int} (h : b ≤ a) : mx a b = a := if_neg (by omega)
theorem mn_pos {a b : Int} (h : b < a) : mn a b = b := if_pos h
theorem mn_neg {a b : Int} (h : a ≤ b) : mn a b = a := if_neg (by omega)
/-- A store of what is there changes nothing. -/
theorem setCell_same {w : World} {a : Addr} {v : Value} (h : w.cell? a = some v) : w.setCell a v = w := by
  unfold World.cell? at h
  unfold World.setCell
  have : w.heap.modify a.block (fun | .cells c elem frozen => .cells (if a.spot.isSome then c else c.setIfInBounds a.off v) elem frozen | o => o) = w.heap := by
    apply Array.ext_getElem?
    intro i
    rw [Array.getElem?_modify]
    by_cases e : a.block = i
    · subst e
      rw [if_pos rfl]
      cases hh : w.heap[a.block]? with
      | none => rfl
      | some o =>
        rw [hh] at h
        cases o with
        | cells c el fr =>
          simp only [Option.map_some]
          by_cases hs : a.spot.isSome
          · simp [hs]
          · simp only [hs] at h ⊢
            simp only [if_false, Bool.false_eq_true] at h ⊢
            congr 2
            apply Array.ext_getElem?
            intro j
            rw [Array.getElem?_setIfInBounds]
            by_cases ej : a.off = j
            · subst ej
              rw [if_pos rfl, if_pos (by rw [Array.getElem?_eq_some_iff] at h; exact h.1), h]
            · rw [if_neg ej]
        | _ => rfl
    · rw [if_neg e]
  exact congrArg (fun hp : Array Obj => ({ w with heap := hp } : World)) this

end Go.Proofs.YtgkkbeomhkggjaaDoor

namespace Go.Proofs.YtgkkbeomhkggjaaDoor
open Go Go.RowKit
theorem kfref7q_1 : (Tryd.prog.info? 90).map (fun i => (i.size, i.zero.map Value.cells)) = some (4, some (List.toArray [(.int .i64 0), (.int .i64 0), (.int .i64 0), (.int .i64 0)])) := by kernel_rfl
theorem kfref7q_2 : aggB Tryd.prog 90 4 = true := by kernel_rfl
theorem kfref7q_3 : (Tryd.prog.info? 90).bind (fun i => i.zero.map Value.cells) = some (List.toArray [(.int .i64 0), (.int .i64 0), (.int .i64 0), (.int .i64 0)]) := by kernel_rfl
theorem kfref7q_5 : szB Tryd.prog 90 4 = true := by kernel_rfl
theorem kfref7q_6 : (Tryd.prog.info? 90).map (fun i => (i.zero.map (·.cells.toList), i.size, i.bytes)) = some (some [(.int .i64 0), (.int .i64 0), (.int .i64 0), (.int .i64 0)], 4, 32) := by kernel_rfl
theorem kfref7q_7 : seqB Tryd.prog 90 4 = true := by kernel_rfl
theorem kfref7q_8 : elB Tryd.prog 108 4 = true := by kernel_rfl
/-! lists of rectangles as cells -/
def rc (r : Rt) : List Value := [.int .i64 r.x0, .int .i64 r.y0, .int .i64 r.x1, .int .i64 r.y1]
def rn (l : List Rt) (i : Nat) : Rt := l.getD i ⟨0, 0, 0, 0⟩
theorem rcells_cons (r : Rt) (l : List Rt) : rcells (r :: l) = rc r ++ rcells l := by simp [rcells, rc]
theorem rcells_len (l : List Rt) : (rcells l).length = l.length * 4 := by
  induction l with
  | nil => rfl
  | cons r l ih => rw [rcells_cons, List.length_append, ih, List.length_cons]; simp [rc]; omega
theorem rc_part {l : List Rt} {i : Nat} (h : i < l.length) : ∀ j v, (rc (rn l i))[j]? = some v → (rcells l)[i * 4 + j]? = some v := by
  induction l generalizing i with
  | nil => simp at h
  | cons r l ih =>
    intro j v hv
    have hj : j < 4 := (List.getElem?_eq_some_iff.1 hv).1
    rw [rcells_cons]
    cases i with
    | zero =>
      rw [Nat.zero_mul, Nat.zero_add, List.getElem?_append_left (by simpa [rc] using hj)]
      exact hv
    | succ i =>
      have : (i + 1) * 4 + j = (rc r).length + (i * 4 + j) := by simp [rc]; omega
      rw [this, List.getElem?_append_right (by omega), Nat.add_sub_cancel_left]
      exact ih (by simpa using h) j v hv
theorem rc_get {l : List Rt} {i : Nat} (h : i < l.length) : (rcells l)[i * 4]? = some (.int .i64 (rn l i).x0) := rc_part h 0 _ rfl
theorem rn_lt {l : List Rt} {i : Nat} (h : i < l.length) : rn l i = l[i] := by simp [rn, List.getD, h]
theorem take_succ_rn {l : List Rt} {i : Nat} (h : i < l.length) : l.take (i + 1) = l.take i ++ [rn l i] := by
  rw [List.take_add_one, List.getElem?_eq_getElem h, rn_lt h]; rfl
theorem rc_push {l : List Rt} {r : Rt} : rcells l ++ [.int .i64 r.x0, .int .i64 r.y0, .int .i64 r.x1, .int .i64 r.y1] = rcells (l ++ [r]) := (rcells_snoc l r).symm
/-- what an elder contract says -/
theorem ret_old {P : Program} {f : FuncId} {args : List Value} {w : World} {v : Value} {Q : World → Prop} (h : Calls P f args.toArray w fun r w' => r = .returned v ∧ Q w') : Ret P f args w (fun u w' => u = v ∧ Q w') :=
  Calls.mono h fun e w' ⟨he, hq⟩ => ⟨v, he, rfl, hq⟩
theorem hs_of_own {w w' : World} {v : Value} {l : List Rt} (h : OwnRects w.heap.size w' v l) (hb : Below w.heap.size w w') : ∃ A cap, v = .slice A l.length cap ∧ HS w w' [.row A l.length cap (rcells l) 90 4] := by
  obtain ⟨A, cap, rfl, _, _⟩ := own_form h
  exact ⟨A, cap, rfl, ⟨hb, (fun o ho => by
    cases ho with
    | head => exact own_of h
    | tail _ h => cases h), List.pairwise_singleton _ _⟩⟩
theorem pieces_ret (x0 y0 x1 y1 : Int) (w : World) : Ret Tryd.prog 50 [.agg #[.int .i64 x0, .int .i64 y0, .int .i64 x1, .int .i64 y1]] w (fun v w' => ∃ A cap, v = .slice A (piecesL ⟨x0, y0, x1, y1⟩).length cap ∧ HS w w' [.row A (piecesL ⟨x0, y0, x1, y1⟩).length cap (rcells (piecesL ⟨x0, y0, x1, y1⟩)) 90 4]) :=
  Calls.mono (pieces_any x0 y0 x1 y1 w) fun e w' ⟨v, he, ho, hb⟩ => ⟨v, he, hs_of_own ho hb⟩
/-! sums over pieces -/
theorem sumF_snoc (f : Rt → Int) (l : List Rt) (r : Rt) : sumF f (l ++ [r]) = sumF f l + f r := by rw [sumF_app]; simp [sumF]
theorem sumF_bd (f : Rt → Int) (m : Int) (hm : 0 ≤ m) : ∀ l : List Rt, (∀ r ∈ l, 0 ≤ f r ∧ f r ≤ m) → 0 ≤ sumF f l ∧ sumF f l ≤ m * l.length
  | [], _ => by simp [sumF]
  | r :: l, h => by
    have h1 := h r List.mem_cons_self
    have h2 := sumF_bd f m hm l (fun x hx => h x (List.mem_cons_of_mem _ hx))
    simp only [sumF, List.length_cons]
    rw [Int.natCast_add, Int.mul_add]
    omega
/-- a piece is right, and lies in one tile -/
def PieceOk (p : Rt) : Prop := p.right ∧ p.x0 / 16 = p.x1 / 16 ∧ p.y0 / 16 = p.y1 / 16
theorem pieceAt_ok {r : Rt} (hr : r.right) {j k : Nat} (hj : j < tilesOf r.x0 r.x1) (hk : k < tilesOf r.y0 r.y1) : PieceOk (pieceAt r (floorI r.y0 + 16 * (k : Int)) (floorI r.x0 + 16 * (j : Int))) := by
  obtain ⟨a1, a2, a3, b1, b2, b3⟩ := hr
  have h1 := (tiles_lt a1 a2 j).2 hj
  have h2 := (tiles_lt b1 b2 k).2 hk
  unfold PieceOk Rt.right RightP pieceAt
  simp only [mx_eq, mn_eq]
  unfold floorI at *
  omega
theorem pieces_ok (r : Rt) : ∀ p ∈ piecesL r, PieceOk p := by
  intro p hp
  unfold piecesL at hp
  split at hp
  · rename_i hr
    have key : ∀ K : Nat, K ≤ tilesOf r.y0 r.y1 → p ∈ pieceRows r (tilesOf r.x0 r.x1) K → PieceOk p := by
      intro K
      induction K with
      | zero => intro _ h; simp [pieceRows] at h
      | succ K ih =>
        intro hK h
        simp only [pieceRows] at h
        rcases List.mem_append.1 h with h | h
        · exact ih (by omega) h
        · unfold pieceRow at h
          obtain ⟨j, hj, rfl⟩ := List.mem_map.1 h
          exact pieceAt_ok hr (by simpa using hj) (by omega)
    exact key _ (Nat.le_refl _) hp
  · cases hp
theorem pieces_len (r : Rt) : (piecesL r).length ≤ 4096 := by rw [← allL_eq]; exact allL_len r 64
theorem area_ok {p : Rt} (h : PieceOk p) : areaI p.x0 p.y0 p.x1 p.y1 = areaS p ∧ 0 ≤ areaS p ∧ areaS p ≤ 1048576 := by
  obtain ⟨hr, _⟩ := h
  have hr' : RightP p.x0 p.y0 p.x1 p.y1 := hr
  refine ⟨by unfold areaI areaS; rw [if_pos hr'], ?_⟩
  obtain ⟨a1, a2, a3, b1, b2, b3⟩ := hr
  exact area_bd (by omega) (by omega) (by omega) (by omega)
theorem has_ok {p : Rt} {x y : Int} (h : PieceOk p) : hasB p.x0 p.y0 p.x1 p.y1 x y = decide (inS x y p = 1) := by
  have hr : rightB p.x0 p.y0 p.x1 p.y1 = true := (rightB_iff _ _ _ _).2 h.1
  unfold hasB inS
  rw [hr]
  by_cases h0 : p.x0 ≤ x ∧ x ≤ p.x1 ∧ p.y0 ≤ y ∧ y ≤ p.y1
  · rw [if_pos h0]; simp [h0]
  · rw [if_neg h0]
    simp
    intro a b c
    omega
theorem inS_bd (x y : Int) (p : Rt) : 0 ≤ inS x y p ∧ inS x y p ≤ 1 := by unfold inS; split <;> omega
theorem law_area (r : Rt) : sumF areaS (piecesL r) = areaI r.x0 r.y0 r.x1 r.y1 := by
  unfold piecesL areaI
  by_cases hr : r.right
  · have hr' : RightP r.x0 r.y0 r.x1 r.y1 := hr
    rw [if_pos hr, if_pos hr', pieces_area hr.1 hr.2.1 hr.2.2.2.1 hr.2.2.2.2.1]; rfl
  · have hr' : ¬ RightP r.x0 r.y0 r.x1 r.y1 := hr
    rw [if_neg hr, if_neg hr']; rfl
theorem law_has (r : Rt) (x y : Int) : (decide (sumF (inS x y) (piecesL r) = 1) = hasB r.x0 r.y0 r.x1 r.y1 x y) ∧ sumF (inS x y) (piecesL r) < 2 := by
  unfold piecesL
  by_cases hr : r.right
  · rw [if_pos hr, pieces_has hr.1 hr.2.1 hr.2.2.2.1 hr.2.2.2.2.1]
    have hR : rightB r.x0 r.y0 r.x1 r.y1 = true := (rightB_iff _ _ _ _).2 hr
    have := inS_bd x y r
    refine ⟨?_, by omega⟩
    unfold hasB inS
    rw [hR]
    by_cases h0 : r.x0 ≤ x ∧ x ≤ r.x1 ∧ r.y0 ≤ y ∧ y ≤ r.y1
    · rw [if_pos h0]; simp [h0]
    · rw [if_neg h0]
      simp
      intro a b c
      omega
  · rw [if_neg hr]
    have hR : rightB r.x0 r.y0 r.x1 r.y1 = false := (rightB_not _ _ _ _).2 hr
    unfold hasB
    rw [hR]
    simp [sumF]

end Go.Proofs.YtgkkbeomhkggjaaDoor
