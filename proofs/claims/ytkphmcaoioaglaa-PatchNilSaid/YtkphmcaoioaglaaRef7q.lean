/- Layer 7: Pieces. -/
import Derived.Test.YtkphmcaoioaglaaK7
import Derived.Test.YtkphmcaoioaglaaPlain7
import Derived.Test.YtkphmcaoioaglaaRef7b
set_option linter.unusedVariables false
set_option linter.unusedSimpArgs false
namespace Go.Proofs.Ytkphmcaoioaglaa
open Go Go.RowKit
theorem kfref7q_1 : (Try.prog.info? 24).map (fun i => (i.size, i.zero.map Value.cells)) = some (4, some (List.toArray [(.int .i64 0), (.int .i64 0), (.int .i64 0), (.int .i64 0)])) := by kernel_rfl
theorem kfref7q_2 : aggB Try.prog 24 4 = true := by kernel_rfl
theorem kfref7q_3 : (Try.prog.info? 24).bind (fun i => i.zero.map Value.cells) = some (List.toArray [(.int .i64 0), (.int .i64 0), (.int .i64 0), (.int .i64 0)]) := by kernel_rfl
theorem kfref7q_4 : callB Try.prog 122 = true := by kernel_rfl
theorem kfref7q_5 : szB Try.prog 24 4 = true := by kernel_rfl
theorem kfref7q_6 : (Try.prog.info? 24).map (fun i => (i.zero.map (·.cells.toList), i.size, i.bytes)) = some (some [(.int .i64 0), (.int .i64 0), (.int .i64 0), (.int .i64 0)], 4, 32) := by kernel_rfl
theorem kfref7q_7 : seqB Try.prog 24 4 = true := by kernel_rfl
theorem kfref7q_8 : elB Try.prog 88 4 = true := by kernel_rfl
/-! lists of rectangles as cells -/
def rc (r : Rt) : List Value := [.int .i64 r.x0, .int .i64 r.y0, .int .i64 r.x1, .int .i64 r.y1]
def rn (l : List Rt) (i : Nat) : Rt := l.getD i ⟨0, 0, 0, 0⟩
theorem rcells_cons (r : Rt) (l : List Rt) : rcells (r :: l) = rc r ++ rcells l := by simp [rcells, rc]
theorem rcells_len (l : List Rt) : (rcells l).length = l.length * 4 := by
  induction l with
  | nil => rfl
  | cons r l ih => rw [rcells_cons, List.length_append, ih, List.length_cons]; simp [rc]; omega
theorem rc_part {l : List Rt} {i : Nat} (h : i < l.length) : ∀ j v, (rc (rn l i))[j]? = some v → (rcells l)[i * 4 + j]? = some v := by
  induction l generalizing i with
  | nil => simp at h
  | cons r l ih =>
    intro j v hv
    have hj : j < 4 := (List.getElem?_eq_some_iff.1 hv).1
    rw [rcells_cons]
    cases i with
    | zero =>
      rw [Nat.zero_mul, Nat.zero_add, List.getElem?_append_left (by simpa [rc] using hj)]
      exact hv
    | succ i =>
      have : (i + 1) * 4 + j = (rc r).length + (i * 4 + j) := by simp [rc]; omega
      rw [this, List.getElem?_append_right (by omega), Nat.add_sub_cancel_left]
      exact ih (by simpa using h) j v hv
theorem rc_get {l : List Rt} {i : Nat} (h : i < l.length) : (rcells l)[i * 4]? = some (.int .i64 (rn l i).x0) := rc_part h 0 _ rfl
theorem rn_lt {l : List Rt} {i : Nat} (h : i < l.length) : rn l i = l[i] := by simp [rn, List.getD, h]
theorem take_succ_rn {l : List Rt} {i : Nat} (h : i < l.length) : l.take (i + 1) = l.take i ++ [rn l i] := by
  rw [List.take_add_one, List.getElem?_eq_getElem h, rn_lt h]; rfl
theorem rc_push {l : List Rt} {r : Rt} : rcells l ++ [.int .i64 r.x0, .int .i64 r.y0, .int .i64 r.x1, .int .i64 r.y1] = rcells (l ++ [r]) := (rcells_snoc l r).symm
/-- what an elder contract says -/
theorem ret_old {P : Program} {f : FuncId} {args : List Value} {w : World} {v : Value} {Q : World → Prop} (h : Calls P f args.toArray w fun r w' => r = .returned v ∧ Q w') : Ret P f args w (fun u w' => u = v ∧ Q w') :=
  Calls.mono h fun e w' ⟨he, hq⟩ => ⟨v, he, rfl, hq⟩
theorem hs_of_own {w w' : World} {v : Value} {l : List Rt} (h : OwnRects w.heap.size w' v l) (hb : Below w.heap.size w w') : ∃ A cap, v = .slice A l.length cap ∧ HS w w' [.row A l.length cap (rcells l) 24 4] := by
  obtain ⟨A, cap, rfl, _, _⟩ := own_form h
  exact ⟨A, cap, rfl, ⟨hb, (fun o ho => by
    cases ho with
    | head => exact own_of h
    | tail _ h => cases h), List.pairwise_singleton _ _⟩⟩
theorem pieces_ret (x0 y0 x1 y1 : Int) (w : World) : Ret Try.prog 93 [.agg #[.int .i64 x0, .int .i64 y0, .int .i64 x1, .int .i64 y1]] w (fun v w' => ∃ A cap, v = .slice A (piecesL ⟨x0, y0, x1, y1⟩).length cap ∧ HS w w' [.row A (piecesL ⟨x0, y0, x1, y1⟩).length cap (rcells (piecesL ⟨x0, y0, x1, y1⟩)) 24 4]) :=
  Calls.mono (pieces_any x0 y0 x1 y1 w) fun e w' ⟨v, he, ho, hb⟩ => ⟨v, he, hs_of_own ho hb⟩
/-! sums over pieces -/
theorem sumF_snoc (f : Rt → Int) (l : List Rt) (r : Rt) : sumF f (l ++ [r]) = sumF f l + f r := by rw [sumF_app]; simp [sumF]
theorem sumF_bd (f : Rt → Int) (m : Int) (hm : 0 ≤ m) : ∀ l : List Rt, (∀ r ∈ l, 0 ≤ f r ∧ f r ≤ m) → 0 ≤ sumF f l ∧ sumF f l ≤ m * l.length
  | [], _ => by simp [sumF]
  | r :: l, h => by
    have h1 := h r List.mem_cons_self
    have h2 := sumF_bd f m hm l (fun x hx => h x (List.mem_cons_of_mem _ hx))
    simp only [sumF, List.length_cons]
    rw [Int.natCast_add, Int.mul_add]
    omega
/-- a piece is right, and lies in one tile -/
def PieceOk (p : Rt) : Prop := p.right ∧ p.x0 / 16 = p.x1 / 16 ∧ p.y0 / 16 = p.y1 / 16
theorem pieceAt_ok {r : Rt} (hr : r.right) {j k : Nat} (hj : j < tilesOf r.x0 r.x1) (hk : k < tilesOf r.y0 r.y1) : PieceOk (pieceAt r (floorI r.y0 + 16 * (k : Int)) (floorI r.x0 + 16 * (j : Int))) := by
  obtain ⟨a1, a2, a3, b1, b2, b3⟩ := hr
  have h1 := (tiles_lt a1 a2 j).2 hj
  have h2 := (tiles_lt b1 b2 k).2 hk
  unfold PieceOk Rt.right RightP pieceAt
  simp only [mx_eq, mn_eq]
  unfold floorI at *
  omega
theorem pieces_ok (r : Rt) : ∀ p ∈ piecesL r, PieceOk p := by
  intro p hp
  unfold piecesL at hp
  split at hp
  · rename_i hr
    have key : ∀ K : Nat, K ≤ tilesOf r.y0 r.y1 → p ∈ pieceRows r (tilesOf r.x0 r.x1) K → PieceOk p := by
      intro K
      induction K with
      | zero => intro _ h; simp [pieceRows] at h
      | succ K ih =>
        intro hK h
        simp only [pieceRows] at h
        rcases List.mem_append.1 h with h | h
        · exact ih (by omega) h
        · unfold pieceRow at h
          obtain ⟨j, hj, rfl⟩ := List.mem_map.1 h
          exact pieceAt_ok hr (by simpa using hj) (by omega)
    exact key _ (Nat.le_refl _) hp
  · cases hp
theorem pieces_len (r : Rt) : (piecesL r).length ≤ 4096 := by rw [← allL_eq]; exact allL_len r 64
theorem area_ok {p : Rt} (h : PieceOk p) : areaI p.x0 p.y0 p.x1 p.y1 = areaS p ∧ 0 ≤ areaS p ∧ areaS p ≤ 1048576 := by
  obtain ⟨hr, _⟩ := h
  have hr' : RightP p.x0 p.y0 p.x1 p.y1 := hr
  refine ⟨by unfold areaI areaS; rw [if_pos hr'], ?_⟩
  obtain ⟨a1, a2, a3, b1, b2, b3⟩ := hr
  exact area_bd (by omega) (by omega) (by omega) (by omega)
theorem has_ok {p : Rt} {x y : Int} (h : PieceOk p) : hasB p.x0 p.y0 p.x1 p.y1 x y = decide (inS x y p = 1) := by
  have hr : rightB p.x0 p.y0 p.x1 p.y1 = true := (rightB_iff _ _ _ _).2 h.1
  unfold hasB inS
  rw [hr]
  by_cases h0 : p.x0 ≤ x ∧ x ≤ p.x1 ∧ p.y0 ≤ y ∧ y ≤ p.y1
  · rw [if_pos h0]; simp [h0]
  · rw [if_neg h0]
    simp
    intro a b c
    omega
theorem inS_bd (x y : Int) (p : Rt) : 0 ≤ inS x y p ∧ inS x y p ≤ 1 := by unfold inS; split <;> omega
theorem law_area (r : Rt) : sumF areaS (piecesL r) = areaI r.x0 r.y0 r.x1 r.y1 := by
  unfold piecesL areaI
  by_cases hr : r.right
  · have hr' : RightP r.x0 r.y0 r.x1 r.y1 := hr
    rw [if_pos hr, if_pos hr', pieces_area hr.1 hr.2.1 hr.2.2.2.1 hr.2.2.2.2.1]; rfl
  · have hr' : ¬ RightP r.x0 r.y0 r.x1 r.y1 := hr
    rw [if_neg hr, if_neg hr']; rfl
theorem law_has (r : Rt) (x y : Int) : (decide (sumF (inS x y) (piecesL r) = 1) = hasB r.x0 r.y0 r.x1 r.y1 x y) ∧ sumF (inS x y) (piecesL r) < 2 := by
  unfold piecesL
  by_cases hr : r.right
  · rw [if_pos hr, pieces_has hr.1 hr.2.1 hr.2.2.2.1 hr.2.2.2.2.1]
    have hR : rightB r.x0 r.y0 r.x1 r.y1 = true := (rightB_iff _ _ _ _).2 hr
    have := inS_bd x y r
    refine ⟨?_, by omega⟩
    unfold hasB inS
    rw [hR]
    by_cases h0 : r.x0 ≤ x ∧ x ≤ r.x1 ∧ r.y0 ≤ y ∧ y ≤ r.y1
    · rw [if_pos h0]; simp [h0]
    · rw [if_neg h0]
      simp
      intro a b c
      omega
  · rw [if_neg hr]
    have hR : rightB r.x0 r.y0 r.x1 r.y1 = false := (rightB_not _ _ _ _).2 hr
    unfold hasB
    rw [hR]
    simp [sumF]

set_option maxRecDepth 100000 in
theorem refPieces_any (x0 y0 x1 y1 : Int) (w : World) :
    Ret Try.prog 98 [.agg #[.int .i64 x0, .int .i64 y0, .int .i64 x1, .int .i64 y1]] w (fun v w' => ∃ A cap, v = .slice A (piecesL ⟨x0, y0, x1, y1⟩).length cap ∧ HS w w' [.row A (piecesL ⟨x0, y0, x1, y1⟩).length cap (rcells (piecesL ⟨x0, y0, x1, y1⟩)) 24 4]) := by
  refine ret_enter Try.func98 rfl rfl rfl ?_
  have H0 := HS.start w
  refine cw_seq ?_
  refine cw_reg ?_
  refine reg_op (op_box (cs := [.int _ _, .int _ _, .int _ _, .int _ _]) H0 rfl rfl rfl) rfl rfl ?_
  rintro _ w2 ⟨b1, rfl, H3⟩
  refine ry (y_asg rfl rfl) rfl rfl ?_
  refine reg_nil ?_
  refine fn_next ?_
  refine cw_seq ?_
  refine cw_reg ?_
  refine reg_op (op_lit (parts := []) (vs := []) (cs := []) H3 rfl Try.underlying88 kfref7q_1 rfl trivial rfl rfl) rfl rfl ?_
  rintro _ w5 ⟨b4, rfl, H6⟩
  have H7 := H6.asrow (m := 0) (size := 4) rfl (by decide)
  refine ry (y_asg rfl rfl) rfl rfl ?_
  refine reg_nil ?_
  refine fn_next ?_
  refine cw_seq ?_
  refine cw_seq ?_
  refine cw_reg ?_
  refine ry (y_asg rfl rfl) rfl rfl ?_
  refine reg_nil ?_
  refine fn_next ?_
  refine cw_block ?_
  refine cw_loopJ [3, 4, 5, 6, 7, 9, 10, 11, 12, 13, 14, 15, 16, 17, 18, 19, 20, 21, 22, 23, 24, 25, 26, 27, 28, 29, 30, 31, 32, 33, 34, 35, 36, 37] (fun M wl ml => ∃ (y : Nat) (A : Option Addr) (cap : Nat), M = [(3, .slice A (allL ⟨x0, y0, x1, y1⟩ y).length cap), (4, .int .i64 (y : Int))] ∧ HS w wl [.row A (allL ⟨x0, y0, x1, y1⟩ y).length cap (rcells (allL ⟨x0, y0, x1, y1⟩ y)) 24 4, .blk b1 [.int .i64 x0, .int .i64 y0, .int .i64 x1, .int .i64 y1] 24] ∧ (y ≤ 64) ∧ ml = 65 - y) ⟨0, _, _, rfl, H7, by omega, rfl⟩ ⟨rfl, rfl, trivial⟩ ?_
  rintro M w8 m10 ⟨y, A, cap, rfl, H9, hp0, rfl⟩
  have hl1 := allL_len ⟨x0, y0, x1, y1⟩ y
  refine cw_seq ?_
  refine cw_seq ?_
  refine cw_reg ?_
  refine ry (y_mov rfl rfl) rfl rfl ?_
  refine ry (y_lss rfl rfl rfl) rfl rfl ?_
  refine reg_nil ?_
  refine fn_next ?_
  refine cw_condd rfl (fun h11 => ?_) (fun h11 => ?_)
  · skip
    refine cw_skip ?_
    refine fn_next ?_
    refine cw_seq ?_
    refine cw_block ?_
    refine cw_seq ?_
    refine cw_reg ?_
    refine ry (y_asg rfl rfl) rfl rfl ?_
    refine reg_nil ?_
    refine fn_next ?_
    refine cw_block ?_
    have happ : allL ⟨x0, y0, x1, y1⟩ y = allL ⟨x0, y0, x1, y1⟩ y ++ rowL ⟨x0, y0, x1, y1⟩ y 0 := by simp [rowL]
    rw [happ] at H9
    refine cw_loopJ [3, 5, 6, 7, 13, 14, 15, 16, 17, 18, 19, 20, 21, 22, 23, 24, 25, 26, 27, 28, 29, 30, 31, 32, 33, 34, 35, 36, 37] (fun M wl ml => ∃ (x : Nat) (A : Option Addr) (cap : Nat), M = [(3, .slice A (allL ⟨x0, y0, x1, y1⟩ y ++ rowL ⟨x0, y0, x1, y1⟩ y x).length cap), (5, .int .i64 (x : Int))] ∧ HS w wl [.row A (allL ⟨x0, y0, x1, y1⟩ y ++ rowL ⟨x0, y0, x1, y1⟩ y x).length cap (rcells (allL ⟨x0, y0, x1, y1⟩ y ++ rowL ⟨x0, y0, x1, y1⟩ y x)) 24 4, .blk b1 [.int .i64 x0, .int .i64 y0, .int .i64 x1, .int .i64 y1] 24] ∧ (x ≤ 64) ∧ ml = 65 - x) ⟨0, _, _, rfl, H9, by omega, rfl⟩ ⟨by rw [← happ]; rfl, rfl, trivial⟩ ?_
    rintro M w12 m14 ⟨x, A2, cap2, rfl, H13, hp0, rfl⟩
    have hl2 := rowL_len ⟨x0, y0, x1, y1⟩ y x
    have hl3 : (allL ⟨x0, y0, x1, y1⟩ y ++ rowL ⟨x0, y0, x1, y1⟩ y x).length = (allL ⟨x0, y0, x1, y1⟩ y).length + (rowL ⟨x0, y0, x1, y1⟩ y x).length := List.length_append
    refine cw_seq ?_
    refine cw_seq ?_
    refine cw_reg ?_
    refine ry (y_mov rfl rfl) rfl rfl ?_
    refine ry (y_lss rfl rfl rfl) rfl rfl ?_
    refine reg_nil ?_
    refine fn_next ?_
    refine cw_condd rfl (fun h15 => ?_) (fun h15 => ?_)
    · skip
      refine cw_skip ?_
      refine fn_next ?_
      refine cw_seq ?_
      refine cw_block ?_
      refine cw_seq ?_
      refine cw_reg ?_
      refine ry (y_ldb (i := 1) (cs := [_, _, _, _]) H13 rfl rfl kfref7q_2 rfl rfl) rfl rfl ?_
      refine ry (y_mov rfl rfl) rfl rfl ?_
      refine ry (y_mul rfl rfl rfl (wi (by omega))) rfl rfl ?_
      refine ry (y_mov rfl rfl) rfl rfl ?_
      refine ry (y_mul rfl rfl rfl (wi (by omega))) rfl rfl ?_
      refine ry (y_mov rfl rfl) rfl rfl ?_
      refine ry (y_mul rfl rfl rfl (wi (by omega))) rfl rfl ?_
      refine ry (y_add rfl rfl rfl (wi (by omega))) rfl rfl ?_
      refine ry (y_mov rfl rfl) rfl rfl ?_
      refine ry (y_mul rfl rfl rfl (wi (by omega))) rfl rfl ?_
      refine ry (y_add rfl rfl rfl (wi (by omega))) rfl rfl ?_
      refine ry (y_build (places := [(0, 1), (1, 1), (2, 1), (3, 1)]) (parts := [(0, _), (1, _), (2, _), (3, _)]) (vs := [(0, _), (1, _), (2, _), (3, _)]) (cs := [.int _ _, .int _ _, .int _ _, .int _ _]) rfl Try.underlying24 (by kernel_rfl) kfref7q_3 rfl ⟨rfl, rfl, rfl, rfl, trivial⟩ rfl) rfl rfl ?_
      refine reg_op (op_call (ret_old (refMeet_any x0 y0 x1 y1 (16 * (x : Int)) (16 * (y : Int)) (16 * (x : Int) + 15) (16 * (y : Int) + 15) _)) rfl kfref7q_4 ⟨rfl, rfl, trivial⟩) rfl rfl ?_
      rintro _ w17 ⟨rfl, e16⟩
      have H18 := H13.ext e16
      refine ry (y_mov rfl rfl) rfl rfl ?_
      refine ry (y_ext rfl rfl rfl) rfl rfl ?_
      refine ry (y_ext rfl rfl rfl) rfl rfl ?_
      refine reg_op (op_alloc H18 rfl kfref7q_3) rfl rfl ?_
      rintro _ w20 ⟨b19, rfl, H21⟩
      refine reg_op (op_st (i := 0) (vs := [.int _ _, .int _ _, .int _ _, .int _ _]) H21 rfl rfl rfl rfl rfl kfref7q_5 rfl rfl rfl) rfl rfl ?_
      rintro _ w22 H23
      refine ry (y_asg rfl rfl) rfl rfl ?_
      refine reg_nil ?_
      refine fn_next ?_
      refine cw_seq ?_
      refine cw_reg ?_
      refine ry (y_mov rfl rfl) rfl rfl ?_
      refine reg_nil ?_
      refine fn_next ?_
      refine cw_cond rfl (fun h24 => ?_) (fun h24 => ?_)
      · skip
        have hm : meetOk ⟨x0, y0, x1, y1⟩ (tileS x y) := of_decide_eq_true h24
        have hrow : rowL ⟨x0, y0, x1, y1⟩ y (x + 1) = rowL ⟨x0, y0, x1, y1⟩ y x ++ [meetR ⟨x0, y0, x1, y1⟩ (tileS x y)] := by simp only [rowL, if_pos hm]
        have hmv : meetV ⟨x0, y0, x1, y1⟩ ⟨16 * (x : Int), 16 * (y : Int), 16 * (x : Int) + 15, 16 * (y : Int) + 15⟩ = meetR ⟨x0, y0, x1, y1⟩ (tileS x y) := meetV_yes hm
        rw [hmv] at H23
        refine cw_reg ?_
        refine ry (y_mov rfl rfl) rfl rfl ?_
        refine ry (y_ldb (i := 0) (cs := [_, _, _, _]) H23 rfl rfl kfref7q_2 rfl rfl) rfl rfl ?_
        refine reg_op (op_lit (parts := [(0, _)]) (vs := [(0, _)]) (cs := [.int _ _, .int _ _, .int _ _, .int _ _]) H23 rfl Try.underlying88 kfref7q_1 rfl ⟨rfl, trivial⟩ rfl rfl) rfl rfl ?_
        rintro _ w26 ⟨b25, rfl, H27⟩
        have H28 := H27.asrow (m := 1) (size := 4) rfl (by decide)
        refine reg_op (op_app (i := 2) H28 rfl rfl rfl rfl (H28.rd (i := 0) rfl) (rfl) (rfl) Try.underlying88 kfref7q_6 rfl rfl (by unfold maxLen; omega) (by omega)) rfl rfl ?_
        rintro _ w31 ⟨A29, c30, rfl, H32⟩
        refine ry (y_asg rfl rfl) rfl rfl ?_
        refine reg_nil ?_
        refine fn_block ?_
        refine fn_next ?_
        refine cw_reg ?_
        refine ry (y_mov rfl rfl) rfl rfl ?_
        refine ry (y_add rfl rfl rfl (wi (by omega))) rfl rfl ?_
        refine ry (y_asg rfl rfl) rfl rfl ?_
        refine reg_nil ?_
        have hle : (allL ⟨x0, y0, x1, y1⟩ y ++ rowL ⟨x0, y0, x1, y1⟩ y x).length + 1 = (allL ⟨x0, y0, x1, y1⟩ y ++ rowL ⟨x0, y0, x1, y1⟩ y (x + 1)).length := by rw [hrow, ← List.append_assoc, List.length_append (bs := [_])]; rfl
        rw [hle, rc_push (r := meetR ⟨x0, y0, x1, y1⟩ (tileS x y)), List.append_assoc, ← hrow] at H32
        refine fn_roundJ ⟨x + 1, _, _, rfl, (H32.pick [2, 3] rfl (by decide)), by omega, rfl⟩ ⟨by rw [← hle]; rfl, rfl, trivial⟩ (by omega) (by repeat (first | exact kp_refl | refine kp_app rfl rfl ?_ | refine kp_cons rfl ?_)) rfl
      · skip
        have hm : ¬ meetOk ⟨x0, y0, x1, y1⟩ (tileS x y) := of_decide_eq_false h24
        have hrow : rowL ⟨x0, y0, x1, y1⟩ y (x + 1) = rowL ⟨x0, y0, x1, y1⟩ y x := by simp only [rowL, if_neg hm, List.append_nil]
        refine cw_skip ?_
        refine fn_block ?_
        refine fn_next ?_
        refine cw_reg ?_
        refine ry (y_mov rfl rfl) rfl rfl ?_
        refine ry (y_add rfl rfl rfl (wi (by omega))) rfl rfl ?_
        refine ry (y_asg rfl rfl) rfl rfl ?_
        refine reg_nil ?_
        rw [← hrow] at H23
        refine fn_roundJ ⟨x + 1, _, _, rfl, (H23.pick [1, 2] rfl (by decide)), by omega, rfl⟩ ⟨by rw [hrow]; rfl, rfl, trivial⟩ (by omega) (by repeat (first | exact kp_refl | refine kp_app rfl rfl ?_ | refine kp_cons rfl ?_)) rfl
    · skip
      obtain rfl : x = 64 := by omega
      refine cw_exit ?_
      refine fn_then_exit (fn_then_exit (fn_block_exit ?_))
      refine fn_block ?_
      refine fn_next ?_
      refine cw_reg ?_
      refine ry (y_mov rfl rfl) rfl rfl ?_
      refine ry (y_add rfl rfl rfl (wi (by omega))) rfl rfl ?_
      refine ry (y_asg rfl rfl) rfl rfl ?_
      refine reg_nil ?_
      refine fn_roundJ ⟨y + 1, _, _, rfl, H13, by omega, rfl⟩ ⟨rfl, rfl, trivial⟩ (by omega) (by repeat (first | exact kp_refl | refine kp_app rfl rfl ?_ | refine kp_cons rfl ?_)) rfl
  · skip
    obtain rfl : y = 64 := by omega
    refine cw_exit ?_
    refine fn_then_exit (fn_then_exit (fn_block_exit ?_))
    refine fn_next ?_
    refine cw_seq ?_
    refine cw_reg ?_
    refine ry (y_mov rfl rfl) rfl rfl ?_
    refine ry (y_asg rfl rfl) rfl rfl ?_
    refine reg_nil ?_
    refine fn_next ?_
    refine cw_ret ?_
    refine fn_ret1 rfl rfl ?_
    rw [allL_eq] at H9 ⊢
    exact ⟨_, _, rfl, H9.pick [0] rfl (by decide)⟩

set_option maxRecDepth 100000 in
theorem SameRects_same (A A' : Option Addr) (c c' : Nat) (l : List Rt) (w : World) (h : Rd w A (rcells l)) (h2 : Rd w A' (rcells l)) (hl : l.length ≤ 100000) :
    Ret Try.prog 53 [.slice A l.length c, .slice A' l.length c'] w (fun v w' => v = .bool true ∧ Below w.heap.size w w') := by
  refine ret_enter Try.func53 rfl rfl rfl ?_
  have H0 := HS.start w
  refine cw_seq ?_
  refine cw_reg ?_
  refine ry (y_asg rfl rfl) rfl rfl ?_
  refine reg_nil ?_
  refine fn_next ?_
  refine cw_seq ?_
  refine cw_seq ?_
  refine cw_reg ?_
  refine ry (y_mov rfl rfl) rfl rfl ?_
  refine ry (y_len rfl Try.underlying88 rfl) rfl rfl ?_
  refine ry (y_mov rfl rfl) rfl rfl ?_
  refine ry (y_len rfl Try.underlying88 rfl) rfl rfl ?_
  refine ry (y_neq rfl rfl rfl) rfl rfl ?_
  refine reg_nil ?_
  refine fn_next ?_
  refine cw_condd rfl (fun h1 => ?_) (fun h1 => ?_)
  · exfalso; omega
  · skip
    refine cw_skip ?_
    refine fn_next ?_
    refine cw_seq ?_
    refine cw_seq ?_
    refine cw_reg ?_
    refine ry (y_asg rfl rfl) rfl rfl ?_
    refine reg_nil ?_
    refine fn_next ?_
    refine cw_block ?_
    refine cw_loopJ [4, 5, 11, 12, 13, 14, 15, 16, 17, 18, 19, 20, 21, 22, 23, 24, 25] (fun M wl ml => ∃ (i : Nat), M = [(5, .int .i64 (i : Int))] ∧ HS w wl [] ∧ (i ≤ l.length) ∧ ml = l.length - i) ⟨0, rfl, H0, Nat.zero_le _, rfl⟩ ⟨rfl, trivial⟩ ?_
    rintro M w2 m4 ⟨i, rfl, H3, hp0, rfl⟩
    refine cw_seq ?_
    refine cw_seq ?_
    refine cw_reg ?_
    refine ry (y_mov rfl rfl) rfl rfl ?_
    refine ry (y_mov rfl rfl) rfl rfl ?_
    refine ry (y_len rfl Try.underlying88 rfl) rfl rfl ?_
    refine ry (y_lss rfl rfl rfl) rfl rfl ?_
    refine reg_nil ?_
    refine fn_next ?_
    refine cw_condd rfl (fun h5 => ?_) (fun h5 => ?_)
    · skip
      have hge := rc_get (l := l) (i := i) (by omega)
      have hpa := rc_part (l := l) (i := i) (by omega)
      refine cw_skip ?_
      refine fn_next ?_
      refine cw_seq ?_
      refine cw_block ?_
      refine cw_seq ?_
      refine cw_draw H3 [0, 1, 2, 3, 4, 5, 6, 7, 8] [] (fun X HX => HX) (by kernel_rfl) (by kernel_rfl) (by rfl) ?_
      simp only [pick, List.getElem?_cons_succ, List.getElem?_cons_zero]
      refine hk_y (fun Y HY => y_mov rfl rfl) rfl rfl ?_
      refine hk_y (fun Y HY => y_mov rfl rfl) rfl rfl ?_
      refine hk_y (fun Y HY => y_iar (h.below HY.base) rfl rfl rfl kfref7q_8 (rfl) (by omega) (rfl) (hge)) rfl rfl ?_
      refine hk_y (fun Y HY => y_ldra (cs := [_, _, _, _]) (h.below HY.base) rfl rfl kfref7q_2 rfl (by decide) (hpa)) rfl rfl ?_
      refine hk_y (fun Y HY => y_mov rfl rfl) rfl rfl ?_
      refine hk_y (fun Y HY => y_mov rfl rfl) rfl rfl ?_
      refine hk_y (fun Y HY => y_iar (h2.below HY.base) rfl rfl rfl kfref7q_8 (rfl) (by omega) (rfl) (hge)) rfl rfl ?_
      refine hk_y (fun Y HY => y_ldra (cs := [_, _, _, _]) (h2.below HY.base) rfl rfl kfref7q_2 rfl (by decide) (hpa)) rfl rfl ?_
      refine hk_y (fun Y HY => y_seq (ks := [.i64, .i64, .i64, .i64]) (a := [(rn l i).x0, (rn l i).y0, (rn l i).x1, (rn l i).y1]) (b := [(rn l i).x0, (rn l i).y0, (rn l i).x1, (rn l i).y1]) rfl (.inr ⟨rfl, rfl⟩) kfref7q_7 rfl rfl rfl rfl rfl rfl rfl) rfl rfl ?_
      refine hk_nil ?_
      intro w6 H7
      refine tv_nil ?_
      refine fn_next ?_
      refine cw_condd rfl (fun h8 => ?_) (fun h8 => ?_)
      · exact absurd rfl h8
      · skip
        refine cw_skip ?_
        refine fn_block ?_
        refine fn_next ?_
        refine cw_reg ?_
        refine ry (y_mov rfl rfl) rfl rfl ?_
        refine ry (y_add rfl rfl rfl (wi (by omega))) rfl rfl ?_
        refine ry (y_asg rfl rfl) rfl rfl ?_
        refine reg_nil ?_
        refine fn_roundJ ⟨i + 1, rfl, H7, by omega, rfl⟩ ⟨rfl, trivial⟩ (by omega) (by repeat (first | exact kp_refl | refine kp_app rfl rfl ?_ | refine kp_cons rfl ?_)) rfl
    · skip
      refine cw_exit ?_
      refine fn_then_exit (fn_then_exit (fn_block_exit ?_))
      refine fn_next ?_
      refine cw_seq ?_
      refine cw_reg ?_
      refine ry (y_asg rfl rfl) rfl rfl ?_
      refine reg_nil ?_
      refine fn_next ?_
      refine cw_ret ?_
      refine fn_ret1 rfl rfl ?_
      exact ⟨rfl, H3.base⟩

end Go.Proofs.Ytkphmcaoioaglaa
