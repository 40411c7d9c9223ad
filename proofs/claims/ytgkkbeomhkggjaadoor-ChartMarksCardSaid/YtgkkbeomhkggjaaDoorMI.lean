/- Texts as one: Ref9, Ref9b. -/
import Derived.Test.YtgkkbeomhkggjaaDoorGrid2
import Derived.Test.YtgkkbeomhkggjaaDoorMG
set_option linter.unusedVariables false
set_option linter.unusedSimpArgs false
namespace Go.Proofs.YtgkkbeomhkggjaaDoor
open Go Go.RowKit
theorem kfref9_1 : (Tryd.prog.info? 27).bind (fun i => i.zero.map Value.cells) = some (List.toArray [(.int .i64 0), (.int .i64 0), (.slice none 0 0)]) := by kernel_rfl
theorem kfref9_2 : szB Tryd.prog 27 3 = true := by kernel_rfl
theorem kfref9_3 : aggB Tryd.prog 27 3 = true := by kernel_rfl
theorem kfref9_4 : callB Tryd.prog 26 = true := by kernel_rfl
theorem kfref9_5 : fldB Tryd.prog 27 2 2 = true := by kernel_rfl
theorem kfref9_6 : oneB Tryd.prog 22 = true := by kernel_rfl
theorem kfref9_7 : (Tryd.prog.info? 2).map (fun i => (i.size, i.zero.map Value.cells)) = some (1, some (List.toArray [(.int .i64 0)])) := by kernel_rfl
theorem kfref9_8 : (Tryd.prog.info? 2).map (fun i => (i.zero.map (·.cells.toList), i.size, i.bytes)) = some (some [(.int .i64 0)], 1, 8) := by kernel_rfl
theorem kfref9_9 : szB Tryd.prog 22 1 = true := by kernel_rfl
theorem kfref9_11 : fldB Tryd.prog 24 0 0 = true := by kernel_rfl
theorem kfref9_12 : oneB Tryd.prog 2 = true := by kernel_rfl
theorem kfref9_13 : fldB Tryd.prog 27 0 0 = true := by kernel_rfl
theorem kfref9_14 : fldB Tryd.prog 24 1 1 = true := by kernel_rfl
theorem kfref9_15 : fldB Tryd.prog 27 1 1 = true := by kernel_rfl
theorem kfref9_16 : elB Tryd.prog 22 1 = true := by kernel_rfl
theorem kfref9_17 : (Tryd.prog.info? 90).bind (fun i => i.zero.map Value.cells) = some (List.toArray [(.int .i64 0), (.int .i64 0), (.int .i64 0), (.int .i64 0)]) := by kernel_rfl
theorem kfref9_18 : szB Tryd.prog 90 4 = true := by kernel_rfl
theorem kfref9_19 : aggB Tryd.prog 90 4 = true := by kernel_rfl
theorem kfref9_21 : fldB Tryd.prog 90 1 1 = true := by kernel_rfl
theorem kfref9_22 : fldB Tryd.prog 90 3 3 = true := by kernel_rfl
theorem kfref9_23 : fldB Tryd.prog 90 0 0 = true := by kernel_rfl
theorem kfref9_24 : fldB Tryd.prog 90 2 2 = true := by kernel_rfl
theorem kfref9_28 : elB Tryd.prog 108 4 = true := by kernel_rfl
theorem SzG.mul {a h : Nat} (s : SzG a h) : 1 ≤ a * h ∧ a * h ≤ 1048576 := by
  obtain ⟨h1, h2, h3, h4⟩ := s
  exact ⟨Nat.mul_le_mul h1 h3, Nat.mul_le_mul h2 h4⟩
theorem gnewC_sz {a h v : Int} (hs : ¬ (1 ≤ a ∧ a ≤ 1024 ∧ 1 ≤ h ∧ h ≤ 1024)) : gnewC a h v = 3 := if_neg hs
theorem gnewC_v {a h v : Int} (hs : 1 ≤ a ∧ a ≤ 1024 ∧ 1 ≤ h ∧ h ≤ 1024) (hv : ¬ B32 v) : gnewC a h v = 7 := by unfold gnewC; rw [if_pos hs, if_neg hv]
theorem gvalV_le {V : List Int} {a h : Nat} {x0 y0 x1 y1 : Int} (s : SzG a h) : (gvalV V a h x0 y0 x1 y1).length ≤ 1048576 := by
  by_cases hw : withinC x0 y0 x1 y1 a h = 0
  · obtain ⟨h1, h2, h3, h4⟩ := s
    have := within_zero (by omega) (by omega) (by omega) (by omega) hw
    unfold gvalV
    rw [if_pos hw, rvAll_len]
    exact Nat.le_trans (Nat.mul_le_mul (show (y1 - y0 + 1).toNat ≤ 1024 by omega) (show (x1 - x0 + 1).toNat ≤ 1024 by omega)) (by decide)
  · rw [gvalV_no hw]; exact Nat.zero_le _
theorem within_natG {a h : Nat} {x0 y0 x1 y1 : Int} (s : SzG a h) (hw : withinC x0 y0 x1 y1 a h = 0) : ∃ p0 q0 p1 q1 : Nat, x0 = p0 ∧ y0 = q0 ∧ x1 = p1 ∧ y1 = q1 ∧ p0 ≤ p1 ∧ p1 < a ∧ q0 ≤ q1 ∧ q1 < h := by
  obtain ⟨h1, h2, h3, h4⟩ := s
  have := within_zero (by omega) (by omega) (by omega) (by omega) hw
  exact ⟨x0.toNat, y0.toNat, x1.toNat, y1.toNat, by omega, by omega, by omega, by omega, by omega, by omega, by omega, by omega⟩
theorem within_inG {a h : Nat} {x y : Int} (s : SzG a h) (hi : 0 ≤ x ∧ x < a ∧ 0 ≤ y ∧ y < h) : withinC x y x y a h = 0 := by
  obtain ⟨s1, s2, s3, s4⟩ := s
  unfold withinC; simp only [insideB_not]
  rw [if_neg (by unfold wrap64; omega), if_neg (by omega), if_neg (by omega)]
theorem within_outG {a h : Nat} {x y : Int} (s : SzG a h) (hi : ¬ (0 ≤ x ∧ x < a ∧ 0 ≤ y ∧ y < h)) : withinC x y x y a h = 4 := by
  obtain ⟨s1, s2, s3, s4⟩ := s
  unfold withinC; simp only [insideB_not]
  rw [if_neg (by unfold wrap64; omega), if_pos (by omega)]
theorem row_bdG {a h x y : Nat} (s : SzG a h) (hx : x < a) (hy : y < h) : (y : Int) * (a : Int) = ((y * a : Nat) : Int) ∧ y * a + x < a * h ∧ a * h ≤ 1048576 := ⟨by rw [Int.natCast_mul], cell_lt hx hy, s.mul.2⟩

set_option maxRecDepth 100000 in
theorem mAt_no (a h : Nat) (A : Option Addr) (cap : Nat) (x y : Int) (V : List Int) (w : World) (p : SzG a h) (hw : ¬ withinC x y x y a h = 0) :
    Ret Tryd.prog 32 [.agg #[.int .i64 (a : Int), .int .i64 (h : Int), .slice A (a * h) cap], .agg #[.int .i64 x, .int .i64 y]] w (fun z w' => z = .tuple #[.int .i64 (gatV V a h x y), .int .i64 (withinC x y x y a h)] ∧ Below w.heap.size w w') := by
  have hc : withinC x y x y a h = 4 := within_outG p (fun hi => hw (within_inG p hi))
  refine ret_enter Tryd.func32 rfl rfl rfl ?_
  have H0 := HS.start w
  refine cw_seq ?_
  refine cw_reg ?_
  refine reg_op (op_box (cs := [.int _ _, .int _ _, .slice _ _ _]) H0 rfl rfl rfl) rfl rfl ?_
  rintro _ w2 ⟨b1, rfl, H3⟩
  refine reg_op (op_box (cs := [.int _ _, .int _ _]) H3 rfl rfl rfl) rfl rfl ?_
  rintro _ w5 ⟨b4, rfl, H6⟩
  refine ry (y_asg rfl rfl) rfl rfl ?_
  refine ry (y_asg rfl rfl) rfl rfl ?_
  refine reg_nil ?_
  refine fn_next ?_
  refine cw_seq ?_
  refine cw_seq ?_
  refine cw_reg ?_
  refine ry (y_fa rfl rfl kfref9_11 rfl) rfl rfl ?_
  refine ry (y_ld rfl rfl kfref9_12 (H6.cell (i := 0) rfl rfl)) rfl rfl ?_
  refine ry (y_lss rfl rfl rfl) rfl rfl ?_
  refine ry (y_mov rfl rfl) rfl rfl ?_
  refine rg_splitd (d := 9) rfl (fun h7 => ?_) (fun h7 => ?_)
  · skip
    refine rg_off rfl rfl rfl rfl rfl ?_
    refine rg_off rfl rfl rfl rfl rfl ?_
    refine rg_off rfl rfl rfl rfl rfl ?_
    refine rg_off rfl rfl rfl rfl rfl ?_
    refine rg_off rfl rfl rfl rfl rfl ?_
    refine ry (y_pick rfl rfl rfl) rfl rfl ?_
    refine ry (y_mov rfl rfl) rfl rfl ?_
    refine rg_off rfl rfl rfl rfl rfl ?_
    refine rg_off rfl rfl rfl rfl rfl ?_
    refine rg_off rfl rfl rfl rfl rfl ?_
    refine ry (y_pick rfl rfl rfl) rfl rfl ?_
    refine ry (y_mov rfl rfl) rfl rfl ?_
    refine rg_off rfl rfl rfl rfl rfl ?_
    refine rg_off rfl rfl rfl rfl rfl ?_
    refine rg_off rfl rfl rfl rfl rfl ?_
    refine rg_off rfl rfl rfl rfl rfl ?_
    refine rg_off rfl rfl rfl rfl rfl ?_
    refine ry (y_pick rfl rfl rfl) rfl rfl ?_
    refine reg_nil ?_
    refine fn_next ?_
    refine cw_condt rfl ?_
    refine cw_seq ?_
    refine cw_reg ?_
    refine ry (y_asg rfl rfl) rfl rfl ?_
    refine ry (y_asg rfl rfl) rfl rfl ?_
    refine reg_nil ?_
    refine fn_next ?_
    refine cw_ret ?_
    refine fn_then_ret ?_
    refine fn_retn (vs := [_, _]) rfl ⟨rfl, rfl, trivial⟩ rfl ?_
    rw [gatV_no hw, hc]
    exact ⟨rfl, H6.base⟩
  · skip
    refine rgy (y_fa rfl rfl kfref9_11 rfl) rfl rfl rfl rfl ?_
    refine rgy (y_ld rfl rfl kfref9_12 (H6.cell (i := 0) rfl rfl)) rfl rfl rfl rfl ?_
    refine rgy (y_fa rfl rfl kfref9_13 rfl) rfl rfl rfl rfl ?_
    refine rgy (y_ld rfl rfl kfref9_12 (H6.cell (i := 1) rfl rfl)) rfl rfl rfl rfl ?_
    refine rgy (y_geq rfl rfl rfl) rfl rfl rfl rfl ?_
    refine ry (y_pick rfl rfl rfl) rfl rfl ?_
    refine ry (y_mov rfl rfl) rfl rfl ?_
    refine rg_splitd (d := 16) rfl (fun h8 => ?_) (fun h8 => ?_)
    · skip
      refine rg_off rfl rfl rfl rfl rfl ?_
      refine rg_off rfl rfl rfl rfl rfl ?_
      refine rg_off rfl rfl rfl rfl rfl ?_
      refine ry (y_pick rfl rfl rfl) rfl rfl ?_
      refine ry (y_mov rfl rfl) rfl rfl ?_
      refine rg_off rfl rfl rfl rfl rfl ?_
      refine rg_off rfl rfl rfl rfl rfl ?_
      refine rg_off rfl rfl rfl rfl rfl ?_
      refine rg_off rfl rfl rfl rfl rfl ?_
      refine rg_off rfl rfl rfl rfl rfl ?_
      refine ry (y_pick rfl rfl rfl) rfl rfl ?_
      refine reg_nil ?_
      refine fn_next ?_
      refine cw_condt rfl ?_
      refine cw_seq ?_
      refine cw_reg ?_
      refine ry (y_asg rfl rfl) rfl rfl ?_
      refine ry (y_asg rfl rfl) rfl rfl ?_
      refine reg_nil ?_
      refine fn_next ?_
      refine cw_ret ?_
      refine fn_then_ret ?_
      refine fn_retn (vs := [_, _]) rfl ⟨rfl, rfl, trivial⟩ rfl ?_
      rw [gatV_no hw, hc]
      exact ⟨rfl, H6.base⟩
    · skip
      refine rgy (y_fa rfl rfl kfref9_14 rfl) rfl rfl rfl rfl ?_
      refine rgy (y_ld rfl rfl kfref9_12 (H6.cell (i := 0) rfl rfl)) rfl rfl rfl rfl ?_
      refine rgy (y_lss rfl rfl rfl) rfl rfl rfl rfl ?_
      refine ry (y_pick rfl rfl rfl) rfl rfl ?_
      refine ry (y_mov rfl rfl) rfl rfl ?_
      refine rg_splitd (d := 21) rfl (fun h9 => ?_) (fun h9 => ?_)
      · skip
        refine rg_off rfl rfl rfl rfl rfl ?_
        refine rg_off rfl rfl rfl rfl rfl ?_
        refine rg_off rfl rfl rfl rfl rfl ?_
        refine rg_off rfl rfl rfl rfl rfl ?_
        refine rg_off rfl rfl rfl rfl rfl ?_
        refine ry (y_pick rfl rfl rfl) rfl rfl ?_
        refine reg_nil ?_
        refine fn_next ?_
        refine cw_condt rfl ?_
        refine cw_seq ?_
        refine cw_reg ?_
        refine ry (y_asg rfl rfl) rfl rfl ?_
        refine ry (y_asg rfl rfl) rfl rfl ?_
        refine reg_nil ?_
        refine fn_next ?_
        refine cw_ret ?_
        refine fn_then_ret ?_
        refine fn_retn (vs := [_, _]) rfl ⟨rfl, rfl, trivial⟩ rfl ?_
        rw [gatV_no hw, hc]
        exact ⟨rfl, H6.base⟩
      · skip
        refine rgy (y_fa rfl rfl kfref9_14 rfl) rfl rfl rfl rfl ?_
        refine rgy (y_ld rfl rfl kfref9_12 (H6.cell (i := 0) rfl rfl)) rfl rfl rfl rfl ?_
        refine rgy (y_fa rfl rfl kfref9_15 rfl) rfl rfl rfl rfl ?_
        refine rgy (y_ld rfl rfl kfref9_12 (H6.cell (i := 1) rfl rfl)) rfl rfl rfl rfl ?_
        refine rgy (y_geq rfl rfl rfl) rfl rfl rfl rfl ?_
        refine ry (y_pick rfl rfl rfl) rfl rfl ?_
        refine reg_nil ?_
        refine fn_next ?_
        refine cw_condd rfl (fun h10 => ?_) (fun h10 => ?_)
        · skip
          refine cw_seq ?_
          refine cw_reg ?_
          refine ry (y_asg rfl rfl) rfl rfl ?_
          refine ry (y_asg rfl rfl) rfl rfl ?_
          refine reg_nil ?_
          refine fn_next ?_
          refine cw_ret ?_
          refine fn_then_ret ?_
          refine fn_retn (vs := [_, _]) rfl ⟨rfl, rfl, trivial⟩ rfl ?_
          rw [gatV_no hw, hc]
          exact ⟨rfl, H6.base⟩
        · exact absurd (within_inG p (by omega)) hw

set_option maxRecDepth 100000 in
theorem mAt_ok (a h : Nat) (A : Option Addr) (cap : Nat) (x y : Int) (V : List Int) (w : World) (p : SzG a h) (hr : Rd w A (vi .i64 V)) (hl : V.length = a * h) (hw : withinC x y x y a h = 0) :
    Ret Tryd.prog 32 [.agg #[.int .i64 (a : Int), .int .i64 (h : Int), .slice A (a * h) cap], .agg #[.int .i64 x, .int .i64 y]] w (fun z w' => z = .tuple #[.int .i64 (gatV V a h x y), .int .i64 (withinC x y x y a h)] ∧ Below w.heap.size w w') := by
  obtain ⟨x, y, _, _, rfl, rfl, _, _, _, _, _, _⟩ := within_natG p hw
  have hx : x < a := by omega
  have hy : y < h := by omega
  obtain ⟨e1, e2, e3⟩ := row_bdG p hx hy
  have hgi := vi_get (k := .i64) (zs := V) (i := y * a + x) (by omega)
  refine ret_enter Tryd.func32 rfl rfl rfl ?_
  have H0 := HS.start w
  refine cw_seq ?_
  refine cw_reg ?_
  refine reg_op (op_box (cs := [.int _ _, .int _ _, .slice _ _ _]) H0 rfl rfl rfl) rfl rfl ?_
  rintro _ w2 ⟨b1, rfl, H3⟩
  refine reg_op (op_box (cs := [.int _ _, .int _ _]) H3 rfl rfl rfl) rfl rfl ?_
  rintro _ w5 ⟨b4, rfl, H6⟩
  refine ry (y_asg rfl rfl) rfl rfl ?_
  refine ry (y_asg rfl rfl) rfl rfl ?_
  refine reg_nil ?_
  refine fn_next ?_
  refine cw_seq ?_
  refine cw_seq ?_
  refine cw_reg ?_
  refine ry (y_fa rfl rfl kfref9_11 rfl) rfl rfl ?_
  refine ry (y_ld rfl rfl kfref9_12 (H6.cell (i := 0) rfl rfl)) rfl rfl ?_
  refine ry (y_lss rfl rfl rfl) rfl rfl ?_
  refine ry (y_mov rfl rfl) rfl rfl ?_
  refine rg_splitd (d := 9) rfl (fun h7 => ?_) (fun h7 => ?_)
  · exfalso; omega
  · skip
    refine rgy (y_fa rfl rfl kfref9_11 rfl) rfl rfl rfl rfl ?_
    refine rgy (y_ld rfl rfl kfref9_12 (H6.cell (i := 0) rfl rfl)) rfl rfl rfl rfl ?_
    refine rgy (y_fa rfl rfl kfref9_13 rfl) rfl rfl rfl rfl ?_
    refine rgy (y_ld rfl rfl kfref9_12 (H6.cell (i := 1) rfl rfl)) rfl rfl rfl rfl ?_
    refine rgy (y_geq rfl rfl rfl) rfl rfl rfl rfl ?_
    refine ry (y_pick rfl rfl rfl) rfl rfl ?_
    refine ry (y_mov rfl rfl) rfl rfl ?_
    refine rg_splitd (d := 16) rfl (fun h8 => ?_) (fun h8 => ?_)
    · exfalso; omega
    · skip
      refine rgy (y_fa rfl rfl kfref9_14 rfl) rfl rfl rfl rfl ?_
      refine rgy (y_ld rfl rfl kfref9_12 (H6.cell (i := 0) rfl rfl)) rfl rfl rfl rfl ?_
      refine rgy (y_lss rfl rfl rfl) rfl rfl rfl rfl ?_
      refine ry (y_pick rfl rfl rfl) rfl rfl ?_
      refine ry (y_mov rfl rfl) rfl rfl ?_
      refine rg_splitd (d := 21) rfl (fun h9 => ?_) (fun h9 => ?_)
      · exfalso; omega
      · skip
        refine rgy (y_fa rfl rfl kfref9_14 rfl) rfl rfl rfl rfl ?_
        refine rgy (y_ld rfl rfl kfref9_12 (H6.cell (i := 0) rfl rfl)) rfl rfl rfl rfl ?_
        refine rgy (y_fa rfl rfl kfref9_15 rfl) rfl rfl rfl rfl ?_
        refine rgy (y_ld rfl rfl kfref9_12 (H6.cell (i := 1) rfl rfl)) rfl rfl rfl rfl ?_
        refine rgy (y_geq rfl rfl rfl) rfl rfl rfl rfl ?_
        refine ry (y_pick rfl rfl rfl) rfl rfl ?_
        refine reg_nil ?_
        refine fn_next ?_
        refine cw_condd rfl (fun h10 => ?_) (fun h10 => ?_)
        · exfalso; omega
        · skip
          refine cw_skip ?_
          refine fn_next ?_
          refine cw_seq ?_
          refine cw_reg ?_
          refine ry (y_fa rfl rfl kfref9_5 rfl) rfl rfl ?_
          refine ry (y_ld rfl rfl kfref9_6 (H6.cell (i := 1) rfl rfl)) rfl rfl ?_
          refine ry (y_fa rfl rfl kfref9_14 rfl) rfl rfl ?_
          refine ry (y_ld rfl rfl kfref9_12 (H6.cell (i := 0) rfl rfl)) rfl rfl ?_
          refine ry (y_fa rfl rfl kfref9_13 rfl) rfl rfl ?_
          refine ry (y_ld rfl rfl kfref9_12 (H6.cell (i := 1) rfl rfl)) rfl rfl ?_
          refine ry (y_mul rfl rfl rfl (show _ = ((y * a : Nat) : Int) from by rw [e1]; exact wi (by omega))) rfl rfl ?_
          refine ry (y_fa rfl rfl kfref9_11 rfl) rfl rfl ?_
          refine ry (y_ld rfl rfl kfref9_12 (H6.cell (i := 0) rfl rfl)) rfl rfl ?_
          refine ry (y_add rfl rfl rfl (show _ = ((y * a + x : Nat) : Int) from by rw [← Int.natCast_add]; exact wi (by omega))) rfl rfl ?_
          refine ry (y_iar (hr.below H6.base) rfl rfl rfl kfref9_16 (rfl) (by omega) (Nat.mul_one _) (hgi)) rfl rfl ?_
          refine ry (y_ldr (hr.below H6.base) rfl rfl kfref9_12 (hgi)) rfl rfl ?_
          refine ry (y_asg rfl rfl) rfl rfl ?_
          refine ry (y_asg rfl rfl) rfl rfl ?_
          refine reg_nil ?_
          refine fn_next ?_
          refine cw_ret ?_
          refine fn_retn (vs := [_, _]) rfl ⟨rfl, rfl, trivial⟩ rfl ?_
          rw [gatV_ok hw, hw]
          exact ⟨rfl, H6.base⟩

theorem mAt (a h : Nat) (A : Option Addr) (cap : Nat) (x y : Int) (V : List Int) (w : World) (p : SzG a h) (hr : Rd w A (vi .i64 V)) (hl : V.length = a * h) : Ret Tryd.prog 32 [.agg #[.int .i64 (a : Int), .int .i64 (h : Int), .slice A (a * h) cap], .agg #[.int .i64 x, .int .i64 y]] w (fun z w' => z = .tuple #[.int .i64 (gatV V a h x y), .int .i64 (withinC x y x y a h)] ∧ Below w.heap.size w w') := by
  by_cases hw : withinC x y x y a h = 0
  · exact mAt_ok a h A cap x y V w p hr hl hw
  · exact mAt_no a h A cap x y V w p hw

theorem cast_pred {a : Nat} (h : 1 ≤ a) : (a : Int) - 1 = ((a - 1 : Nat) : Int) := by omega
theorem tl_len {a h : Nat} (s : SzG a h) : (piecesL ⟨0, 0, (a : Int) - 1, (h : Int) - 1⟩).length = across h * across a := by
  rw [cast_pred s.1, cast_pred s.2.2.1]; exact pall_len s
/-- the i-th tile -/
theorem tl_rc {a h i : Nat} (s : SzG a h) (hi : i < across h * across a) (c : Pc) (hc : c = pcN 0 0 (a - 1) (h - 1) i) : ∀ j v, ([.int .i64 (c.u0 : Int), .int .i64 (c.v0 : Int), .int .i64 (c.u1 : Int), .int .i64 (c.v1 : Int)] : List Value)[j]? = some v → (rcells (piecesL ⟨0, 0, (a : Int) - 1, (h : Int) - 1⟩))[i * 4 + j]? = some v := by
  obtain ⟨s1, s2, s3, s4⟩ := s
  rw [cast_pred s1, cast_pred s3]
  exact pc_rc (p0 := 0) (q0 := 0) (Nat.zero_le _) (by omega) (Nat.zero_le _) (by omega) (by rw [pcs_all s1 s3]; exact hi) c hc
theorem gvalV_tile {a h i : Nat} {V : List Int} (s : SzG a h) (hi : i < across h * across a) (c : Pc) (hc : c = pcN 0 0 (a - 1) (h - 1) i) : gvalV V a h c.u0 c.v0 c.u1 c.v1 = rvAll V a (16 * (i % across a)) (16 * (i / across a)) (tw a (i % across a)) (tw h (i / across a)) ∧ 1 ≤ tw a (i % across a) * tw h (i / across a) ∧ tw a (i % across a) * tw h (i / across a) ≤ 256 := by
  obtain ⟨s1, s2, s3, s4⟩ := id s
  have hpt : i < pcs 0 0 (a - 1) (h - 1) := by rw [pcs_all s1 s3]; exact hi
  obtain ⟨c1, c2, c3, c4, c5, c6⟩ := pcN_all s1 s3 hi
  obtain ⟨k1, k2, k3, k4, k5, k6, k7, k8, k9, k10⟩ := pcN_tile (Nat.zero_le _) (Nat.zero_le _) hpt
  have hu : (pcN 0 0 (a - 1) (h - 1) i).u0 = 16 * (i % across a) := by simp only [pcN]; rw [tcol_all s1]; omega
  have hv : (pcN 0 0 (a - 1) (h - 1) i).v0 = 16 * (i / across a) := by simp only [pcN]; rw [tcol_all s1]; omega
  rw [← hc] at c1 c2 k1 k2 k3 k4 k5 k6 hu hv
  have hw : withinC c.u0 c.v0 c.u1 c.v1 a h = 0 := by
    unfold withinC; simp only [insideB_not]
    rw [if_neg (by unfold wrap64; omega), if_neg (by omega), if_neg (by omega)]
  refine ⟨?_, Nat.mul_le_mul c3 c4, Nat.mul_le_mul c5 c6⟩
  rw [gvalV_ok hw k2 k5, hu, hv, show c.u1 + 1 - 16 * (i % across a) = tw a (i % across a) by omega, show c.v1 + 1 - 16 * (i / across a) = tw h (i / across a) by omega]
theorem gflV_no {V : List Int} {a h : Nat} {i : Int} (hi : ¬ (0 ≤ i ∧ i < (across h * across a : Nat))) : gflV V a h i = (0, false) := if_neg hi
theorem gflV_ok {V : List Int} {a h i : Nat} (hi : i < across h * across a) : gflV V a h i = flS (rvAll V a (16 * (i % across a)) (16 * (i / across a)) (tw a (i % across a)) (tw h (i / across a))) (tw a (i % across a) * tw h (i / across a)) := by
  unfold gflV; rw [if_pos (by omega)]; rfl

end Go.Proofs.YtgkkbeomhkggjaaDoor

namespace Go.Proofs.YtgkkbeomhkggjaaDoor
open Go Go.RowKit
theorem kfref9b_1 : (Tryd.prog.info? 27).bind (fun i => i.zero.map Value.cells) = some (List.toArray [(.int .i64 0), (.int .i64 0), (.slice none 0 0)]) := by kernel_rfl
theorem kfref9b_2 : aggB Tryd.prog 90 4 = true := by kernel_rfl
theorem kfref9b_3 : fldB Tryd.prog 27 0 0 = true := by kernel_rfl
theorem kfref9b_4 : oneB Tryd.prog 2 = true := by kernel_rfl
theorem kfref9b_5 : fldB Tryd.prog 27 1 1 = true := by kernel_rfl
theorem kfref9b_7 : aggB Tryd.prog 27 3 = true := by kernel_rfl
theorem kfref9b_8 : szB Tryd.prog 27 3 = true := by kernel_rfl
theorem kfref9b_9 : callB Tryd.prog 26 = true := by kernel_rfl
theorem kfref9b_10 : fldB Tryd.prog 27 2 2 = true := by kernel_rfl
theorem kfref9b_11 : oneB Tryd.prog 22 = true := by kernel_rfl
theorem kfref9b_12 : (Tryd.prog.info? 2).map (fun i => (i.size, i.zero.map Value.cells)) = some (1, some (List.toArray [(.int .i64 0)])) := by kernel_rfl
theorem kfref9b_13 : (Tryd.prog.info? 2).map (fun i => (i.zero.map (·.cells.toList), i.size, i.bytes)) = some (some [(.int .i64 0)], 1, 8) := by kernel_rfl
theorem kfref9b_14 : fldB Tryd.prog 90 1 1 = true := by kernel_rfl
theorem kfref9b_15 : fldB Tryd.prog 90 3 3 = true := by kernel_rfl
theorem kfref9b_16 : fldB Tryd.prog 90 0 0 = true := by kernel_rfl
theorem kfref9b_17 : fldB Tryd.prog 90 2 2 = true := by kernel_rfl
theorem kfref9b_18 : elB Tryd.prog 22 1 = true := by kernel_rfl
theorem kfref9b_19 : szB Tryd.prog 2 1 = true := by kernel_rfl

end Go.Proofs.YtgkkbeomhkggjaaDoor
