/- Layer 9: what its laws stand on; GridNil. -/
import Derived.Test.YtbnjbgcadkdljaaGreatDoorMI
set_option linter.unusedVariables false
set_option linter.unusedSimpArgs false
namespace Go.Proofs.YtbnjbgcadkdljaaGreatDoor
open Go Go.RowKit
theorem kflaw9a_1 : callB Tryz.prog 24 = true := by kernel_rfl
theorem kflaw9a_2 : callB Tryz.prog 26 = true := by kernel_rfl
theorem kflaw9a_3 : callB Tryz.prog 25 = true := by kernel_rfl
theorem kflaw9a_4 : fldB Tryz.prog 26 0 0 = true := by kernel_rfl
theorem kflaw9a_5 : oneB Tryz.prog 2 = true := by kernel_rfl
theorem kflaw9a_6 : fldB Tryz.prog 26 1 1 = true := by kernel_rfl
theorem kflaw9a_7 : fldB Tryz.prog 26 2 2 = true := by kernel_rfl
theorem kflaw9a_8 : oneB Tryz.prog 24 = true := by kernel_rfl
theorem kflaw9a_9 : callB Tryz.prog 27 = true := by kernel_rfl
set_option maxRecDepth 100000 in
theorem lIs (g a h : Nat) (V : List Int) (A : Option Addr) (cap : Nat) (w : World) (R : GRd w g a h V) (hr : Rd w A (vi .i64 V)) :
    Ret Tryz.prog 7 [.pointer (some ⟨g, 0, none⟩), .agg #[.int .i64 (a : Int), .int .i64 (h : Int), .slice A (a * h) cap]] w (fun v w' => v = .bool true ∧ Below w.heap.size w w') := by
  obtain ⟨s1, s2, s3, s4⟩ := R.gv.sz
  have hmn := R.gv.sz.mul
  refine ret_enter Tryz.func7 rfl rfl rfl ?_
  have H0 := HS.start w
  refine cw_seq ?_
  refine cw_reg ?_
  refine reg_op (op_box (cs := [.int _ _, .int _ _, .slice _ _ _]) H0 rfl rfl rfl) rfl rfl ?_
  rintro _ w2 ⟨b1, rfl, H3⟩
  refine ry (y_asg rfl rfl) rfl rfl ?_
  refine reg_nil ?_
  refine fn_next ?_
  refine cw_seq ?_
  refine cw_reg ?_
  refine ry (y_mov rfl rfl) rfl rfl ?_
  refine reg_op (op_call (gSize g a h (V)  _ (R.below H3.base)) rfl kflaw9a_1 ⟨rfl, trivial⟩) rfl rfl ?_
  rintro _ w5 ⟨rfl, e4⟩
  have H6 := H3.ext e4
  refine ry (y_mov rfl rfl) rfl rfl ?_
  refine ry (y_ext rfl rfl rfl) rfl rfl ?_
  refine ry (y_ext rfl rfl rfl) rfl rfl ?_
  refine ry (y_asg rfl rfl) rfl rfl ?_
  refine ry (y_asg rfl rfl) rfl rfl ?_
  refine reg_nil ?_
  refine fn_next ?_
  refine cw_seq ?_
  refine cw_reg ?_
  refine ry (y_mov rfl rfl) rfl rfl ?_
  refine ry (y_mov rfl rfl) rfl rfl ?_
  refine reg_op (op_call (gAll g a h (V)  _ (R.below H6.base)) rfl kflaw9a_2 ⟨rfl, trivial⟩) rfl rfl ?_
  rintro _ w8 ⟨rfl, e7⟩
  have H9 := H6.ext e7
  refine reg_op (op_call (gValuesAll g a h (V) _ (R.below H9.base)) rfl kflaw9a_3 ⟨rfl, rfl, trivial⟩) rfl rfl ?_
  rintro _ w11 ⟨A13, c14, rfl, k10⟩
  have H12 := H9.call k10
  refine ry (y_mov rfl rfl) rfl rfl ?_
  refine ry (y_ext rfl rfl rfl) rfl rfl ?_
  refine ry (y_ext rfl rfl rfl) rfl rfl ?_
  refine ry (y_asg rfl rfl) rfl rfl ?_
  refine ry (y_asg rfl rfl) rfl rfl ?_
  refine reg_nil ?_
  refine fn_next ?_
  refine cw_seq ?_
  refine cw_reg ?_
  refine ry (y_mov rfl rfl) rfl rfl ?_
  refine ry (y_fa rfl rfl kflaw9a_4 rfl) rfl rfl ?_
  refine ry (y_ld rfl rfl kflaw9a_5 (H12.cell (i := 1) rfl rfl)) rfl rfl ?_
  refine ry (y_eql rfl rfl rfl) rfl rfl ?_
  refine ry (y_mov rfl rfl) rfl rfl ?_
  refine rg_splitd (d := 25) rfl (fun h15 => ?_) (fun h15 => ?_)
  · skip
    refine rgy (y_mov rfl rfl) rfl rfl rfl rfl ?_
    refine rgy (y_fa rfl rfl kflaw9a_6 rfl) rfl rfl rfl rfl ?_
    refine rgy (y_ld rfl rfl kflaw9a_5 (H12.cell (i := 1) rfl rfl)) rfl rfl rfl rfl ?_
    refine rgy (y_eql rfl rfl rfl) rfl rfl rfl rfl ?_
    refine ry (y_pick rfl rfl rfl) rfl rfl ?_
    refine ry (y_mov rfl rfl) rfl rfl ?_
    refine rg_splitd (d := 31) rfl (fun h16 => ?_) (fun h16 => ?_)
    · skip
      refine rgy (y_mov rfl rfl) rfl rfl rfl rfl ?_
      refine rgy (y_eql rfl rfl rfl) rfl rfl rfl rfl ?_
      refine ry (y_pick rfl rfl rfl) rfl rfl ?_
      refine ry (y_mov rfl rfl) rfl rfl ?_
      refine rg_splitd (d := 35) rfl (fun h17 => ?_) (fun h17 => ?_)
      · skip
        refine rgy (y_mov rfl rfl) rfl rfl rfl rfl ?_
        refine rgy (y_fa rfl rfl kflaw9a_7 rfl) rfl rfl rfl rfl ?_
        refine rgy (y_ld rfl rfl kflaw9a_8 (H12.cell (i := 1) rfl rfl)) rfl rfl rfl rfl ?_
        refine rg_on rfl rfl rfl (op_call (refSame_any _ (a * h) _ V _ (a * h) _ V _ (H12.rd (i := 0) rfl) R.gv.len (hr.below H12.base) R.gv.len (by omega)) rfl kflaw9a_9 ⟨rfl, rfl, trivial⟩) rfl ?_
        rintro _ w19 ⟨rfl, e18⟩
        have H20 := H12.ext e18
        refine ry (y_pick rfl rfl rfl) rfl rfl ?_
        refine ry (y_asg rfl rfl) rfl rfl ?_
        refine reg_nil ?_
        refine fn_next ?_
        refine cw_ret ?_
        refine fn_ret1 rfl rfl ?_
        rw [decide_eq_true rfl]
        exact ⟨rfl, H20.base⟩
      · exact absurd rfl h17
    · exact absurd rfl h16
  · exact absurd rfl h15

end Go.Proofs.YtbnjbgcadkdljaaGreatDoor
