/- Layer 9: what its laws stand on; GridNil. -/
import Derived.Test.YtkphmcaoioaglaaRef9b
set_option linter.unusedVariables false
set_option linter.unusedSimpArgs false
namespace Go.Proofs.Ytkphmcaoioaglaa
open Go Go.RowKit
theorem kflaw9a_1 : callB Try.prog 69 = true := by kernel_rfl
theorem kflaw9a_2 : callB Try.prog 51 = true := by kernel_rfl
theorem kflaw9a_3 : callB Try.prog 46 = true := by kernel_rfl
theorem kflaw9a_4 : fldB Try.prog 34 0 0 = true := by kernel_rfl
theorem kflaw9a_5 : oneB Try.prog 2 = true := by kernel_rfl
theorem kflaw9a_6 : fldB Try.prog 34 1 1 = true := by kernel_rfl
theorem kflaw9a_7 : fldB Try.prog 34 2 2 = true := by kernel_rfl
theorem kflaw9a_8 : oneB Try.prog 32 = true := by kernel_rfl
theorem kflaw9a_9 : callB Try.prog 31 = true := by kernel_rfl
theorem kflaw9a_10 : callB Try.prog 42 = true := by kernel_rfl
theorem kflaw9a_11 : (Try.prog.info? 26).bind (fun i => i.zero.map Value.cells) = some (List.toArray [(.int .i64 0), (.int .i64 0)]) := by kernel_rfl
theorem kflaw9a_12 : callB Try.prog 70 = true := by kernel_rfl
theorem kflaw9a_13 : callB Try.prog 48 = true := by kernel_rfl
theorem kflaw9a_14 : callB Try.prog 54 = true := by kernel_rfl
theorem kflaw9a_15 : callB Try.prog 41 = true := by kernel_rfl
theorem kflaw9a_16 : aggB Try.prog 26 2 = true := by kernel_rfl
theorem kflaw9a_17 : callB Try.prog 45 = true := by kernel_rfl
theorem kflaw9a_18 : aggB Try.prog 24 4 = true := by kernel_rfl
theorem kflaw9a_19 : (Try.prog.info? 24).bind (fun i => i.zero.map Value.cells) = some (List.toArray [(.int .i64 0), (.int .i64 0), (.int .i64 0), (.int .i64 0)]) := by kernel_rfl
theorem kflaw9a_20 : seqB Try.prog 24 4 = true := by kernel_rfl
theorem kflaw9a_21 : callB Try.prog 44 = true := by kernel_rfl
theorem kflaw9a_22 : callB Try.prog 71 = true := by kernel_rfl
theorem kflaw9a_23 : callB Try.prog 72 = true := by kernel_rfl
theorem kflaw9a_24 : elB Try.prog 32 1 = true := by kernel_rfl
theorem kflaw9a_25 : szB Try.prog 2 1 = true := by kernel_rfl
theorem kflaw9a_26 : (Try.prog.info? 2).map (fun i => (i.size, i.zero.map Value.cells)) = some (1, some (List.toArray [(.int .i64 0)])) := by kernel_rfl

set_option maxRecDepth 100000 in
theorem lIs (g a h : Nat) (V : List Int) (A : Option Addr) (cap : Nat) (w : World) (R : GRd w g a h V) (hr : Rd w A (vi .i64 V)) :
    Ret Try.prog 50 [.pointer (some ⟨g, 0, none⟩), .agg #[.int .i64 (a : Int), .int .i64 (h : Int), .slice A (a * h) cap]] w (fun v w' => v = .bool true ∧ Below w.heap.size w w') := by
  obtain ⟨s1, s2, s3, s4⟩ := R.gv.sz
  have hmn := R.gv.sz.mul
  refine ret_enter Try.func50 rfl rfl rfl ?_
  have H0 := HS.start w
  refine cw_seq ?_
  refine cw_reg ?_
  refine reg_op (op_box (cs := [.int _ _, .int _ _, .slice _ _ _]) H0 rfl rfl rfl) rfl rfl ?_
  rintro _ w2 ⟨b1, rfl, H3⟩
  refine ry (y_asg rfl rfl) rfl rfl ?_
  refine reg_nil ?_
  refine fn_next ?_
  refine cw_seq ?_
  refine cw_reg ?_
  refine ry (y_mov rfl rfl) rfl rfl ?_
  refine reg_op (op_call (gSize g a h (V)  _ (R.below H3.base)) rfl kflaw9a_1 ⟨rfl, trivial⟩) rfl rfl ?_
  rintro _ w5 ⟨rfl, e4⟩
  have H6 := H3.ext e4
  refine ry (y_mov rfl rfl) rfl rfl ?_
  refine ry (y_ext rfl rfl rfl) rfl rfl ?_
  refine ry (y_ext rfl rfl rfl) rfl rfl ?_
  refine ry (y_asg rfl rfl) rfl rfl ?_
  refine ry (y_asg rfl rfl) rfl rfl ?_
  refine reg_nil ?_
  refine fn_next ?_
  refine cw_seq ?_
  refine cw_reg ?_
  refine ry (y_mov rfl rfl) rfl rfl ?_
  refine ry (y_mov rfl rfl) rfl rfl ?_
  refine reg_op (op_call (gAll g a h (V)  _ (R.below H6.base)) rfl kflaw9a_2 ⟨rfl, trivial⟩) rfl rfl ?_
  rintro _ w8 ⟨rfl, e7⟩
  have H9 := H6.ext e7
  refine reg_op (op_call (gValuesAll g a h (V) _ (R.below H9.base)) rfl kflaw9a_3 ⟨rfl, rfl, trivial⟩) rfl rfl ?_
  rintro _ w11 ⟨A13, c14, rfl, k10⟩
  have H12 := H9.call k10
  refine ry (y_mov rfl rfl) rfl rfl ?_
  refine ry (y_ext rfl rfl rfl) rfl rfl ?_
  refine ry (y_ext rfl rfl rfl) rfl rfl ?_
  refine ry (y_asg rfl rfl) rfl rfl ?_
  refine ry (y_asg rfl rfl) rfl rfl ?_
  refine reg_nil ?_
  refine fn_next ?_
  refine cw_seq ?_
  refine cw_reg ?_
  refine ry (y_mov rfl rfl) rfl rfl ?_
  refine ry (y_fa rfl rfl kflaw9a_4 rfl) rfl rfl ?_
  refine ry (y_ld rfl rfl kflaw9a_5 (H12.cell (i := 1) rfl rfl)) rfl rfl ?_
  refine ry (y_eql rfl rfl rfl) rfl rfl ?_
  refine ry (y_mov rfl rfl) rfl rfl ?_
  refine rg_splitd (d := 25) rfl (fun h15 => ?_) (fun h15 => ?_)
  · skip
    refine rgy (y_mov rfl rfl) rfl rfl rfl rfl ?_
    refine rgy (y_fa rfl rfl kflaw9a_6 rfl) rfl rfl rfl rfl ?_
    refine rgy (y_ld rfl rfl kflaw9a_5 (H12.cell (i := 1) rfl rfl)) rfl rfl rfl rfl ?_
    refine rgy (y_eql rfl rfl rfl) rfl rfl rfl rfl ?_
    refine ry (y_pick rfl rfl rfl) rfl rfl ?_
    refine ry (y_mov rfl rfl) rfl rfl ?_
    refine rg_splitd (d := 31) rfl (fun h16 => ?_) (fun h16 => ?_)
    · skip
      refine rgy (y_mov rfl rfl) rfl rfl rfl rfl ?_
      refine rgy (y_eql rfl rfl rfl) rfl rfl rfl rfl ?_
      refine ry (y_pick rfl rfl rfl) rfl rfl ?_
      refine ry (y_mov rfl rfl) rfl rfl ?_
      refine rg_splitd (d := 35) rfl (fun h17 => ?_) (fun h17 => ?_)
      · skip
        refine rgy (y_mov rfl rfl) rfl rfl rfl rfl ?_
        refine rgy (y_fa rfl rfl kflaw9a_7 rfl) rfl rfl rfl rfl ?_
        refine rgy (y_ld rfl rfl kflaw9a_8 (H12.cell (i := 1) rfl rfl)) rfl rfl rfl rfl ?_
        refine rg_on rfl rfl rfl (op_call (refSame_any _ (a * h) _ V _ (a * h) _ V _ (H12.rd (i := 0) rfl) R.gv.len (hr.below H12.base) R.gv.len (by omega)) rfl kflaw9a_9 ⟨rfl, rfl, trivial⟩) rfl ?_
        rintro _ w19 ⟨rfl, e18⟩
        have H20 := H12.ext e18
        refine ry (y_pick rfl rfl rfl) rfl rfl ?_
        refine ry (y_asg rfl rfl) rfl rfl ?_
        refine reg_nil ?_
        refine fn_next ?_
        refine cw_ret ?_
        refine fn_ret1 rfl rfl ?_
        rw [decide_eq_true rfl]
        exact ⟨rfl, H20.base⟩
      · exact absurd rfl h17
    · exact absurd rfl h16
  · exact absurd rfl h15

theorem aw9 : gflV (fillV (List.replicate (17 * 1) 3) 17 1 16 0 16 0 9) 17 1 0 = (3, true) ∧ gflV (fillV (List.replicate (17 * 1) 3) 17 1 16 0 16 0 9) 17 1 1 = (9, true) ∧ fillC 17 1 16 0 16 0 9 = 0 ∧ (piecesL ⟨0, 0, ((17 : Nat) : Int) - 1, ((1 : Nat) : Int) - 1⟩).length = 2 := by decide +kernel

set_option maxRecDepth 100000 in
theorem gridAwake  (w : World) :
    Ret Try.prog 41 [] w (fun v w' => v = .bool true ∧ Below w.heap.size w w') := by
  obtain ⟨e1, e2, e3, e4⟩ := aw9
  refine ret_enter Try.func41 rfl rfl rfl ?_
  have H0 := HS.start w
  refine cw_seq ?_
  refine cw_reg ?_
  refine ry (y_asg rfl rfl) rfl rfl ?_
  refine reg_nil ?_
  refine fn_next ?_
  refine cw_seq ?_
  refine cw_reg ?_
  refine reg_op (op_call (gNew_ok 17 1 3 _ (⟨by decide, by decide, by decide, by decide⟩) (by decide)) rfl kflaw9a_10 ⟨rfl, rfl, rfl, trivial⟩) rfl rfl ?_
  rintro _ w2 ⟨g4, bl5, rfl, k1⟩
  have H3 := H0.call k1
  refine ry (y_mov rfl rfl) rfl rfl ?_
  refine ry (y_ext rfl rfl rfl) rfl rfl ?_
  refine ry (y_ext rfl rfl rfl) rfl rfl ?_
  refine ry (y_asg rfl rfl) rfl rfl ?_
  refine ry (y_asg rfl rfl) rfl rfl ?_
  refine reg_nil ?_
  refine fn_next ?_
  refine cw_seq ?_
  refine cw_reg ?_
  refine ry (y_mov rfl rfl) rfl rfl ?_
  refine ry (y_build (places := [(0, 1), (1, 1)]) (parts := [(0, _)]) (vs := [(0, _)]) (cs := [.int _ _, .int _ _]) rfl Try.underlying26 (by kernel_rfl) kflaw9a_11 rfl ⟨rfl, trivial⟩ rfl) rfl rfl ?_
  refine reg_op (op_call (gSet w _ g4 17 1 (List.replicate (17 * 1) 3) bl5 16 0 9 _ H3) rfl kflaw9a_12 ⟨rfl, rfl, rfl, trivial⟩) rfl rfl ?_
  rintro _ w7 ⟨bl8, rfl, H6⟩
  refine ry (y_asg rfl rfl) rfl rfl ?_
  refine reg_nil ?_
  refine fn_next ?_
  refine cw_seq ?_
  refine cw_reg ?_
  refine ry (y_mov rfl rfl) rfl rfl ?_
  refine reg_op (op_call (ret_v (v := .tuple #[.int .i64 3, .bool true]) (gFlat g4 17 1 (fillV (List.replicate (17 * 1) 3) 17 1 16 0 16 0 9) 0 _ (H6.rdg (i := 0) rfl)) (by rw [e1])) rfl kflaw9a_13 ⟨rfl, rfl, trivial⟩) rfl rfl ?_
  rintro _ w10 ⟨rfl, e9⟩
  have H11 := H6.ext e9
  refine ry (y_mov rfl rfl) rfl rfl ?_
  refine ry (y_ext rfl rfl rfl) rfl rfl ?_
  refine ry (y_ext rfl rfl rfl) rfl rfl ?_
  refine ry (y_asg rfl rfl) rfl rfl ?_
  refine ry (y_asg rfl rfl) rfl rfl ?_
  refine reg_nil ?_
  refine fn_next ?_
  refine cw_seq ?_
  refine cw_reg ?_
  refine ry (y_mov rfl rfl) rfl rfl ?_
  refine reg_op (op_call (ret_v (v := .tuple #[.int .i64 9, .bool true]) (gFlat g4 17 1 (fillV (List.replicate (17 * 1) 3) 17 1 16 0 16 0 9) 1 _ (H11.rdg (i := 0) rfl)) (by rw [e2])) rfl kflaw9a_13 ⟨rfl, rfl, trivial⟩) rfl rfl ?_
  rintro _ w13 ⟨rfl, e12⟩
  have H14 := H11.ext e12
  refine ry (y_mov rfl rfl) rfl rfl ?_
  refine ry (y_ext rfl rfl rfl) rfl rfl ?_
  refine ry (y_ext rfl rfl rfl) rfl rfl ?_
  refine ry (y_asg rfl rfl) rfl rfl ?_
  refine ry (y_asg rfl rfl) rfl rfl ?_
  refine reg_nil ?_
  refine fn_next ?_
  refine cw_seq ?_
  refine cw_reg ?_
  refine ry (y_mov rfl rfl) rfl rfl ?_
  refine ry (y_eql rfl rfl rfl) rfl rfl ?_
  refine ry (y_mov rfl rfl) rfl rfl ?_
  refine rg_splitd (d := 27) rfl (fun h15 => ?_) (fun h15 => ?_)
  · skip
    refine rgy (y_mov rfl rfl) rfl rfl rfl rfl ?_
    refine rgy (y_eql rfl rfl rfl) rfl rfl rfl rfl ?_
    refine ry (y_pick rfl rfl rfl) rfl rfl ?_
    refine ry (y_mov rfl rfl) rfl rfl ?_
    refine rg_splitd (d := 31) rfl (fun h16 => ?_) (fun h16 => ?_)
    · skip
      refine rgy (y_mov rfl rfl) rfl rfl rfl rfl ?_
      refine rg_on rfl rfl rfl (op_call (gTiles g4 17 1 (fillV (List.replicate (17 * 1) 3) 17 1 16 0 16 0 9) _ (H14.rdg (i := 0) rfl)) rfl kflaw9a_14 ⟨rfl, trivial⟩) rfl ?_
      rintro _ w18 ⟨A20, c21, rfl, k17⟩
      have H19 := H14.call k17
      refine rgy (y_len rfl Try.underlying88 rfl) rfl rfl rfl rfl ?_
      refine rgy (y_eql rfl rfl rfl) rfl rfl rfl rfl ?_
      refine ry (y_pick rfl rfl rfl) rfl rfl ?_
      refine ry (y_mov rfl rfl) rfl rfl ?_
      refine rg_splitd (d := 37) rfl (fun h22 => ?_) (fun h22 => ?_)
      · skip
        refine rgy (y_mov rfl rfl) rfl rfl rfl rfl ?_
        refine rgy (y_eql rfl rfl rfl) rfl rfl rfl rfl ?_
        refine ry (y_pick rfl rfl rfl) rfl rfl ?_
        refine ry (y_mov rfl rfl) rfl rfl ?_
        refine rg_splitd (d := 41) rfl (fun h23 => ?_) (fun h23 => ?_)
        · skip
          refine rgy (y_mov rfl rfl) rfl rfl rfl rfl ?_
          refine ry (y_pick rfl rfl rfl) rfl rfl ?_
          refine ry (y_mov rfl rfl) rfl rfl ?_
          refine rgy (y_mov rfl rfl) rfl rfl rfl rfl ?_
          refine rgy (y_eql rfl rfl rfl) rfl rfl rfl rfl ?_
          refine ry (y_pick rfl rfl rfl) rfl rfl ?_
          refine ry (y_mov rfl rfl) rfl rfl ?_
          refine rg_splitd (d := 48) rfl (fun h24 => ?_) (fun h24 => ?_)
          · skip
            refine rgy (y_mov rfl rfl) rfl rfl rfl rfl ?_
            refine ry (y_pick rfl rfl rfl) rfl rfl ?_
            refine ry (y_asg rfl rfl) rfl rfl ?_
            refine reg_nil ?_
            refine fn_next ?_
            refine cw_ret ?_
            refine fn_ret1 rfl rfl ?_
            exact ⟨rfl, H19.base⟩
          · exact absurd rfl h24
        · exact absurd rfl h23
      · exact absurd (by rw [e4]; rfl) h22
    · exact absurd e3 h16
  · exact absurd rfl h15

set_option maxRecDepth 100000 in
theorem gridNil_all (x y x0 y0 x1 y1 v i : Int) (w : World) :
    Ret Try.prog 12 [.agg #[.int .i64 x, .int .i64 y], .agg #[.int .i64 x0, .int .i64 y0, .int .i64 x1, .int .i64 y1], .int .i64 v, .int .i64 i] w (fun z w' => z = .bool true ∧ Below w.heap.size w w') := by
  refine ret_enter Try.func12 rfl rfl rfl ?_
  have H0 := HS.start w
  refine cw_seq ?_
  refine cw_reg ?_
  refine reg_op (op_box (cs := [.int _ _, .int _ _]) H0 rfl rfl rfl) rfl rfl ?_
  rintro _ w2 ⟨b1, rfl, H3⟩
  refine reg_op (op_box (cs := [.int _ _, .int _ _, .int _ _, .int _ _]) H3 rfl rfl rfl) rfl rfl ?_
  rintro _ w5 ⟨b4, rfl, H6⟩
  refine ry (y_asg rfl rfl) rfl rfl ?_
  refine reg_nil ?_
  refine fn_next ?_
  refine cw_seq ?_
  refine cw_seq ?_
  refine cw_reg ?_
  refine reg_op (op_call (gridAwake _) rfl kflaw9a_15 trivial) rfl rfl ?_
  rintro _ w8 ⟨rfl, e7⟩
  have H9 := H6.ext e7
  refine ry (y_not rfl rfl) rfl rfl ?_
  refine reg_nil ?_
  refine fn_next ?_
  refine cw_condf rfl ?_
  refine cw_skip ?_
  refine fn_next ?_
  refine cw_seq ?_
  refine cw_reg ?_
  refine ry (y_asg rfl rfl) rfl rfl ?_
  refine reg_nil ?_
  refine fn_next ?_
  refine cw_seq ?_
  refine cw_reg ?_
  refine ry (y_mov rfl rfl) rfl rfl ?_
  refine reg_op (op_call (gNil_Size _) rfl kflaw9a_1 ⟨rfl, trivial⟩) rfl rfl ?_
  rintro _ w11 ⟨rfl, e10⟩
  have H12 := H9.ext e10
  refine ry (y_mov rfl rfl) rfl rfl ?_
  refine ry (y_ext rfl rfl rfl) rfl rfl ?_
  refine ry (y_ext rfl rfl rfl) rfl rfl ?_
  refine ry (y_asg rfl rfl) rfl rfl ?_
  refine ry (y_asg rfl rfl) rfl rfl ?_
  refine reg_nil ?_
  refine fn_next ?_
  refine cw_seq ?_
  refine cw_reg ?_
  refine ry (y_mov rfl rfl) rfl rfl ?_
  refine ry (y_ldb (i := 1) (cs := [_, _]) H12 rfl rfl kflaw9a_16 rfl rfl) rfl rfl ?_
  refine reg_op (op_call (gNil_At _ _ _) rfl kflaw9a_17 ⟨rfl, rfl, trivial⟩) rfl rfl ?_
  rintro _ w14 ⟨rfl, e13⟩
  have H15 := H12.ext e13
  refine ry (y_mov rfl rfl) rfl rfl ?_
  refine ry (y_ext rfl rfl rfl) rfl rfl ?_
  refine ry (y_ext rfl rfl rfl) rfl rfl ?_
  refine ry (y_asg rfl rfl) rfl rfl ?_
  refine ry (y_asg rfl rfl) rfl rfl ?_
  refine reg_nil ?_
  refine fn_next ?_
  refine cw_seq ?_
  refine cw_reg ?_
  refine ry (y_mov rfl rfl) rfl rfl ?_
  refine ry (y_ldb (i := 0) (cs := [_, _, _, _]) H15 rfl rfl kflaw9a_18 rfl rfl) rfl rfl ?_
  refine reg_op (op_call (gNil_Values _ _ _ _ _) rfl kflaw9a_3 ⟨rfl, rfl, trivial⟩) rfl rfl ?_
  rintro _ w17 ⟨rfl, e16⟩
  have H18 := H15.ext e16
  refine ry (y_mov rfl rfl) rfl rfl ?_
  refine ry (y_ext rfl rfl rfl) rfl rfl ?_
  refine ry (y_ext rfl rfl rfl) rfl rfl ?_
  refine ry (y_asg rfl rfl) rfl rfl ?_
  refine ry (y_asg rfl rfl) rfl rfl ?_
  refine reg_nil ?_
  refine fn_next ?_
  refine cw_seq ?_
  refine cw_reg ?_
  refine ry (y_mov rfl rfl) rfl rfl ?_
  refine ry (y_mov rfl rfl) rfl rfl ?_
  refine reg_op (op_call (gNil_Flat _ _) rfl kflaw9a_13 ⟨rfl, rfl, trivial⟩) rfl rfl ?_
  rintro _ w20 ⟨rfl, e19⟩
  have H21 := H18.ext e19
  refine ry (y_mov rfl rfl) rfl rfl ?_
  refine ry (y_ext rfl rfl rfl) rfl rfl ?_
  refine ry (y_ext rfl rfl rfl) rfl rfl ?_
  refine ry (y_asg rfl rfl) rfl rfl ?_
  refine ry (y_asg rfl rfl) rfl rfl ?_
  refine reg_nil ?_
  refine fn_next ?_
  refine cw_seq ?_
  refine cw_reg ?_
  refine reg_op (op_call (gNew_ok 2 2 4 _ (⟨by decide, by decide, by decide, by decide⟩) (by decide)) rfl kflaw9a_10 ⟨rfl, rfl, rfl, trivial⟩) rfl rfl ?_
  rintro _ w23 ⟨g25, bl26, rfl, k22⟩
  have H24 := H21.call k22
  refine ry (y_mov rfl rfl) rfl rfl ?_
  refine ry (y_ext rfl rfl rfl) rfl rfl ?_
  refine ry (y_ext rfl rfl rfl) rfl rfl ?_
  refine ry (y_asg rfl rfl) rfl rfl ?_
  refine ry (y_asg rfl rfl) rfl rfl ?_
  refine reg_nil ?_
  refine fn_next ?_
  refine cw_seq ?_
  refine cw_seq ?_
  simp only [List.cons_append, List.nil_append]
  refine cw_reg ?_
  refine ry (y_mov rfl rfl) rfl rfl ?_
  refine ry (y_neq rfl rfl rfl) rfl rfl ?_
  refine ry (y_mov rfl rfl) rfl rfl ?_
  refine rg_splitd (d := 56) rfl (fun h27 => ?_) (fun h27 => ?_)
  · exact absurd rfl h27
  · skip
    refine rgy (y_mov rfl rfl) rfl rfl rfl rfl ?_
    refine rgy (y_neq rfl rfl rfl) rfl rfl rfl rfl ?_
    refine ry (y_pick rfl rfl rfl) rfl rfl ?_
    refine ry (y_mov rfl rfl) rfl rfl ?_
    refine rg_splitd (d := 60) rfl (fun h28 => ?_) (fun h28 => ?_)
    · exact absurd rfl h28
    · skip
      refine rgy (y_mov rfl rfl) rfl rfl rfl rfl ?_
      refine rg_on rfl rfl rfl (op_call (gNil_All _) rfl kflaw9a_2 ⟨rfl, trivial⟩) rfl ?_
      rintro _ w30 ⟨rfl, e29⟩
      have H31 := H24.ext e29
      refine rgy (y_build (places := [(0, 1), (1, 1), (2, 1), (3, 1)]) (parts := []) (vs := []) (cs := [.int _ _, .int _ _, .int _ _, .int _ _]) rfl Try.underlying24 (by kernel_rfl) kflaw9a_19 rfl trivial rfl) rfl rfl rfl rfl ?_
      refine rgy (y_seq (ks := [.i64, .i64, .i64, .i64]) (a := [0, 0, 0, 0]) (b := [0, 0, 0, 0]) rfl (.inr ⟨rfl, rfl⟩) kflaw9a_20 rfl rfl rfl rfl rfl rfl rfl) rfl rfl rfl rfl ?_
      refine ry (y_pick rfl rfl rfl) rfl rfl ?_
      refine ry (y_mov rfl rfl) rfl rfl ?_
      refine rg_splitd (d := 66) rfl (fun h32 => ?_) (fun h32 => ?_)
      · exact absurd rfl h32
      · skip
        refine rgy (y_mov rfl rfl) rfl rfl rfl rfl ?_
        refine rgy (y_neq rfl rfl rfl) rfl rfl rfl rfl ?_
        refine ry (y_pick rfl rfl rfl) rfl rfl ?_
        refine ry (y_mov rfl rfl) rfl rfl ?_
        refine rg_splitd (d := 70) rfl (fun h33 => ?_) (fun h33 => ?_)
        · exact absurd rfl h33
        · skip
          refine rgy (y_mov rfl rfl) rfl rfl rfl rfl ?_
          refine rgy (y_neq rfl rfl rfl) rfl rfl rfl rfl ?_
          refine ry (y_pick rfl rfl rfl) rfl rfl ?_
          refine ry (y_mov rfl rfl) rfl rfl ?_
          refine rg_splitd (d := 74) rfl (fun h34 => ?_) (fun h34 => ?_)
          · exact absurd rfl h34
          · skip
            refine rgy (y_mov rfl rfl) rfl rfl rfl rfl ?_
            refine rgy (y_ldb (i := 2) (cs := [_, _]) H31 rfl rfl kflaw9a_16 rfl rfl) rfl rfl rfl rfl ?_
            refine rgy (y_mov rfl rfl) rfl rfl rfl rfl ?_
            refine rg_on rfl rfl rfl (op_call (gNil_Set _ _ _ _) rfl kflaw9a_12 ⟨rfl, rfl, rfl, trivial⟩) rfl ?_
            rintro _ w36 ⟨rfl, e35⟩
            have H37 := H31.ext e35
            refine rgy (y_neq rfl rfl rfl) rfl rfl rfl rfl ?_
            refine ry (y_pick rfl rfl rfl) rfl rfl ?_
            refine ry (y_mov rfl rfl) rfl rfl ?_
            refine rg_splitd (d := 81) rfl (fun h38 => ?_) (fun h38 => ?_)
            · exact absurd rfl h38
            · skip
              refine rgy (y_mov rfl rfl) rfl rfl rfl rfl ?_
              refine rgy (y_ldb (i := 1) (cs := [_, _, _, _]) H37 rfl rfl kflaw9a_18 rfl rfl) rfl rfl rfl rfl ?_
              refine rgy (y_mov rfl rfl) rfl rfl rfl rfl ?_
              refine rg_on rfl rfl rfl (op_call (gNil_Fill _ _ _ _ _ _) rfl kflaw9a_21 ⟨rfl, rfl, rfl, trivial⟩) rfl ?_
              rintro _ w40 ⟨rfl, e39⟩
              have H41 := H37.ext e39
              refine rgy (y_neq rfl rfl rfl) rfl rfl rfl rfl ?_
              refine ry (y_pick rfl rfl rfl) rfl rfl ?_
              refine ry (y_mov rfl rfl) rfl rfl ?_
              refine rg_splitd (d := 88) rfl (fun h42 => ?_) (fun h42 => ?_)
              · exact absurd rfl h42
              · skip
                refine rgy (y_mov rfl rfl) rfl rfl rfl rfl ?_
                refine rgy (y_len rfl Try.underlying32 rfl) rfl rfl rfl rfl ?_
                refine rgy (y_neq rfl rfl rfl) rfl rfl rfl rfl ?_
                refine ry (y_pick rfl rfl rfl) rfl rfl ?_
                refine ry (y_mov rfl rfl) rfl rfl ?_
                refine rg_splitd (d := 93) rfl (fun h43 => ?_) (fun h43 => ?_)
                · exact absurd rfl h43
                · skip
                  refine rgy (y_mov rfl rfl) rfl rfl rfl rfl ?_
                  refine rgy (y_neq rfl rfl rfl) rfl rfl rfl rfl ?_
                  refine ry (y_pick rfl rfl rfl) rfl rfl ?_
                  refine ry (y_mov rfl rfl) rfl rfl ?_
                  refine rg_splitd (d := 97) rfl (fun h44 => ?_) (fun h44 => ?_)
                  · exact absurd rfl h44
                  · skip
                    refine rgy (y_mov rfl rfl) rfl rfl rfl rfl ?_
                    refine rg_on rfl rfl rfl (op_call (gNil_Tiles _) rfl kflaw9a_14 ⟨rfl, trivial⟩) rfl ?_
                    rintro _ w46 ⟨rfl, e45⟩
                    have H47 := H41.ext e45
                    refine rgy (y_len rfl Try.underlying88 rfl) rfl rfl rfl rfl ?_
                    refine rgy (y_neq rfl rfl rfl) rfl rfl rfl rfl ?_
                    refine ry (y_pick rfl rfl rfl) rfl rfl ?_
                    refine ry (y_mov rfl rfl) rfl rfl ?_
                    refine rg_splitd (d := 103) rfl (fun h48 => ?_) (fun h48 => ?_)
                    · exact absurd rfl h48
                    · skip
                      refine rgy (y_mov rfl rfl) rfl rfl rfl rfl ?_
                      refine rgy (y_neq rfl rfl rfl) rfl rfl rfl rfl ?_
                      refine ry (y_pick rfl rfl rfl) rfl rfl ?_
                      refine ry (y_mov rfl rfl) rfl rfl ?_
                      refine rg_splitd (d := 107) rfl (fun h49 => ?_) (fun h49 => ?_)
                      · exact absurd rfl h49
                      · skip
                        refine rgy (y_mov rfl rfl) rfl rfl rfl rfl ?_
                        refine ry (y_pick rfl rfl rfl) rfl rfl ?_
                        refine ry (y_mov rfl rfl) rfl rfl ?_
                        refine rgy (y_mov rfl rfl) rfl rfl rfl rfl ?_
                        refine rg_on rfl rfl rfl (op_call (gNil_Copy _) rfl kflaw9a_22 ⟨rfl, trivial⟩) rfl ?_
                        rintro _ w51 ⟨rfl, e50⟩
                        have H52 := H47.ext e50
                        refine rgy (y_pneqnil rfl Try.underlying74 rfl rfl) rfl rfl rfl rfl ?_
                        refine ry (y_pick rfl rfl rfl) rfl rfl ?_
                        refine ry (y_mov rfl rfl) rfl rfl ?_
                        refine rgy (y_mov rfl rfl) rfl rfl rfl rfl ?_
                        refine rg_on rfl rfl rfl (op_call (gNil_Same2 _) rfl kflaw9a_23 ⟨rfl, rfl, trivial⟩) rfl ?_
                        rintro _ w54 ⟨rfl, e53⟩
                        have H55 := H52.ext e53
                        refine rgy (y_not rfl rfl) rfl rfl rfl rfl ?_
                        refine ry (y_pick rfl rfl rfl) rfl rfl ?_
                        refine ry (y_mov rfl rfl) rfl rfl ?_
                        refine rgy (y_mov rfl rfl) rfl rfl rfl rfl ?_
                        refine rgy (y_mov rfl rfl) rfl rfl rfl rfl ?_
                        refine rg_on rfl rfl rfl (op_call (gNil_SameL _ _) rfl kflaw9a_23 ⟨rfl, rfl, trivial⟩) rfl ?_
                        rintro _ w57 ⟨rfl, e56⟩
                        have H58 := H55.ext e56
                        refine ry (y_pick rfl rfl rfl) rfl rfl ?_
                        refine ry (y_mov rfl rfl) rfl rfl ?_
                        refine rgy (y_mov rfl rfl) rfl rfl rfl rfl ?_
                        refine rgy (y_mov rfl rfl) rfl rfl rfl rfl ?_
                        refine rg_on rfl rfl rfl (op_call (gNil_SameR _ _) rfl kflaw9a_23 ⟨rfl, rfl, trivial⟩) rfl ?_
                        rintro _ w60 ⟨rfl, e59⟩
                        have H61 := H58.ext e59
                        refine ry (y_pick rfl rfl rfl) rfl rfl ?_
                        refine reg_nil ?_
                        refine fn_next ?_
                        refine cw_condf rfl ?_
                        refine cw_skip ?_
                        refine fn_next ?_
                        refine cw_seq ?_
                        refine cw_reg ?_
                        refine ry (y_mov rfl rfl) rfl rfl ?_
                        refine ry (y_mov rfl rfl) rfl rfl ?_
                        refine reg_op (op_call (gAll g25 2 2 (List.replicate (2 * 2) 4)  _ (H61.rdg (i := 0) rfl)) rfl kflaw9a_2 ⟨rfl, trivial⟩) rfl rfl ?_
                        rintro _ w63 ⟨rfl, e62⟩
                        have H64 := H61.ext e62
                        refine reg_op (op_call (gValuesAll g25 2 2 (List.replicate (2 * 2) 4) _ (H64.rdg (i := 0) rfl)) rfl kflaw9a_3 ⟨rfl, rfl, trivial⟩) rfl rfl ?_
                        rintro _ w66 ⟨A68, c69, rfl, k65⟩
                        have H67 := H64.call k65
                        refine ry (y_mov rfl rfl) rfl rfl ?_
                        refine ry (y_ext rfl rfl rfl) rfl rfl ?_
                        refine ry (y_ext rfl rfl rfl) rfl rfl ?_
                        refine ry (y_asg rfl rfl) rfl rfl ?_
                        refine ry (y_asg rfl rfl) rfl rfl ?_
                        refine reg_nil ?_
                        refine fn_next ?_
                        refine cw_seq ?_
                        refine cw_seq ?_
                        refine cw_reg ?_
                        refine ry (y_asg rfl rfl) rfl rfl ?_
                        refine reg_nil ?_
                        refine fn_next ?_
                        refine cw_block ?_
                        refine cw_loopJ [22, 137, 138, 139, 140, 141, 142, 143, 144, 145] (fun M wl ml => ∃ (j : Nat) (zs : List Int), M = [(22, .int .i64 (j : Int))] ∧ HS w wl [Ob.row A68 (2 * 2) c69 (vi .i64 zs) 2 1, gOb g25 2 2 (List.replicate (2 * 2) 4) bl26] ∧ (j ≤ 4) ∧ (zs.length = 4) ∧ ml = 4 - j) ⟨0, List.replicate (2 * 2) 4, rfl, (H67.pick (m := [_, _]) [0, 1] rfl (by decide)), by decide, rfl, rfl⟩ ⟨rfl, trivial⟩ ?_
                        rintro M w70 m72 ⟨j, zs, rfl, H71, hp0, hp1, rfl⟩
                        refine cw_seq ?_
                        refine cw_seq ?_
                        refine cw_reg ?_
                        refine ry (y_mov rfl rfl) rfl rfl ?_
                        refine ry (y_mov rfl rfl) rfl rfl ?_
                        refine ry (y_len rfl Try.underlying32 rfl) rfl rfl ?_
                        refine ry (y_lss rfl rfl rfl) rfl rfl ?_
                        refine reg_nil ?_
                        refine fn_next ?_
                        refine cw_condd rfl (fun h73 => ?_) (fun h73 => ?_)
                        · skip
                          have hgj := vi_get (k := .i64) (zs := zs) (i := j) (by omega)
                          refine cw_skip ?_
                          refine fn_next ?_
                          refine cw_seq ?_
                          refine cw_block ?_
                          refine cw_reg ?_
                          refine ry (y_mov rfl rfl) rfl rfl ?_
                          refine ry (y_mov rfl rfl) rfl rfl ?_
                          refine ry (y_iar (H71.rd (i := 0) rfl) rfl rfl rfl kflaw9a_24 (rfl) (by omega) (Nat.mul_one _) (hgj)) rfl rfl ?_
                          refine reg_op (op_ste (i := 0) (vs := [.int _ _]) H71 rfl rfl rfl rfl rfl kflaw9a_25 rfl (by rw [vi_len, hp1]; show j + 1 ≤ 4; omega) rfl rfl) rfl rfl ?_
                          rintro _ w74 H75
                          refine reg_nil ?_
                          refine fn_block ?_
                          refine fn_next ?_
                          refine cw_reg ?_
                          refine ry (y_mov rfl rfl) rfl rfl ?_
                          refine ry (y_add rfl rfl rfl (wi (by omega))) rfl rfl ?_
                          refine ry (y_asg rfl rfl) rfl rfl ?_
                          refine reg_nil ?_
                          rw [vi_set] at H75
                          refine fn_roundJ ⟨j + 1, _, rfl, H75, by omega, by rw [List.length_set]; exact hp1, rfl⟩ ⟨rfl, trivial⟩ (by omega) (by repeat (first | exact kp_refl | refine kp_app rfl rfl ?_ | refine kp_cons rfl ?_)) rfl
                        · skip
                          refine cw_exit ?_
                          refine fn_then_exit (fn_then_exit (fn_block_exit ?_))
                          refine fn_next ?_
                          refine cw_seq ?_
                          refine cw_reg ?_
                          refine ry (y_mov rfl rfl) rfl rfl ?_
                          refine ry (y_mov rfl rfl) rfl rfl ?_
                          refine reg_op (op_call (gAll g25 2 2 (List.replicate (2 * 2) 4)  _ (H71.rdg (i := 1) rfl)) rfl kflaw9a_2 ⟨rfl, trivial⟩) rfl rfl ?_
                          rintro _ w77 ⟨rfl, e76⟩
                          have H78 := H71.ext e76
                          refine reg_op (op_call (gValuesAll g25 2 2 (List.replicate (2 * 2) 4) _ (H78.rdg (i := 1) rfl)) rfl kflaw9a_3 ⟨rfl, rfl, trivial⟩) rfl rfl ?_
                          rintro _ w80 ⟨A82, c83, rfl, k79⟩
                          have H81 := H78.call k79
                          refine ry (y_mov rfl rfl) rfl rfl ?_
                          refine ry (y_ext rfl rfl rfl) rfl rfl ?_
                          refine ry (y_ext rfl rfl rfl) rfl rfl ?_
                          refine ry (y_asg rfl rfl) rfl rfl ?_
                          refine ry (y_asg rfl rfl) rfl rfl ?_
                          refine reg_nil ?_
                          refine fn_next ?_
                          refine cw_seq ?_
                          refine cw_reg ?_
                          refine ry (y_mov rfl rfl) rfl rfl ?_
                          refine reg_op (op_lit (parts := [(0, _), (1, _), (2, _), (3, _)]) (vs := [(0, _), (1, _), (2, _), (3, _)]) (cs := [.int _ _, .int _ _, .int _ _, .int _ _]) H81 rfl Try.underlying32 kflaw9a_26 rfl ⟨rfl, rfl, rfl, rfl, trivial⟩ rfl rfl) rfl rfl ?_
                          rintro _ w85 ⟨b84, rfl, H86⟩
                          have H87 := H86.asrow (m := 4) (size := 1) rfl (by decide)
                          refine reg_op (op_call (ret_v (v := .bool true) (refSame_any _ (2 * 2) _ (List.replicate (2 * 2) 4) _ 4 _ [4, 4, 4, 4] _ (H87.rd (i := 1) rfl) rfl (H87.rd (i := 0) rfl) rfl (by decide)) rfl) rfl kflaw9a_9 ⟨rfl, rfl, trivial⟩) rfl rfl ?_
                          rintro _ w89 ⟨rfl, e88⟩
                          have H90 := H87.ext e88
                          refine ry (y_asg rfl rfl) rfl rfl ?_
                          refine reg_nil ?_
                          refine fn_next ?_
                          refine cw_ret ?_
                          refine fn_ret1 rfl rfl ?_
                          exact ⟨rfl, H90.base⟩

theorem gridNil_law (cx cy : Int) (rx0 ry0 rx1 ry1 : Int) (v : Int) (i : Int) (W : World) (bcx : I6 cx) (bcy : I6 cy) (brx0 : I6 rx0) (bry0 : I6 ry0) (brx1 : I6 rx1) (bry1 : I6 ry1) (bv : I6 v) (bi : I6 i) :
    Calls Try.prog 12 #[.agg #[.int .i64 cx, .int .i64 cy], .agg #[.int .i64 rx0, .int .i64 ry0, .int .i64 rx1, .int .i64 ry1], .int .i64 v, .int .i64 i] W fun e w' => e = .returned (.bool true) ∧ Below W.heap.size W w' := lawOf (gridNil_all cx cy rx0 ry0 rx1 ry1 v i W)

end Go.Proofs.Ytkphmcaoioaglaa
