/- Layer 48: in no grid there is no horizon; the example. -/
import Derived.Test.YtgkkbeomhkggjaaDoorHor0
set_option linter.unusedVariables false
set_option linter.unusedSimpArgs false
namespace Go.Proofs.YtgkkbeomhkggjaaDoor
open Go Go.RowKit
theorem kflaw48_1 : (Tryd.prog.info? 2).map (fun i => (i.size, i.zero.map Value.cells)) = some (1, some (List.toArray [(.int .i64 0)])) := by kernel_rfl
theorem kflaw48_2 : callB Tryd.prog 25 = true := by kernel_rfl
theorem kflaw48_3 : (Tryd.prog.info? 24).bind (fun i => i.zero.map Value.cells) = some (List.toArray [(.int .i64 0), (.int .i64 0)]) := by kernel_rfl
theorem kflaw48_4 : callB Tryd.prog 11 = true := by kernel_rfl
theorem kflaw48_5 : (Tryd.prog.info? 34).bind (fun i => i.zero.map Value.cells) = some (List.toArray [(.int .i64 0), (.int .i64 0)]) := by kernel_rfl
theorem kflaw48_6 : szB Tryd.prog 34 2 = true := by kernel_rfl
theorem kflaw48_7 : szB Tryd.prog 24 2 = true := by kernel_rfl
theorem kflaw48_8 : aggB Tryd.prog 34 2 = true := by kernel_rfl
theorem kflaw48_9 : seqB Tryd.prog 34 2 = true := by kernel_rfl
theorem kflaw48_10 : aggB Tryd.prog 24 2 = true := by kernel_rfl
theorem kflaw48_11 : seqB Tryd.prog 24 2 = true := by kernel_rfl
theorem kflaw48_12 : callB Tryd.prog 8 = true := by kernel_rfl
theorem kflaw48_13 : callB Tryd.prog 14 = true := by kernel_rfl
theorem kflaw48_14 : callB Tryd.prog 15 = true := by kernel_rfl
theorem aw48 : fromC ((3 : Nat) : Int) ((1 : Nat) : Int) [0, 2, 3] = 0 ∧ hC 3 1 0 0 0 = 0 ∧ hS [0, 2, 3] 3 1 0 0 0 2 = (2, 1, 1, 0, true) := by decide +kernel

set_option maxRecDepth 100000 in
theorem horAwake  (w : World) (hG : Rd w (some ⟨0, 0, none⟩) (vi .i64 (pr dX dY 8))) :
    Ret Tryd.prog 8 [] w (fun z w' => z = .bool true ∧ Below w.heap.size w w') := by
 obtain ⟨e1, e2, e3⟩ := aw48
 refine ret_enter Tryd.func8 rfl rfl rfl ?_
 have H0 := HS.start w
 refine cw_seq ?_
 refine cw_reg ?_
 refine ry (y_asg rfl rfl) rfl rfl ?_
 refine reg_nil ?_
 refine fn_next ?_
 refine cw_seq ?_
 refine cw_reg ?_
 refine reg_op (op_lit (parts := [(0, _), (1, _), (2, _)]) (vs := [(0, _), (1, _), (2, _)]) (cs := [.int _ _, .int _ _, .int _ _]) H0 rfl Tryd.underlying22 kflaw48_1 rfl ⟨rfl, rfl, rfl, trivial⟩ rfl rfl) rfl rfl ?_
 rintro _ w2 ⟨b1, rfl, H3⟩
 have H4 := H3.asrow (m := 3) (size := 1) rfl (by decide)
 refine reg_op (op_call (gFrom_ok 3 1 [0, 2, 3] _ 3 _ _ (H4.rd (i := 0) rfl) rfl (by decide) ⟨by decide, by decide, by decide, by decide⟩ e1) rfl kflaw48_2 ⟨rfl, rfl, rfl, trivial⟩) rfl rfl ?_
 rintro _ w6 ⟨g8, bl9, rfl, k5⟩
 have H7 := H4.call k5
 refine ry (y_mov rfl rfl) rfl rfl ?_
 refine ry (y_ext rfl rfl rfl) rfl rfl ?_
 refine ry (y_ext rfl rfl rfl) rfl rfl ?_
 refine ry (y_asg rfl rfl) rfl rfl ?_
 refine ry (y_asg rfl rfl) rfl rfl ?_
 refine reg_nil ?_
 refine fn_next ?_
 refine cw_seq ?_
 refine cw_reg ?_
 refine ry (y_mov rfl rfl) rfl rfl ?_
 refine ry (y_build (places := [(0, 1), (1, 1)]) (parts := []) (vs := []) (cs := [.int _ _, .int _ _]) rfl Tryd.underlying24 (by kernel_rfl) kflaw48_3 rfl trivial rfl) rfl rfl ?_
 refine reg_op (op_call (ret_v (v := .tuple #[.agg #[.int .i64 2, .int .i64 1], .agg #[.int .i64 1, .int .i64 0], .bool true, .int .i64 0]) (hSteep g8 3 1 ([0, 2, 3]) 0 0 0 2 _ (H7.rdg (i := 0) rfl) (hG.below H7.base) e2 (by decide)) (by rw [e3]; rfl)) rfl kflaw48_4 ⟨rfl, rfl, rfl, rfl, trivial⟩) rfl rfl ?_
 rintro _ w11 ⟨rfl, e10⟩
 have H12 := H7.ext e10
 refine ry (y_mov rfl rfl) rfl rfl ?_
 refine ry (y_ext rfl rfl rfl) rfl rfl ?_
 refine ry (y_ext rfl rfl rfl) rfl rfl ?_
 refine ry (y_ext rfl rfl rfl) rfl rfl ?_
 refine ry (y_ext rfl rfl rfl) rfl rfl ?_
 refine reg_op (op_alloc H12 rfl kflaw48_5) rfl rfl ?_
 rintro _ w14 ⟨b13, rfl, H15⟩
 refine reg_op (op_alloc H15 rfl kflaw48_3) rfl rfl ?_
 rintro _ w17 ⟨b16, rfl, H18⟩
 refine reg_op (op_st (i := 1) (vs := [.int _ _, .int _ _]) H18 rfl rfl rfl rfl rfl kflaw48_6 rfl rfl rfl) rfl rfl ?_
 rintro _ w19 H20
 refine reg_op (op_st (i := 0) (vs := [.int _ _, .int _ _]) H20 rfl rfl rfl rfl rfl kflaw48_7 rfl rfl rfl) rfl rfl ?_
 rintro _ w21 H22
 refine ry (y_asg rfl rfl) rfl rfl ?_
 refine ry (y_asg rfl rfl) rfl rfl ?_
 refine reg_nil ?_
 refine fn_next ?_
 refine cw_seq ?_
 refine cw_reg ?_
 refine ry (y_mov rfl rfl) rfl rfl ?_
 refine ry (y_eql rfl rfl rfl) rfl rfl ?_
 refine ry (y_mov rfl rfl) rfl rfl ?_
 refine rgy (y_mov rfl rfl) rfl rfl rfl rfl ?_
 refine rgy (y_eql rfl rfl rfl) rfl rfl rfl rfl ?_
 refine ry (y_pick rfl rfl rfl) rfl rfl ?_
 refine ry (y_mov rfl rfl) rfl rfl ?_
 refine rgy (y_mov rfl rfl) rfl rfl rfl rfl ?_
 refine ry (y_pick rfl rfl rfl) rfl rfl ?_
 refine ry (y_mov rfl rfl) rfl rfl ?_
 refine rgy (y_ldb (i := 1) (cs := [_, _]) H22 rfl rfl kflaw48_8 rfl rfl) rfl rfl rfl rfl ?_
 refine rgy (y_build (places := [(0, 1), (1, 1)]) (parts := [(0, _), (1, _)]) (vs := [(0, _), (1, _)]) (cs := [.int _ _, .int _ _]) rfl Tryd.underlying34 (by kernel_rfl) kflaw48_5 rfl ⟨rfl, rfl, trivial⟩ rfl) rfl rfl rfl rfl ?_
 refine rgy (yv (congrArg Value.bool (decide_eq_true (rfl))) (y_seq (ks := [.i64, .i64]) (a := [2, 1]) (b := [2, 1]) rfl (.inl ⟨rfl, rfl⟩) kflaw48_9 rfl rfl rfl rfl rfl rfl rfl)) rfl rfl rfl rfl ?_
 refine ry (y_pick rfl rfl rfl) rfl rfl ?_
 refine ry (y_mov rfl rfl) rfl rfl ?_
 refine rgy (y_ldb (i := 0) (cs := [_, _]) H22 rfl rfl kflaw48_10 rfl rfl) rfl rfl rfl rfl ?_
 refine rgy (y_build (places := [(0, 1), (1, 1)]) (parts := [(0, _)]) (vs := [(0, _)]) (cs := [.int _ _, .int _ _]) rfl Tryd.underlying24 (by kernel_rfl) kflaw48_3 rfl ⟨rfl, trivial⟩ rfl) rfl rfl rfl rfl ?_
 refine rgy (yv (congrArg Value.bool (decide_eq_true (rfl))) (y_seq (ks := [.i64, .i64]) (a := [1, 0]) (b := [1, 0]) rfl (.inl ⟨rfl, rfl⟩) kflaw48_11 rfl rfl rfl rfl rfl rfl rfl)) rfl rfl rfl rfl ?_
 refine ry (y_pick rfl rfl rfl) rfl rfl ?_
 refine ry (y_asg rfl rfl) rfl rfl ?_
 refine reg_nil ?_
 refine fn_next ?_
 refine cw_ret ?_
 refine fn_ret1 rfl rfl ?_
 exact ⟨rfl, H22.base⟩

set_option maxRecDepth 100000 in
theorem horNil_all (cx cy high dir : Int) (w : World) (hG : Rd w (some ⟨0, 0, none⟩) (vi .i64 (pr dX dY 8))) :
    Ret Tryd.prog 4 [.agg #[.int .i64 cx, .int .i64 cy], .int .i64 high, .int .i64 dir] w (fun z w' => z = .bool true ∧ Below w.heap.size w w') := by
 refine ret_enter Tryd.func4 rfl rfl rfl ?_
 have H0 := HS.start w
 refine cw_seq ?_
 refine cw_reg ?_
 refine reg_op (op_box (cs := [.int _ _, .int _ _]) H0 rfl rfl rfl) rfl rfl ?_
 rintro _ w2 ⟨b1, rfl, H3⟩
 refine ry (y_asg rfl rfl) rfl rfl ?_
 refine reg_nil ?_
 refine fn_next ?_
 refine cw_seq ?_
 refine cw_seq ?_
 refine cw_reg ?_
 refine reg_op (op_call (horAwake _ (hG.below H3.base)) rfl kflaw48_12 trivial) rfl rfl ?_
 rintro _ w5 ⟨rfl, e4⟩
 have H6 := H3.ext e4
 refine ry (y_not rfl rfl) rfl rfl ?_
 refine reg_nil ?_
 refine fn_next ?_
 refine cw_condf rfl ?_
 refine cw_skip ?_
 refine fn_next ?_
 refine cw_seq ?_
 refine cw_reg ?_
 refine ry (y_ldb (i := 0) (cs := [_, _]) H6 rfl rfl kflaw48_10 rfl rfl) rfl rfl ?_
 refine ry (y_mov rfl rfl) rfl rfl ?_
 refine ry (y_mov rfl rfl) rfl rfl ?_
 refine reg_op (op_call (hNil_Steepest _ _ _ _ _) rfl kflaw48_4 ⟨rfl, rfl, rfl, rfl, trivial⟩) rfl rfl ?_
 rintro _ w8 ⟨rfl, e7⟩
 have H9 := H6.ext e7
 refine ry (y_mov rfl rfl) rfl rfl ?_
 refine ry (y_ext rfl rfl rfl) rfl rfl ?_
 refine ry (y_ext rfl rfl rfl) rfl rfl ?_
 refine ry (y_ext rfl rfl rfl) rfl rfl ?_
 refine ry (y_ext rfl rfl rfl) rfl rfl ?_
 refine reg_op (op_alloc H9 rfl kflaw48_5) rfl rfl ?_
 rintro _ w11 ⟨b10, rfl, H12⟩
 refine reg_op (op_alloc H12 rfl kflaw48_3) rfl rfl ?_
 rintro _ w14 ⟨b13, rfl, H15⟩
 refine reg_op (op_st (i := 1) (vs := [.int _ _, .int _ _]) H15 rfl rfl rfl rfl rfl kflaw48_6 rfl rfl rfl) rfl rfl ?_
 rintro _ w16 H17
 refine reg_op (op_st (i := 0) (vs := [.int _ _, .int _ _]) H17 rfl rfl rfl rfl rfl kflaw48_7 rfl rfl rfl) rfl rfl ?_
 rintro _ w18 H19
 refine ry (y_asg rfl rfl) rfl rfl ?_
 refine ry (y_asg rfl rfl) rfl rfl ?_
 refine reg_nil ?_
 refine fn_next ?_
 refine cw_seq ?_
 refine cw_reg ?_
 refine ry (y_ldb (i := 2) (cs := [_, _]) H19 rfl rfl kflaw48_10 rfl rfl) rfl rfl ?_
 refine ry (y_mov rfl rfl) rfl rfl ?_
 refine reg_op (op_call (hNil_Around _ _ _ _) rfl kflaw48_13 ⟨rfl, rfl, rfl, trivial⟩) rfl rfl ?_
 rintro _ w21 ⟨rfl, e20⟩
 have H22 := H19.ext e20
 refine ry (y_mov rfl rfl) rfl rfl ?_
 refine ry (y_ext rfl rfl rfl) rfl rfl ?_
 refine ry (y_ext rfl rfl rfl) rfl rfl ?_
 refine ry (y_asg rfl rfl) rfl rfl ?_
 refine ry (y_asg rfl rfl) rfl rfl ?_
 refine reg_nil ?_
 refine fn_next ?_
 refine cw_seq ?_
 refine cw_reg ?_
 refine ry (y_ldb (i := 2) (cs := [_, _]) H22 rfl rfl kflaw48_10 rfl rfl) rfl rfl ?_
 refine ry (y_mov rfl rfl) rfl rfl ?_
 refine reg_op (op_call (hNil_Open _ _ _ _) rfl kflaw48_14 ⟨rfl, rfl, rfl, trivial⟩) rfl rfl ?_
 rintro _ w24 ⟨rfl, e23⟩
 have H25 := H22.ext e23
 refine ry (y_mov rfl rfl) rfl rfl ?_
 refine ry (y_ext rfl rfl rfl) rfl rfl ?_
 refine ry (y_ext rfl rfl rfl) rfl rfl ?_
 refine ry (y_asg rfl rfl) rfl rfl ?_
 refine ry (y_asg rfl rfl) rfl rfl ?_
 refine reg_nil ?_
 refine fn_next ?_
 refine cw_seq ?_
 refine cw_reg ?_
 refine ry (y_ldb (i := 1) (cs := [_, _]) H25 rfl rfl kflaw48_8 rfl rfl) rfl rfl ?_
 refine ry (y_build (places := [(0, 1), (1, 1)]) (parts := []) (vs := []) (cs := [.int _ _, .int _ _]) rfl Tryd.underlying34 (by kernel_rfl) kflaw48_5 rfl trivial rfl) rfl rfl ?_
 refine ry (yv (congrArg Value.bool (decide_eq_true (rfl))) (y_seq (ks := [.i64, .i64]) (a := [0, 0]) (b := [0, 0]) rfl (.inl ⟨rfl, rfl⟩) kflaw48_9 rfl rfl rfl rfl rfl rfl rfl)) rfl rfl ?_
 refine ry (y_mov rfl rfl) rfl rfl ?_
 refine rgy (y_ldb (i := 0) (cs := [_, _]) H25 rfl rfl kflaw48_10 rfl rfl) rfl rfl rfl rfl ?_
 refine rgy (y_build (places := [(0, 1), (1, 1)]) (parts := []) (vs := []) (cs := [.int _ _, .int _ _]) rfl Tryd.underlying24 (by kernel_rfl) kflaw48_3 rfl trivial rfl) rfl rfl rfl rfl ?_
 refine rgy (yv (congrArg Value.bool (decide_eq_true (rfl))) (y_seq (ks := [.i64, .i64]) (a := [0, 0]) (b := [0, 0]) rfl (.inl ⟨rfl, rfl⟩) kflaw48_11 rfl rfl rfl rfl rfl rfl rfl)) rfl rfl rfl rfl ?_
 refine ry (y_pick rfl rfl rfl) rfl rfl ?_
 refine ry (y_mov rfl rfl) rfl rfl ?_
 refine rgy (y_mov rfl rfl) rfl rfl rfl rfl ?_
 refine rgy (y_not rfl rfl) rfl rfl rfl rfl ?_
 refine ry (y_pick rfl rfl rfl) rfl rfl ?_
 refine ry (y_mov rfl rfl) rfl rfl ?_
 refine rgy (y_mov rfl rfl) rfl rfl rfl rfl ?_
 refine rgy (y_eql rfl rfl rfl) rfl rfl rfl rfl ?_
 refine ry (y_pick rfl rfl rfl) rfl rfl ?_
 refine ry (y_mov rfl rfl) rfl rfl ?_
 refine rgy (y_mov rfl rfl) rfl rfl rfl rfl ?_
 refine rgy (y_len rfl Tryd.underlying43 rfl) rfl rfl rfl rfl ?_
 refine rgy (y_eql rfl rfl rfl) rfl rfl rfl rfl ?_
 refine ry (y_pick rfl rfl rfl) rfl rfl ?_
 refine ry (y_mov rfl rfl) rfl rfl ?_
 refine rgy (y_mov rfl rfl) rfl rfl rfl rfl ?_
 refine rgy (y_eql rfl rfl rfl) rfl rfl rfl rfl ?_
 refine ry (y_pick rfl rfl rfl) rfl rfl ?_
 refine ry (y_mov rfl rfl) rfl rfl ?_
 refine rgy (y_mov rfl rfl) rfl rfl rfl rfl ?_
 refine rgy (y_eql rfl rfl rfl) rfl rfl rfl rfl ?_
 refine ry (y_pick rfl rfl rfl) rfl rfl ?_
 refine ry (y_mov rfl rfl) rfl rfl ?_
 refine rgy (y_mov rfl rfl) rfl rfl rfl rfl ?_
 refine rgy (y_eql rfl rfl rfl) rfl rfl rfl rfl ?_
 refine ry (y_pick rfl rfl rfl) rfl rfl ?_
 refine ry (y_asg rfl rfl) rfl rfl ?_
 refine reg_nil ?_
 refine fn_next ?_
 refine cw_ret ?_
 refine fn_ret1 rfl rfl ?_
 exact ⟨rfl, H25.base⟩

theorem horNil_law (cx cy : Int) (high : Int) (dir : Int) (W : World) (hG : Rd W (some ⟨0, 0, none⟩) (vi .i64 (pr dX dY 8))) (bcx : I6 cx) (bcy : I6 cy) (bhigh : I6 high) (bdir : I6 dir) :
    Calls Tryd.prog 4 #[.agg #[.int .i64 cx, .int .i64 cy], .int .i64 high, .int .i64 dir] W fun e w' => e = .returned (.bool true) ∧ Below W.heap.size W w' := lawOf (horNil_all cx cy high dir W hG)

end Go.Proofs.YtgkkbeomhkggjaaDoor
