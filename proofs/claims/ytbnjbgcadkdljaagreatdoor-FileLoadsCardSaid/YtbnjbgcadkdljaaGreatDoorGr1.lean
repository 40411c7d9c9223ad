/- Layer 9: a grid of one cell. -/
import Derived.Test.YtbnjbgcadkdljaaGreatDoorMF
import Derived.Test.YtbnjbgcadkdljaaGreatDoorME
import Derived.Test.YtbnjbgcadkdljaaGreatDoorTile1
set_option linter.unusedVariables false
set_option linter.unusedSimpArgs false
namespace Go.Proofs.YtbnjbgcadkdljaaGreatDoor
open Go Go.RowKit
theorem kfgr1_1 : callB Tryz.prog 59 = true := by kernel_rfl
theorem kfgr1_2 : callB Tryz.prog 81 = true := by kernel_rfl
theorem kfgr1_3 : concB Tryz.prog 117 = true := by kernel_rfl
theorem kfgr1_4 : (Tryz.prog.info? 121).bind (fun i => i.zero.map Value.cells) = some (List.toArray [(.int .i64 0), (.int .i64 0), .nilIface]) := by kernel_rfl
theorem kfgr1_5 : (Tryz.prog.info? 54).bind (fun i => i.zero.map Value.cells) = some (List.toArray [(.int .i64 0), (.int .i64 0), (.int .i64 0), (.int .i64 0)]) := by kernel_rfl
theorem kfgr1_6 : szB Tryz.prog 54 4 = true := by kernel_rfl
theorem kfgr1_7 : callB Tryz.prog 35 = true := by kernel_rfl
theorem kfgr1_8 : (Tryz.prog.info? 77).bind (fun i => i.zero.map Value.cells) = some (List.toArray [(.int .i64 0), (.int .i64 0), (.int .i64 0), (.slice none 0 0)]) := by kernel_rfl
theorem kfgr1_9 : aggB Tryz.prog 54 4 = true := by kernel_rfl
theorem kfgr1_10 : callB Tryz.prog 36 = true := by kernel_rfl
theorem kfgr1_11 : elB Tryz.prog 47 4 = true := by kernel_rfl
theorem kfgr1_12 : fldB Tryz.prog 54 2 2 = true := by kernel_rfl
theorem kfgr1_13 : oneB Tryz.prog 2 = true := by kernel_rfl
theorem kfgr1_14 : fldB Tryz.prog 54 0 0 = true := by kernel_rfl
theorem kfgr1_15 : fldB Tryz.prog 54 3 3 = true := by kernel_rfl
theorem kfgr1_16 : fldB Tryz.prog 54 1 1 = true := by kernel_rfl
theorem kfgr1_17 : callB Tryz.prog 37 = true := by kernel_rfl
theorem kfgr1_18 : fldB Tryz.prog 77 3 3 = true := by kernel_rfl
theorem kfgr1_19 : oneB Tryz.prog 75 = true := by kernel_rfl
theorem kfgr1_20 : (Tryz.prog.info? 79).map (fun i => (i.size, i.zero.map Value.cells)) = some (1, some (List.toArray [(.pointer none)])) := by kernel_rfl
theorem kfgr1_21 : (Tryz.prog.info? 79).map (fun i => (i.zero.map (·.cells.toList), i.size, i.bytes)) = some (some [(.pointer none)], 1, 8) := by kernel_rfl
theorem kfgr1_22 : szB Tryz.prog 75 1 = true := by kernel_rfl
theorem kfgr1_23 : fldB Tryz.prog 77 0 0 = true := by kernel_rfl
theorem kfgr1_24 : fldB Tryz.prog 77 1 1 = true := by kernel_rfl
theorem kfgr1_25 : callB Tryz.prog 26 = true := by kernel_rfl
theorem kfgr1_26 : fldB Tryz.prog 77 2 2 = true := by kernel_rfl
theorem kfgr1_27 : elB Tryz.prog 75 1 = true := by kernel_rfl
theorem kfgr1_28 : oneB Tryz.prog 79 = true := by kernel_rfl
theorem kfgr1_29 : aggB Tryz.prog 105 2 = true := by kernel_rfl
theorem kfgr1_30 : callB Tryz.prog 102 = true := by kernel_rfl
theorem kfgr1_31 : callB Tryz.prog 101 = true := by kernel_rfl
theorem kfgr1_32 : fldB Tryz.prog 121 2 2 = true := by kernel_rfl
theorem kfgr1_33 : oneB Tryz.prog 119 = true := by kernel_rfl
theorem kfgr1_34 : fldB Tryz.prog 105 1 1 = true := by kernel_rfl
theorem kfgr1_35 : fldB Tryz.prog 121 0 0 = true := by kernel_rfl
theorem kfgr1_36 : fldB Tryz.prog 105 0 0 = true := by kernel_rfl
theorem kfgr1_37 : methB Tryz.prog 117 "hachure/slab.at" 138 = true := by kernel_rfl
theorem kfgr1_38 : notPtrB Tryz.prog 117 = true := by kernel_rfl
theorem kfgr1_39 : callB Tryz.prog 138 = true := by kernel_rfl
theorem kfgr1_40 : (Tryz.prog.info? 105).bind (fun i => i.zero.map Value.cells) = some (List.toArray [(.int .i64 0), (.int .i64 0)]) := by kernel_rfl
theorem kfgr1_41 : szB Tryz.prog 105 2 = true := by kernel_rfl
theorem kfgr1_42 : callB Tryz.prog 67 = true := by kernel_rfl
theorem kfgr1_43 : callB Tryz.prog 62 = true := by kernel_rfl
theorem kfgr1_44 : (Tryz.prog.info? 2).map (fun i => (i.zero.map (·.cells.toList), i.size, i.bytes)) = some (some [(.int .i64 0)], 1, 8) := by kernel_rfl
theorem kfgr1_45 : callB Tryz.prog 68 = true := by kernel_rfl
theorem kfgr1_46 : callB Tryz.prog 70 = true := by kernel_rfl
theorem kfgr1_47 : callB Tryz.prog 69 = true := by kernel_rfl
theorem kfgr1_48 : (Tryz.prog.info? 2).map (fun i => (i.size, i.zero.map Value.cells)) = some (1, some (List.toArray [(.int .i64 0)])) := by kernel_rfl
theorem pieces1 (w : World) : Ret Tryz.prog 36 [.agg #[.int .i64 0, .int .i64 0, .int .i64 0, .int .i64 0]] w (fun v w' => ∃ A cap, v = .slice A 1 cap ∧ HS w w' [.row A 1 cap (vi .i64 [0, 0, 0, 0]) 54 4]) := by
  have h := pieces_ret 0 0 0 0 w
  have e : piecesL ⟨0, 0, 0, 0⟩ = [⟨0, 0, 0, 0⟩] := by decide
  rw [e] at h
  exact h
theorem within1 (w : World) : Ret Tryz.prog 35 [.agg #[.int .i64 0, .int .i64 0, .int .i64 0, .int .i64 0], .int .i64 1, .int .i64 1] w (fun v w' => v = .int .i64 0 ∧ Below w.heap.size w w') := by
  have h := ret_elder (within_any 0 0 0 0 1 1 w)
  have e : withinC 0 0 0 0 1 1 = 0 := by decide +kernel
  rw [e] at h
  exact h
theorem tright1 (w : World) : Ret Tryz.prog 59 [.int .i64 1, .int .i64 1] w (fun v w' => v = .bool true ∧ Below w.heap.size w w') := by
  have h := tileRight 1 1 w
  have e : decide (tR 1 1) = true := by decide
  rw [e] at h
  exact h
theorem area1 (w : World) : Ret Tryz.prog 62 [.agg #[.int .i64 0, .int .i64 0, .int .i64 0, .int .i64 0]] w (fun v w' => v = .int .i64 1 ∧ Below w.heap.size w w') := by
  have h := ret_elder (area_any 0 0 0 0 w)
  have e : areaI 0 0 0 0 = 1 := by decide +kernel
  rw [e] at h
  exact h
theorem smay1 (w : World) : Ret Tryz.prog 81 [.int .i64 0] w (fun v w' => v = .bool true ∧ Below w.heap.size w w') := by
  have h := slabMay_any 0 w
  have e : decide (B32 0) = true := by decide
  rw [e] at h
  exact h

set_option maxRecDepth 100000 in
theorem slab1  (w : World) :
    Ret Tryz.prog 37 [.int .i64 1, .int .i64 1, .int .i64 0] w (fun v w' => ∃ b, v = .tuple #[.pointer (some ⟨b, 0, none⟩), .int .i64 0] ∧ HS w w' [.blk b [.int .i64 1, .int .i64 1, .iface 117 (.int .i32 0)] 121]) := by
 refine ret_enter Tryz.func37 rfl rfl rfl ?_
 have H0 := HS.start w
 refine cw_seq ?_
 refine cw_reg ?_
 refine ry (y_asg rfl rfl) rfl rfl ?_
 refine ry (y_asg rfl rfl) rfl rfl ?_
 refine reg_nil ?_
 refine fn_next ?_
 refine cw_seq ?_
 refine cw_block ?_
 refine cw_seq ?_
 refine cw_reg ?_
 refine ry (y_mov rfl rfl) rfl rfl ?_
 refine ry (y_lss rfl rfl rfl) rfl rfl ?_
 refine ry (y_mov rfl rfl) rfl rfl ?_
 refine rgy (y_mov rfl rfl) rfl rfl rfl rfl ?_
 refine rgy (y_gtr rfl rfl rfl) rfl rfl rfl rfl ?_
 refine ry (y_pick rfl rfl rfl) rfl rfl ?_
 refine ry (y_mov rfl rfl) rfl rfl ?_
 refine rgy (y_mov rfl rfl) rfl rfl rfl rfl ?_
 refine rgy (y_lss rfl rfl rfl) rfl rfl rfl rfl ?_
 refine ry (y_pick rfl rfl rfl) rfl rfl ?_
 refine ry (y_mov rfl rfl) rfl rfl ?_
 refine rgy (y_mov rfl rfl) rfl rfl rfl rfl ?_
 refine rgy (y_gtr rfl rfl rfl) rfl rfl rfl rfl ?_
 refine ry (y_pick rfl rfl rfl) rfl rfl ?_
 refine ry (y_mov rfl rfl) rfl rfl ?_
 refine rgy (y_mov rfl rfl) rfl rfl rfl rfl ?_
 refine rgy (y_mov rfl rfl) rfl rfl rfl rfl ?_
 refine rg_on rfl rfl rfl (op_call (tright1 _) rfl kfgr1_1 ⟨rfl, rfl, trivial⟩) rfl ?_
 rintro _ w2 ⟨rfl, e1⟩
 have H3 := H0.ext e1
 refine rgy (y_not rfl rfl) rfl rfl rfl rfl ?_
 refine ry (y_pick rfl rfl rfl) rfl rfl ?_
 refine ry (y_asg rfl rfl) rfl rfl ?_
 refine reg_nil ?_
 refine fn_next ?_
 refine cw_condf rfl ?_
 refine cw_seq ?_
 refine cw_reg ?_
 refine ry (y_mov rfl rfl) rfl rfl ?_
 refine reg_op (op_call (smay1 _) rfl kfgr1_2 ⟨rfl, trivial⟩) rfl rfl ?_
 rintro _ w5 ⟨rfl, e4⟩
 have H6 := H3.ext e4
 refine ry (y_not rfl rfl) rfl rfl ?_
 refine ry (y_asg rfl rfl) rfl rfl ?_
 refine reg_nil ?_
 refine fn_next ?_
 refine cw_condf rfl ?_
 refine cw_skip ?_
 refine fn_block ?_
 refine fn_next ?_
 refine cw_seq ?_
 refine cw_reg ?_
 refine ry (y_mov rfl rfl) rfl rfl ?_
 refine ry (y_mov rfl rfl) rfl rfl ?_
 refine ry (y_mov rfl rfl) rfl rfl ?_
 refine ry (y_conv rfl Tryz.underlying2 Tryz.underlying117 rfl (rfl)) rfl rfl ?_
 refine ry (y_iface rfl kfgr1_3 rfl) rfl rfl ?_
 refine ry (y_build (places := [(0, 1), (1, 1), (2, 1)]) (parts := [(0, _), (1, _), (2, _)]) (vs := [(0, _), (1, _), (2, _)]) (cs := [.int _ _, .int _ _, _]) rfl Tryz.underlying121 (by kernel_rfl) kfgr1_4 rfl ⟨rfl, rfl, rfl, trivial⟩ rfl) rfl rfl ?_
 refine reg_op (op_box (cs := [.int _ _, .int _ _, _]) H6 rfl rfl rfl) rfl rfl ?_
 rintro _ w8 ⟨b7, rfl, H9⟩
 refine ry (y_asg rfl rfl) rfl rfl ?_
 refine ry (y_asg rfl rfl) rfl rfl ?_
 refine reg_nil ?_
 refine fn_next ?_
 refine cw_ret ?_
 refine fn_retn (vs := [_, _]) rfl ⟨rfl, rfl, trivial⟩ rfl ?_
 exact ⟨_, rfl, H9⟩

set_option maxRecDepth 100000 in
theorem grid1  (w : World) :
    Ret Tryz.prog 10 [.int .i64 1, .int .i64 1, .int .i64 0] w (fun v w' => ∃ g B c s, v = .tuple #[.pointer (some ⟨g, 0, none⟩), .int .i64 0] ∧ HS w w' [.blk g [.int .i64 1, .int .i64 1, .int .i64 1, .slice B 1 c] 77, .row B 1 c [.pointer (some ⟨s, 0, none⟩)] 79 1, .blk s [.int .i64 1, .int .i64 1, .iface 117 (.int .i32 0)] 121]) := by
 refine ret_enter Tryz.func10 rfl rfl rfl ?_
 have H0 := HS.start w
 refine cw_seq ?_
 refine cw_reg ?_
 refine ry (y_asg rfl rfl) rfl rfl ?_
 refine ry (y_asg rfl rfl) rfl rfl ?_
 refine reg_nil ?_
 refine fn_next ?_
 refine cw_seq ?_
 refine cw_reg ?_
 refine ry (y_mov rfl rfl) rfl rfl ?_
 refine ry (y_sub rfl rfl rfl (rfl)) rfl rfl ?_
 refine ry (y_mov rfl rfl) rfl rfl ?_
 refine ry (y_sub rfl rfl rfl (rfl)) rfl rfl ?_
 refine ry (y_build (places := [(0, 1), (1, 1), (2, 1), (3, 1)]) (parts := [(2, _), (3, _)]) (vs := [(2, _), (3, _)]) (cs := [.int _ _, .int _ _, .int _ _, .int _ _]) rfl Tryz.underlying54 (by kernel_rfl) kfgr1_5 rfl ⟨rfl, rfl, trivial⟩ rfl) rfl rfl ?_
 refine reg_op (op_alloc H0 rfl kfgr1_5) rfl rfl ?_
 rintro _ w2 ⟨b1, rfl, H3⟩
 refine reg_op (op_st (i := 0) (vs := [.int _ _, .int _ _, .int _ _, .int _ _]) H3 rfl rfl rfl rfl rfl kfgr1_6 rfl rfl rfl) rfl rfl ?_
 rintro _ w4 H5
 refine reg_nil ?_
 refine fn_next ?_
 refine cw_seq ?_
 refine cw_seq ?_
 refine cw_reg ?_
 refine ry (y_build (places := [(0, 1), (1, 1), (2, 1), (3, 1)]) (parts := []) (vs := []) (cs := [.int _ _, .int _ _, .int _ _, .int _ _]) rfl Tryz.underlying54 (by kernel_rfl) kfgr1_5 rfl trivial rfl) rfl rfl ?_
 refine ry (y_mov rfl rfl) rfl rfl ?_
 refine ry (y_mov rfl rfl) rfl rfl ?_
 refine reg_op (op_call (within1 _) rfl kfgr1_7 ⟨rfl, rfl, rfl, trivial⟩) rfl rfl ?_
 rintro _ w7 ⟨rfl, e6⟩
 have H8 := H5.ext e6
 refine ry (y_asg rfl rfl) rfl rfl ?_
 refine reg_nil ?_
 refine fn_next ?_
 refine cw_seq ?_
 refine cw_reg ?_
 refine ry (y_mov rfl rfl) rfl rfl ?_
 refine ry (y_neq rfl rfl rfl) rfl rfl ?_
 refine reg_nil ?_
 refine fn_next ?_
 refine cw_condf rfl ?_
 refine cw_skip ?_
 refine fn_next ?_
 refine cw_seq ?_
 refine cw_reg ?_
 refine ry (y_mov rfl rfl) rfl rfl ?_
 refine ry (y_mov rfl rfl) rfl rfl ?_
 refine ry (y_mov rfl rfl) rfl rfl ?_
 refine ry (y_add rfl rfl rfl (rfl)) rfl rfl ?_
 refine ry (y_sub rfl rfl rfl (rfl)) rfl rfl ?_
 refine ry (y_quo rfl rfl rfl (by omega) (rfl)) rfl rfl ?_
 refine ry (y_build (places := [(0, 1), (1, 1), (2, 1), (3, 1)]) (parts := [(0, _), (1, _), (2, _)]) (vs := [(0, _), (1, _), (2, _)]) (cs := [.int _ _, .int _ _, .int _ _, .slice _ _ _]) rfl Tryz.underlying77 (by kernel_rfl) kfgr1_8 rfl ⟨rfl, rfl, rfl, trivial⟩ rfl) rfl rfl ?_
 refine reg_op (op_box (cs := [.int _ _, .int _ _, .int _ _, .slice _ _ _]) H8 rfl rfl rfl) rfl rfl ?_
 rintro _ w10 ⟨b9, rfl, H11⟩
 refine ry (y_asg rfl rfl) rfl rfl ?_
 refine reg_nil ?_
 refine fn_next ?_
 refine cw_seq ?_
 refine cw_seq ?_
 refine cw_reg ?_
 refine ry (y_ldb (i := 1) (cs := [_, _, _, _]) H11 rfl rfl kfgr1_9 rfl rfl) rfl rfl ?_
 refine reg_op (op_call (pieces1 _) rfl kfgr1_10 ⟨rfl, trivial⟩) rfl rfl ?_
 rintro _ w13 ⟨A15, c16, rfl, k12⟩
 have H14 := H11.call k12
 refine ry (y_len rfl Tryz.underlying47 rfl) rfl rfl ?_
 refine ry (y_mov rfl rfl) rfl rfl ?_
 refine reg_nil ?_
 refine fn_next ?_
 refine cw_block ?_
 refine cw_loopR 2 ?_
 refine cw_seq ?_
 refine cw_reg ?_
 refine ry (y_lss rfl rfl rfl) rfl rfl ?_
 refine reg_nil ?_
 refine fn_next ?_
 refine cw_seq ?_
 refine cw_condt rfl ?_
 refine cw_skip ?_
 refine fn_next ?_
 refine cw_seq ?_
 refine cw_block ?_
 refine cw_seq ?_
 refine cw_reg ?_
 refine ry (y_iar (i := 0) (H14.rd (i := 0) rfl) rfl rfl rfl kfgr1_11 (rfl) (by decide) (rfl) (rfl)) rfl rfl ?_
 refine ry (y_ldra (cs := [_, _, _, _]) (H14.rd (i := 0) rfl) rfl rfl kfgr1_9 rfl (by decide) (fun j v h => by rw [Nat.zero_mul, Nat.zero_add]; exact h)) rfl rfl ?_
 refine reg_op (op_alloc H14 rfl kfgr1_5) rfl rfl ?_
 rintro _ w18 ⟨b17, rfl, H19⟩
 refine reg_op (op_st (i := 0) (vs := [.int _ _, .int _ _, .int _ _, .int _ _]) H19 rfl rfl rfl rfl rfl kfgr1_6 rfl rfl rfl) rfl rfl ?_
 rintro _ w20 H21
 refine reg_nil ?_
 refine fn_next ?_
 refine cw_seq ?_
 refine cw_reg ?_
 refine ry (y_fa rfl rfl kfgr1_12 rfl) rfl rfl ?_
 refine ry (y_ld rfl rfl kfgr1_13 (H21.cell (i := 0) rfl rfl)) rfl rfl ?_
 refine ry (y_fa rfl rfl kfgr1_14 rfl) rfl rfl ?_
 refine ry (y_ld rfl rfl kfgr1_13 (H21.cell (i := 0) rfl rfl)) rfl rfl ?_
 refine ry (y_sub rfl rfl rfl (rfl)) rfl rfl ?_
 refine ry (y_add rfl rfl rfl (rfl)) rfl rfl ?_
 refine ry (y_fa rfl rfl kfgr1_15 rfl) rfl rfl ?_
 refine ry (y_ld rfl rfl kfgr1_13 (H21.cell (i := 0) rfl rfl)) rfl rfl ?_
 refine ry (y_fa rfl rfl kfgr1_16 rfl) rfl rfl ?_
 refine ry (y_ld rfl rfl kfgr1_13 (H21.cell (i := 0) rfl rfl)) rfl rfl ?_
 refine ry (y_sub rfl rfl rfl (rfl)) rfl rfl ?_
 refine ry (y_add rfl rfl rfl (rfl)) rfl rfl ?_
 refine ry (y_mov rfl rfl) rfl rfl ?_
 refine reg_op (op_call (slab1 _) rfl kfgr1_17 ⟨rfl, rfl, rfl, trivial⟩) rfl rfl ?_
 rintro _ w23 ⟨b25, rfl, k22⟩
 have H24 := H21.call k22
 refine ry (y_mov rfl rfl) rfl rfl ?_
 refine ry (y_ext rfl rfl rfl) rfl rfl ?_
 refine ry (y_ext rfl rfl rfl) rfl rfl ?_
 refine ry (y_asg rfl rfl) rfl rfl ?_
 refine ry (y_asg rfl rfl) rfl rfl ?_
 refine reg_nil ?_
 refine fn_next ?_
 refine cw_seq ?_
 refine cw_seq ?_
 refine cw_reg ?_
 refine ry (y_mov rfl rfl) rfl rfl ?_
 refine ry (y_neq rfl rfl rfl) rfl rfl ?_
 refine reg_nil ?_
 refine fn_next ?_
 refine cw_condf rfl ?_
 refine cw_skip ?_
 refine fn_next ?_
 refine cw_reg ?_
 refine ry (y_mov rfl rfl) rfl rfl ?_
 refine ry (y_mov rfl rfl) rfl rfl ?_
 refine ry (y_nilck rfl rfl) rfl rfl ?_
 refine ry (y_fa rfl rfl kfgr1_18 rfl) rfl rfl ?_
 refine ry (y_ld rfl rfl kfgr1_19 (H24.cell (i := 3) rfl rfl)) rfl rfl ?_
 refine ry (y_mov rfl rfl) rfl rfl ?_
 refine reg_op (op_lit (parts := [(0, _)]) (vs := [(0, _)]) (cs := [.pointer _]) H24 rfl Tryz.underlying75 kfgr1_20 rfl ⟨rfl, trivial⟩ rfl rfl) rfl rfl ?_
 rintro _ w27 ⟨b26, rfl, H28⟩
 have H29 := H28.asrow (m := 1) (size := 1) rfl (by decide)
 have H30 := H29.nilrow 79 1
 refine reg_op (op_app (i := 0) (ys := [.pointer (some ⟨_, 0, none⟩)]) H30 rfl rfl rfl rfl (H30.rd (i := 1) rfl) (rfl) (rfl) Tryz.underlying75 kfgr1_21 rfl rfl (by unfold maxLen; omega) (by omega)) rfl rfl ?_
 rintro _ w33 ⟨A31, c32, rfl, H34⟩
 refine ry (y_nilck rfl rfl) rfl rfl ?_
 refine ry (y_fa rfl rfl kfgr1_18 rfl) rfl rfl ?_
 refine reg_op (op_st (i := 5) (vs := [.slice _ _ _]) H34 rfl rfl rfl rfl rfl kfgr1_22 rfl rfl rfl) rfl rfl ?_
 rintro _ w35 H36
 refine reg_nil ?_
 refine fn_block ?_
 refine fn_next ?_
 refine cw_reg ?_
 refine ry (y_add rfl rfl rfl (wi (by omega))) rfl rfl ?_
 refine ry (y_mov rfl rfl) rfl rfl ?_
 refine reg_nil ?_
 refine fn_roundR ?_
 refine cw_seq ?_
 refine cw_reg ?_
 refine ry (y_lss rfl rfl rfl) rfl rfl ?_
 refine reg_nil ?_
 refine fn_next ?_
 refine cw_seq ?_
 refine cw_condf rfl ?_
 refine cw_exit ?_
 refine fn_then_exit (fn_then_exit (fn_block_exit ?_))
 refine fn_next ?_
 refine cw_seq ?_
 refine cw_reg ?_
 refine ry (y_mov rfl rfl) rfl rfl ?_
 refine ry (y_asg rfl rfl) rfl rfl ?_
 refine ry (y_asg rfl rfl) rfl rfl ?_
 refine reg_nil ?_
 refine fn_next ?_
 refine cw_ret ?_
 refine fn_retn (vs := [_, _]) rfl ⟨rfl, rfl, trivial⟩ rfl ?_
 exact ⟨_, _, _, _, rfl, (H36.pick (m := [_, _, _]) [5, 0, 2] rfl (by decide))⟩

set_option maxRecDepth 100000 in
theorem all1 (g : Nat) (B : Option Addr) (c : Nat) (w : World) (hg : Rd w (some ⟨g, 0, none⟩) [.int .i64 1, .int .i64 1, .int .i64 1, .slice B 1 c]) :
    Ret Tryz.prog 26 [pt (some ⟨g, 0, none⟩) 0] w (fun v w' => v = .agg #[.int .i64 0, .int .i64 0, .int .i64 0, .int .i64 0] ∧ Below w.heap.size w w') := by
 refine ret_enter Tryz.func26 rfl rfl rfl ?_
 have H0 := HS.start w
 refine cw_seq ?_
 refine cw_reg ?_
 refine reg_op (op_alloc H0 rfl kfgr1_5) rfl rfl ?_
 rintro _ w2 ⟨b1, rfl, H3⟩
 refine reg_nil ?_
 refine fn_next ?_
 refine cw_seq ?_
 refine cw_seq ?_
 refine cw_reg ?_
 refine ry (y_mov rfl rfl) rfl rfl ?_
 refine ry (y_peqlnil rfl Tryz.underlying30 rfl rfl) rfl rfl ?_
 refine reg_nil ?_
 refine fn_next ?_
 refine cw_condf rfl ?_
 refine cw_skip ?_
 refine fn_next ?_
 refine cw_seq ?_
 refine cw_draw H3 [0, 1, 2, 3, 4, 5, 6, 7, 8, 9, 10] [11] (fun X HX => (HX.pick (m := []) [] rfl (by decide))) (by kernel_rfl) (by kernel_rfl) (by rfl) ?_
 simp only [pick, List.getElem?_cons_succ, List.getElem?_cons_zero]
 refine hk_y (fun Y HY => y_mov rfl rfl) rfl rfl ?_
 refine hk_y (fun Y HY => y_nilck rfl rfl) rfl rfl ?_
 refine hk_y (fun Y HY => y_far (hg.below HY.base) rfl rfl kfgr1_23 rfl (rfl)) rfl rfl ?_
 refine hk_y (fun Y HY => y_ldr (k := 0) (hg.below HY.base) rfl rfl kfgr1_13 (rfl)) rfl rfl ?_
 refine hk_y (fun Y HY => y_sub rfl rfl rfl (rfl)) rfl rfl ?_
 refine hk_y (fun Y HY => y_mov rfl rfl) rfl rfl ?_
 refine hk_y (fun Y HY => y_nilck rfl rfl) rfl rfl ?_
 refine hk_y (fun Y HY => y_far (hg.below HY.base) rfl rfl kfgr1_24 rfl (rfl)) rfl rfl ?_
 refine hk_y (fun Y HY => y_ldr (k := 1) (hg.below HY.base) rfl rfl kfgr1_13 (rfl)) rfl rfl ?_
 refine hk_y (fun Y HY => y_sub rfl rfl rfl (rfl)) rfl rfl ?_
 refine hk_y (fun Y HY => y_build (places := [(0, 1), (1, 1), (2, 1), (3, 1)]) (parts := [(2, _), (3, _)]) (vs := [(2, _), (3, _)]) (cs := [.int _ _, .int _ _, .int _ _, .int _ _]) rfl Tryz.underlying54 (by kernel_rfl) kfgr1_5 rfl ⟨rfl, rfl, trivial⟩ rfl) rfl rfl ?_
 refine hk_nil ?_
 intro w4 H5
 refine tv_op (op_st (i := 0) (vs := [.int _ _, .int _ _, .int _ _, .int _ _]) H5 rfl rfl rfl rfl rfl kfgr1_6 rfl rfl rfl) rfl rfl ?_
 rintro _ w6 H7
 refine ⟨(H7.pick (m := []) [] rfl (by decide)), fun w8 e10 => ?_⟩
 have H9 := H7.ext e10
 refine tv_nil ?_
 refine fn_next ?_
 refine cw_ret ?_
 refine fn_ret1 rfl (⟨_, rfl, load_agg (cs := [_, _, _, _]) kfgr1_9 rfl fun j v hv => by rw [Nat.zero_add]; exact H9.cell (i := 0) rfl hv⟩) ?_
 exact ⟨rfl, H9.base⟩

set_option maxRecDepth 100000 in
theorem size1 (g : Nat) (B : Option Addr) (c : Nat) (w : World) (hg : Rd w (some ⟨g, 0, none⟩) [.int .i64 1, .int .i64 1, .int .i64 1, .slice B 1 c]) :
    Ret Tryz.prog 24 [pt (some ⟨g, 0, none⟩) 0] w (fun v w' => v = .tuple #[.int .i64 1, .int .i64 1] ∧ Below w.heap.size w w') := by
 refine ret_enter Tryz.func24 rfl rfl rfl ?_
 have H0 := HS.start w
 refine cw_seq ?_
 refine cw_reg ?_
 refine ry (y_asg rfl rfl) rfl rfl ?_
 refine ry (y_asg rfl rfl) rfl rfl ?_
 refine reg_nil ?_
 refine fn_next ?_
 refine cw_seq ?_
 refine cw_seq ?_
 refine cw_reg ?_
 refine ry (y_mov rfl rfl) rfl rfl ?_
 refine ry (y_peqlnil rfl Tryz.underlying30 rfl rfl) rfl rfl ?_
 refine reg_nil ?_
 refine fn_next ?_
 refine cw_condf rfl ?_
 refine cw_skip ?_
 refine fn_next ?_
 refine cw_seq ?_
 refine cw_draw H0 [0, 1, 2, 3, 4, 5, 6, 7, 8, 9] [] (fun X HX => HX) (by kernel_rfl) (by kernel_rfl) (by rfl) ?_
 simp only [pick, List.getElem?_cons_succ, List.getElem?_cons_zero]
 refine hk_y (fun Y HY => y_mov rfl rfl) rfl rfl ?_
 refine hk_y (fun Y HY => y_nilck rfl rfl) rfl rfl ?_
 refine hk_y (fun Y HY => y_far (hg.below HY.base) rfl rfl kfgr1_23 rfl (rfl)) rfl rfl ?_
 refine hk_y (fun Y HY => y_ldr (k := 0) (hg.below HY.base) rfl rfl kfgr1_13 (rfl)) rfl rfl ?_
 refine hk_y (fun Y HY => y_mov rfl rfl) rfl rfl ?_
 refine hk_y (fun Y HY => y_nilck rfl rfl) rfl rfl ?_
 refine hk_y (fun Y HY => y_far (hg.below HY.base) rfl rfl kfgr1_24 rfl (rfl)) rfl rfl ?_
 refine hk_y (fun Y HY => y_ldr (k := 1) (hg.below HY.base) rfl rfl kfgr1_13 (rfl)) rfl rfl ?_
 refine hk_y (fun Y HY => y_asg rfl rfl) rfl rfl ?_
 refine hk_y (fun Y HY => y_asg rfl rfl) rfl rfl ?_
 refine hk_nil ?_
 intro w1 H2
 refine tv_nil ?_
 refine fn_next ?_
 refine cw_ret ?_
 refine fn_retn (vs := [_, _]) rfl ⟨rfl, rfl, trivial⟩ rfl ?_
 exact ⟨rfl, H2.base⟩

set_option maxRecDepth 100000 in
theorem tiles1 (g : Nat) (B : Option Addr) (c : Nat) (w : World) (hg : Rd w (some ⟨g, 0, none⟩) [.int .i64 1, .int .i64 1, .int .i64 1, .slice B 1 c]) :
    Ret Tryz.prog 20 [pt (some ⟨g, 0, none⟩) 0] w (fun v w' => ∃ A cap, v = .slice A 1 cap ∧ HS w w' [.row A 1 cap (vi .i64 [0, 0, 0, 0]) 54 4]) := by
 refine ret_enter Tryz.func20 rfl rfl rfl ?_
 have H0 := HS.start w
 refine cw_seq ?_
 refine cw_reg ?_
 refine ry (y_asg rfl rfl) rfl rfl ?_
 refine reg_nil ?_
 refine fn_next ?_
 refine cw_seq ?_
 refine cw_seq ?_
 refine cw_reg ?_
 refine ry (y_mov rfl rfl) rfl rfl ?_
 refine ry (y_peqlnil rfl Tryz.underlying30 rfl rfl) rfl rfl ?_
 refine reg_nil ?_
 refine fn_next ?_
 refine cw_condf rfl ?_
 refine cw_skip ?_
 refine fn_next ?_
 refine cw_seq ?_
 refine cw_reg ?_
 refine ry (y_mov rfl rfl) rfl rfl ?_
 refine reg_op (op_call (all1 g B c _ (hg.below H0.base)) rfl kfgr1_25 ⟨rfl, trivial⟩) rfl rfl ?_
 rintro _ w2 ⟨rfl, e1⟩
 have H3 := H0.ext e1
 refine reg_op (op_call (pieces1 _) rfl kfgr1_10 ⟨rfl, trivial⟩) rfl rfl ?_
 rintro _ w5 ⟨A7, c8, rfl, k4⟩
 have H6 := H3.call k4
 refine ry (y_asg rfl rfl) rfl rfl ?_
 refine reg_nil ?_
 refine fn_next ?_
 refine cw_ret ?_
 refine fn_ret1 rfl rfl ?_
 exact ⟨_, _, rfl, H6⟩

set_option maxRecDepth 100000 in
theorem check1 (g : Nat) (B : Option Addr) (c : Nat) (w : World) (hg : Rd w (some ⟨g, 0, none⟩) [.int .i64 1, .int .i64 1, .int .i64 1, .slice B 1 c]) :
    Ret Tryz.prog 67 [pt (some ⟨g, 0, none⟩) 0, .agg #[.int .i64 0, .int .i64 0, .int .i64 0, .int .i64 0]] w (fun v w' => v = .int .i64 0 ∧ Below w.heap.size w w') := by
 refine ret_enter Tryz.func67 rfl rfl rfl ?_
 have H0 := HS.start w
 refine cw_seq ?_
 refine cw_reg ?_
 refine reg_op (op_box (cs := [.int _ _, .int _ _, .int _ _, .int _ _]) H0 rfl rfl rfl) rfl rfl ?_
 rintro _ w2 ⟨b1, rfl, H3⟩
 refine ry (y_asg rfl rfl) rfl rfl ?_
 refine reg_nil ?_
 refine fn_next ?_
 refine cw_seq ?_
 refine cw_seq ?_
 refine cw_reg ?_
 refine ry (y_mov rfl rfl) rfl rfl ?_
 refine ry (y_peqlnil rfl Tryz.underlying30 rfl rfl) rfl rfl ?_
 refine reg_nil ?_
 refine fn_next ?_
 refine cw_condf rfl ?_
 refine cw_skip ?_
 refine fn_next ?_
 refine cw_seq ?_
 refine cw_draw H3 [0, 1, 2, 3, 4, 5, 6, 7, 8, 9, 10] [] (fun X HX => HX) (by kernel_rfl) (by kernel_rfl) (by rfl) ?_
 simp only [pick, List.getElem?_cons_succ, List.getElem?_cons_zero]
 refine hk_y (fun Y HY => y_ldb (i := 0) (cs := [_, _, _, _]) HY rfl rfl kfgr1_9 rfl rfl) rfl rfl ?_
 refine hk_y (fun Y HY => y_mov rfl rfl) rfl rfl ?_
 refine hk_y (fun Y HY => y_nilck rfl rfl) rfl rfl ?_
 refine hk_y (fun Y HY => y_far (hg.below HY.base) rfl rfl kfgr1_23 rfl (rfl)) rfl rfl ?_
 refine hk_y (fun Y HY => y_ldr (k := 0) (hg.below HY.base) rfl rfl kfgr1_13 (rfl)) rfl rfl ?_
 refine hk_y (fun Y HY => y_mov rfl rfl) rfl rfl ?_
 refine hk_y (fun Y HY => y_nilck rfl rfl) rfl rfl ?_
 refine hk_y (fun Y HY => y_far (hg.below HY.base) rfl rfl kfgr1_24 rfl (rfl)) rfl rfl ?_
 refine hk_y (fun Y HY => y_ldr (k := 1) (hg.below HY.base) rfl rfl kfgr1_13 (rfl)) rfl rfl ?_
 refine hk_q (qy_call (fun Y HY => within1 _) rfl kfgr1_7 ⟨rfl, rfl, rfl, trivial⟩) rfl rfl ?_
 refine hk_y (fun Y HY => y_asg rfl rfl) rfl rfl ?_
 refine hk_nil ?_
 intro w4 H5
 refine tv_nil ?_
 refine fn_next ?_
 refine cw_ret ?_
 refine fn_ret1 rfl rfl ?_
 exact ⟨rfl, H5.base⟩

set_option maxRecDepth 100000 in
theorem slabOf1 (g : Nat) (B : Option Addr) (c s : Nat) (w : World) (hg : Rd w (some ⟨g, 0, none⟩) [.int .i64 1, .int .i64 1, .int .i64 1, .slice B 1 c]) (hp : Rd w B [.pointer (some ⟨s, 0, none⟩)]) :
    Ret Tryz.prog 68 [pt (some ⟨g, 0, none⟩) 0, .int .i64 0, .int .i64 0] w (fun v w' => v = .pointer (some ⟨s, 0, none⟩) ∧ Below w.heap.size w w') := by
 refine ret_enter Tryz.func68 rfl rfl rfl ?_
 have H0 := HS.start w
 refine cw_seq ?_
 refine cw_reg ?_
 refine ry (y_asg rfl rfl) rfl rfl ?_
 refine reg_nil ?_
 refine fn_next ?_
 refine cw_seq ?_
 refine cw_draw H0 [0, 1, 2, 3, 4, 5, 6, 7, 8, 9, 10, 11, 12, 13, 14, 15, 16] [] (fun X HX => HX) (by kernel_rfl) (by kernel_rfl) (by rfl) ?_
 simp only [pick, List.getElem?_cons_succ, List.getElem?_cons_zero]
 refine hk_y (fun Y HY => y_mov rfl rfl) rfl rfl ?_
 refine hk_y (fun Y HY => y_nilck rfl rfl) rfl rfl ?_
 refine hk_y (fun Y HY => y_far (hg.below HY.base) rfl rfl kfgr1_18 rfl (rfl)) rfl rfl ?_
 refine hk_y (fun Y HY => y_ldr (k := 3) (hg.below HY.base) rfl rfl kfgr1_19 (rfl)) rfl rfl ?_
 refine hk_y (fun Y HY => y_mov rfl rfl) rfl rfl ?_
 refine hk_y (fun Y HY => y_quo rfl rfl rfl (by omega) (rfl)) rfl rfl ?_
 refine hk_y (fun Y HY => y_mov rfl rfl) rfl rfl ?_
 refine hk_y (fun Y HY => y_nilck rfl rfl) rfl rfl ?_
 refine hk_y (fun Y HY => y_far (hg.below HY.base) rfl rfl kfgr1_26 rfl (rfl)) rfl rfl ?_
 refine hk_y (fun Y HY => y_ldr (k := 2) (hg.below HY.base) rfl rfl kfgr1_13 (rfl)) rfl rfl ?_
 refine hk_y (fun Y HY => y_mul rfl rfl rfl (rfl)) rfl rfl ?_
 refine hk_y (fun Y HY => y_mov rfl rfl) rfl rfl ?_
 refine hk_y (fun Y HY => y_quo rfl rfl rfl (by omega) (rfl)) rfl rfl ?_
 refine hk_y (fun Y HY => y_add rfl rfl rfl (rfl)) rfl rfl ?_
 refine hk_y (fun Y HY => y_iar (i := 0) (hp.below HY.base) rfl rfl rfl kfgr1_27 (rfl) (by decide) (Nat.mul_one _) (rfl)) rfl rfl ?_
 refine hk_y (fun Y HY => y_ldr (hp.below HY.base) rfl rfl kfgr1_28 (rfl)) rfl rfl ?_
 refine hk_y (fun Y HY => y_asg rfl rfl) rfl rfl ?_
 refine hk_nil ?_
 intro w1 H2
 refine tv_nil ?_
 refine fn_next ?_
 refine cw_ret ?_
 refine fn_ret1 rfl rfl ?_
 exact ⟨rfl, H2.base⟩

theorem check1s (s : Nat) (w : World) (hs : Rd w (some ⟨s, 0, none⟩) [.int .i64 1, .int .i64 1, .iface 117 (.int .i32 0)]) : Ret Tryz.prog 101 [pt (some ⟨s, 0, none⟩) 0, .agg #[.int .i64 0, .int .i64 0, .int .i64 0, .int .i64 0]] w (fun v w' => v = .int .i64 0 ∧ Below w.heap.size w w') := by
  have h := slabCheck_any s 1 1 _ 0 0 0 0 w hs
  have e : withinC 0 0 0 0 ((1 : Nat) : Int) ((1 : Nat) : Int) = 0 := by decide +kernel
  rw [e] at h
  exact h

set_option maxRecDepth 100000 in
theorem at1 (s : Nat) (w : World) (hs : Rd w (some ⟨s, 0, none⟩) [.int .i64 1, .int .i64 1, .iface 117 (.int .i32 0)]) :
    Ret Tryz.prog 69 [pt (some ⟨s, 0, none⟩) 0, .agg #[.int .i64 0, .int .i64 0]] w (fun v w' => v = .tuple #[.int .i64 0, .int .i64 0] ∧ Below w.heap.size w w') := by
 refine ret_enter Tryz.func69 rfl rfl rfl ?_
 have H0 := HS.start w
 refine cw_seq ?_
 refine cw_reg ?_
 refine reg_op (op_box (cs := [.int _ _, .int _ _]) H0 rfl rfl rfl) rfl rfl ?_
 rintro _ w2 ⟨b1, rfl, H3⟩
 refine ry (y_asg rfl rfl) rfl rfl ?_
 refine ry (y_asg rfl rfl) rfl rfl ?_
 refine reg_nil ?_
 refine fn_next ?_
 refine cw_seq ?_
 refine cw_seq ?_
 refine cw_reg ?_
 refine ry (y_mov rfl rfl) rfl rfl ?_
 refine ry (y_ldb (i := 0) (cs := [_, _]) H3 rfl rfl kfgr1_29 rfl rfl) rfl rfl ?_
 refine reg_op (op_call (slabSpot_any 0 0 _) rfl kfgr1_30 ⟨rfl, trivial⟩) rfl rfl ?_
 rintro _ w5 ⟨rfl, e4⟩
 have H6 := H3.ext e4
 refine reg_op (op_call (check1s s _ (hs.below H6.base)) rfl kfgr1_31 ⟨rfl, rfl, trivial⟩) rfl rfl ?_
 rintro _ w8 ⟨rfl, e7⟩
 have H9 := H6.ext e7
 refine ry (y_asg rfl rfl) rfl rfl ?_
 refine reg_nil ?_
 refine fn_next ?_
 refine cw_seq ?_
 refine cw_reg ?_
 refine ry (y_mov rfl rfl) rfl rfl ?_
 refine ry (y_neq rfl rfl rfl) rfl rfl ?_
 refine reg_nil ?_
 refine fn_next ?_
 refine cw_condf rfl ?_
 refine cw_skip ?_
 refine fn_next ?_
 refine cw_seq ?_
 refine cw_draw H9 [0, 1, 2, 3, 4, 5, 6, 7, 8, 9, 10, 11, 12, 13, 14, 15, 16, 17, 18] [] (fun X HX => HX) (by kernel_rfl) (by kernel_rfl) (by rfl) ?_
 simp only [pick, List.getElem?_cons_succ, List.getElem?_cons_zero]
 refine hk_y (fun Y HY => y_mov rfl rfl) rfl rfl ?_
 refine hk_y (fun Y HY => y_nilck rfl rfl) rfl rfl ?_
 refine hk_y (fun Y HY => y_far (hs.below HY.base) rfl rfl kfgr1_32 rfl (rfl)) rfl rfl ?_
 refine hk_y (fun Y HY => y_ldr (k := 2) (hs.below HY.base) rfl rfl kfgr1_33 (rfl)) rfl rfl ?_
 refine hk_y (fun Y HY => y_fa rfl rfl kfgr1_34 rfl) rfl rfl ?_
 refine hk_y (fun Y HY => y_ld rfl rfl kfgr1_13 (HY.cell (i := 0) rfl rfl)) rfl rfl ?_
 refine hk_y (fun Y HY => y_mov rfl rfl) rfl rfl ?_
 refine hk_y (fun Y HY => y_nilck rfl rfl) rfl rfl ?_
 refine hk_y (fun Y HY => y_far (hs.below HY.base) rfl rfl kfgr1_35 rfl (rfl)) rfl rfl ?_
 refine hk_y (fun Y HY => y_ldr (k := 0) (hs.below HY.base) rfl rfl kfgr1_13 (rfl)) rfl rfl ?_
 refine hk_y (fun Y HY => y_mul rfl rfl rfl (rfl)) rfl rfl ?_
 refine hk_y (fun Y HY => y_fa rfl rfl kfgr1_36 rfl) rfl rfl ?_
 refine hk_y (fun Y HY => y_ld rfl rfl kfgr1_13 (HY.cell (i := 0) rfl rfl)) rfl rfl ?_
 refine hk_y (fun Y HY => y_add rfl rfl rfl (rfl)) rfl rfl ?_
 refine hk_y (fun Y HY => y_nilcki rfl rfl) rfl rfl ?_
 refine hk_y (fun Y HY => y_mov rfl rfl) rfl rfl ?_
 refine hk_q (qy_inv (fun Y HY => flatAt_any 0 0 _ (by unfold B32; decide)) rfl kfgr1_37 kfgr1_38 kfgr1_39 rfl ⟨rfl, trivial⟩) rfl rfl ?_
 refine hk_y (fun Y HY => y_asg rfl rfl) rfl rfl ?_
 refine hk_y (fun Y HY => y_asg rfl rfl) rfl rfl ?_
 refine hk_nil ?_
 intro w10 H11
 refine tv_nil ?_
 refine fn_next ?_
 refine cw_ret ?_
 refine fn_retn (vs := [_, _]) rfl ⟨rfl, rfl, trivial⟩ rfl ?_
 exact ⟨rfl, H11.base⟩

set_option maxRecDepth 100000 in
theorem inner1  (w : World) :
    Ret Tryz.prog 70 [.int .i64 0, .int .i64 0] w (fun v w' => v = .agg #[.int .i64 0, .int .i64 0] ∧ Below w.heap.size w w') := by
 refine ret_enter Tryz.func70 rfl rfl rfl ?_
 have H0 := HS.start w
 refine cw_seq ?_
 refine cw_reg ?_
 refine reg_op (op_alloc H0 rfl kfgr1_40) rfl rfl ?_
 rintro _ w2 ⟨b1, rfl, H3⟩
 refine reg_nil ?_
 refine fn_next ?_
 refine cw_seq ?_
 refine cw_reg ?_
 refine ry (y_mov rfl rfl) rfl rfl ?_
 refine ry (y_rem rfl rfl rfl (by omega) (rfl)) rfl rfl ?_
 refine ry (y_mov rfl rfl) rfl rfl ?_
 refine ry (y_rem rfl rfl rfl (by omega) (rfl)) rfl rfl ?_
 refine ry (y_build (places := [(0, 1), (1, 1)]) (parts := [(0, _), (1, _)]) (vs := [(0, _), (1, _)]) (cs := [.int _ _, .int _ _]) rfl Tryz.underlying105 (by kernel_rfl) kfgr1_40 rfl ⟨rfl, rfl, trivial⟩ rfl) rfl rfl ?_
 refine reg_op (op_st (i := 0) (vs := [.int _ _, .int _ _]) H3 rfl rfl rfl rfl rfl kfgr1_41 rfl rfl rfl) rfl rfl ?_
 rintro _ w4 H5
 refine reg_nil ?_
 refine fn_next ?_
 refine cw_ret ?_
 refine fn_ret1 rfl (⟨_, rfl, load_agg (cs := [_, _]) kfgr1_29 rfl fun j v hv => by rw [Nat.zero_add]; exact H5.cell (i := 0) rfl hv⟩) ?_
 exact ⟨rfl, H5.base⟩

set_option maxRecDepth 100000 in
theorem values1 (g : Nat) (B : Option Addr) (c s : Nat) (w : World) (hg : Rd w (some ⟨g, 0, none⟩) [.int .i64 1, .int .i64 1, .int .i64 1, .slice B 1 c]) (hp : Rd w B [.pointer (some ⟨s, 0, none⟩)]) (hs : Rd w (some ⟨s, 0, none⟩) [.int .i64 1, .int .i64 1, .iface 117 (.int .i32 0)]) :
    Ret Tryz.prog 25 [pt (some ⟨g, 0, none⟩) 0, .agg #[.int .i64 0, .int .i64 0, .int .i64 0, .int .i64 0]] w (fun v w' => ∃ A cap, v = .tuple #[.slice A 1 cap, .int .i64 0] ∧ HS w w' [.row A 1 cap (vi .i64 [0]) 2 1]) := by
 refine ret_enter Tryz.func25 rfl rfl rfl ?_
 have H0 := HS.start w
 refine cw_seq ?_
 refine cw_reg ?_
 refine reg_op (op_box (cs := [.int _ _, .int _ _, .int _ _, .int _ _]) H0 rfl rfl rfl) rfl rfl ?_
 rintro _ w2 ⟨b1, rfl, H3⟩
 refine ry (y_asg rfl rfl) rfl rfl ?_
 refine ry (y_asg rfl rfl) rfl rfl ?_
 refine reg_nil ?_
 refine fn_next ?_
 refine cw_seq ?_
 refine cw_seq ?_
 refine cw_reg ?_
 refine ry (y_mov rfl rfl) rfl rfl ?_
 refine ry (y_ldb (i := 0) (cs := [_, _, _, _]) H3 rfl rfl kfgr1_9 rfl rfl) rfl rfl ?_
 refine reg_op (op_call (check1 g B c _ (hg.below H3.base)) rfl kfgr1_42 ⟨rfl, rfl, trivial⟩) rfl rfl ?_
 rintro _ w5 ⟨rfl, e4⟩
 have H6 := H3.ext e4
 refine ry (y_asg rfl rfl) rfl rfl ?_
 refine reg_nil ?_
 refine fn_next ?_
 refine cw_seq ?_
 refine cw_reg ?_
 refine ry (y_mov rfl rfl) rfl rfl ?_
 refine ry (y_neq rfl rfl rfl) rfl rfl ?_
 refine reg_nil ?_
 refine fn_next ?_
 refine cw_condf rfl ?_
 refine cw_skip ?_
 refine fn_next ?_
 refine cw_seq ?_
 refine cw_reg ?_
 refine ry (y_ldb (i := 0) (cs := [_, _, _, _]) H6 rfl rfl kfgr1_9 rfl rfl) rfl rfl ?_
 refine reg_op (op_call (area1 _) rfl kfgr1_43 ⟨rfl, trivial⟩) rfl rfl ?_
 rintro _ w8 ⟨rfl, e7⟩
 have H9 := H6.ext e7
 refine reg_op (op_mk0 (m := 1) H9 rfl rfl rfl rfl (rfl) Tryz.underlying24 kfgr1_44 (by omega) (by unfold maxLen; omega)) rfl rfl ?_
 rintro _ w11 ⟨b10, rfl, H12⟩
 refine ry (y_asg rfl rfl) rfl rfl ?_
 refine reg_nil ?_
 refine fn_next ?_
 refine cw_seq ?_
 refine cw_seq ?_
 refine cw_reg ?_
 refine ry (y_fa rfl rfl kfgr1_16 rfl) rfl rfl ?_
 refine ry (y_ld rfl rfl kfgr1_13 (H12.cell (i := 1) rfl rfl)) rfl rfl ?_
 refine ry (y_asg rfl rfl) rfl rfl ?_
 refine reg_nil ?_
 refine fn_next ?_
 refine cw_block ?_
 refine cw_loopR 2 ?_
 refine cw_seq ?_
 refine cw_seq ?_
 refine cw_reg ?_
 refine ry (y_mov rfl rfl) rfl rfl ?_
 refine ry (y_fa rfl rfl kfgr1_15 rfl) rfl rfl ?_
 refine ry (y_ld rfl rfl kfgr1_13 (H12.cell (i := 1) rfl rfl)) rfl rfl ?_
 refine ry (y_leq rfl rfl rfl) rfl rfl ?_
 refine reg_nil ?_
 refine fn_next ?_
 refine cw_condt rfl ?_
 refine cw_skip ?_
 refine fn_next ?_
 refine cw_seq ?_
 refine cw_block ?_
 refine cw_seq ?_
 refine cw_reg ?_
 refine ry (y_fa rfl rfl kfgr1_14 rfl) rfl rfl ?_
 refine ry (y_ld rfl rfl kfgr1_13 (H12.cell (i := 1) rfl rfl)) rfl rfl ?_
 refine ry (y_asg rfl rfl) rfl rfl ?_
 refine reg_nil ?_
 refine fn_next ?_
 refine cw_block ?_
 refine cw_loopR 2 ?_
 refine cw_seq ?_
 refine cw_seq ?_
 refine cw_reg ?_
 refine ry (y_mov rfl rfl) rfl rfl ?_
 refine ry (y_fa rfl rfl kfgr1_12 rfl) rfl rfl ?_
 refine ry (y_ld rfl rfl kfgr1_13 (H12.cell (i := 1) rfl rfl)) rfl rfl ?_
 refine ry (y_leq rfl rfl rfl) rfl rfl ?_
 refine reg_nil ?_
 refine fn_next ?_
 refine cw_condt rfl ?_
 refine cw_skip ?_
 refine fn_next ?_
 refine cw_seq ?_
 refine cw_block ?_
 refine cw_seq ?_
 refine cw_reg ?_
 refine ry (y_mov rfl rfl) rfl rfl ?_
 refine ry (y_mov rfl rfl) rfl rfl ?_
 refine ry (y_mov rfl rfl) rfl rfl ?_
 refine reg_op (op_call (slabOf1 g B c s _ (hg.below H12.base) (hp.below H12.base)) rfl kfgr1_45 ⟨rfl, rfl, rfl, trivial⟩) rfl rfl ?_
 rintro _ w14 ⟨rfl, e13⟩
 have H15 := H12.ext e13
 refine ry (y_mov rfl rfl) rfl rfl ?_
 refine ry (y_mov rfl rfl) rfl rfl ?_
 refine reg_op (op_call (inner1 _) rfl kfgr1_46 ⟨rfl, rfl, trivial⟩) rfl rfl ?_
 rintro _ w17 ⟨rfl, e16⟩
 have H18 := H15.ext e16
 refine reg_op (op_call (at1 s _ (hs.below H18.base)) rfl kfgr1_47 ⟨rfl, rfl, trivial⟩) rfl rfl ?_
 rintro _ w20 ⟨rfl, e19⟩
 have H21 := H18.ext e19
 refine ry (y_mov rfl rfl) rfl rfl ?_
 refine ry (y_ext rfl rfl rfl) rfl rfl ?_
 refine ry (y_ext rfl rfl rfl) rfl rfl ?_
 refine ry (y_asg rfl rfl) rfl rfl ?_
 refine ry (y_asg rfl rfl) rfl rfl ?_
 refine reg_nil ?_
 refine fn_next ?_
 refine cw_reg ?_
 refine ry (y_mov rfl rfl) rfl rfl ?_
 refine ry (y_mov rfl rfl) rfl rfl ?_
 refine reg_op (op_lit (parts := [(0, _)]) (vs := [(0, _)]) (cs := [.int _ _]) H21 rfl Tryz.underlying24 kfgr1_48 rfl ⟨rfl, trivial⟩ rfl rfl) rfl rfl ?_
 rintro _ w23 ⟨b22, rfl, H24⟩
 have H25 := H24.asrow (m := 1) (size := 1) rfl (by decide)
 refine reg_op (op_app (i := 1) (ys := [.int .i64 0]) H25 rfl rfl rfl rfl (H25.rd (i := 0) rfl) (rfl) (rfl) Tryz.underlying24 kfgr1_44 rfl rfl (by unfold maxLen; omega) (by omega)) rfl rfl ?_
 rintro _ w28 ⟨A26, c27, rfl, H29⟩
 refine ry (y_asg rfl rfl) rfl rfl ?_
 refine reg_nil ?_
 refine fn_block ?_
 refine fn_next ?_
 refine cw_reg ?_
 refine ry (y_mov rfl rfl) rfl rfl ?_
 refine ry (y_add rfl rfl rfl (wi (by omega))) rfl rfl ?_
 refine ry (y_asg rfl rfl) rfl rfl ?_
 refine reg_nil ?_
 refine fn_roundR ?_
 refine cw_seq ?_
 refine cw_seq ?_
 refine cw_reg ?_
 refine ry (y_mov rfl rfl) rfl rfl ?_
 refine ry (y_fa rfl rfl kfgr1_12 rfl) rfl rfl ?_
 refine ry (y_ld rfl rfl kfgr1_13 (H29.cell (i := 2) rfl rfl)) rfl rfl ?_
 refine ry (y_leq rfl rfl rfl) rfl rfl ?_
 refine reg_nil ?_
 refine fn_next ?_
 refine cw_condf rfl ?_
 refine cw_exit ?_
 refine fn_then_exit (fn_then_exit (fn_block_exit ?_))
 refine fn_block ?_
 refine fn_next ?_
 refine cw_reg ?_
 refine ry (y_mov rfl rfl) rfl rfl ?_
 refine ry (y_add rfl rfl rfl (wi (by omega))) rfl rfl ?_
 refine ry (y_asg rfl rfl) rfl rfl ?_
 refine reg_nil ?_
 refine fn_roundR ?_
 refine cw_seq ?_
 refine cw_seq ?_
 refine cw_reg ?_
 refine ry (y_mov rfl rfl) rfl rfl ?_
 refine ry (y_fa rfl rfl kfgr1_15 rfl) rfl rfl ?_
 refine ry (y_ld rfl rfl kfgr1_13 (H29.cell (i := 2) rfl rfl)) rfl rfl ?_
 refine ry (y_leq rfl rfl rfl) rfl rfl ?_
 refine reg_nil ?_
 refine fn_next ?_
 refine cw_condf rfl ?_
 refine cw_exit ?_
 refine fn_then_exit (fn_then_exit (fn_block_exit ?_))
 refine fn_next ?_
 refine cw_seq ?_
 refine cw_reg ?_
 refine ry (y_mov rfl rfl) rfl rfl ?_
 refine ry (y_asg rfl rfl) rfl rfl ?_
 refine ry (y_asg rfl rfl) rfl rfl ?_
 refine reg_nil ?_
 refine fn_next ?_
 refine cw_ret ?_
 refine fn_retn (vs := [_, _]) rfl ⟨rfl, rfl, trivial⟩ rfl ?_
 exact ⟨_, _, rfl, (H29.pick (m := [_]) [1] rfl (by decide))⟩

end Go.Proofs.YtbnjbgcadkdljaaGreatDoor
