/- Layer 47: the laws. -/
import Derived.Test.YtbhmkpnihgjlnaaMerge2
import Derived.Test.YtbhmkpnihgjlnaaLand2
set_option linter.unusedVariables false
set_option linter.unusedSimpArgs false
namespace Go.Proofs.Ytbhmkpnihgjlnaa
open Go Go.RowKit
theorem kflaw47_1 : (Try.prog.info? 2).map (fun i => (i.size, i.zero.map Value.cells)) = some (1, some (List.toArray [(.int .i64 0)])) := by kernel_rfl
theorem kflaw47_2 : callB Try.prog 52 = true := by kernel_rfl
theorem kflaw47_3 : callB Try.prog 20 = true := by kernel_rfl
theorem kflaw47_4 : callB Try.prog 59 = true := by kernel_rfl
theorem kflaw47_5 : callB Try.prog 58 = true := by kernel_rfl
theorem kflaw47_6 : callB Try.prog 37 = true := by kernel_rfl
theorem kflaw47_7 : (Try.prog.info? 46).bind (fun i => i.zero.map Value.cells) = some (List.toArray [(.int .i64 0), (.int .i64 0)]) := by kernel_rfl
theorem kflaw47_8 : (Try.prog.info? 46).map (fun i => (i.size, i.zero.map Value.cells)) = some (2, some (List.toArray [(.int .i64 0), (.int .i64 0)])) := by kernel_rfl
theorem kflaw47_9 : callB Try.prog 24 = true := by kernel_rfl
theorem kflaw47_10 : callB Try.prog 19 = true := by kernel_rfl
theorem kflaw47_11 : callB Try.prog 16 = true := by kernel_rfl
theorem kflaw47_12 : (Try.prog.info? 25).bind (fun i => i.zero.map Value.cells) = some (List.toArray [(.int .i64 0), (.int .i64 0), (.slice none 0 0)]) := by kernel_rfl
theorem kflaw47_13 : szB Try.prog 25 3 = true := by kernel_rfl
theorem kflaw47_14 : callB Try.prog 17 = true := by kernel_rfl
theorem kflaw47_15 : callB Try.prog 21 = true := by kernel_rfl
theorem kflaw47_16 : aggB Try.prog 25 3 = true := by kernel_rfl
theorem kflaw47_17 : callB Try.prog 23 = true := by kernel_rfl
theorem kflaw47_18 : callB Try.prog 22 = true := by kernel_rfl
theorem kflaw47_19 : callB Try.prog 25 = true := by kernel_rfl
theorem kflaw47_20 : callB Try.prog 38 = true := by kernel_rfl
theorem aw47 : (fromC ((3 : Nat) : Int) ((1 : Nat) : Int) [1, 1, 1] = 0 ∧ fromC ((3 : Nat) : Int) ((1 : Nat) : Int) [2, 1, 3] = 0 ∧ fromC ((3 : Nat) : Int) ((1 : Nat) : Int) [1, 5, 4] = 0) ∧ mgL o0 [1, 1, 1] [2, 1, 3] [1, 5, 4] (3 * 1) = [2, 5, 3] ∧ selN (oddP [1, 1, 1] [2, 1, 3] [1, 5, 4]) (3 * 1) = 1 ∧ selC 3 (oddP [1, 1, 1] [2, 1, 3] [1, 5, 4]) (3 * 1) = [2, 0] := by decide +kernel

set_option maxRecDepth 100000 in
theorem mergeAwake  (w : World) :
    Ret Try.prog 19 [] w (fun v w' => v = .bool true ∧ Below w.heap.size w w') := by
 obtain ⟨⟨e0, e1, e2⟩, e3, e4, e5⟩ := aw47
 refine ret_enter Try.func19 rfl rfl rfl ?_
 have H0 := HS.start w
 refine cw_seq ?_
 refine cw_reg ?_
 refine ry (y_asg rfl rfl) rfl rfl ?_
 refine reg_nil ?_
 refine fn_next ?_
 refine cw_seq ?_
 refine cw_reg ?_
 refine reg_op (op_lit (parts := [(0, _), (1, _), (2, _)]) (vs := [(0, _), (1, _), (2, _)]) (cs := [.int _ _, .int _ _, .int _ _]) H0 rfl Try.underlying22 kflaw47_1 rfl ⟨rfl, rfl, rfl, trivial⟩ rfl rfl) rfl rfl ?_
 rintro _ w2 ⟨b1, rfl, H3⟩
 have H4 := H3.asrow (m := 3) (size := 1) rfl (by decide)
 refine reg_op (op_call (gFrom_ok 3 1 [1, 1, 1] _ 3 _ _ (H4.rd (i := 0) rfl) rfl (by decide) ⟨by decide, by decide, by decide, by decide⟩ e0) rfl kflaw47_2 ⟨rfl, rfl, rfl, trivial⟩) rfl rfl ?_
 rintro _ w6 ⟨g8, bl9, rfl, k5⟩
 have H7 := H4.call k5
 refine ry (y_mov rfl rfl) rfl rfl ?_
 refine ry (y_ext rfl rfl rfl) rfl rfl ?_
 refine ry (y_ext rfl rfl rfl) rfl rfl ?_
 refine ry (y_asg rfl rfl) rfl rfl ?_
 refine ry (y_asg rfl rfl) rfl rfl ?_
 refine reg_nil ?_
 refine fn_next ?_
 refine cw_seq ?_
 refine cw_reg ?_
 refine reg_op (op_lit (parts := [(0, _), (1, _), (2, _)]) (vs := [(0, _), (1, _), (2, _)]) (cs := [.int _ _, .int _ _, .int _ _]) H7 rfl Try.underlying22 kflaw47_1 rfl ⟨rfl, rfl, rfl, trivial⟩ rfl rfl) rfl rfl ?_
 rintro _ w11 ⟨b10, rfl, H12⟩
 have H13 := H12.asrow (m := 3) (size := 1) rfl (by decide)
 refine reg_op (op_call (gFrom_ok 3 1 [2, 1, 3] _ 3 _ _ (H13.rd (i := 0) rfl) rfl (by decide) ⟨by decide, by decide, by decide, by decide⟩ e1) rfl kflaw47_2 ⟨rfl, rfl, rfl, trivial⟩) rfl rfl ?_
 rintro _ w15 ⟨g17, bl18, rfl, k14⟩
 have H16 := H13.call k14
 refine ry (y_mov rfl rfl) rfl rfl ?_
 refine ry (y_ext rfl rfl rfl) rfl rfl ?_
 refine ry (y_ext rfl rfl rfl) rfl rfl ?_
 refine ry (y_asg rfl rfl) rfl rfl ?_
 refine ry (y_asg rfl rfl) rfl rfl ?_
 refine reg_nil ?_
 refine fn_next ?_
 refine cw_seq ?_
 refine cw_reg ?_
 refine reg_op (op_lit (parts := [(0, _), (1, _), (2, _)]) (vs := [(0, _), (1, _), (2, _)]) (cs := [.int _ _, .int _ _, .int _ _]) H16 rfl Try.underlying22 kflaw47_1 rfl ⟨rfl, rfl, rfl, trivial⟩ rfl rfl) rfl rfl ?_
 rintro _ w20 ⟨b19, rfl, H21⟩
 have H22 := H21.asrow (m := 3) (size := 1) rfl (by decide)
 refine reg_op (op_call (gFrom_ok 3 1 [1, 5, 4] _ 3 _ _ (H22.rd (i := 0) rfl) rfl (by decide) ⟨by decide, by decide, by decide, by decide⟩ e2) rfl kflaw47_2 ⟨rfl, rfl, rfl, trivial⟩) rfl rfl ?_
 rintro _ w24 ⟨g26, bl27, rfl, k23⟩
 have H25 := H22.call k23
 refine ry (y_mov rfl rfl) rfl rfl ?_
 refine ry (y_ext rfl rfl rfl) rfl rfl ?_
 refine ry (y_ext rfl rfl rfl) rfl rfl ?_
 refine ry (y_asg rfl rfl) rfl rfl ?_
 refine ry (y_asg rfl rfl) rfl rfl ?_
 refine reg_nil ?_
 refine fn_next ?_
 refine cw_seq ?_
 refine cw_reg ?_
 refine ry (y_mov rfl rfl) rfl rfl ?_
 refine ry (y_mov rfl rfl) rfl rfl ?_
 refine ry (y_mov rfl rfl) rfl rfl ?_
 refine reg_op (op_call (mThree 3 1 g8 ([1, 1, 1]) ([2, 1, 3]) ([1, 5, 4]) g17 g26 _ (H25.rdg (i := 4) rfl) (H25.rdg (i := 2) rfl) (H25.rdg (i := 0) rfl)) rfl kflaw47_3 ⟨rfl, rfl, rfl, trivial⟩) rfl rfl ?_
 rintro _ w29 ⟨g31, bl32, A33, c34, rfl, k28⟩
 have H30 := H25.call k28
 rw [e3, e4, e5] at H30
 refine ry (y_mov rfl rfl) rfl rfl ?_
 refine ry (y_ext rfl rfl rfl) rfl rfl ?_
 refine ry (y_ext rfl rfl rfl) rfl rfl ?_
 refine ry (y_ext rfl rfl rfl) rfl rfl ?_
 refine ry (y_asg rfl rfl) rfl rfl ?_
 refine ry (y_asg rfl rfl) rfl rfl ?_
 refine ry (y_asg rfl rfl) rfl rfl ?_
 refine reg_nil ?_
 refine fn_next ?_
 refine cw_seq ?_
 refine cw_reg ?_
 refine ry (y_mov rfl rfl) rfl rfl ?_
 refine ry (y_mov rfl rfl) rfl rfl ?_
 refine reg_op (op_call (gAll g31 3 1 ([2, 5, 3])  _ (H30.rdg (i := 0) rfl)) rfl kflaw47_4 ⟨rfl, trivial⟩) rfl rfl ?_
 rintro _ w36 ⟨rfl, e35⟩
 have H37 := H30.ext e35
 refine reg_op (op_call (gValuesAll g31 3 1 ([2, 5, 3]) _ (H37.rdg (i := 0) rfl)) rfl kflaw47_5 ⟨rfl, rfl, trivial⟩) rfl rfl ?_
 rintro _ w39 ⟨A41, c42, rfl, k38⟩
 have H40 := H37.call k38
 refine ry (y_mov rfl rfl) rfl rfl ?_
 refine ry (y_ext rfl rfl rfl) rfl rfl ?_
 refine ry (y_ext rfl rfl rfl) rfl rfl ?_
 refine ry (y_asg rfl rfl) rfl rfl ?_
 refine ry (y_asg rfl rfl) rfl rfl ?_
 refine reg_nil ?_
 refine fn_next ?_
 refine cw_seq ?_
 refine cw_reg ?_
 refine ry (y_mov rfl rfl) rfl rfl ?_
 refine ry (y_eql rfl rfl rfl) rfl rfl ?_
 refine ry (y_mov rfl rfl) rfl rfl ?_
 refine rgy (y_mov rfl rfl) rfl rfl rfl rfl ?_
 refine rgy (y_eql rfl rfl rfl) rfl rfl rfl rfl ?_
 refine ry (y_pick rfl rfl rfl) rfl rfl ?_
 refine ry (y_mov rfl rfl) rfl rfl ?_
 refine rgy (y_mov rfl rfl) rfl rfl rfl rfl ?_
 refine rgy (y_eql rfl rfl rfl) rfl rfl rfl rfl ?_
 refine ry (y_pick rfl rfl rfl) rfl rfl ?_
 refine ry (y_mov rfl rfl) rfl rfl ?_
 refine rgy (y_mov rfl rfl) rfl rfl rfl rfl ?_
 refine rgy (y_eql rfl rfl rfl) rfl rfl rfl rfl ?_
 refine ry (y_pick rfl rfl rfl) rfl rfl ?_
 refine ry (y_mov rfl rfl) rfl rfl ?_
 refine rgy (y_mov rfl rfl) rfl rfl rfl rfl ?_
 refine rgy (y_eql rfl rfl rfl) rfl rfl rfl rfl ?_
 refine ry (y_pick rfl rfl rfl) rfl rfl ?_
 refine ry (y_mov rfl rfl) rfl rfl ?_
 refine rg_splitd (d := 60) rfl (fun h43 => ?_) (fun h43 => ?_)
 ·skip
  refine rgy (y_mov rfl rfl) rfl rfl rfl rfl ?_
  refine rg_on rfl rfl rfl (op_lit (parts := [(0, _), (1, _), (2, _)]) (vs := [(0, _), (1, _), (2, _)]) (cs := [.int _ _, .int _ _, .int _ _]) H40 rfl Try.underlying22 kflaw47_1 rfl ⟨rfl, rfl, rfl, trivial⟩ rfl rfl) rfl ?_
  rintro _ w45 ⟨b44, rfl, H46⟩
  have H47 := H46.asrow (m := 3) (size := 1) rfl (by decide)
  refine rg_on rfl rfl rfl (op_call (ret_v (v := .bool true) (refSame_any _ _ _ [2, 5, 3] _ _ _ [2, 5, 3] _ (H47.rd (i := 1) rfl) rfl (H47.rd (i := 0) rfl) rfl (by decide)) rfl) rfl kflaw47_6 ⟨rfl, rfl, trivial⟩) rfl ?_
  rintro _ w49 ⟨rfl, e48⟩
  have H50 := H47.ext e48
  refine ry (y_pick rfl rfl rfl) rfl rfl ?_
  refine ry (y_mov rfl rfl) rfl rfl ?_
  refine rgy (y_mov rfl rfl) rfl rfl rfl rfl ?_
  refine rgy (y_build (places := [(0, 1), (1, 1)]) (parts := [(0, _)]) (vs := [(0, _)]) (cs := [.int _ _, .int _ _]) rfl Try.underlying46 (by kernel_rfl) kflaw47_7 rfl ⟨rfl, trivial⟩ rfl) rfl rfl rfl rfl ?_
  refine rg_on rfl rfl rfl (op_lit (parts := [(0, _)]) (vs := [(0, _)]) (cs := [.int _ _, .int _ _]) H50 rfl Try.underlying35 kflaw47_8 rfl ⟨rfl, trivial⟩ rfl rfl) rfl ?_
  rintro _ w52 ⟨b51, rfl, H53⟩
  have H54 := H53.asrow (m := 1) (size := 2) rfl (by decide)
  refine rg_on rfl rfl rfl (op_call (sameCells _ 1 _ _ _ [2, 0] _ (H54.rd (i := 4) rfl) (H54.rd (i := 0) rfl) rfl (by decide)) rfl kflaw47_9 ⟨rfl, rfl, trivial⟩) rfl ?_
  rintro _ w56 ⟨rfl, e55⟩
  have H57 := H54.ext e55
  refine ry (y_pick rfl rfl rfl) rfl rfl ?_
  refine ry (y_asg rfl rfl) rfl rfl ?_
  refine reg_nil ?_
  refine fn_next ?_
  refine cw_ret ?_
  refine fn_ret1 rfl rfl ?_
  exact ⟨rfl, H57.base⟩
 · exact absurd rfl h43

set_option maxRecDepth 100000 in
theorem mergeThree_no (a h : Int) (L : List Int) (AL : Option Addr) (nL cL : Nat) (U : List Int) (AU : Option Addr) (nU cU : Nat) (T : List Int) (AT : Option Addr) (nT cT : Nat) (q : Int) (w : World) (ha : I6 a) (hh : I6 h) (rL : Rd w AL (vi .i64 L)) (lL : L.length = nL) (rU : Rd w AU (vi .i64 U)) (lU : U.length = nU) (rT : Rd w AT (vi .i64 T)) (lT : T.length = nT) (hp : ¬ (LandP a h (1000 : Nat) L ∧ LandP a h (1000 : Nat) U ∧ LandP a h (1000 : Nat) T)) :
    Ret Try.prog 4 [.int .i64 a, .int .i64 h, .slice AL nL cL, .slice AU nU cU, .slice AT nT cT, .int .i64 q] w (fun z w' => z = .bool true ∧ Below w.heap.size w w') := by
 refine ret_enter Try.func4 rfl rfl rfl ?_
 have H0 := HS.start w
 refine cw_seq ?_
 refine cw_reg ?_
 refine ry (y_asg rfl rfl) rfl rfl ?_
 refine reg_nil ?_
 refine fn_next ?_
 refine cw_seq ?_
 refine cw_seq ?_
 refine cw_reg ?_
 refine reg_op (op_call (mergeAwake _) rfl kflaw47_10 trivial) rfl rfl ?_
 rintro _ w2 ⟨rfl, e1⟩
 have H3 := H0.ext e1
 refine ry (y_not rfl rfl) rfl rfl ?_
 refine reg_nil ?_
 refine fn_next ?_
 refine cw_condf rfl ?_
 refine cw_skip ?_
 refine fn_next ?_
 refine cw_seq ?_
 refine cw_reg ?_
 refine ry (y_mov rfl rfl) rfl rfl ?_
 refine ry (y_mov rfl rfl) rfl rfl ?_
 refine ry (y_mov rfl rfl) rfl rfl ?_
 refine reg_op (op_call (land_any a h 1000 L AL nL cL _ ha hh (by decide) (rL.below H3.base) lL) rfl kflaw47_11 ⟨rfl, rfl, rfl, rfl, trivial⟩) rfl rfl ?_
 rintro _ w5 ⟨rfl, e4⟩
 have H6 := H3.ext e4
 refine ry (y_mov rfl rfl) rfl rfl ?_
 refine ry (y_ext rfl rfl rfl) rfl rfl ?_
 refine ry (y_ext rfl rfl rfl) rfl rfl ?_
 refine reg_op (op_alloc H6 rfl kflaw47_12) rfl rfl ?_
 rintro _ w8 ⟨b7, rfl, H9⟩
 refine reg_op (op_st (i := 0) (vs := [.int _ _, .int _ _, .slice _ _ _]) H9 rfl rfl rfl rfl rfl kflaw47_13 rfl rfl rfl) rfl rfl ?_
 rintro _ w10 H11
 refine ry (y_asg rfl rfl) rfl rfl ?_
 refine reg_nil ?_
 refine fn_next ?_
 refine cw_seq ?_
 refine cw_reg ?_
 refine ry (y_mov rfl rfl) rfl rfl ?_
 refine ry (y_mov rfl rfl) rfl rfl ?_
 refine ry (y_mov rfl rfl) rfl rfl ?_
 refine reg_op (op_call (land_any a h 1000 U AU nU cU _ ha hh (by decide) (rU.below H11.base) lU) rfl kflaw47_11 ⟨rfl, rfl, rfl, rfl, trivial⟩) rfl rfl ?_
 rintro _ w13 ⟨rfl, e12⟩
 have H14 := H11.ext e12
 refine ry (y_mov rfl rfl) rfl rfl ?_
 refine ry (y_ext rfl rfl rfl) rfl rfl ?_
 refine ry (y_ext rfl rfl rfl) rfl rfl ?_
 refine reg_op (op_alloc H14 rfl kflaw47_12) rfl rfl ?_
 rintro _ w16 ⟨b15, rfl, H17⟩
 refine reg_op (op_st (i := 0) (vs := [.int _ _, .int _ _, .slice _ _ _]) H17 rfl rfl rfl rfl rfl kflaw47_13 rfl rfl rfl) rfl rfl ?_
 rintro _ w18 H19
 refine ry (y_asg rfl rfl) rfl rfl ?_
 refine reg_nil ?_
 refine fn_next ?_
 refine cw_seq ?_
 refine cw_reg ?_
 refine ry (y_mov rfl rfl) rfl rfl ?_
 refine ry (y_mov rfl rfl) rfl rfl ?_
 refine ry (y_mov rfl rfl) rfl rfl ?_
 refine reg_op (op_call (land_any a h 1000 T AT nT cT _ ha hh (by decide) (rT.below H19.base) lT) rfl kflaw47_11 ⟨rfl, rfl, rfl, rfl, trivial⟩) rfl rfl ?_
 rintro _ w21 ⟨rfl, e20⟩
 have H22 := H19.ext e20
 refine ry (y_mov rfl rfl) rfl rfl ?_
 refine ry (y_ext rfl rfl rfl) rfl rfl ?_
 refine ry (y_ext rfl rfl rfl) rfl rfl ?_
 refine reg_op (op_alloc H22 rfl kflaw47_12) rfl rfl ?_
 rintro _ w24 ⟨b23, rfl, H25⟩
 refine reg_op (op_st (i := 0) (vs := [.int _ _, .int _ _, .slice _ _ _]) H25 rfl rfl rfl rfl rfl kflaw47_13 rfl rfl rfl) rfl rfl ?_
 rintro _ w26 H27
 refine ry (y_asg rfl rfl) rfl rfl ?_
 refine reg_nil ?_
 refine fn_next ?_
 refine cw_seq ?_
 refine cw_seq ?_
 refine cw_reg ?_
 refine ry (y_mov rfl rfl) rfl rfl ?_
 refine ry (y_notd rfl rfl) rfl rfl ?_
 refine ry (y_mov rfl rfl) rfl rfl ?_
 refine rg_splitd (d := 55) rfl (fun h28 => ?_) (fun h28 => ?_)
 ·skip
  refine rg_off rfl rfl rfl rfl rfl ?_
  refine rg_off rfl rfl rfl rfl rfl ?_
  refine ry (y_pick rfl rfl rfl) rfl rfl ?_
  refine ry (y_mov rfl rfl) rfl rfl ?_
  refine rg_off rfl rfl rfl rfl rfl ?_
  refine rg_off rfl rfl rfl rfl rfl ?_
  refine ry (y_pick rfl rfl rfl) rfl rfl ?_
  refine reg_nil ?_
  refine fn_next ?_
  refine cw_condt rfl ?_
  refine cw_seq ?_
  refine cw_reg ?_
  refine ry (y_asg rfl rfl) rfl rfl ?_
  refine reg_nil ?_
  refine fn_next ?_
  refine cw_ret ?_
  refine fn_then_ret ?_
  refine fn_ret1 rfl rfl ?_
  exact ⟨rfl, H27.base⟩
 ·skip
  have q1 := Classical.not_not.1 h28
  refine rgy (y_mov rfl rfl) rfl rfl rfl rfl ?_
  refine rgy (y_notd rfl rfl) rfl rfl rfl rfl ?_
  refine ry (y_pick rfl rfl rfl) rfl rfl ?_
  refine ry (y_mov rfl rfl) rfl rfl ?_
  refine rg_splitd (d := 59) rfl (fun h29 => ?_) (fun h29 => ?_)
  ·skip
   refine rg_off rfl rfl rfl rfl rfl ?_
   refine rg_off rfl rfl rfl rfl rfl ?_
   refine ry (y_pick rfl rfl rfl) rfl rfl ?_
   refine reg_nil ?_
   refine fn_next ?_
   refine cw_condt rfl ?_
   refine cw_seq ?_
   refine cw_reg ?_
   refine ry (y_asg rfl rfl) rfl rfl ?_
   refine reg_nil ?_
   refine fn_next ?_
   refine cw_ret ?_
   refine fn_then_ret ?_
   refine fn_ret1 rfl rfl ?_
   exact ⟨rfl, H27.base⟩
  ·skip
   have q2 := Classical.not_not.1 h29
   refine rgy (y_mov rfl rfl) rfl rfl rfl rfl ?_
   refine rgy (y_notd rfl rfl) rfl rfl rfl rfl ?_
   refine ry (y_pick rfl rfl rfl) rfl rfl ?_
   refine reg_nil ?_
   refine fn_next ?_
   refine cw_condd rfl (fun h30 => ?_) (fun h30 => ?_)
   ·skip
    refine cw_seq ?_
    refine cw_reg ?_
    refine ry (y_asg rfl rfl) rfl rfl ?_
    refine reg_nil ?_
    refine fn_next ?_
    refine cw_ret ?_
    refine fn_then_ret ?_
    refine fn_ret1 rfl rfl ?_
    exact ⟨rfl, H27.base⟩
   · exact absurd ⟨q1, q2, Classical.not_not.1 h30⟩ hp

set_option maxRecDepth 100000 in
set_option maxHeartbeats 2000000 in
theorem mergeThree_ok (a h : Nat) (L : List Int) (AL : Option Addr) (cL : Nat) (U : List Int) (AU : Option Addr) (cU : Nat) (T : List Int) (AT : Option Addr) (cT : Nat) (q : Int) (w : World) (h1 : 1 ≤ a) (h2 : a ≤ 1000) (h3 : 1 ≤ h) (h4 : h ≤ 1000) (h5 : a * h ≤ 1000) (rL : Rd w AL (vi .i64 L)) (lL : L.length = a * h) (bL : AllB L) (rU : Rd w AU (vi .i64 U)) (lU : U.length = a * h) (bU : AllB U) (rT : Rd w AT (vi .i64 T)) (lT : T.length = a * h) (bT : AllB T) (hq : 0 ≤ q ∧ q ≤ 3) :
    Ret Try.prog 4 [.int .i64 (a : Int), .int .i64 (h : Int), .slice AL (a * h) cL, .slice AU (a * h) cU, .slice AT (a * h) cT, .int .i64 q] w (fun z w' => z = .bool true ∧ Below w.heap.size w w') := by
 have s : SzG a h := ⟨h1, by omega, h3, by omega⟩
 refine ret_enter Try.func4 rfl rfl rfl ?_
 have H0 := HS.start w
 refine cw_seq ?_
 refine cw_reg ?_
 refine ry (y_asg rfl rfl) rfl rfl ?_
 refine reg_nil ?_
 refine fn_next ?_
 refine cw_seq ?_
 refine cw_seq ?_
 refine cw_reg ?_
 refine reg_op (op_call (mergeAwake _) rfl kflaw47_10 trivial) rfl rfl ?_
 rintro _ w2 ⟨rfl, e1⟩
 have H3 := H0.ext e1
 refine ry (y_not rfl rfl) rfl rfl ?_
 refine reg_nil ?_
 refine fn_next ?_
 refine cw_condf rfl ?_
 refine cw_skip ?_
 refine fn_next ?_
 refine cw_seq ?_
 refine cw_reg ?_
 refine ry (y_mov rfl rfl) rfl rfl ?_
 refine ry (y_mov rfl rfl) rfl rfl ?_
 refine ry (y_mov rfl rfl) rfl rfl ?_
 refine reg_op (op_call (land_ok a h 1000 L AL (a * h) cL _ h1 h2 h3 h4 h5 rfl lL bL (by decide) (rL.below H3.base)) rfl kflaw47_11 ⟨rfl, rfl, rfl, rfl, trivial⟩) rfl rfl ?_
 rintro _ w5 ⟨rfl, e4⟩
 have H6 := H3.ext e4
 refine ry (y_mov rfl rfl) rfl rfl ?_
 refine ry (y_ext rfl rfl rfl) rfl rfl ?_
 refine ry (y_ext rfl rfl rfl) rfl rfl ?_
 refine reg_op (op_alloc H6 rfl kflaw47_12) rfl rfl ?_
 rintro _ w8 ⟨b7, rfl, H9⟩
 refine reg_op (op_st (i := 0) (vs := [.int _ _, .int _ _, .slice _ _ _]) H9 rfl rfl rfl rfl rfl kflaw47_13 rfl rfl rfl) rfl rfl ?_
 rintro _ w10 H11
 refine ry (y_asg rfl rfl) rfl rfl ?_
 refine reg_nil ?_
 refine fn_next ?_
 refine cw_seq ?_
 refine cw_reg ?_
 refine ry (y_mov rfl rfl) rfl rfl ?_
 refine ry (y_mov rfl rfl) rfl rfl ?_
 refine ry (y_mov rfl rfl) rfl rfl ?_
 refine reg_op (op_call (land_ok a h 1000 U AU (a * h) cU _ h1 h2 h3 h4 h5 rfl lU bU (by decide) (rU.below H11.base)) rfl kflaw47_11 ⟨rfl, rfl, rfl, rfl, trivial⟩) rfl rfl ?_
 rintro _ w13 ⟨rfl, e12⟩
 have H14 := H11.ext e12
 refine ry (y_mov rfl rfl) rfl rfl ?_
 refine ry (y_ext rfl rfl rfl) rfl rfl ?_
 refine ry (y_ext rfl rfl rfl) rfl rfl ?_
 refine reg_op (op_alloc H14 rfl kflaw47_12) rfl rfl ?_
 rintro _ w16 ⟨b15, rfl, H17⟩
 refine reg_op (op_st (i := 0) (vs := [.int _ _, .int _ _, .slice _ _ _]) H17 rfl rfl rfl rfl rfl kflaw47_13 rfl rfl rfl) rfl rfl ?_
 rintro _ w18 H19
 refine ry (y_asg rfl rfl) rfl rfl ?_
 refine reg_nil ?_
 refine fn_next ?_
 refine cw_seq ?_
 refine cw_reg ?_
 refine ry (y_mov rfl rfl) rfl rfl ?_
 refine ry (y_mov rfl rfl) rfl rfl ?_
 refine ry (y_mov rfl rfl) rfl rfl ?_
 refine reg_op (op_call (land_ok a h 1000 T AT (a * h) cT _ h1 h2 h3 h4 h5 rfl lT bT (by decide) (rT.below H19.base)) rfl kflaw47_11 ⟨rfl, rfl, rfl, rfl, trivial⟩) rfl rfl ?_
 rintro _ w21 ⟨rfl, e20⟩
 have H22 := H19.ext e20
 refine ry (y_mov rfl rfl) rfl rfl ?_
 refine ry (y_ext rfl rfl rfl) rfl rfl ?_
 refine ry (y_ext rfl rfl rfl) rfl rfl ?_
 refine reg_op (op_alloc H22 rfl kflaw47_12) rfl rfl ?_
 rintro _ w24 ⟨b23, rfl, H25⟩
 refine reg_op (op_st (i := 0) (vs := [.int _ _, .int _ _, .slice _ _ _]) H25 rfl rfl rfl rfl rfl kflaw47_13 rfl rfl rfl) rfl rfl ?_
 rintro _ w26 H27
 refine ry (y_asg rfl rfl) rfl rfl ?_
 refine reg_nil ?_
 refine fn_next ?_
 refine cw_seq ?_
 refine cw_seq ?_
 refine cw_reg ?_
 refine ry (y_mov rfl rfl) rfl rfl ?_
 refine ry (y_not rfl rfl) rfl rfl ?_
 refine ry (y_mov rfl rfl) rfl rfl ?_
 refine rgy (y_mov rfl rfl) rfl rfl rfl rfl ?_
 refine rgy (y_not rfl rfl) rfl rfl rfl rfl ?_
 refine ry (y_pick rfl rfl rfl) rfl rfl ?_
 refine ry (y_mov rfl rfl) rfl rfl ?_
 refine rgy (y_mov rfl rfl) rfl rfl rfl rfl ?_
 refine rgy (y_not rfl rfl) rfl rfl rfl rfl ?_
 refine ry (y_pick rfl rfl rfl) rfl rfl ?_
 refine reg_nil ?_
 refine fn_next ?_
 refine cw_condf rfl ?_
 refine cw_skip ?_
 refine fn_next ?_
 refine cw_seq ?_
 refine cw_reg ?_
 refine ry (y_mov rfl rfl) rfl rfl ?_
 refine ry (y_mov rfl rfl) rfl rfl ?_
 refine ry (y_mov rfl rfl) rfl rfl ?_
 refine reg_op (op_call (made_ok a h L AL (a * h) cL _ s lL rfl bL (rL.below H27.base)) rfl kflaw47_14 ⟨rfl, rfl, rfl, trivial⟩) rfl rfl ?_
 rintro _ w29 ⟨g31, bl32, rfl, k28⟩
 have H30 := H27.call k28
 refine ry (y_mov rfl rfl) rfl rfl ?_
 refine ry (y_ext rfl rfl rfl) rfl rfl ?_
 refine ry (y_ext rfl rfl rfl) rfl rfl ?_
 refine ry (y_asg rfl rfl) rfl rfl ?_
 refine ry (y_asg rfl rfl) rfl rfl ?_
 refine reg_nil ?_
 refine fn_next ?_
 refine cw_seq ?_
 refine cw_reg ?_
 refine ry (y_mov rfl rfl) rfl rfl ?_
 refine ry (y_mov rfl rfl) rfl rfl ?_
 refine ry (y_mov rfl rfl) rfl rfl ?_
 refine reg_op (op_call (made_ok a h U AU (a * h) cU _ s lU rfl bU (rU.below H30.base)) rfl kflaw47_14 ⟨rfl, rfl, rfl, trivial⟩) rfl rfl ?_
 rintro _ w34 ⟨g36, bl37, rfl, k33⟩
 have H35 := H30.call k33
 refine ry (y_mov rfl rfl) rfl rfl ?_
 refine ry (y_ext rfl rfl rfl) rfl rfl ?_
 refine ry (y_ext rfl rfl rfl) rfl rfl ?_
 refine ry (y_asg rfl rfl) rfl rfl ?_
 refine ry (y_asg rfl rfl) rfl rfl ?_
 refine reg_nil ?_
 refine fn_next ?_
 refine cw_seq ?_
 refine cw_reg ?_
 refine ry (y_mov rfl rfl) rfl rfl ?_
 refine ry (y_mov rfl rfl) rfl rfl ?_
 refine ry (y_mov rfl rfl) rfl rfl ?_
 refine reg_op (op_call (made_ok a h T AT (a * h) cT _ s lT rfl bT (rT.below H35.base)) rfl kflaw47_14 ⟨rfl, rfl, rfl, trivial⟩) rfl rfl ?_
 rintro _ w39 ⟨g41, bl42, rfl, k38⟩
 have H40 := H35.call k38
 refine ry (y_mov rfl rfl) rfl rfl ?_
 refine ry (y_ext rfl rfl rfl) rfl rfl ?_
 refine ry (y_ext rfl rfl rfl) rfl rfl ?_
 refine ry (y_asg rfl rfl) rfl rfl ?_
 refine ry (y_asg rfl rfl) rfl rfl ?_
 refine reg_nil ?_
 refine fn_next ?_
 refine cw_seq ?_
 refine cw_reg ?_
 refine ry (y_mov rfl rfl) rfl rfl ?_
 refine ry (y_mov rfl rfl) rfl rfl ?_
 refine ry (y_mov rfl rfl) rfl rfl ?_
 refine reg_op (op_call (mThree a h g31 (L) (U) (T) g36 g41 _ (H40.rdg (i := 2) rfl) (H40.rdg (i := 1) rfl) (H40.rdg (i := 0) rfl)) rfl kflaw47_3 ⟨rfl, rfl, rfl, trivial⟩) rfl rfl ?_
 rintro _ w44 ⟨g46, bl47, A48, c49, rfl, k43⟩
 have H45 := H40.call k43
 refine ry (y_mov rfl rfl) rfl rfl ?_
 refine ry (y_ext rfl rfl rfl) rfl rfl ?_
 refine ry (y_ext rfl rfl rfl) rfl rfl ?_
 refine ry (y_ext rfl rfl rfl) rfl rfl ?_
 refine ry (y_asg rfl rfl) rfl rfl ?_
 refine ry (y_asg rfl rfl) rfl rfl ?_
 refine ry (y_asg rfl rfl) rfl rfl ?_
 refine reg_nil ?_
 refine fn_next ?_
 refine cw_seq ?_
 refine cw_reg ?_
 refine ry (y_mov rfl rfl) rfl rfl ?_
 refine ry (y_mov rfl rfl) rfl rfl ?_
 refine ry (y_mov rfl rfl) rfl rfl ?_
 refine ry (y_mov rfl rfl) rfl rfl ?_
 refine reg_op (op_call (mPrefer_ok a h g31 (L) (U) (T) g36 g41 q _ (H45.rdg (i := 4) rfl) (H45.rdg (i := 3) rfl) (H45.rdg (i := 2) rfl) hq) rfl kflaw47_15 ⟨rfl, rfl, rfl, rfl, trivial⟩) rfl rfl ?_
 rintro _ w51 ⟨g53, bl54, rfl, k50⟩
 have H52 := H45.call k50
 refine ry (y_mov rfl rfl) rfl rfl ?_
 refine ry (y_ext rfl rfl rfl) rfl rfl ?_
 refine ry (y_ext rfl rfl rfl) rfl rfl ?_
 refine ry (y_asg rfl rfl) rfl rfl ?_
 refine ry (y_asg rfl rfl) rfl rfl ?_
 refine reg_nil ?_
 refine fn_next ?_
 refine cw_seq ?_
 refine cw_seq ?_
 refine cw_reg ?_
 refine ry (y_mov rfl rfl) rfl rfl ?_
 refine ry (y_not rfl rfl) rfl rfl ?_
 refine ry (y_mov rfl rfl) rfl rfl ?_
 refine rgy (y_mov rfl rfl) rfl rfl rfl rfl ?_
 refine rgy (y_not rfl rfl) rfl rfl rfl rfl ?_
 refine ry (y_pick rfl rfl rfl) rfl rfl ?_
 refine ry (y_mov rfl rfl) rfl rfl ?_
 refine rgy (y_mov rfl rfl) rfl rfl rfl rfl ?_
 refine rgy (y_not rfl rfl) rfl rfl rfl rfl ?_
 refine ry (y_pick rfl rfl rfl) rfl rfl ?_
 refine ry (y_mov rfl rfl) rfl rfl ?_
 refine rgy (y_mov rfl rfl) rfl rfl rfl rfl ?_
 refine rgy (y_neq rfl rfl rfl) rfl rfl rfl rfl ?_
 refine ry (y_pick rfl rfl rfl) rfl rfl ?_
 refine ry (y_mov rfl rfl) rfl rfl ?_
 refine rgy (y_mov rfl rfl) rfl rfl rfl rfl ?_
 refine rgy (y_ldb (i := 8) (cs := [_, _, _]) H52 rfl rfl kflaw47_16 rfl rfl) rfl rfl rfl rfl ?_
 refine rgy (y_ldb (i := 7) (cs := [_, _, _]) H52 rfl rfl kflaw47_16 rfl rfl) rfl rfl rfl rfl ?_
 refine rgy (y_ldb (i := 6) (cs := [_, _, _]) H52 rfl rfl kflaw47_16 rfl rfl) rfl rfl rfl rfl ?_
 refine rg_on rfl rfl rfl (op_call (mmPrefer a h AL cL AU cU AT cT L U T 0 _ s ((rL.below H52.base)) lL ((rU.below H52.base)) lU ((rT.below H52.base)) lT) rfl kflaw47_17 ⟨rfl, rfl, rfl, rfl, trivial⟩) rfl ?_
 rintro _ w56 ⟨A58, c59, rfl, k55⟩
 have H57 := H52.call k55
 rw [show oW 0 = o0 from rfl] at H57
 refine rg_on rfl rfl rfl (op_call (lIs g46 a h (mgL o0 (L) (U) (T) (a * h)) _ _ _ (H57.rdg (i := 2) rfl) (H57.rd (i := 0) rfl)) rfl kflaw47_18 ⟨rfl, rfl, trivial⟩) rfl ?_
 rintro _ w61 ⟨rfl, e60⟩
 have H62 := H57.ext e60
 refine rgy (y_not rfl rfl) rfl rfl rfl rfl ?_
 refine ry (y_pick rfl rfl rfl) rfl rfl ?_
 refine ry (y_mov rfl rfl) rfl rfl ?_
 refine rgy (y_mov rfl rfl) rfl rfl rfl rfl ?_
 refine rgy (y_ldb (i := 9) (cs := [_, _, _]) H62 rfl rfl kflaw47_16 rfl rfl) rfl rfl rfl rfl ?_
 refine rgy (y_ldb (i := 8) (cs := [_, _, _]) H62 rfl rfl kflaw47_16 rfl rfl) rfl rfl rfl rfl ?_
 refine rgy (y_ldb (i := 7) (cs := [_, _, _]) H62 rfl rfl kflaw47_16 rfl rfl) rfl rfl rfl rfl ?_
 refine rg_on rfl rfl rfl (op_call (mmAt a h AL cL AU cU AT cT L U T _ s ((rL.below H62.base)) lL ((rU.below H62.base)) lU ((rT.below H62.base)) lT) rfl kflaw47_19 ⟨rfl, rfl, rfl, trivial⟩) rfl ?_
 rintro _ w64 ⟨A66, c67, rfl, k63⟩
 have H65 := H62.call k63
 refine rg_on rfl rfl rfl (op_call (sameCells _ (selN (oddP (L) (U) (T)) (a * h)) _ _ _ (selC a (oddP (L) (U) (T)) (a * h)) _ (H65.rd (i := 4) rfl) (H65.rd (i := 0) rfl) (selC_len _) (by have := selN_le (p := oddP (L) (U) (T)) (a * h); omega)) rfl kflaw47_9 ⟨rfl, rfl, trivial⟩) rfl ?_
 rintro _ w69 ⟨rfl, e68⟩
 have H70 := H65.ext e68
 refine rgy (y_not rfl rfl) rfl rfl rfl rfl ?_
 refine ry (y_pick rfl rfl rfl) rfl rfl ?_
 refine reg_nil ?_
 refine fn_next ?_
 refine cw_condf rfl ?_
 refine cw_skip ?_
 refine fn_next ?_
 refine cw_seq ?_
 refine cw_seq ?_
 refine cw_reg ?_
 refine ry (y_mov rfl rfl) rfl rfl ?_
 refine ry (y_lss rfl rfl rfl) rfl rfl ?_
 refine ry (y_mov rfl rfl) rfl rfl ?_
 refine rg_splitd (d := 134) rfl (fun h71 => ?_) (fun h71 => ?_)
 · exfalso; omega
 ·skip
  refine rgy (y_mov rfl rfl) rfl rfl rfl rfl ?_
  refine rgy (y_gtr rfl rfl rfl) rfl rfl rfl rfl ?_
  refine ry (y_pick rfl rfl rfl) rfl rfl ?_
  refine reg_nil ?_
  refine fn_next ?_
  refine cw_condd rfl (fun h72 => ?_) (fun h72 => ?_)
  · exfalso; omega
  ·skip
   refine cw_skip ?_
   refine fn_next ?_
   refine cw_seq ?_
   refine cw_reg ?_
   refine ry (y_mov rfl rfl) rfl rfl ?_
   refine ry (y_eql rfl rfl rfl) rfl rfl ?_
   refine ry (y_mov rfl rfl) rfl rfl ?_
   refine rgy (y_mov rfl rfl) rfl rfl rfl rfl ?_
   refine rgy (y_ldb (i := 10) (cs := [_, _, _]) H70 rfl rfl kflaw47_16 rfl rfl) rfl rfl rfl rfl ?_
   refine rgy (y_ldb (i := 9) (cs := [_, _, _]) H70 rfl rfl kflaw47_16 rfl rfl) rfl rfl rfl rfl ?_
   refine rgy (y_ldb (i := 8) (cs := [_, _, _]) H70 rfl rfl kflaw47_16 rfl rfl) rfl rfl rfl rfl ?_
   refine rgy (y_mov rfl rfl) rfl rfl rfl rfl ?_
   refine rg_on rfl rfl rfl (op_call (mmPrefer a h AL cL AU cU AT cT L U T q _ s ((rL.below H70.base)) lL ((rU.below H70.base)) lU ((rT.below H70.base)) lT) rfl kflaw47_17 ⟨rfl, rfl, rfl, rfl, trivial⟩) rfl ?_
   rintro _ w74 ⟨A76, c77, rfl, k73⟩
   have H75 := H70.call k73
   refine rg_on rfl rfl rfl (op_call (lIs g53 a h (mgL (oW q) (L) (U) (T) (a * h)) _ _ _ (H75.rdg (i := 3) rfl) (H75.rd (i := 0) rfl)) rfl kflaw47_18 ⟨rfl, rfl, trivial⟩) rfl ?_
   rintro _ w79 ⟨rfl, e78⟩
   have H80 := H75.ext e78
   refine ry (y_pick rfl rfl rfl) rfl rfl ?_
   refine ry (y_mov rfl rfl) rfl rfl ?_
   refine rgy (y_mov rfl rfl) rfl rfl rfl rfl ?_
   refine rgy (y_ldb (i := 11) (cs := [_, _, _]) H80 rfl rfl kflaw47_16 rfl rfl) rfl rfl rfl rfl ?_
   refine rg_on rfl rfl rfl (op_call (lIs g31 a h (L) _ _ _ (H80.rdg (i := 8) rfl) ((rL.below H80.base))) rfl kflaw47_18 ⟨rfl, rfl, trivial⟩) rfl ?_
   rintro _ w82 ⟨rfl, e81⟩
   have H83 := H80.ext e81
   refine ry (y_pick rfl rfl rfl) rfl rfl ?_
   refine ry (y_mov rfl rfl) rfl rfl ?_
   refine rgy (y_mov rfl rfl) rfl rfl rfl rfl ?_
   refine rgy (y_ldb (i := 10) (cs := [_, _, _]) H83 rfl rfl kflaw47_16 rfl rfl) rfl rfl rfl rfl ?_
   refine rg_on rfl rfl rfl (op_call (lIs g36 a h (U) _ _ _ (H83.rdg (i := 7) rfl) ((rU.below H83.base))) rfl kflaw47_18 ⟨rfl, rfl, trivial⟩) rfl ?_
   rintro _ w85 ⟨rfl, e84⟩
   have H86 := H83.ext e84
   refine ry (y_pick rfl rfl rfl) rfl rfl ?_
   refine ry (y_mov rfl rfl) rfl rfl ?_
   refine rgy (y_mov rfl rfl) rfl rfl rfl rfl ?_
   refine rgy (y_ldb (i := 9) (cs := [_, _, _]) H86 rfl rfl kflaw47_16 rfl rfl) rfl rfl rfl rfl ?_
   refine rg_on rfl rfl rfl (op_call (lIs g41 a h (T) _ _ _ (H86.rdg (i := 6) rfl) ((rT.below H86.base))) rfl kflaw47_18 ⟨rfl, rfl, trivial⟩) rfl ?_
   rintro _ w88 ⟨rfl, e87⟩
   have H89 := H86.ext e87
   refine ry (y_pick rfl rfl rfl) rfl rfl ?_
   refine ry (y_asg rfl rfl) rfl rfl ?_
   refine reg_nil ?_
   refine fn_next ?_
   refine cw_ret ?_
   refine fn_ret1 rfl rfl ?_
   exact ⟨rfl, H89.base⟩

set_option maxRecDepth 100000 in
set_option maxHeartbeats 2000000 in
theorem mergeThree_arg (a h : Nat) (L : List Int) (AL : Option Addr) (cL : Nat) (U : List Int) (AU : Option Addr) (cU : Nat) (T : List Int) (AT : Option Addr) (cT : Nat) (q : Int) (w : World) (h1 : 1 ≤ a) (h2 : a ≤ 1000) (h3 : 1 ≤ h) (h4 : h ≤ 1000) (h5 : a * h ≤ 1000) (rL : Rd w AL (vi .i64 L)) (lL : L.length = a * h) (bL : AllB L) (rU : Rd w AU (vi .i64 U)) (lU : U.length = a * h) (bU : AllB U) (rT : Rd w AT (vi .i64 T)) (lT : T.length = a * h) (bT : AllB T) (hq : q < 0 ∨ q > 3) :
    Ret Try.prog 4 [.int .i64 (a : Int), .int .i64 (h : Int), .slice AL (a * h) cL, .slice AU (a * h) cU, .slice AT (a * h) cT, .int .i64 q] w (fun z w' => z = .bool true ∧ Below w.heap.size w w') := by
 have s : SzG a h := ⟨h1, by omega, h3, by omega⟩
 refine ret_enter Try.func4 rfl rfl rfl ?_
 have H0 := HS.start w
 refine cw_seq ?_
 refine cw_reg ?_
 refine ry (y_asg rfl rfl) rfl rfl ?_
 refine reg_nil ?_
 refine fn_next ?_
 refine cw_seq ?_
 refine cw_seq ?_
 refine cw_reg ?_
 refine reg_op (op_call (mergeAwake _) rfl kflaw47_10 trivial) rfl rfl ?_
 rintro _ w2 ⟨rfl, e1⟩
 have H3 := H0.ext e1
 refine ry (y_not rfl rfl) rfl rfl ?_
 refine reg_nil ?_
 refine fn_next ?_
 refine cw_condf rfl ?_
 refine cw_skip ?_
 refine fn_next ?_
 refine cw_seq ?_
 refine cw_reg ?_
 refine ry (y_mov rfl rfl) rfl rfl ?_
 refine ry (y_mov rfl rfl) rfl rfl ?_
 refine ry (y_mov rfl rfl) rfl rfl ?_
 refine reg_op (op_call (land_ok a h 1000 L AL (a * h) cL _ h1 h2 h3 h4 h5 rfl lL bL (by decide) (rL.below H3.base)) rfl kflaw47_11 ⟨rfl, rfl, rfl, rfl, trivial⟩) rfl rfl ?_
 rintro _ w5 ⟨rfl, e4⟩
 have H6 := H3.ext e4
 refine ry (y_mov rfl rfl) rfl rfl ?_
 refine ry (y_ext rfl rfl rfl) rfl rfl ?_
 refine ry (y_ext rfl rfl rfl) rfl rfl ?_
 refine reg_op (op_alloc H6 rfl kflaw47_12) rfl rfl ?_
 rintro _ w8 ⟨b7, rfl, H9⟩
 refine reg_op (op_st (i := 0) (vs := [.int _ _, .int _ _, .slice _ _ _]) H9 rfl rfl rfl rfl rfl kflaw47_13 rfl rfl rfl) rfl rfl ?_
 rintro _ w10 H11
 refine ry (y_asg rfl rfl) rfl rfl ?_
 refine reg_nil ?_
 refine fn_next ?_
 refine cw_seq ?_
 refine cw_reg ?_
 refine ry (y_mov rfl rfl) rfl rfl ?_
 refine ry (y_mov rfl rfl) rfl rfl ?_
 refine ry (y_mov rfl rfl) rfl rfl ?_
 refine reg_op (op_call (land_ok a h 1000 U AU (a * h) cU _ h1 h2 h3 h4 h5 rfl lU bU (by decide) (rU.below H11.base)) rfl kflaw47_11 ⟨rfl, rfl, rfl, rfl, trivial⟩) rfl rfl ?_
 rintro _ w13 ⟨rfl, e12⟩
 have H14 := H11.ext e12
 refine ry (y_mov rfl rfl) rfl rfl ?_
 refine ry (y_ext rfl rfl rfl) rfl rfl ?_
 refine ry (y_ext rfl rfl rfl) rfl rfl ?_
 refine reg_op (op_alloc H14 rfl kflaw47_12) rfl rfl ?_
 rintro _ w16 ⟨b15, rfl, H17⟩
 refine reg_op (op_st (i := 0) (vs := [.int _ _, .int _ _, .slice _ _ _]) H17 rfl rfl rfl rfl rfl kflaw47_13 rfl rfl rfl) rfl rfl ?_
 rintro _ w18 H19
 refine ry (y_asg rfl rfl) rfl rfl ?_
 refine reg_nil ?_
 refine fn_next ?_
 refine cw_seq ?_
 refine cw_reg ?_
 refine ry (y_mov rfl rfl) rfl rfl ?_
 refine ry (y_mov rfl rfl) rfl rfl ?_
 refine ry (y_mov rfl rfl) rfl rfl ?_
 refine reg_op (op_call (land_ok a h 1000 T AT (a * h) cT _ h1 h2 h3 h4 h5 rfl lT bT (by decide) (rT.below H19.base)) rfl kflaw47_11 ⟨rfl, rfl, rfl, rfl, trivial⟩) rfl rfl ?_
 rintro _ w21 ⟨rfl, e20⟩
 have H22 := H19.ext e20
 refine ry (y_mov rfl rfl) rfl rfl ?_
 refine ry (y_ext rfl rfl rfl) rfl rfl ?_
 refine ry (y_ext rfl rfl rfl) rfl rfl ?_
 refine reg_op (op_alloc H22 rfl kflaw47_12) rfl rfl ?_
 rintro _ w24 ⟨b23, rfl, H25⟩
 refine reg_op (op_st (i := 0) (vs := [.int _ _, .int _ _, .slice _ _ _]) H25 rfl rfl rfl rfl rfl kflaw47_13 rfl rfl rfl) rfl rfl ?_
 rintro _ w26 H27
 refine ry (y_asg rfl rfl) rfl rfl ?_
 refine reg_nil ?_
 refine fn_next ?_
 refine cw_seq ?_
 refine cw_seq ?_
 refine cw_reg ?_
 refine ry (y_mov rfl rfl) rfl rfl ?_
 refine ry (y_not rfl rfl) rfl rfl ?_
 refine ry (y_mov rfl rfl) rfl rfl ?_
 refine rgy (y_mov rfl rfl) rfl rfl rfl rfl ?_
 refine rgy (y_not rfl rfl) rfl rfl rfl rfl ?_
 refine ry (y_pick rfl rfl rfl) rfl rfl ?_
 refine ry (y_mov rfl rfl) rfl rfl ?_
 refine rgy (y_mov rfl rfl) rfl rfl rfl rfl ?_
 refine rgy (y_not rfl rfl) rfl rfl rfl rfl ?_
 refine ry (y_pick rfl rfl rfl) rfl rfl ?_
 refine reg_nil ?_
 refine fn_next ?_
 refine cw_condf rfl ?_
 refine cw_skip ?_
 refine fn_next ?_
 refine cw_seq ?_
 refine cw_reg ?_
 refine ry (y_mov rfl rfl) rfl rfl ?_
 refine ry (y_mov rfl rfl) rfl rfl ?_
 refine ry (y_mov rfl rfl) rfl rfl ?_
 refine reg_op (op_call (made_ok a h L AL (a * h) cL _ s lL rfl bL (rL.below H27.base)) rfl kflaw47_14 ⟨rfl, rfl, rfl, trivial⟩) rfl rfl ?_
 rintro _ w29 ⟨g31, bl32, rfl, k28⟩
 have H30 := H27.call k28
 refine ry (y_mov rfl rfl) rfl rfl ?_
 refine ry (y_ext rfl rfl rfl) rfl rfl ?_
 refine ry (y_ext rfl rfl rfl) rfl rfl ?_
 refine ry (y_asg rfl rfl) rfl rfl ?_
 refine ry (y_asg rfl rfl) rfl rfl ?_
 refine reg_nil ?_
 refine fn_next ?_
 refine cw_seq ?_
 refine cw_reg ?_
 refine ry (y_mov rfl rfl) rfl rfl ?_
 refine ry (y_mov rfl rfl) rfl rfl ?_
 refine ry (y_mov rfl rfl) rfl rfl ?_
 refine reg_op (op_call (made_ok a h U AU (a * h) cU _ s lU rfl bU (rU.below H30.base)) rfl kflaw47_14 ⟨rfl, rfl, rfl, trivial⟩) rfl rfl ?_
 rintro _ w34 ⟨g36, bl37, rfl, k33⟩
 have H35 := H30.call k33
 refine ry (y_mov rfl rfl) rfl rfl ?_
 refine ry (y_ext rfl rfl rfl) rfl rfl ?_
 refine ry (y_ext rfl rfl rfl) rfl rfl ?_
 refine ry (y_asg rfl rfl) rfl rfl ?_
 refine ry (y_asg rfl rfl) rfl rfl ?_
 refine reg_nil ?_
 refine fn_next ?_
 refine cw_seq ?_
 refine cw_reg ?_
 refine ry (y_mov rfl rfl) rfl rfl ?_
 refine ry (y_mov rfl rfl) rfl rfl ?_
 refine ry (y_mov rfl rfl) rfl rfl ?_
 refine reg_op (op_call (made_ok a h T AT (a * h) cT _ s lT rfl bT (rT.below H35.base)) rfl kflaw47_14 ⟨rfl, rfl, rfl, trivial⟩) rfl rfl ?_
 rintro _ w39 ⟨g41, bl42, rfl, k38⟩
 have H40 := H35.call k38
 refine ry (y_mov rfl rfl) rfl rfl ?_
 refine ry (y_ext rfl rfl rfl) rfl rfl ?_
 refine ry (y_ext rfl rfl rfl) rfl rfl ?_
 refine ry (y_asg rfl rfl) rfl rfl ?_
 refine ry (y_asg rfl rfl) rfl rfl ?_
 refine reg_nil ?_
 refine fn_next ?_
 refine cw_seq ?_
 refine cw_reg ?_
 refine ry (y_mov rfl rfl) rfl rfl ?_
 refine ry (y_mov rfl rfl) rfl rfl ?_
 refine ry (y_mov rfl rfl) rfl rfl ?_
 refine reg_op (op_call (mThree a h g31 (L) (U) (T) g36 g41 _ (H40.rdg (i := 2) rfl) (H40.rdg (i := 1) rfl) (H40.rdg (i := 0) rfl)) rfl kflaw47_3 ⟨rfl, rfl, rfl, trivial⟩) rfl rfl ?_
 rintro _ w44 ⟨g46, bl47, A48, c49, rfl, k43⟩
 have H45 := H40.call k43
 refine ry (y_mov rfl rfl) rfl rfl ?_
 refine ry (y_ext rfl rfl rfl) rfl rfl ?_
 refine ry (y_ext rfl rfl rfl) rfl rfl ?_
 refine ry (y_ext rfl rfl rfl) rfl rfl ?_
 refine ry (y_asg rfl rfl) rfl rfl ?_
 refine ry (y_asg rfl rfl) rfl rfl ?_
 refine ry (y_asg rfl rfl) rfl rfl ?_
 refine reg_nil ?_
 refine fn_next ?_
 refine cw_seq ?_
 refine cw_reg ?_
 refine ry (y_mov rfl rfl) rfl rfl ?_
 refine ry (y_mov rfl rfl) rfl rfl ?_
 refine ry (y_mov rfl rfl) rfl rfl ?_
 refine ry (y_mov rfl rfl) rfl rfl ?_
 refine reg_op (op_call (mPrefer_arg a h g31 (L) (U) (T) g36 g41 q _ (H45.rdg (i := 4) rfl) (H45.rdg (i := 3) rfl) (H45.rdg (i := 2) rfl) hq) rfl kflaw47_15 ⟨rfl, rfl, rfl, rfl, trivial⟩) rfl rfl ?_
 rintro _ w51 ⟨rfl, e50⟩
 have H52 := H45.ext e50
 refine ry (y_mov rfl rfl) rfl rfl ?_
 refine ry (y_ext rfl rfl rfl) rfl rfl ?_
 refine ry (y_ext rfl rfl rfl) rfl rfl ?_
 refine ry (y_asg rfl rfl) rfl rfl ?_
 refine ry (y_asg rfl rfl) rfl rfl ?_
 refine reg_nil ?_
 refine fn_next ?_
 refine cw_seq ?_
 refine cw_seq ?_
 refine cw_reg ?_
 refine ry (y_mov rfl rfl) rfl rfl ?_
 refine ry (y_not rfl rfl) rfl rfl ?_
 refine ry (y_mov rfl rfl) rfl rfl ?_
 refine rgy (y_mov rfl rfl) rfl rfl rfl rfl ?_
 refine rgy (y_not rfl rfl) rfl rfl rfl rfl ?_
 refine ry (y_pick rfl rfl rfl) rfl rfl ?_
 refine ry (y_mov rfl rfl) rfl rfl ?_
 refine rgy (y_mov rfl rfl) rfl rfl rfl rfl ?_
 refine rgy (y_not rfl rfl) rfl rfl rfl rfl ?_
 refine ry (y_pick rfl rfl rfl) rfl rfl ?_
 refine ry (y_mov rfl rfl) rfl rfl ?_
 refine rgy (y_mov rfl rfl) rfl rfl rfl rfl ?_
 refine rgy (y_neq rfl rfl rfl) rfl rfl rfl rfl ?_
 refine ry (y_pick rfl rfl rfl) rfl rfl ?_
 refine ry (y_mov rfl rfl) rfl rfl ?_
 refine rgy (y_mov rfl rfl) rfl rfl rfl rfl ?_
 refine rgy (y_ldb (i := 7) (cs := [_, _, _]) H52 rfl rfl kflaw47_16 rfl rfl) rfl rfl rfl rfl ?_
 refine rgy (y_ldb (i := 6) (cs := [_, _, _]) H52 rfl rfl kflaw47_16 rfl rfl) rfl rfl rfl rfl ?_
 refine rgy (y_ldb (i := 5) (cs := [_, _, _]) H52 rfl rfl kflaw47_16 rfl rfl) rfl rfl rfl rfl ?_
 refine rg_on rfl rfl rfl (op_call (mmPrefer a h AL cL AU cU AT cT L U T 0 _ s ((rL.below H52.base)) lL ((rU.below H52.base)) lU ((rT.below H52.base)) lT) rfl kflaw47_17 ⟨rfl, rfl, rfl, rfl, trivial⟩) rfl ?_
 rintro _ w54 ⟨A56, c57, rfl, k53⟩
 have H55 := H52.call k53
 rw [show oW 0 = o0 from rfl] at H55
 refine rg_on rfl rfl rfl (op_call (lIs g46 a h (mgL o0 (L) (U) (T) (a * h)) _ _ _ (H55.rdg (i := 1) rfl) (H55.rd (i := 0) rfl)) rfl kflaw47_18 ⟨rfl, rfl, trivial⟩) rfl ?_
 rintro _ w59 ⟨rfl, e58⟩
 have H60 := H55.ext e58
 refine rgy (y_not rfl rfl) rfl rfl rfl rfl ?_
 refine ry (y_pick rfl rfl rfl) rfl rfl ?_
 refine ry (y_mov rfl rfl) rfl rfl ?_
 refine rgy (y_mov rfl rfl) rfl rfl rfl rfl ?_
 refine rgy (y_ldb (i := 8) (cs := [_, _, _]) H60 rfl rfl kflaw47_16 rfl rfl) rfl rfl rfl rfl ?_
 refine rgy (y_ldb (i := 7) (cs := [_, _, _]) H60 rfl rfl kflaw47_16 rfl rfl) rfl rfl rfl rfl ?_
 refine rgy (y_ldb (i := 6) (cs := [_, _, _]) H60 rfl rfl kflaw47_16 rfl rfl) rfl rfl rfl rfl ?_
 refine rg_on rfl rfl rfl (op_call (mmAt a h AL cL AU cU AT cT L U T _ s ((rL.below H60.base)) lL ((rU.below H60.base)) lU ((rT.below H60.base)) lT) rfl kflaw47_19 ⟨rfl, rfl, rfl, trivial⟩) rfl ?_
 rintro _ w62 ⟨A64, c65, rfl, k61⟩
 have H63 := H60.call k61
 refine rg_on rfl rfl rfl (op_call (sameCells _ (selN (oddP (L) (U) (T)) (a * h)) _ _ _ (selC a (oddP (L) (U) (T)) (a * h)) _ (H63.rd (i := 3) rfl) (H63.rd (i := 0) rfl) (selC_len _) (by have := selN_le (p := oddP (L) (U) (T)) (a * h); omega)) rfl kflaw47_9 ⟨rfl, rfl, trivial⟩) rfl ?_
 rintro _ w67 ⟨rfl, e66⟩
 have H68 := H63.ext e66
 refine rgy (y_not rfl rfl) rfl rfl rfl rfl ?_
 refine ry (y_pick rfl rfl rfl) rfl rfl ?_
 refine reg_nil ?_
 refine fn_next ?_
 refine cw_condf rfl ?_
 refine cw_skip ?_
 refine fn_next ?_
 refine cw_seq ?_
 refine cw_seq ?_
 refine cw_reg ?_
 refine ry (y_mov rfl rfl) rfl rfl ?_
 refine ry (y_lss rfl rfl rfl) rfl rfl ?_
 refine ry (y_mov rfl rfl) rfl rfl ?_
 refine rg_splitd (d := 134) rfl (fun h69 => ?_) (fun h69 => ?_)
 ·skip
  refine rg_off rfl rfl rfl rfl rfl ?_
  refine rg_off rfl rfl rfl rfl rfl ?_
  refine ry (y_pick rfl rfl rfl) rfl rfl ?_
  refine reg_nil ?_
  refine fn_next ?_
  refine cw_condt rfl ?_
  refine cw_seq ?_
  refine cw_reg ?_
  refine ry (y_mov rfl rfl) rfl rfl ?_
  refine ry (y_peqlnil rfl Try.underlying28 rfl rfl) rfl rfl ?_
  refine ry (y_mov rfl rfl) rfl rfl ?_
  refine rgy (y_mov rfl rfl) rfl rfl rfl rfl ?_
  refine rgy (y_eql rfl rfl rfl) rfl rfl rfl rfl ?_
  refine ry (y_pick rfl rfl rfl) rfl rfl ?_
  refine ry (y_asg rfl rfl) rfl rfl ?_
  refine reg_nil ?_
  refine fn_next ?_
  refine cw_ret ?_
  refine fn_then_ret ?_
  refine fn_ret1 rfl rfl ?_
  exact ⟨rfl, H68.base⟩
 ·skip
  refine rgy (y_mov rfl rfl) rfl rfl rfl rfl ?_
  refine rgy (y_gtr rfl rfl rfl) rfl rfl rfl rfl ?_
  refine ry (y_pick rfl rfl rfl) rfl rfl ?_
  refine reg_nil ?_
  refine fn_next ?_
  refine cw_condd rfl (fun h70 => ?_) (fun h70 => ?_)
  ·skip
   refine cw_seq ?_
   refine cw_reg ?_
   refine ry (y_mov rfl rfl) rfl rfl ?_
   refine ry (y_peqlnil rfl Try.underlying28 rfl rfl) rfl rfl ?_
   refine ry (y_mov rfl rfl) rfl rfl ?_
   refine rgy (y_mov rfl rfl) rfl rfl rfl rfl ?_
   refine rgy (y_eql rfl rfl rfl) rfl rfl rfl rfl ?_
   refine ry (y_pick rfl rfl rfl) rfl rfl ?_
   refine ry (y_asg rfl rfl) rfl rfl ?_
   refine reg_nil ?_
   refine fn_next ?_
   refine cw_ret ?_
   refine fn_then_ret ?_
   refine fn_ret1 rfl rfl ?_
   exact ⟨rfl, H68.base⟩
  · exfalso; omega

theorem mergeThree_all (a h : Int) (L : List Int) (AL : Option Addr) (nL cL : Nat) (U : List Int) (AU : Option Addr) (nU cU : Nat) (T : List Int) (AT : Option Addr) (nT cT : Nat) (q : Int) (w : World) (ha : I6 a) (hh : I6 h) (rL : Rd w AL (vi .i64 L)) (lL : L.length = nL) (rU : Rd w AU (vi .i64 U)) (lU : U.length = nU) (rT : Rd w AT (vi .i64 T)) (lT : T.length = nT) : Ret Try.prog 4 [.int .i64 a, .int .i64 h, .slice AL nL cL, .slice AU nU cU, .slice AT nT cT, .int .i64 q] w (fun z w' => z = .bool true ∧ Below w.heap.size w w') := by
  by_cases hp : LandP a h (1000 : Nat) L ∧ LandP a h (1000 : Nat) U ∧ LandP a h (1000 : Nat) T
  · obtain ⟨p1, p2, p3⟩ := hp
    obtain ⟨a, h, rfl, rfl, h1, h2, h3, h4, h5, h6, bL⟩ := LandP.nat p1
    obtain ⟨_, _, bU⟩ : True ∧ True ∧ AllB U := ⟨trivial, trivial, p2.2.2.2.2.2.2⟩
    have bT : AllB T := p3.2.2.2.2.2.2
    have e2 := p2.2.2.2.2.2.1
    have e3 := p3.2.2.2.2.2.1
    rw [← Int.natCast_mul] at e2 e3
    obtain rfl : nL = a * h := by omega
    obtain rfl : nU = a * h := by omega
    obtain rfl : nT = a * h := by omega
    by_cases hq : 0 ≤ q ∧ q ≤ 3
    · exact mergeThree_ok a h L AL cL U AU cU T AT cT q w h1 h2 h3 h4 h5 rL lL bL rU lU bU rT lT bT hq
    · exact mergeThree_arg a h L AL cL U AU cU T AT cT q w h1 h2 h3 h4 h5 rL lL bL rU lU bU rT lT bT (by omega)
  · exact mergeThree_no a h L AL nL cL U AU nU cU T AT nT cT q w ha hh rL lL rU lU rT lT hp

theorem mergeThree_law (a : Int) (h : Int) (ls : List Int) (A2 : Option Addr) (n2 c2 : Nat) (us : List Int) (A3 : Option Addr) (n3 c3 : Nat) (ts : List Int) (A4 : Option Addr) (n4 c4 : Nat) (q : Int) (W : World) (ba : I6 a) (bh : I6 h) (hls : Ints .i64 W A2 n2 ls) (le2 : n2 ≤ c2) (mx2 : c2 ≤ maxLen) (wls : ∀ z ∈ ls, I6 z) (hus : Ints .i64 W A3 n3 us) (le3 : n3 ≤ c3) (mx3 : c3 ≤ maxLen) (wus : ∀ z ∈ us, I6 z) (hts : Ints .i64 W A4 n4 ts) (le4 : n4 ≤ c4) (mx4 : c4 ≤ maxLen) (wts : ∀ z ∈ ts, I6 z) (bq : I6 q) :
    Calls Try.prog 4 #[.int .i64 a, .int .i64 h, .slice A2 n2 c2, .slice A3 n3 c3, .slice A4 n4 c4, .int .i64 q] W fun e w' => e = .returned (.bool true) ∧ Below W.heap.size W w' := lawOf (mergeThree_all a h ls A2 n2 c2 us A3 n3 c3 ts A4 n4 c4 q W ba bh (Rd.of_ints hls) hls.len (Rd.of_ints hus) hus.len (Rd.of_ints hts) hts.len)

set_option maxRecDepth 100000 in
theorem mergeSides_no (a h : Int) (L : List Int) (AL : Option Addr) (nL cL : Nat) (U : List Int) (AU : Option Addr) (nU cU : Nat) (T : List Int) (AT : Option Addr) (nT cT : Nat) (w : World) (ha : I6 a) (hh : I6 h) (rL : Rd w AL (vi .i64 L)) (lL : L.length = nL) (rU : Rd w AU (vi .i64 U)) (lU : U.length = nU) (rT : Rd w AT (vi .i64 T)) (lT : T.length = nT) (hp : ¬ (LandP a h (1000 : Nat) L ∧ LandP a h (1000 : Nat) U ∧ LandP a h (1000 : Nat) T)) :
    Ret Try.prog 8 [.int .i64 a, .int .i64 h, .slice AL nL cL, .slice AU nU cU, .slice AT nT cT] w (fun z w' => z = .bool true ∧ Below w.heap.size w w') := by
 refine ret_enter Try.func8 rfl rfl rfl ?_
 have H0 := HS.start w
 refine cw_seq ?_
 refine cw_reg ?_
 refine ry (y_asg rfl rfl) rfl rfl ?_
 refine reg_nil ?_
 refine fn_next ?_
 refine cw_seq ?_
 refine cw_seq ?_
 refine cw_reg ?_
 refine reg_op (op_call (mergeAwake _) rfl kflaw47_10 trivial) rfl rfl ?_
 rintro _ w2 ⟨rfl, e1⟩
 have H3 := H0.ext e1
 refine ry (y_not rfl rfl) rfl rfl ?_
 refine reg_nil ?_
 refine fn_next ?_
 refine cw_condf rfl ?_
 refine cw_skip ?_
 refine fn_next ?_
 refine cw_seq ?_
 refine cw_reg ?_
 refine ry (y_mov rfl rfl) rfl rfl ?_
 refine ry (y_mov rfl rfl) rfl rfl ?_
 refine ry (y_mov rfl rfl) rfl rfl ?_
 refine reg_op (op_call (land_any a h 1000 L AL nL cL _ ha hh (by decide) (rL.below H3.base) lL) rfl kflaw47_11 ⟨rfl, rfl, rfl, rfl, trivial⟩) rfl rfl ?_
 rintro _ w5 ⟨rfl, e4⟩
 have H6 := H3.ext e4
 refine ry (y_mov rfl rfl) rfl rfl ?_
 refine ry (y_ext rfl rfl rfl) rfl rfl ?_
 refine ry (y_ext rfl rfl rfl) rfl rfl ?_
 refine reg_op (op_alloc H6 rfl kflaw47_12) rfl rfl ?_
 rintro _ w8 ⟨b7, rfl, H9⟩
 refine reg_op (op_st (i := 0) (vs := [.int _ _, .int _ _, .slice _ _ _]) H9 rfl rfl rfl rfl rfl kflaw47_13 rfl rfl rfl) rfl rfl ?_
 rintro _ w10 H11
 refine ry (y_asg rfl rfl) rfl rfl ?_
 refine reg_nil ?_
 refine fn_next ?_
 refine cw_seq ?_
 refine cw_reg ?_
 refine ry (y_mov rfl rfl) rfl rfl ?_
 refine ry (y_mov rfl rfl) rfl rfl ?_
 refine ry (y_mov rfl rfl) rfl rfl ?_
 refine reg_op (op_call (land_any a h 1000 U AU nU cU _ ha hh (by decide) (rU.below H11.base) lU) rfl kflaw47_11 ⟨rfl, rfl, rfl, rfl, trivial⟩) rfl rfl ?_
 rintro _ w13 ⟨rfl, e12⟩
 have H14 := H11.ext e12
 refine ry (y_mov rfl rfl) rfl rfl ?_
 refine ry (y_ext rfl rfl rfl) rfl rfl ?_
 refine ry (y_ext rfl rfl rfl) rfl rfl ?_
 refine reg_op (op_alloc H14 rfl kflaw47_12) rfl rfl ?_
 rintro _ w16 ⟨b15, rfl, H17⟩
 refine reg_op (op_st (i := 0) (vs := [.int _ _, .int _ _, .slice _ _ _]) H17 rfl rfl rfl rfl rfl kflaw47_13 rfl rfl rfl) rfl rfl ?_
 rintro _ w18 H19
 refine ry (y_asg rfl rfl) rfl rfl ?_
 refine reg_nil ?_
 refine fn_next ?_
 refine cw_seq ?_
 refine cw_reg ?_
 refine ry (y_mov rfl rfl) rfl rfl ?_
 refine ry (y_mov rfl rfl) rfl rfl ?_
 refine ry (y_mov rfl rfl) rfl rfl ?_
 refine reg_op (op_call (land_any a h 1000 T AT nT cT _ ha hh (by decide) (rT.below H19.base) lT) rfl kflaw47_11 ⟨rfl, rfl, rfl, rfl, trivial⟩) rfl rfl ?_
 rintro _ w21 ⟨rfl, e20⟩
 have H22 := H19.ext e20
 refine ry (y_mov rfl rfl) rfl rfl ?_
 refine ry (y_ext rfl rfl rfl) rfl rfl ?_
 refine ry (y_ext rfl rfl rfl) rfl rfl ?_
 refine reg_op (op_alloc H22 rfl kflaw47_12) rfl rfl ?_
 rintro _ w24 ⟨b23, rfl, H25⟩
 refine reg_op (op_st (i := 0) (vs := [.int _ _, .int _ _, .slice _ _ _]) H25 rfl rfl rfl rfl rfl kflaw47_13 rfl rfl rfl) rfl rfl ?_
 rintro _ w26 H27
 refine ry (y_asg rfl rfl) rfl rfl ?_
 refine reg_nil ?_
 refine fn_next ?_
 refine cw_seq ?_
 refine cw_seq ?_
 refine cw_reg ?_
 refine ry (y_mov rfl rfl) rfl rfl ?_
 refine ry (y_notd rfl rfl) rfl rfl ?_
 refine ry (y_mov rfl rfl) rfl rfl ?_
 refine rg_splitd (d := 68) rfl (fun h28 => ?_) (fun h28 => ?_)
 ·skip
  refine rg_off rfl rfl rfl rfl rfl ?_
  refine rg_off rfl rfl rfl rfl rfl ?_
  refine ry (y_pick rfl rfl rfl) rfl rfl ?_
  refine ry (y_mov rfl rfl) rfl rfl ?_
  refine rg_off rfl rfl rfl rfl rfl ?_
  refine rg_off rfl rfl rfl rfl rfl ?_
  refine ry (y_pick rfl rfl rfl) rfl rfl ?_
  refine reg_nil ?_
  refine fn_next ?_
  refine cw_condt rfl ?_
  refine cw_seq ?_
  refine cw_reg ?_
  refine ry (y_asg rfl rfl) rfl rfl ?_
  refine reg_nil ?_
  refine fn_next ?_
  refine cw_ret ?_
  refine fn_then_ret ?_
  refine fn_ret1 rfl rfl ?_
  exact ⟨rfl, H27.base⟩
 ·skip
  have q1 := Classical.not_not.1 h28
  refine rgy (y_mov rfl rfl) rfl rfl rfl rfl ?_
  refine rgy (y_notd rfl rfl) rfl rfl rfl rfl ?_
  refine ry (y_pick rfl rfl rfl) rfl rfl ?_
  refine ry (y_mov rfl rfl) rfl rfl ?_
  refine rg_splitd (d := 72) rfl (fun h29 => ?_) (fun h29 => ?_)
  ·skip
   refine rg_off rfl rfl rfl rfl rfl ?_
   refine rg_off rfl rfl rfl rfl rfl ?_
   refine ry (y_pick rfl rfl rfl) rfl rfl ?_
   refine reg_nil ?_
   refine fn_next ?_
   refine cw_condt rfl ?_
   refine cw_seq ?_
   refine cw_reg ?_
   refine ry (y_asg rfl rfl) rfl rfl ?_
   refine reg_nil ?_
   refine fn_next ?_
   refine cw_ret ?_
   refine fn_then_ret ?_
   refine fn_ret1 rfl rfl ?_
   exact ⟨rfl, H27.base⟩
  ·skip
   have q2 := Classical.not_not.1 h29
   refine rgy (y_mov rfl rfl) rfl rfl rfl rfl ?_
   refine rgy (y_notd rfl rfl) rfl rfl rfl rfl ?_
   refine ry (y_pick rfl rfl rfl) rfl rfl ?_
   refine reg_nil ?_
   refine fn_next ?_
   refine cw_condd rfl (fun h30 => ?_) (fun h30 => ?_)
   ·skip
    refine cw_seq ?_
    refine cw_reg ?_
    refine ry (y_asg rfl rfl) rfl rfl ?_
    refine reg_nil ?_
    refine fn_next ?_
    refine cw_ret ?_
    refine fn_then_ret ?_
    refine fn_ret1 rfl rfl ?_
    exact ⟨rfl, H27.base⟩
   · exact absurd ⟨q1, q2, Classical.not_not.1 h30⟩ hp

theorem o2_comm (x y : Int) : o2 x y = o2 y x := by show min x y = min y x; omega
theorem o3_comm (x y : Int) : o3 x y = o3 y x := by show max x y = max y x; omega

theorem mThree_sw (a h g0 : Nat) (V U T : List Int) (g1 g2 : Nat) (w : World) (R0 : GRd w g0 a h V) (R1 : GRd w g1 a h U) (R2 : GRd w g2 a h T) : Ret Try.prog 20 [.pointer (some ⟨g0, 0, none⟩), .pointer (some ⟨g1, 0, none⟩), .pointer (some ⟨g2, 0, none⟩)] w
    (fun z w' => ∃ g bl A cap, z = .tuple #[.pointer (some ⟨g, 0, none⟩), .slice A (selN (oddP V T U) (a * h)) cap, .int .i64 0] ∧ HS w w' [gOb g a h (mgL o0 V U T (a * h)) bl, .row A (selN (oddP V T U) (a * h)) cap (vi .i64 (selC a (oddP V T U) (a * h))) 46 2]) := by
  rw [oddP_swap (V := V) (U := T) (T := U)]
  exact mThree a h g0 V U T g1 g2 w R0 R1 R2

set_option maxRecDepth 100000 in
set_option maxHeartbeats 4000000 in
theorem mergeSides_ok (a h : Nat) (L : List Int) (AL : Option Addr) (cL : Nat) (U : List Int) (AU : Option Addr) (cU : Nat) (T : List Int) (AT : Option Addr) (cT : Nat) (w : World) (h1 : 1 ≤ a) (h2 : a ≤ 1000) (h3 : 1 ≤ h) (h4 : h ≤ 1000) (h5 : a * h ≤ 1000) (rL : Rd w AL (vi .i64 L)) (lL : L.length = a * h) (bL : AllB L) (rU : Rd w AU (vi .i64 U)) (lU : U.length = a * h) (bU : AllB U) (rT : Rd w AT (vi .i64 T)) (lT : T.length = a * h) (bT : AllB T) :
    Ret Try.prog 8 [.int .i64 (a : Int), .int .i64 (h : Int), .slice AL (a * h) cL, .slice AU (a * h) cU, .slice AT (a * h) cT] w (fun z w' => z = .bool true ∧ Below w.heap.size w w') := by
 have s : SzG a h := ⟨h1, by omega, h3, by omega⟩
 refine ret_enter Try.func8 rfl rfl rfl ?_
 have H0 := HS.start w
 refine cw_seq ?_
 refine cw_reg ?_
 refine ry (y_asg rfl rfl) rfl rfl ?_
 refine reg_nil ?_
 refine fn_next ?_
 refine cw_seq ?_
 refine cw_seq ?_
 refine cw_reg ?_
 refine reg_op (op_call (mergeAwake _) rfl kflaw47_10 trivial) rfl rfl ?_
 rintro _ w2 ⟨rfl, e1⟩
 have H3 := H0.ext e1
 refine ry (y_not rfl rfl) rfl rfl ?_
 refine reg_nil ?_
 refine fn_next ?_
 refine cw_condf rfl ?_
 refine cw_skip ?_
 refine fn_next ?_
 refine cw_seq ?_
 refine cw_reg ?_
 refine ry (y_mov rfl rfl) rfl rfl ?_
 refine ry (y_mov rfl rfl) rfl rfl ?_
 refine ry (y_mov rfl rfl) rfl rfl ?_
 refine reg_op (op_call (land_ok a h 1000 L AL (a * h) cL _ h1 h2 h3 h4 h5 rfl lL bL (by decide) (rL.below H3.base)) rfl kflaw47_11 ⟨rfl, rfl, rfl, rfl, trivial⟩) rfl rfl ?_
 rintro _ w5 ⟨rfl, e4⟩
 have H6 := H3.ext e4
 refine ry (y_mov rfl rfl) rfl rfl ?_
 refine ry (y_ext rfl rfl rfl) rfl rfl ?_
 refine ry (y_ext rfl rfl rfl) rfl rfl ?_
 refine reg_op (op_alloc H6 rfl kflaw47_12) rfl rfl ?_
 rintro _ w8 ⟨b7, rfl, H9⟩
 refine reg_op (op_st (i := 0) (vs := [.int _ _, .int _ _, .slice _ _ _]) H9 rfl rfl rfl rfl rfl kflaw47_13 rfl rfl rfl) rfl rfl ?_
 rintro _ w10 H11
 refine ry (y_asg rfl rfl) rfl rfl ?_
 refine reg_nil ?_
 refine fn_next ?_
 refine cw_seq ?_
 refine cw_reg ?_
 refine ry (y_mov rfl rfl) rfl rfl ?_
 refine ry (y_mov rfl rfl) rfl rfl ?_
 refine ry (y_mov rfl rfl) rfl rfl ?_
 refine reg_op (op_call (land_ok a h 1000 U AU (a * h) cU _ h1 h2 h3 h4 h5 rfl lU bU (by decide) (rU.below H11.base)) rfl kflaw47_11 ⟨rfl, rfl, rfl, rfl, trivial⟩) rfl rfl ?_
 rintro _ w13 ⟨rfl, e12⟩
 have H14 := H11.ext e12
 refine ry (y_mov rfl rfl) rfl rfl ?_
 refine ry (y_ext rfl rfl rfl) rfl rfl ?_
 refine ry (y_ext rfl rfl rfl) rfl rfl ?_
 refine reg_op (op_alloc H14 rfl kflaw47_12) rfl rfl ?_
 rintro _ w16 ⟨b15, rfl, H17⟩
 refine reg_op (op_st (i := 0) (vs := [.int _ _, .int _ _, .slice _ _ _]) H17 rfl rfl rfl rfl rfl kflaw47_13 rfl rfl rfl) rfl rfl ?_
 rintro _ w18 H19
 refine ry (y_asg rfl rfl) rfl rfl ?_
 refine reg_nil ?_
 refine fn_next ?_
 refine cw_seq ?_
 refine cw_reg ?_
 refine ry (y_mov rfl rfl) rfl rfl ?_
 refine ry (y_mov rfl rfl) rfl rfl ?_
 refine ry (y_mov rfl rfl) rfl rfl ?_
 refine reg_op (op_call (land_ok a h 1000 T AT (a * h) cT _ h1 h2 h3 h4 h5 rfl lT bT (by decide) (rT.below H19.base)) rfl kflaw47_11 ⟨rfl, rfl, rfl, rfl, trivial⟩) rfl rfl ?_
 rintro _ w21 ⟨rfl, e20⟩
 have H22 := H19.ext e20
 refine ry (y_mov rfl rfl) rfl rfl ?_
 refine ry (y_ext rfl rfl rfl) rfl rfl ?_
 refine ry (y_ext rfl rfl rfl) rfl rfl ?_
 refine reg_op (op_alloc H22 rfl kflaw47_12) rfl rfl ?_
 rintro _ w24 ⟨b23, rfl, H25⟩
 refine reg_op (op_st (i := 0) (vs := [.int _ _, .int _ _, .slice _ _ _]) H25 rfl rfl rfl rfl rfl kflaw47_13 rfl rfl rfl) rfl rfl ?_
 rintro _ w26 H27
 refine ry (y_asg rfl rfl) rfl rfl ?_
 refine reg_nil ?_
 refine fn_next ?_
 refine cw_seq ?_
 refine cw_seq ?_
 refine cw_reg ?_
 refine ry (y_mov rfl rfl) rfl rfl ?_
 refine ry (y_not rfl rfl) rfl rfl ?_
 refine ry (y_mov rfl rfl) rfl rfl ?_
 refine rgy (y_mov rfl rfl) rfl rfl rfl rfl ?_
 refine rgy (y_not rfl rfl) rfl rfl rfl rfl ?_
 refine ry (y_pick rfl rfl rfl) rfl rfl ?_
 refine ry (y_mov rfl rfl) rfl rfl ?_
 refine rgy (y_mov rfl rfl) rfl rfl rfl rfl ?_
 refine rgy (y_not rfl rfl) rfl rfl rfl rfl ?_
 refine ry (y_pick rfl rfl rfl) rfl rfl ?_
 refine reg_nil ?_
 refine fn_next ?_
 refine cw_condf rfl ?_
 refine cw_skip ?_
 refine fn_next ?_
 refine cw_seq ?_
 refine cw_reg ?_
 refine ry (y_mov rfl rfl) rfl rfl ?_
 refine ry (y_mov rfl rfl) rfl rfl ?_
 refine ry (y_mov rfl rfl) rfl rfl ?_
 refine reg_op (op_call (made_ok a h L AL (a * h) cL _ s lL rfl bL (rL.below H27.base)) rfl kflaw47_14 ⟨rfl, rfl, rfl, trivial⟩) rfl rfl ?_
 rintro _ w29 ⟨g31, bl32, rfl, k28⟩
 have H30 := H27.call k28
 refine ry (y_mov rfl rfl) rfl rfl ?_
 refine ry (y_ext rfl rfl rfl) rfl rfl ?_
 refine ry (y_ext rfl rfl rfl) rfl rfl ?_
 refine ry (y_asg rfl rfl) rfl rfl ?_
 refine ry (y_asg rfl rfl) rfl rfl ?_
 refine reg_nil ?_
 refine fn_next ?_
 refine cw_seq ?_
 refine cw_reg ?_
 refine ry (y_mov rfl rfl) rfl rfl ?_
 refine ry (y_mov rfl rfl) rfl rfl ?_
 refine ry (y_mov rfl rfl) rfl rfl ?_
 refine reg_op (op_call (made_ok a h U AU (a * h) cU _ s lU rfl bU (rU.below H30.base)) rfl kflaw47_14 ⟨rfl, rfl, rfl, trivial⟩) rfl rfl ?_
 rintro _ w34 ⟨g36, bl37, rfl, k33⟩
 have H35 := H30.call k33
 refine ry (y_mov rfl rfl) rfl rfl ?_
 refine ry (y_ext rfl rfl rfl) rfl rfl ?_
 refine ry (y_ext rfl rfl rfl) rfl rfl ?_
 refine ry (y_asg rfl rfl) rfl rfl ?_
 refine ry (y_asg rfl rfl) rfl rfl ?_
 refine reg_nil ?_
 refine fn_next ?_
 refine cw_seq ?_
 refine cw_reg ?_
 refine ry (y_mov rfl rfl) rfl rfl ?_
 refine ry (y_mov rfl rfl) rfl rfl ?_
 refine ry (y_mov rfl rfl) rfl rfl ?_
 refine reg_op (op_call (made_ok a h T AT (a * h) cT _ s lT rfl bT (rT.below H35.base)) rfl kflaw47_14 ⟨rfl, rfl, rfl, trivial⟩) rfl rfl ?_
 rintro _ w39 ⟨g41, bl42, rfl, k38⟩
 have H40 := H35.call k38
 refine ry (y_mov rfl rfl) rfl rfl ?_
 refine ry (y_ext rfl rfl rfl) rfl rfl ?_
 refine ry (y_ext rfl rfl rfl) rfl rfl ?_
 refine ry (y_asg rfl rfl) rfl rfl ?_
 refine ry (y_asg rfl rfl) rfl rfl ?_
 refine reg_nil ?_
 refine fn_next ?_
 refine cw_seq ?_
 refine cw_seq ?_
 refine cw_reg ?_
 refine ry (y_mov rfl rfl) rfl rfl ?_
 refine ry (y_not rfl rfl) rfl rfl ?_
 refine ry (y_mov rfl rfl) rfl rfl ?_
 refine rgy (y_mov rfl rfl) rfl rfl rfl rfl ?_
 refine rgy (y_not rfl rfl) rfl rfl rfl rfl ?_
 refine ry (y_pick rfl rfl rfl) rfl rfl ?_
 refine ry (y_mov rfl rfl) rfl rfl ?_
 refine rgy (y_mov rfl rfl) rfl rfl rfl rfl ?_
 refine rgy (y_not rfl rfl) rfl rfl rfl rfl ?_
 refine ry (y_pick rfl rfl rfl) rfl rfl ?_
 refine reg_nil ?_
 refine fn_next ?_
 refine cw_condf rfl ?_
 refine cw_skip ?_
 refine fn_next ?_
 refine cw_seq ?_
 refine cw_reg ?_
 refine ry (y_mov rfl rfl) rfl rfl ?_
 refine ry (y_mov rfl rfl) rfl rfl ?_
 refine ry (y_mov rfl rfl) rfl rfl ?_
 refine reg_op (op_call (mThree a h g31 (L) (U) (T) g36 g41 _ (H40.rdg (i := 2) rfl) (H40.rdg (i := 1) rfl) (H40.rdg (i := 0) rfl)) rfl kflaw47_3 ⟨rfl, rfl, rfl, trivial⟩) rfl rfl ?_
 rintro _ w44 ⟨g46, bl47, A48, c49, rfl, k43⟩
 have H45 := H40.call k43
 refine ry (y_mov rfl rfl) rfl rfl ?_
 refine ry (y_ext rfl rfl rfl) rfl rfl ?_
 refine ry (y_ext rfl rfl rfl) rfl rfl ?_
 refine ry (y_ext rfl rfl rfl) rfl rfl ?_
 refine ry (y_asg rfl rfl) rfl rfl ?_
 refine ry (y_asg rfl rfl) rfl rfl ?_
 refine ry (y_asg rfl rfl) rfl rfl ?_
 refine reg_nil ?_
 refine fn_next ?_
 refine cw_seq ?_
 refine cw_reg ?_
 refine ry (y_mov rfl rfl) rfl rfl ?_
 refine ry (y_mov rfl rfl) rfl rfl ?_
 refine ry (y_mov rfl rfl) rfl rfl ?_
 refine reg_op (op_call (mThree_sw a h g31 (L) (T) (U) g41 g36 _ (H45.rdg (i := 4) rfl) (H45.rdg (i := 2) rfl) (H45.rdg (i := 3) rfl)) rfl kflaw47_3 ⟨rfl, rfl, rfl, trivial⟩) rfl rfl ?_
 rintro _ w51 ⟨g53, bl54, A55, c56, rfl, k50⟩
 have H52 := H45.call k50
 refine ry (y_mov rfl rfl) rfl rfl ?_
 refine ry (y_ext rfl rfl rfl) rfl rfl ?_
 refine ry (y_ext rfl rfl rfl) rfl rfl ?_
 refine ry (y_ext rfl rfl rfl) rfl rfl ?_
 refine ry (y_asg rfl rfl) rfl rfl ?_
 refine ry (y_asg rfl rfl) rfl rfl ?_
 refine ry (y_asg rfl rfl) rfl rfl ?_
 refine reg_nil ?_
 refine fn_next ?_
 refine cw_seq ?_
 refine cw_seq ?_
 refine cw_reg ?_
 refine ry (y_mov rfl rfl) rfl rfl ?_
 refine ry (y_neq rfl rfl rfl) rfl rfl ?_
 refine ry (y_mov rfl rfl) rfl rfl ?_
 refine rgy (y_mov rfl rfl) rfl rfl rfl rfl ?_
 refine rgy (y_neq rfl rfl rfl) rfl rfl rfl rfl ?_
 refine ry (y_pick rfl rfl rfl) rfl rfl ?_
 refine ry (y_mov rfl rfl) rfl rfl ?_
 refine rgy (y_mov rfl rfl) rfl rfl rfl rfl ?_
 refine rgy (y_mov rfl rfl) rfl rfl rfl rfl ?_
 refine rg_on rfl rfl rfl (op_call (ret_v (v := .bool true) (sameCells _ (selN (oddP L U T) (a * h)) _ _ _ (selC a (oddP L U T) (a * h)) _ (H52.rd (i := 3) rfl) (H52.rd (i := 1) rfl) (selC_len _) (by have := selN_le (p := (oddP L U T)) (a * h); omega)) rfl) rfl kflaw47_9 ⟨rfl, rfl, trivial⟩) rfl ?_
 rintro _ w58 ⟨rfl, e57⟩
 have H59 := H52.ext e57
 refine rgy (y_not rfl rfl) rfl rfl rfl rfl ?_
 refine ry (y_pick rfl rfl rfl) rfl rfl ?_
 refine ry (y_mov rfl rfl) rfl rfl ?_
 refine rgy (y_mov rfl rfl) rfl rfl rfl rfl ?_
 refine rgy (y_len rfl Try.underlying35 rfl) rfl rfl rfl rfl ?_
 refine rgy (y_eql rfl rfl rfl) rfl rfl rfl rfl ?_
 refine rgy (y_mov rfl rfl) rfl rfl rfl rfl ?_
 refine rg_splitd (d := 139) rfl (fun h60 => ?_) (fun h60 => ?_)
 ·skip
  refine rgy (y_mov rfl rfl) rfl rfl rfl rfl ?_
  refine rgy (y_mov rfl rfl) rfl rfl rfl rfl ?_
  refine rg_on rfl rfl rfl (op_call (ret_v (v := .bool true) (gSame g46 a h (mgL o0 (L) (U) (T) (a * h)) g53 a h (mgL o0 (L) (T) (U) (a * h)) _ (H59.rdg (i := 2) rfl) (H59.rdg (i := 0) rfl)) (by rw [decide_eq_true (show _ ∧ _ ∧ _ from ⟨rfl, rfl, mgL_calm (by omega)⟩)])) rfl kflaw47_20 ⟨rfl, rfl, trivial⟩) rfl ?_
  rintro _ w62 ⟨rfl, e61⟩
  have H63 := H59.ext e61
  refine rgy (y_not rfl rfl) rfl rfl rfl rfl ?_
  refine rgy (y_pick rfl rfl rfl) rfl rfl rfl rfl ?_
  refine ry (y_pick rfl rfl rfl) rfl rfl ?_
  refine reg_nil ?_
  refine fn_next ?_
  refine cw_condf rfl ?_
  refine cw_skip ?_
  refine fn_next ?_
  refine cw_seq ?_
  refine cw_seq ?_
  refine cw_reg ?_
  refine ry (y_asg rfl rfl) rfl rfl ?_
  refine reg_nil ?_
  refine fn_next ?_
  refine cw_block ?_
  refine cw_loopR 2 ?_
  refine cw_seq ?_
  refine cw_seq ?_
  refine cw_reg ?_
  refine ry (y_mov rfl rfl) rfl rfl ?_
  refine ry (y_lss rfl rfl rfl) rfl rfl ?_
  refine reg_nil ?_
  refine fn_next ?_
  refine cw_condt rfl ?_
  refine cw_skip ?_
  refine fn_next ?_
  refine cw_seq ?_
  refine cw_block ?_
  refine cw_seq ?_
  refine cw_reg ?_
  refine ry (y_mov rfl rfl) rfl rfl ?_
  refine ry (y_mov rfl rfl) rfl rfl ?_
  refine ry (y_mov rfl rfl) rfl rfl ?_
  refine ry (y_mov rfl rfl) rfl rfl ?_
  refine reg_op (op_call (mPrefer2 a h g31 (L) (U) (T) g36 g41 _ (H63.rdg (i := 6) rfl) (H63.rdg (i := 5) rfl) (H63.rdg (i := 4) rfl)) rfl kflaw47_15 ⟨rfl, rfl, rfl, rfl, trivial⟩) rfl rfl ?_
  rintro _ w65 ⟨g67, bl68, rfl, k64⟩
  have H66 := H63.call k64
  refine ry (y_mov rfl rfl) rfl rfl ?_
  refine ry (y_ext rfl rfl rfl) rfl rfl ?_
  refine ry (y_ext rfl rfl rfl) rfl rfl ?_
  refine ry (y_asg rfl rfl) rfl rfl ?_
  refine ry (y_asg rfl rfl) rfl rfl ?_
  refine reg_nil ?_
  refine fn_next ?_
  refine cw_seq ?_
  refine cw_reg ?_
  refine ry (y_mov rfl rfl) rfl rfl ?_
  refine ry (y_mov rfl rfl) rfl rfl ?_
  refine ry (y_mov rfl rfl) rfl rfl ?_
  refine ry (y_mov rfl rfl) rfl rfl ?_
  refine reg_op (op_call (mPrefer2 a h g31 (L) (T) (U) g41 g36 _ (H66.rdg (i := 7) rfl) (H66.rdg (i := 5) rfl) (H66.rdg (i := 6) rfl)) rfl kflaw47_15 ⟨rfl, rfl, rfl, rfl, trivial⟩) rfl rfl ?_
  rintro _ w70 ⟨g72, bl73, rfl, k69⟩
  have H71 := H66.call k69
  refine ry (y_mov rfl rfl) rfl rfl ?_
  refine ry (y_ext rfl rfl rfl) rfl rfl ?_
  refine ry (y_ext rfl rfl rfl) rfl rfl ?_
  refine ry (y_asg rfl rfl) rfl rfl ?_
  refine ry (y_asg rfl rfl) rfl rfl ?_
  refine reg_nil ?_
  refine fn_next ?_
  refine cw_seq ?_
  refine cw_reg ?_
  refine ry (y_mov rfl rfl) rfl rfl ?_
  refine ry (y_neq rfl rfl rfl) rfl rfl ?_
  refine ry (y_mov rfl rfl) rfl rfl ?_
  refine rgy (y_mov rfl rfl) rfl rfl rfl rfl ?_
  refine rgy (y_neq rfl rfl rfl) rfl rfl rfl rfl ?_
  refine ry (y_pick rfl rfl rfl) rfl rfl ?_
  refine ry (y_mov rfl rfl) rfl rfl ?_
  refine rgy (y_mov rfl rfl) rfl rfl rfl rfl ?_
  refine rgy (y_mov rfl rfl) rfl rfl rfl rfl ?_
  refine rg_on rfl rfl rfl (op_call (ret_v (v := .bool true) (gSame g67 a h (mgL o2 (L) (U) (T) (a * h)) g72 a h (mgL o2 (L) (T) (U) (a * h)) _ (H71.rdg (i := 1) rfl) (H71.rdg (i := 0) rfl)) (by rw [decide_eq_true (show _ ∧ _ ∧ _ from ⟨rfl, rfl, mgL_swap o2_comm⟩)])) rfl kflaw47_20 ⟨rfl, rfl, trivial⟩) rfl ?_
  rintro _ w75 ⟨rfl, e74⟩
  have H76 := H71.ext e74
  refine rgy (y_not rfl rfl) rfl rfl rfl rfl ?_
  refine ry (y_pick rfl rfl rfl) rfl rfl ?_
  refine reg_nil ?_
  refine fn_next ?_
  refine cw_condf rfl ?_
  refine cw_skip ?_
  refine fn_block ?_
  refine fn_next ?_
  refine cw_reg ?_
  refine ry (y_mov rfl rfl) rfl rfl ?_
  refine ry (y_add rfl rfl rfl (wi (by omega))) rfl rfl ?_
  refine ry (y_asg rfl rfl) rfl rfl ?_
  refine reg_nil ?_
  refine fn_roundR ?_
  refine cw_seq ?_
  refine cw_seq ?_
  refine cw_reg ?_
  refine ry (y_mov rfl rfl) rfl rfl ?_
  refine ry (y_lss rfl rfl rfl) rfl rfl ?_
  refine reg_nil ?_
  refine fn_next ?_
  refine cw_condt rfl ?_
  refine cw_skip ?_
  refine fn_next ?_
  refine cw_seq ?_
  refine cw_block ?_
  refine cw_seq ?_
  refine cw_reg ?_
  refine ry (y_mov rfl rfl) rfl rfl ?_
  refine ry (y_mov rfl rfl) rfl rfl ?_
  refine ry (y_mov rfl rfl) rfl rfl ?_
  refine ry (y_mov rfl rfl) rfl rfl ?_
  refine reg_op (op_call (mPrefer3 a h g31 (L) (U) (T) g36 g41 _ (H76.rdg (i := 8) rfl) (H76.rdg (i := 7) rfl) (H76.rdg (i := 6) rfl)) rfl kflaw47_15 ⟨rfl, rfl, rfl, rfl, trivial⟩) rfl rfl ?_
  rintro _ w78 ⟨g80, bl81, rfl, k77⟩
  have H79 := H76.call k77
  refine ry (y_mov rfl rfl) rfl rfl ?_
  refine ry (y_ext rfl rfl rfl) rfl rfl ?_
  refine ry (y_ext rfl rfl rfl) rfl rfl ?_
  refine ry (y_asg rfl rfl) rfl rfl ?_
  refine ry (y_asg rfl rfl) rfl rfl ?_
  refine reg_nil ?_
  refine fn_next ?_
  refine cw_seq ?_
  refine cw_reg ?_
  refine ry (y_mov rfl rfl) rfl rfl ?_
  refine ry (y_mov rfl rfl) rfl rfl ?_
  refine ry (y_mov rfl rfl) rfl rfl ?_
  refine ry (y_mov rfl rfl) rfl rfl ?_
  refine reg_op (op_call (mPrefer3 a h g31 (L) (T) (U) g41 g36 _ (H79.rdg (i := 9) rfl) (H79.rdg (i := 7) rfl) (H79.rdg (i := 8) rfl)) rfl kflaw47_15 ⟨rfl, rfl, rfl, rfl, trivial⟩) rfl rfl ?_
  rintro _ w83 ⟨g85, bl86, rfl, k82⟩
  have H84 := H79.call k82
  refine ry (y_mov rfl rfl) rfl rfl ?_
  refine ry (y_ext rfl rfl rfl) rfl rfl ?_
  refine ry (y_ext rfl rfl rfl) rfl rfl ?_
  refine ry (y_asg rfl rfl) rfl rfl ?_
  refine ry (y_asg rfl rfl) rfl rfl ?_
  refine reg_nil ?_
  refine fn_next ?_
  refine cw_seq ?_
  refine cw_reg ?_
  refine ry (y_mov rfl rfl) rfl rfl ?_
  refine ry (y_neq rfl rfl rfl) rfl rfl ?_
  refine ry (y_mov rfl rfl) rfl rfl ?_
  refine rgy (y_mov rfl rfl) rfl rfl rfl rfl ?_
  refine rgy (y_neq rfl rfl rfl) rfl rfl rfl rfl ?_
  refine ry (y_pick rfl rfl rfl) rfl rfl ?_
  refine ry (y_mov rfl rfl) rfl rfl ?_
  refine rgy (y_mov rfl rfl) rfl rfl rfl rfl ?_
  refine rgy (y_mov rfl rfl) rfl rfl rfl rfl ?_
  refine rg_on rfl rfl rfl (op_call (ret_v (v := .bool true) (gSame g80 a h (mgL o3 (L) (U) (T) (a * h)) g85 a h (mgL o3 (L) (T) (U) (a * h)) _ (H84.rdg (i := 1) rfl) (H84.rdg (i := 0) rfl)) (by rw [decide_eq_true (show _ ∧ _ ∧ _ from ⟨rfl, rfl, mgL_swap o3_comm⟩)])) rfl kflaw47_20 ⟨rfl, rfl, trivial⟩) rfl ?_
  rintro _ w88 ⟨rfl, e87⟩
  have H89 := H84.ext e87
  refine rgy (y_not rfl rfl) rfl rfl rfl rfl ?_
  refine ry (y_pick rfl rfl rfl) rfl rfl ?_
  refine reg_nil ?_
  refine fn_next ?_
  refine cw_condf rfl ?_
  refine cw_skip ?_
  refine fn_block ?_
  refine fn_next ?_
  refine cw_reg ?_
  refine ry (y_mov rfl rfl) rfl rfl ?_
  refine ry (y_add rfl rfl rfl (wi (by omega))) rfl rfl ?_
  refine ry (y_asg rfl rfl) rfl rfl ?_
  refine reg_nil ?_
  refine fn_roundR ?_
  refine cw_seq ?_
  refine cw_seq ?_
  refine cw_reg ?_
  refine ry (y_mov rfl rfl) rfl rfl ?_
  refine ry (y_lss rfl rfl rfl) rfl rfl ?_
  refine reg_nil ?_
  refine fn_next ?_
  refine cw_condf rfl ?_
  refine cw_exit ?_
  refine fn_then_exit (fn_then_exit (fn_block_exit ?_))
  refine fn_next ?_
  refine cw_seq ?_
  refine cw_reg ?_
  refine ry (y_mov rfl rfl) rfl rfl ?_
  refine ry (y_mov rfl rfl) rfl rfl ?_
  refine ry (y_mov rfl rfl) rfl rfl ?_
  refine reg_op (op_call (mThree a h g31 (L) (U) (L) g36 g31 _ (H89.rdg (i := 10) rfl) (H89.rdg (i := 9) rfl) (H89.rdg (i := 10) rfl)) rfl kflaw47_3 ⟨rfl, rfl, rfl, trivial⟩) rfl rfl ?_
  rintro _ w91 ⟨g93, bl94, A95, c96, rfl, k90⟩
  have H92 := H89.call k90
  refine ry (y_mov rfl rfl) rfl rfl ?_
  refine ry (y_ext rfl rfl rfl) rfl rfl ?_
  refine ry (y_ext rfl rfl rfl) rfl rfl ?_
  refine ry (y_ext rfl rfl rfl) rfl rfl ?_
  refine ry (y_asg rfl rfl) rfl rfl ?_
  refine ry (y_asg rfl rfl) rfl rfl ?_
  refine ry (y_asg rfl rfl) rfl rfl ?_
  refine reg_nil ?_
  refine fn_next ?_
  refine cw_seq ?_
  refine cw_reg ?_
  refine ry (y_mov rfl rfl) rfl rfl ?_
  refine ry (y_mov rfl rfl) rfl rfl ?_
  refine ry (y_mov rfl rfl) rfl rfl ?_
  refine reg_op (op_call (mThree a h g31 (L) (L) (T) g31 g41 _ (H92.rdg (i := 12) rfl) (H92.rdg (i := 12) rfl) (H92.rdg (i := 10) rfl)) rfl kflaw47_3 ⟨rfl, rfl, rfl, trivial⟩) rfl rfl ?_
  rintro _ w98 ⟨g100, bl101, A102, c103, rfl, k97⟩
  have H99 := H92.call k97
  refine ry (y_mov rfl rfl) rfl rfl ?_
  refine ry (y_ext rfl rfl rfl) rfl rfl ?_
  refine ry (y_ext rfl rfl rfl) rfl rfl ?_
  refine ry (y_ext rfl rfl rfl) rfl rfl ?_
  refine ry (y_asg rfl rfl) rfl rfl ?_
  refine ry (y_asg rfl rfl) rfl rfl ?_
  refine ry (y_asg rfl rfl) rfl rfl ?_
  refine reg_nil ?_
  refine fn_next ?_
  refine cw_seq ?_
  refine cw_reg ?_
  refine ry (y_mov rfl rfl) rfl rfl ?_
  refine ry (y_mov rfl rfl) rfl rfl ?_
  refine ry (y_mov rfl rfl) rfl rfl ?_
  refine reg_op (op_call (mThree a h g31 (L) (U) (U) g36 g36 _ (H99.rdg (i := 14) rfl) (H99.rdg (i := 13) rfl) (H99.rdg (i := 13) rfl)) rfl kflaw47_3 ⟨rfl, rfl, rfl, trivial⟩) rfl rfl ?_
  rintro _ w105 ⟨g107, bl108, A109, c110, rfl, k104⟩
  have H106 := H99.call k104
  refine ry (y_mov rfl rfl) rfl rfl ?_
  refine ry (y_ext rfl rfl rfl) rfl rfl ?_
  refine ry (y_ext rfl rfl rfl) rfl rfl ?_
  refine ry (y_ext rfl rfl rfl) rfl rfl ?_
  refine ry (y_asg rfl rfl) rfl rfl ?_
  refine ry (y_asg rfl rfl) rfl rfl ?_
  refine ry (y_asg rfl rfl) rfl rfl ?_
  refine reg_nil ?_
  refine fn_next ?_
  refine cw_seq ?_
  refine cw_reg ?_
  refine ry (y_mov rfl rfl) rfl rfl ?_
  refine ry (y_eql rfl rfl rfl) rfl rfl ?_
  refine ry (y_mov rfl rfl) rfl rfl ?_
  refine rgy (y_mov rfl rfl) rfl rfl rfl rfl ?_
  refine rgy (y_eql rfl rfl rfl) rfl rfl rfl rfl ?_
  refine ry (y_pick rfl rfl rfl) rfl rfl ?_
  refine ry (y_mov rfl rfl) rfl rfl ?_
  refine rgy (y_mov rfl rfl) rfl rfl rfl rfl ?_
  refine rgy (y_eql rfl rfl rfl) rfl rfl rfl rfl ?_
  refine ry (y_pick rfl rfl rfl) rfl rfl ?_
  refine ry (y_mov rfl rfl) rfl rfl ?_
  refine rgy (y_mov rfl rfl) rfl rfl rfl rfl ?_
  refine rgy (y_len rfl Try.underlying35 rfl) rfl rfl rfl rfl ?_
  refine rgy (yv (congrArg Value.bool (decide_eq_true (congrArg (Nat.cast (R := Int)) (mgL_a (o := o0) lU).2))) (y_eql rfl rfl rfl)) rfl rfl rfl rfl ?_
  refine ry (y_pick rfl rfl rfl) rfl rfl ?_
  refine ry (y_mov rfl rfl) rfl rfl ?_
  refine rgy (y_mov rfl rfl) rfl rfl rfl rfl ?_
  refine rgy (y_len rfl Try.underlying35 rfl) rfl rfl rfl rfl ?_
  refine rgy (yv (congrArg Value.bool (decide_eq_true (congrArg (Nat.cast (R := Int)) (mgL_b (o := o0) lT).2))) (y_eql rfl rfl rfl)) rfl rfl rfl rfl ?_
  refine ry (y_pick rfl rfl rfl) rfl rfl ?_
  refine ry (y_mov rfl rfl) rfl rfl ?_
  refine rgy (y_mov rfl rfl) rfl rfl rfl rfl ?_
  refine rgy (y_len rfl Try.underlying35 rfl) rfl rfl rfl rfl ?_
  refine rgy (yv (congrArg Value.bool (decide_eq_true (congrArg (Nat.cast (R := Int)) (mgL_c (o := o0) lU).2))) (y_eql rfl rfl rfl)) rfl rfl rfl rfl ?_
  refine ry (y_pick rfl rfl rfl) rfl rfl ?_
  refine ry (y_mov rfl rfl) rfl rfl ?_
  refine rgy (y_mov rfl rfl) rfl rfl rfl rfl ?_
  refine rgy (y_mov rfl rfl) rfl rfl rfl rfl ?_
  refine rg_on rfl rfl rfl (op_call (ret_v (v := .bool true) (gSame g93 a h (mgL o0 (L) (U) (L) (a * h)) g36 a h (U) _ (H106.rdg (i := 4) rfl) (H106.rdg (i := 15) rfl)) (by rw [decide_eq_true (show _ ∧ _ ∧ _ from ⟨rfl, rfl, (mgL_a lU).1⟩)])) rfl kflaw47_20 ⟨rfl, rfl, trivial⟩) rfl ?_
  rintro _ w112 ⟨rfl, e111⟩
  have H113 := H106.ext e111
  refine ry (y_pick rfl rfl rfl) rfl rfl ?_
  refine ry (y_mov rfl rfl) rfl rfl ?_
  refine rgy (y_mov rfl rfl) rfl rfl rfl rfl ?_
  refine rgy (y_mov rfl rfl) rfl rfl rfl rfl ?_
  refine rg_on rfl rfl rfl (op_call (ret_v (v := .bool true) (gSame g100 a h (mgL o0 (L) (L) (T) (a * h)) g41 a h (T) _ (H113.rdg (i := 2) rfl) (H113.rdg (i := 14) rfl)) (by rw [decide_eq_true (show _ ∧ _ ∧ _ from ⟨rfl, rfl, (mgL_b lT).1⟩)])) rfl kflaw47_20 ⟨rfl, rfl, trivial⟩) rfl ?_
  rintro _ w115 ⟨rfl, e114⟩
  have H116 := H113.ext e114
  refine ry (y_pick rfl rfl rfl) rfl rfl ?_
  refine ry (y_mov rfl rfl) rfl rfl ?_
  refine rgy (y_mov rfl rfl) rfl rfl rfl rfl ?_
  refine rgy (y_mov rfl rfl) rfl rfl rfl rfl ?_
  refine rg_on rfl rfl rfl (op_call (ret_v (v := .bool true) (gSame g107 a h (mgL o0 (L) (U) (U) (a * h)) g36 a h (U) _ (H116.rdg (i := 0) rfl) (H116.rdg (i := 15) rfl)) (by rw [decide_eq_true (show _ ∧ _ ∧ _ from ⟨rfl, rfl, (mgL_c lU).1⟩)])) rfl kflaw47_20 ⟨rfl, rfl, trivial⟩) rfl ?_
  rintro _ w118 ⟨rfl, e117⟩
  have H119 := H116.ext e117
  refine ry (y_pick rfl rfl rfl) rfl rfl ?_
  refine ry (y_asg rfl rfl) rfl rfl ?_
  refine reg_nil ?_
  refine fn_next ?_
  refine cw_ret ?_
  refine fn_ret1 rfl rfl ?_
  exact ⟨rfl, H119.base⟩
 ·skip
  refine rg_off rfl rfl rfl rfl rfl ?_
  refine rg_off rfl rfl rfl rfl rfl ?_
  refine rg_off rfl rfl rfl rfl rfl ?_
  refine rg_off rfl rfl rfl rfl rfl ?_
  refine rgy (y_pick rfl rfl rfl) rfl rfl rfl rfl ?_
  refine ry (y_pick rfl rfl rfl) rfl rfl ?_
  refine reg_nil ?_
  refine fn_next ?_
  refine cw_condf rfl ?_
  refine cw_skip ?_
  refine fn_next ?_
  refine cw_seq ?_
  refine cw_seq ?_
  refine cw_reg ?_
  refine ry (y_asg rfl rfl) rfl rfl ?_
  refine reg_nil ?_
  refine fn_next ?_
  refine cw_block ?_
  refine cw_loopR 2 ?_
  refine cw_seq ?_
  refine cw_seq ?_
  refine cw_reg ?_
  refine ry (y_mov rfl rfl) rfl rfl ?_
  refine ry (y_lss rfl rfl rfl) rfl rfl ?_
  refine reg_nil ?_
  refine fn_next ?_
  refine cw_condt rfl ?_
  refine cw_skip ?_
  refine fn_next ?_
  refine cw_seq ?_
  refine cw_block ?_
  refine cw_seq ?_
  refine cw_reg ?_
  refine ry (y_mov rfl rfl) rfl rfl ?_
  refine ry (y_mov rfl rfl) rfl rfl ?_
  refine ry (y_mov rfl rfl) rfl rfl ?_
  refine ry (y_mov rfl rfl) rfl rfl ?_
  refine reg_op (op_call (mPrefer2 a h g31 (L) (U) (T) g36 g41 _ (H59.rdg (i := 6) rfl) (H59.rdg (i := 5) rfl) (H59.rdg (i := 4) rfl)) rfl kflaw47_15 ⟨rfl, rfl, rfl, rfl, trivial⟩) rfl rfl ?_
  rintro _ w121 ⟨g123, bl124, rfl, k120⟩
  have H122 := H59.call k120
  refine ry (y_mov rfl rfl) rfl rfl ?_
  refine ry (y_ext rfl rfl rfl) rfl rfl ?_
  refine ry (y_ext rfl rfl rfl) rfl rfl ?_
  refine ry (y_asg rfl rfl) rfl rfl ?_
  refine ry (y_asg rfl rfl) rfl rfl ?_
  refine reg_nil ?_
  refine fn_next ?_
  refine cw_seq ?_
  refine cw_reg ?_
  refine ry (y_mov rfl rfl) rfl rfl ?_
  refine ry (y_mov rfl rfl) rfl rfl ?_
  refine ry (y_mov rfl rfl) rfl rfl ?_
  refine ry (y_mov rfl rfl) rfl rfl ?_
  refine reg_op (op_call (mPrefer2 a h g31 (L) (T) (U) g41 g36 _ (H122.rdg (i := 7) rfl) (H122.rdg (i := 5) rfl) (H122.rdg (i := 6) rfl)) rfl kflaw47_15 ⟨rfl, rfl, rfl, rfl, trivial⟩) rfl rfl ?_
  rintro _ w126 ⟨g128, bl129, rfl, k125⟩
  have H127 := H122.call k125
  refine ry (y_mov rfl rfl) rfl rfl ?_
  refine ry (y_ext rfl rfl rfl) rfl rfl ?_
  refine ry (y_ext rfl rfl rfl) rfl rfl ?_
  refine ry (y_asg rfl rfl) rfl rfl ?_
  refine ry (y_asg rfl rfl) rfl rfl ?_
  refine reg_nil ?_
  refine fn_next ?_
  refine cw_seq ?_
  refine cw_reg ?_
  refine ry (y_mov rfl rfl) rfl rfl ?_
  refine ry (y_neq rfl rfl rfl) rfl rfl ?_
  refine ry (y_mov rfl rfl) rfl rfl ?_
  refine rgy (y_mov rfl rfl) rfl rfl rfl rfl ?_
  refine rgy (y_neq rfl rfl rfl) rfl rfl rfl rfl ?_
  refine ry (y_pick rfl rfl rfl) rfl rfl ?_
  refine ry (y_mov rfl rfl) rfl rfl ?_
  refine rgy (y_mov rfl rfl) rfl rfl rfl rfl ?_
  refine rgy (y_mov rfl rfl) rfl rfl rfl rfl ?_
  refine rg_on rfl rfl rfl (op_call (ret_v (v := .bool true) (gSame g123 a h (mgL o2 (L) (U) (T) (a * h)) g128 a h (mgL o2 (L) (T) (U) (a * h)) _ (H127.rdg (i := 1) rfl) (H127.rdg (i := 0) rfl)) (by rw [decide_eq_true (show _ ∧ _ ∧ _ from ⟨rfl, rfl, mgL_swap o2_comm⟩)])) rfl kflaw47_20 ⟨rfl, rfl, trivial⟩) rfl ?_
  rintro _ w131 ⟨rfl, e130⟩
  have H132 := H127.ext e130
  refine rgy (y_not rfl rfl) rfl rfl rfl rfl ?_
  refine ry (y_pick rfl rfl rfl) rfl rfl ?_
  refine reg_nil ?_
  refine fn_next ?_
  refine cw_condf rfl ?_
  refine cw_skip ?_
  refine fn_block ?_
  refine fn_next ?_
  refine cw_reg ?_
  refine ry (y_mov rfl rfl) rfl rfl ?_
  refine ry (y_add rfl rfl rfl (wi (by omega))) rfl rfl ?_
  refine ry (y_asg rfl rfl) rfl rfl ?_
  refine reg_nil ?_
  refine fn_roundR ?_
  refine cw_seq ?_
  refine cw_seq ?_
  refine cw_reg ?_
  refine ry (y_mov rfl rfl) rfl rfl ?_
  refine ry (y_lss rfl rfl rfl) rfl rfl ?_
  refine reg_nil ?_
  refine fn_next ?_
  refine cw_condt rfl ?_
  refine cw_skip ?_
  refine fn_next ?_
  refine cw_seq ?_
  refine cw_block ?_
  refine cw_seq ?_
  refine cw_reg ?_
  refine ry (y_mov rfl rfl) rfl rfl ?_
  refine ry (y_mov rfl rfl) rfl rfl ?_
  refine ry (y_mov rfl rfl) rfl rfl ?_
  refine ry (y_mov rfl rfl) rfl rfl ?_
  refine reg_op (op_call (mPrefer3 a h g31 (L) (U) (T) g36 g41 _ (H132.rdg (i := 8) rfl) (H132.rdg (i := 7) rfl) (H132.rdg (i := 6) rfl)) rfl kflaw47_15 ⟨rfl, rfl, rfl, rfl, trivial⟩) rfl rfl ?_
  rintro _ w134 ⟨g136, bl137, rfl, k133⟩
  have H135 := H132.call k133
  refine ry (y_mov rfl rfl) rfl rfl ?_
  refine ry (y_ext rfl rfl rfl) rfl rfl ?_
  refine ry (y_ext rfl rfl rfl) rfl rfl ?_
  refine ry (y_asg rfl rfl) rfl rfl ?_
  refine ry (y_asg rfl rfl) rfl rfl ?_
  refine reg_nil ?_
  refine fn_next ?_
  refine cw_seq ?_
  refine cw_reg ?_
  refine ry (y_mov rfl rfl) rfl rfl ?_
  refine ry (y_mov rfl rfl) rfl rfl ?_
  refine ry (y_mov rfl rfl) rfl rfl ?_
  refine ry (y_mov rfl rfl) rfl rfl ?_
  refine reg_op (op_call (mPrefer3 a h g31 (L) (T) (U) g41 g36 _ (H135.rdg (i := 9) rfl) (H135.rdg (i := 7) rfl) (H135.rdg (i := 8) rfl)) rfl kflaw47_15 ⟨rfl, rfl, rfl, rfl, trivial⟩) rfl rfl ?_
  rintro _ w139 ⟨g141, bl142, rfl, k138⟩
  have H140 := H135.call k138
  refine ry (y_mov rfl rfl) rfl rfl ?_
  refine ry (y_ext rfl rfl rfl) rfl rfl ?_
  refine ry (y_ext rfl rfl rfl) rfl rfl ?_
  refine ry (y_asg rfl rfl) rfl rfl ?_
  refine ry (y_asg rfl rfl) rfl rfl ?_
  refine reg_nil ?_
  refine fn_next ?_
  refine cw_seq ?_
  refine cw_reg ?_
  refine ry (y_mov rfl rfl) rfl rfl ?_
  refine ry (y_neq rfl rfl rfl) rfl rfl ?_
  refine ry (y_mov rfl rfl) rfl rfl ?_
  refine rgy (y_mov rfl rfl) rfl rfl rfl rfl ?_
  refine rgy (y_neq rfl rfl rfl) rfl rfl rfl rfl ?_
  refine ry (y_pick rfl rfl rfl) rfl rfl ?_
  refine ry (y_mov rfl rfl) rfl rfl ?_
  refine rgy (y_mov rfl rfl) rfl rfl rfl rfl ?_
  refine rgy (y_mov rfl rfl) rfl rfl rfl rfl ?_
  refine rg_on rfl rfl rfl (op_call (ret_v (v := .bool true) (gSame g136 a h (mgL o3 (L) (U) (T) (a * h)) g141 a h (mgL o3 (L) (T) (U) (a * h)) _ (H140.rdg (i := 1) rfl) (H140.rdg (i := 0) rfl)) (by rw [decide_eq_true (show _ ∧ _ ∧ _ from ⟨rfl, rfl, mgL_swap o3_comm⟩)])) rfl kflaw47_20 ⟨rfl, rfl, trivial⟩) rfl ?_
  rintro _ w144 ⟨rfl, e143⟩
  have H145 := H140.ext e143
  refine rgy (y_not rfl rfl) rfl rfl rfl rfl ?_
  refine ry (y_pick rfl rfl rfl) rfl rfl ?_
  refine reg_nil ?_
  refine fn_next ?_
  refine cw_condf rfl ?_
  refine cw_skip ?_
  refine fn_block ?_
  refine fn_next ?_
  refine cw_reg ?_
  refine ry (y_mov rfl rfl) rfl rfl ?_
  refine ry (y_add rfl rfl rfl (wi (by omega))) rfl rfl ?_
  refine ry (y_asg rfl rfl) rfl rfl ?_
  refine reg_nil ?_
  refine fn_roundR ?_
  refine cw_seq ?_
  refine cw_seq ?_
  refine cw_reg ?_
  refine ry (y_mov rfl rfl) rfl rfl ?_
  refine ry (y_lss rfl rfl rfl) rfl rfl ?_
  refine reg_nil ?_
  refine fn_next ?_
  refine cw_condf rfl ?_
  refine cw_exit ?_
  refine fn_then_exit (fn_then_exit (fn_block_exit ?_))
  refine fn_next ?_
  refine cw_seq ?_
  refine cw_reg ?_
  refine ry (y_mov rfl rfl) rfl rfl ?_
  refine ry (y_mov rfl rfl) rfl rfl ?_
  refine ry (y_mov rfl rfl) rfl rfl ?_
  refine reg_op (op_call (mThree a h g31 (L) (U) (L) g36 g31 _ (H145.rdg (i := 10) rfl) (H145.rdg (i := 9) rfl) (H145.rdg (i := 10) rfl)) rfl kflaw47_3 ⟨rfl, rfl, rfl, trivial⟩) rfl rfl ?_
  rintro _ w147 ⟨g149, bl150, A151, c152, rfl, k146⟩
  have H148 := H145.call k146
  refine ry (y_mov rfl rfl) rfl rfl ?_
  refine ry (y_ext rfl rfl rfl) rfl rfl ?_
  refine ry (y_ext rfl rfl rfl) rfl rfl ?_
  refine ry (y_ext rfl rfl rfl) rfl rfl ?_
  refine ry (y_asg rfl rfl) rfl rfl ?_
  refine ry (y_asg rfl rfl) rfl rfl ?_
  refine ry (y_asg rfl rfl) rfl rfl ?_
  refine reg_nil ?_
  refine fn_next ?_
  refine cw_seq ?_
  refine cw_reg ?_
  refine ry (y_mov rfl rfl) rfl rfl ?_
  refine ry (y_mov rfl rfl) rfl rfl ?_
  refine ry (y_mov rfl rfl) rfl rfl ?_
  refine reg_op (op_call (mThree a h g31 (L) (L) (T) g31 g41 _ (H148.rdg (i := 12) rfl) (H148.rdg (i := 12) rfl) (H148.rdg (i := 10) rfl)) rfl kflaw47_3 ⟨rfl, rfl, rfl, trivial⟩) rfl rfl ?_
  rintro _ w154 ⟨g156, bl157, A158, c159, rfl, k153⟩
  have H155 := H148.call k153
  refine ry (y_mov rfl rfl) rfl rfl ?_
  refine ry (y_ext rfl rfl rfl) rfl rfl ?_
  refine ry (y_ext rfl rfl rfl) rfl rfl ?_
  refine ry (y_ext rfl rfl rfl) rfl rfl ?_
  refine ry (y_asg rfl rfl) rfl rfl ?_
  refine ry (y_asg rfl rfl) rfl rfl ?_
  refine ry (y_asg rfl rfl) rfl rfl ?_
  refine reg_nil ?_
  refine fn_next ?_
  refine cw_seq ?_
  refine cw_reg ?_
  refine ry (y_mov rfl rfl) rfl rfl ?_
  refine ry (y_mov rfl rfl) rfl rfl ?_
  refine ry (y_mov rfl rfl) rfl rfl ?_
  refine reg_op (op_call (mThree a h g31 (L) (U) (U) g36 g36 _ (H155.rdg (i := 14) rfl) (H155.rdg (i := 13) rfl) (H155.rdg (i := 13) rfl)) rfl kflaw47_3 ⟨rfl, rfl, rfl, trivial⟩) rfl rfl ?_
  rintro _ w161 ⟨g163, bl164, A165, c166, rfl, k160⟩
  have H162 := H155.call k160
  refine ry (y_mov rfl rfl) rfl rfl ?_
  refine ry (y_ext rfl rfl rfl) rfl rfl ?_
  refine ry (y_ext rfl rfl rfl) rfl rfl ?_
  refine ry (y_ext rfl rfl rfl) rfl rfl ?_
  refine ry (y_asg rfl rfl) rfl rfl ?_
  refine ry (y_asg rfl rfl) rfl rfl ?_
  refine ry (y_asg rfl rfl) rfl rfl ?_
  refine reg_nil ?_
  refine fn_next ?_
  refine cw_seq ?_
  refine cw_reg ?_
  refine ry (y_mov rfl rfl) rfl rfl ?_
  refine ry (y_eql rfl rfl rfl) rfl rfl ?_
  refine ry (y_mov rfl rfl) rfl rfl ?_
  refine rgy (y_mov rfl rfl) rfl rfl rfl rfl ?_
  refine rgy (y_eql rfl rfl rfl) rfl rfl rfl rfl ?_
  refine ry (y_pick rfl rfl rfl) rfl rfl ?_
  refine ry (y_mov rfl rfl) rfl rfl ?_
  refine rgy (y_mov rfl rfl) rfl rfl rfl rfl ?_
  refine rgy (y_eql rfl rfl rfl) rfl rfl rfl rfl ?_
  refine ry (y_pick rfl rfl rfl) rfl rfl ?_
  refine ry (y_mov rfl rfl) rfl rfl ?_
  refine rgy (y_mov rfl rfl) rfl rfl rfl rfl ?_
  refine rgy (y_len rfl Try.underlying35 rfl) rfl rfl rfl rfl ?_
  refine rgy (yv (congrArg Value.bool (decide_eq_true (congrArg (Nat.cast (R := Int)) (mgL_a (o := o0) lU).2))) (y_eql rfl rfl rfl)) rfl rfl rfl rfl ?_
  refine ry (y_pick rfl rfl rfl) rfl rfl ?_
  refine ry (y_mov rfl rfl) rfl rfl ?_
  refine rgy (y_mov rfl rfl) rfl rfl rfl rfl ?_
  refine rgy (y_len rfl Try.underlying35 rfl) rfl rfl rfl rfl ?_
  refine rgy (yv (congrArg Value.bool (decide_eq_true (congrArg (Nat.cast (R := Int)) (mgL_b (o := o0) lT).2))) (y_eql rfl rfl rfl)) rfl rfl rfl rfl ?_
  refine ry (y_pick rfl rfl rfl) rfl rfl ?_
  refine ry (y_mov rfl rfl) rfl rfl ?_
  refine rgy (y_mov rfl rfl) rfl rfl rfl rfl ?_
  refine rgy (y_len rfl Try.underlying35 rfl) rfl rfl rfl rfl ?_
  refine rgy (yv (congrArg Value.bool (decide_eq_true (congrArg (Nat.cast (R := Int)) (mgL_c (o := o0) lU).2))) (y_eql rfl rfl rfl)) rfl rfl rfl rfl ?_
  refine ry (y_pick rfl rfl rfl) rfl rfl ?_
  refine ry (y_mov rfl rfl) rfl rfl ?_
  refine rgy (y_mov rfl rfl) rfl rfl rfl rfl ?_
  refine rgy (y_mov rfl rfl) rfl rfl rfl rfl ?_
  refine rg_on rfl rfl rfl (op_call (ret_v (v := .bool true) (gSame g149 a h (mgL o0 (L) (U) (L) (a * h)) g36 a h (U) _ (H162.rdg (i := 4) rfl) (H162.rdg (i := 15) rfl)) (by rw [decide_eq_true (show _ ∧ _ ∧ _ from ⟨rfl, rfl, (mgL_a lU).1⟩)])) rfl kflaw47_20 ⟨rfl, rfl, trivial⟩) rfl ?_
  rintro _ w168 ⟨rfl, e167⟩
  have H169 := H162.ext e167
  refine ry (y_pick rfl rfl rfl) rfl rfl ?_
  refine ry (y_mov rfl rfl) rfl rfl ?_
  refine rgy (y_mov rfl rfl) rfl rfl rfl rfl ?_
  refine rgy (y_mov rfl rfl) rfl rfl rfl rfl ?_
  refine rg_on rfl rfl rfl (op_call (ret_v (v := .bool true) (gSame g156 a h (mgL o0 (L) (L) (T) (a * h)) g41 a h (T) _ (H169.rdg (i := 2) rfl) (H169.rdg (i := 14) rfl)) (by rw [decide_eq_true (show _ ∧ _ ∧ _ from ⟨rfl, rfl, (mgL_b lT).1⟩)])) rfl kflaw47_20 ⟨rfl, rfl, trivial⟩) rfl ?_
  rintro _ w171 ⟨rfl, e170⟩
  have H172 := H169.ext e170
  refine ry (y_pick rfl rfl rfl) rfl rfl ?_
  refine ry (y_mov rfl rfl) rfl rfl ?_
  refine rgy (y_mov rfl rfl) rfl rfl rfl rfl ?_
  refine rgy (y_mov rfl rfl) rfl rfl rfl rfl ?_
  refine rg_on rfl rfl rfl (op_call (ret_v (v := .bool true) (gSame g163 a h (mgL o0 (L) (U) (U) (a * h)) g36 a h (U) _ (H172.rdg (i := 0) rfl) (H172.rdg (i := 15) rfl)) (by rw [decide_eq_true (show _ ∧ _ ∧ _ from ⟨rfl, rfl, (mgL_c lU).1⟩)])) rfl kflaw47_20 ⟨rfl, rfl, trivial⟩) rfl ?_
  rintro _ w174 ⟨rfl, e173⟩
  have H175 := H172.ext e173
  refine ry (y_pick rfl rfl rfl) rfl rfl ?_
  refine ry (y_asg rfl rfl) rfl rfl ?_
  refine reg_nil ?_
  refine fn_next ?_
  refine cw_ret ?_
  refine fn_ret1 rfl rfl ?_
  exact ⟨rfl, H175.base⟩

theorem mergeSides_all (a h : Int) (L : List Int) (AL : Option Addr) (nL cL : Nat) (U : List Int) (AU : Option Addr) (nU cU : Nat) (T : List Int) (AT : Option Addr) (nT cT : Nat) (w : World) (ha : I6 a) (hh : I6 h) (rL : Rd w AL (vi .i64 L)) (lL : L.length = nL) (rU : Rd w AU (vi .i64 U)) (lU : U.length = nU) (rT : Rd w AT (vi .i64 T)) (lT : T.length = nT) : Ret Try.prog 8 [.int .i64 a, .int .i64 h, .slice AL nL cL, .slice AU nU cU, .slice AT nT cT] w (fun z w' => z = .bool true ∧ Below w.heap.size w w') := by
  by_cases hp : LandP a h (1000 : Nat) L ∧ LandP a h (1000 : Nat) U ∧ LandP a h (1000 : Nat) T
  · obtain ⟨p1, p2, p3⟩ := hp
    obtain ⟨a, h, rfl, rfl, h1, h2, h3, h4, h5, h6, bL⟩ := LandP.nat p1
    obtain ⟨_, _, bU⟩ : True ∧ True ∧ AllB U := ⟨trivial, trivial, p2.2.2.2.2.2.2⟩
    have bT : AllB T := p3.2.2.2.2.2.2
    have e2 := p2.2.2.2.2.2.1
    have e3 := p3.2.2.2.2.2.1
    rw [← Int.natCast_mul] at e2 e3
    obtain rfl : nL = a * h := by omega
    obtain rfl : nU = a * h := by omega
    obtain rfl : nT = a * h := by omega
    exact mergeSides_ok a h L AL cL U AU cU T AT cT w h1 h2 h3 h4 h5 rL lL bL rU lU bU rT lT bT
  · exact mergeSides_no a h L AL nL cL U AU nU cU T AT nT cT w ha hh rL lL rU lU rT lT hp

theorem mergeSides_law (a : Int) (h : Int) (ls : List Int) (A2 : Option Addr) (n2 c2 : Nat) (us : List Int) (A3 : Option Addr) (n3 c3 : Nat) (ts : List Int) (A4 : Option Addr) (n4 c4 : Nat) (W : World) (ba : I6 a) (bh : I6 h) (hls : Ints .i64 W A2 n2 ls) (le2 : n2 ≤ c2) (mx2 : c2 ≤ maxLen) (wls : ∀ z ∈ ls, I6 z) (hus : Ints .i64 W A3 n3 us) (le3 : n3 ≤ c3) (mx3 : c3 ≤ maxLen) (wus : ∀ z ∈ us, I6 z) (hts : Ints .i64 W A4 n4 ts) (le4 : n4 ≤ c4) (mx4 : c4 ≤ maxLen) (wts : ∀ z ∈ ts, I6 z) :
    Calls Try.prog 8 #[.int .i64 a, .int .i64 h, .slice A2 n2 c2, .slice A3 n3 c3, .slice A4 n4 c4] W fun e w' => e = .returned (.bool true) ∧ Below W.heap.size W w' := lawOf (mergeSides_all a h ls A2 n2 c2 us A3 n3 c3 ts A4 n4 c4 W ba bh (Rd.of_ints hls) hls.len (Rd.of_ints hus) hus.len (Rd.of_ints hts) hts.len)

end Go.Proofs.Ytbhmkpnihgjlnaa
