/- Layer 47: what is not there, or of another size. -/
import Derived.Test.YtbhmkpnihgjlnaaLaw47
set_option linter.unusedVariables false
set_option linter.unusedSimpArgs false
namespace Go.Proofs.Ytbhmkpnihgjlnaa
open Go Go.RowKit
theorem kflaw47b_1 : callB Try.prog 19 = true := by kernel_rfl
theorem kflaw47b_2 : callB Try.prog 16 = true := by kernel_rfl
theorem kflaw47b_3 : (Try.prog.info? 25).bind (fun i => i.zero.map Value.cells) = some (List.toArray [(.int .i64 0), (.int .i64 0), (.slice none 0 0)]) := by kernel_rfl
theorem kflaw47b_4 : szB Try.prog 25 3 = true := by kernel_rfl
theorem kflaw47b_5 : callB Try.prog 17 = true := by kernel_rfl
theorem kflaw47b_6 : callB Try.prog 20 = true := by kernel_rfl
theorem kflaw47b_7 : callB Try.prog 21 = true := by kernel_rfl
theorem kflaw47b_8 : callB Try.prog 48 = true := by kernel_rfl

set_option maxRecDepth 100000 in
theorem mergeSizes_no (a h : Int) (L : List Int) (AL : Option Addr) (nL cL : Nat) (a2 h2 : Int) (U : List Int) (AU : Option Addr) (nU cU : Nat) (q : Int) (w : World) (ha : I6 a) (hh : I6 h) (ha2 : I6 a2) (hh2 : I6 h2) (rL : Rd w AL (vi .i64 L)) (lL : L.length = nL) (rU : Rd w AU (vi .i64 U)) (lU : U.length = nU) (hp : ¬ (LandP a h (300 : Nat) L ∧ LandP a2 h2 (300 : Nat) U)) :
    Ret Try.prog 14 [.int .i64 a, .int .i64 h, .slice AL nL cL, .int .i64 a2, .int .i64 h2, .slice AU nU cU, .int .i64 q] w (fun z w' => z = .bool true ∧ Below w.heap.size w w') := by
 refine ret_enter Try.func14 rfl rfl rfl ?_
 have H0 := HS.start w
 refine cw_seq ?_
 refine cw_reg ?_
 refine ry (y_asg rfl rfl) rfl rfl ?_
 refine reg_nil ?_
 refine fn_next ?_
 refine cw_seq ?_
 refine cw_seq ?_
 refine cw_reg ?_
 refine reg_op (op_call (mergeAwake _) rfl kflaw47b_1 trivial) rfl rfl ?_
 rintro _ w2 ⟨rfl, e1⟩
 have H3 := H0.ext e1
 refine ry (y_not rfl rfl) rfl rfl ?_
 refine reg_nil ?_
 refine fn_next ?_
 refine cw_condf rfl ?_
 refine cw_skip ?_
 refine fn_next ?_
 refine cw_seq ?_
 refine cw_reg ?_
 refine ry (y_mov rfl rfl) rfl rfl ?_
 refine ry (y_mov rfl rfl) rfl rfl ?_
 refine ry (y_mov rfl rfl) rfl rfl ?_
 refine reg_op (op_call (land_any a h 300 L AL nL cL _ ha hh (by decide) (rL.below H3.base) lL) rfl kflaw47b_2 ⟨rfl, rfl, rfl, rfl, trivial⟩) rfl rfl ?_
 rintro _ w5 ⟨rfl, e4⟩
 have H6 := H3.ext e4
 refine ry (y_mov rfl rfl) rfl rfl ?_
 refine ry (y_ext rfl rfl rfl) rfl rfl ?_
 refine ry (y_ext rfl rfl rfl) rfl rfl ?_
 refine reg_op (op_alloc H6 rfl kflaw47b_3) rfl rfl ?_
 rintro _ w8 ⟨b7, rfl, H9⟩
 refine reg_op (op_st (i := 0) (vs := [.int _ _, .int _ _, .slice _ _ _]) H9 rfl rfl rfl rfl rfl kflaw47b_4 rfl rfl rfl) rfl rfl ?_
 rintro _ w10 H11
 refine ry (y_asg rfl rfl) rfl rfl ?_
 refine reg_nil ?_
 refine fn_next ?_
 refine cw_seq ?_
 refine cw_reg ?_
 refine ry (y_mov rfl rfl) rfl rfl ?_
 refine ry (y_mov rfl rfl) rfl rfl ?_
 refine ry (y_mov rfl rfl) rfl rfl ?_
 refine reg_op (op_call (land_any a2 h2 300 U AU nU cU _ ha2 hh2 (by decide) (rU.below H11.base) lU) rfl kflaw47b_2 ⟨rfl, rfl, rfl, rfl, trivial⟩) rfl rfl ?_
 rintro _ w13 ⟨rfl, e12⟩
 have H14 := H11.ext e12
 refine ry (y_mov rfl rfl) rfl rfl ?_
 refine ry (y_ext rfl rfl rfl) rfl rfl ?_
 refine ry (y_ext rfl rfl rfl) rfl rfl ?_
 refine reg_op (op_alloc H14 rfl kflaw47b_3) rfl rfl ?_
 rintro _ w16 ⟨b15, rfl, H17⟩
 refine reg_op (op_st (i := 0) (vs := [.int _ _, .int _ _, .slice _ _ _]) H17 rfl rfl rfl rfl rfl kflaw47b_4 rfl rfl rfl) rfl rfl ?_
 rintro _ w18 H19
 refine ry (y_asg rfl rfl) rfl rfl ?_
 refine reg_nil ?_
 refine fn_next ?_
 refine cw_seq ?_
 refine cw_seq ?_
 refine cw_reg ?_
 refine ry (y_mov rfl rfl) rfl rfl ?_
 refine ry (y_notd rfl rfl) rfl rfl ?_
 refine ry (y_mov rfl rfl) rfl rfl ?_
 refine rg_splitd (d := 51) rfl (fun h20 => ?_) (fun h20 => ?_)
 ·skip
  refine rg_off rfl rfl rfl rfl rfl ?_
  refine rg_off rfl rfl rfl rfl rfl ?_
  refine ry (y_pick rfl rfl rfl) rfl rfl ?_
  refine reg_nil ?_
  refine fn_next ?_
  refine cw_condt rfl ?_
  refine cw_seq ?_
  refine cw_reg ?_
  refine ry (y_asg rfl rfl) rfl rfl ?_
  refine reg_nil ?_
  refine fn_next ?_
  refine cw_ret ?_
  refine fn_then_ret ?_
  refine fn_ret1 rfl rfl ?_
  exact ⟨rfl, H19.base⟩
 ·skip
  have q1 := Classical.not_not.1 h20
  refine rgy (y_mov rfl rfl) rfl rfl rfl rfl ?_
  refine rgy (y_notd rfl rfl) rfl rfl rfl rfl ?_
  refine ry (y_pick rfl rfl rfl) rfl rfl ?_
  refine reg_nil ?_
  refine fn_next ?_
  refine cw_condd rfl (fun h21 => ?_) (fun h21 => ?_)
  ·skip
   refine cw_seq ?_
   refine cw_reg ?_
   refine ry (y_asg rfl rfl) rfl rfl ?_
   refine reg_nil ?_
   refine fn_next ?_
   refine cw_ret ?_
   refine fn_then_ret ?_
   refine fn_ret1 rfl rfl ?_
   exact ⟨rfl, H19.base⟩
  · exact absurd ⟨q1, Classical.not_not.1 h21⟩ hp

set_option maxRecDepth 100000 in
theorem mApply_nil  (w : World) :
    Ret Try.prog 48 [.pointer none, .slice none 0 0] w (fun z w' => z = .tuple #[.pointer none, .int .i64 0, .int .i64 1] ∧ Below w.heap.size w w') := by
 refine ret_enter Try.func48 rfl rfl rfl ?_
 have H0 := HS.start w
 refine cw_seq ?_
 refine cw_reg ?_
 refine ry (y_asg rfl rfl) rfl rfl ?_
 refine ry (y_asg rfl rfl) rfl rfl ?_
 refine ry (y_asg rfl rfl) rfl rfl ?_
 refine reg_nil ?_
 refine fn_next ?_
 refine cw_seq ?_
 refine cw_seq ?_
 refine cw_reg ?_
 refine ry (y_mov rfl rfl) rfl rfl ?_
 refine ry (y_peqlnil rfl Try.underlying28 rfl rfl) rfl rfl ?_
 refine reg_nil ?_
 refine fn_next ?_
 refine cw_condt rfl ?_
 refine cw_seq ?_
 refine cw_reg ?_
 refine ry (y_asg rfl rfl) rfl rfl ?_
 refine ry (y_asg rfl rfl) rfl rfl ?_
 refine ry (y_asg rfl rfl) rfl rfl ?_
 refine reg_nil ?_
 refine fn_next ?_
 refine cw_ret ?_
 refine fn_then_ret ?_
 refine fn_retn (vs := [_, _, _]) rfl ⟨rfl, rfl, rfl, trivial⟩ rfl ?_
 exact ⟨rfl, H0.base⟩

set_option maxRecDepth 100000 in
set_option maxHeartbeats 2000000 in
theorem mergeSizes_ok (a h : Nat) (L : List Int) (AL : Option Addr) (cL : Nat) (a2 h2 : Nat) (U : List Int) (AU : Option Addr) (cU : Nat) (q : Int) (w : World) (h1 : 1 ≤ a) (h2' : a ≤ 300) (h3 : 1 ≤ h) (h4 : h ≤ 300) (h5 : a * h ≤ 300) (k1 : 1 ≤ a2) (k2 : a2 ≤ 300) (k3 : 1 ≤ h2) (k4 : h2 ≤ 300) (k5 : a2 * h2 ≤ 300) (rL : Rd w AL (vi .i64 L)) (lL : L.length = a * h) (bL : AllB L) (rU : Rd w AU (vi .i64 U)) (lU : U.length = a2 * h2) (bU : AllB U) :
    Ret Try.prog 14 [.int .i64 (a : Int), .int .i64 (h : Int), .slice AL (a * h) cL, .int .i64 (a2 : Int), .int .i64 (h2 : Int), .slice AU (a2 * h2) cU, .int .i64 q] w (fun z w' => z = .bool true ∧ Below w.heap.size w w') := by
 have s : SzG a h := ⟨h1, by omega, h3, by omega⟩
 have s' : SzG a2 h2 := ⟨k1, by omega, k3, by omega⟩
 refine ret_enter Try.func14 rfl rfl rfl ?_
 have H0 := HS.start w
 refine cw_seq ?_
 refine cw_reg ?_
 refine ry (y_asg rfl rfl) rfl rfl ?_
 refine reg_nil ?_
 refine fn_next ?_
 refine cw_seq ?_
 refine cw_seq ?_
 refine cw_reg ?_
 refine reg_op (op_call (mergeAwake _) rfl kflaw47b_1 trivial) rfl rfl ?_
 rintro _ w2 ⟨rfl, e1⟩
 have H3 := H0.ext e1
 refine ry (y_not rfl rfl) rfl rfl ?_
 refine reg_nil ?_
 refine fn_next ?_
 refine cw_condf rfl ?_
 refine cw_skip ?_
 refine fn_next ?_
 refine cw_seq ?_
 refine cw_reg ?_
 refine ry (y_mov rfl rfl) rfl rfl ?_
 refine ry (y_mov rfl rfl) rfl rfl ?_
 refine ry (y_mov rfl rfl) rfl rfl ?_
 refine reg_op (op_call (land_ok a h 300 L AL (a * h) cL _ h1 h2' h3 h4 h5 rfl lL bL (by decide) (rL.below H3.base)) rfl kflaw47b_2 ⟨rfl, rfl, rfl, rfl, trivial⟩) rfl rfl ?_
 rintro _ w5 ⟨rfl, e4⟩
 have H6 := H3.ext e4
 refine ry (y_mov rfl rfl) rfl rfl ?_
 refine ry (y_ext rfl rfl rfl) rfl rfl ?_
 refine ry (y_ext rfl rfl rfl) rfl rfl ?_
 refine reg_op (op_alloc H6 rfl kflaw47b_3) rfl rfl ?_
 rintro _ w8 ⟨b7, rfl, H9⟩
 refine reg_op (op_st (i := 0) (vs := [.int _ _, .int _ _, .slice _ _ _]) H9 rfl rfl rfl rfl rfl kflaw47b_4 rfl rfl rfl) rfl rfl ?_
 rintro _ w10 H11
 refine ry (y_asg rfl rfl) rfl rfl ?_
 refine reg_nil ?_
 refine fn_next ?_
 refine cw_seq ?_
 refine cw_reg ?_
 refine ry (y_mov rfl rfl) rfl rfl ?_
 refine ry (y_mov rfl rfl) rfl rfl ?_
 refine ry (y_mov rfl rfl) rfl rfl ?_
 refine reg_op (op_call (land_ok a2 h2 300 U AU (a2 * h2) cU _ k1 k2 k3 k4 k5 rfl lU bU (by decide) (rU.below H11.base)) rfl kflaw47b_2 ⟨rfl, rfl, rfl, rfl, trivial⟩) rfl rfl ?_
 rintro _ w13 ⟨rfl, e12⟩
 have H14 := H11.ext e12
 refine ry (y_mov rfl rfl) rfl rfl ?_
 refine ry (y_ext rfl rfl rfl) rfl rfl ?_
 refine ry (y_ext rfl rfl rfl) rfl rfl ?_
 refine reg_op (op_alloc H14 rfl kflaw47b_3) rfl rfl ?_
 rintro _ w16 ⟨b15, rfl, H17⟩
 refine reg_op (op_st (i := 0) (vs := [.int _ _, .int _ _, .slice _ _ _]) H17 rfl rfl rfl rfl rfl kflaw47b_4 rfl rfl rfl) rfl rfl ?_
 rintro _ w18 H19
 refine ry (y_asg rfl rfl) rfl rfl ?_
 refine reg_nil ?_
 refine fn_next ?_
 refine cw_seq ?_
 refine cw_seq ?_
 refine cw_reg ?_
 refine ry (y_mov rfl rfl) rfl rfl ?_
 refine ry (y_not rfl rfl) rfl rfl ?_
 refine ry (y_mov rfl rfl) rfl rfl ?_
 refine rgy (y_mov rfl rfl) rfl rfl rfl rfl ?_
 refine rgy (y_not rfl rfl) rfl rfl rfl rfl ?_
 refine ry (y_pick rfl rfl rfl) rfl rfl ?_
 refine reg_nil ?_
 refine fn_next ?_
 refine cw_condf rfl ?_
 refine cw_skip ?_
 refine fn_next ?_
 refine cw_seq ?_
 refine cw_reg ?_
 refine ry (y_mov rfl rfl) rfl rfl ?_
 refine ry (y_mov rfl rfl) rfl rfl ?_
 refine ry (y_mov rfl rfl) rfl rfl ?_
 refine reg_op (op_call (made_ok a h L AL (a * h) cL _ s lL rfl bL (rL.below H19.base)) rfl kflaw47b_5 ⟨rfl, rfl, rfl, trivial⟩) rfl rfl ?_
 rintro _ w21 ⟨g23, bl24, rfl, k20⟩
 have H22 := H19.call k20
 refine ry (y_mov rfl rfl) rfl rfl ?_
 refine ry (y_ext rfl rfl rfl) rfl rfl ?_
 refine ry (y_ext rfl rfl rfl) rfl rfl ?_
 refine ry (y_asg rfl rfl) rfl rfl ?_
 refine ry (y_asg rfl rfl) rfl rfl ?_
 refine reg_nil ?_
 refine fn_next ?_
 refine cw_seq ?_
 refine cw_reg ?_
 refine ry (y_mov rfl rfl) rfl rfl ?_
 refine ry (y_mov rfl rfl) rfl rfl ?_
 refine ry (y_mov rfl rfl) rfl rfl ?_
 refine reg_op (op_call (made_ok a2 h2 U AU (a2 * h2) cU _ s' lU rfl bU (rU.below H22.base)) rfl kflaw47b_5 ⟨rfl, rfl, rfl, trivial⟩) rfl rfl ?_
 rintro _ w26 ⟨g28, bl29, rfl, k25⟩
 have H27 := H22.call k25
 refine ry (y_mov rfl rfl) rfl rfl ?_
 refine ry (y_ext rfl rfl rfl) rfl rfl ?_
 refine ry (y_ext rfl rfl rfl) rfl rfl ?_
 refine ry (y_asg rfl rfl) rfl rfl ?_
 refine ry (y_asg rfl rfl) rfl rfl ?_
 refine reg_nil ?_
 refine fn_next ?_
 refine cw_seq ?_
 refine cw_reg ?_
 refine ry (y_mov rfl rfl) rfl rfl ?_
 refine ry (y_mov rfl rfl) rfl rfl ?_
 refine reg_op (op_call (mThree_n0 a a2 h h2 g23 (L) g28 (U) _ (H27.rdg (i := 1) rfl) (H27.rdg (i := 0) rfl)) rfl kflaw47b_6 ⟨rfl, rfl, rfl, trivial⟩) rfl rfl ?_
 rintro _ w31 ⟨rfl, e30⟩
 have H32 := H27.ext e30
 refine ry (y_mov rfl rfl) rfl rfl ?_
 refine ry (y_ext rfl rfl rfl) rfl rfl ?_
 refine ry (y_ext rfl rfl rfl) rfl rfl ?_
 refine ry (y_ext rfl rfl rfl) rfl rfl ?_
 refine ry (y_asg rfl rfl) rfl rfl ?_
 refine ry (y_asg rfl rfl) rfl rfl ?_
 refine ry (y_asg rfl rfl) rfl rfl ?_
 refine reg_nil ?_
 refine fn_next ?_
 refine cw_seq ?_
 refine cw_reg ?_
 refine ry (y_mov rfl rfl) rfl rfl ?_
 refine ry (y_mov rfl rfl) rfl rfl ?_
 refine ry (y_mov rfl rfl) rfl rfl ?_
 refine reg_op (op_call (mPrefer_n1 a a2 h h2 g23 (L) g28 (U) q _ (H32.rdg (i := 1) rfl) (H32.rdg (i := 0) rfl)) rfl kflaw47b_7 ⟨rfl, rfl, rfl, rfl, trivial⟩) rfl rfl ?_
 rintro _ w34 ⟨rfl, e33⟩
 have H35 := H32.ext e33
 refine ry (y_mov rfl rfl) rfl rfl ?_
 refine ry (y_ext rfl rfl rfl) rfl rfl ?_
 refine ry (y_ext rfl rfl rfl) rfl rfl ?_
 refine ry (y_asg rfl rfl) rfl rfl ?_
 refine ry (y_asg rfl rfl) rfl rfl ?_
 refine reg_nil ?_
 refine fn_next ?_
 refine cw_seq ?_
 refine cw_reg ?_
 refine ry (y_mov rfl rfl) rfl rfl ?_
 refine ry (y_mov rfl rfl) rfl rfl ?_
 refine ry (y_mov rfl rfl) rfl rfl ?_
 refine reg_op (op_call (mPrefer_n2 a a2 h h2 g23 (L) g28 (U) q _ (H35.rdg (i := 1) rfl) (H35.rdg (i := 0) rfl)) rfl kflaw47b_7 ⟨rfl, rfl, rfl, rfl, trivial⟩) rfl rfl ?_
 rintro _ w37 ⟨rfl, e36⟩
 have H38 := H35.ext e36
 refine ry (y_mov rfl rfl) rfl rfl ?_
 refine ry (y_ext rfl rfl rfl) rfl rfl ?_
 refine ry (y_ext rfl rfl rfl) rfl rfl ?_
 refine ry (y_asg rfl rfl) rfl rfl ?_
 refine ry (y_asg rfl rfl) rfl rfl ?_
 refine reg_nil ?_
 refine fn_next ?_
 refine cw_seq ?_
 refine cw_reg ?_
 refine reg_op (op_call (mApply_nil _) rfl kflaw47b_8 ⟨rfl, rfl, trivial⟩) rfl rfl ?_
 rintro _ w40 ⟨rfl, e39⟩
 have H41 := H38.ext e39
 refine ry (y_mov rfl rfl) rfl rfl ?_
 refine ry (y_ext rfl rfl rfl) rfl rfl ?_
 refine ry (y_ext rfl rfl rfl) rfl rfl ?_
 refine ry (y_ext rfl rfl rfl) rfl rfl ?_
 refine ry (y_asg rfl rfl) rfl rfl ?_
 refine ry (y_asg rfl rfl) rfl rfl ?_
 refine ry (y_asg rfl rfl) rfl rfl ?_
 refine reg_nil ?_
 refine fn_next ?_
 refine cw_seq ?_
 refine cw_seq ?_
 refine cw_reg ?_
 refine ry (y_mov rfl rfl) rfl rfl ?_
 refine ry (y_not rfl rfl) rfl rfl ?_
 refine ry (y_mov rfl rfl) rfl rfl ?_
 refine rgy (y_mov rfl rfl) rfl rfl rfl rfl ?_
 refine rgy (y_not rfl rfl) rfl rfl rfl rfl ?_
 refine ry (y_pick rfl rfl rfl) rfl rfl ?_
 refine ry (y_mov rfl rfl) rfl rfl ?_
 refine rgy (y_mov rfl rfl) rfl rfl rfl rfl ?_
 refine rgy (y_pneqnil rfl Try.underlying28 rfl rfl) rfl rfl rfl rfl ?_
 refine ry (y_pick rfl rfl rfl) rfl rfl ?_
 refine ry (y_mov rfl rfl) rfl rfl ?_
 refine rgy (y_mov rfl rfl) rfl rfl rfl rfl ?_
 refine rgy (y_len rfl Try.underlying35 rfl) rfl rfl rfl rfl ?_
 refine rgy (y_neq rfl rfl rfl) rfl rfl rfl rfl ?_
 refine ry (y_pick rfl rfl rfl) rfl rfl ?_
 refine ry (y_mov rfl rfl) rfl rfl ?_
 refine rgy (y_mov rfl rfl) rfl rfl rfl rfl ?_
 refine rgy (y_neq rfl rfl rfl) rfl rfl rfl rfl ?_
 refine ry (y_pick rfl rfl rfl) rfl rfl ?_
 refine ry (y_mov rfl rfl) rfl rfl ?_
 refine rgy (y_mov rfl rfl) rfl rfl rfl rfl ?_
 refine rgy (y_pneqnil rfl Try.underlying28 rfl rfl) rfl rfl rfl rfl ?_
 refine ry (y_pick rfl rfl rfl) rfl rfl ?_
 refine ry (y_mov rfl rfl) rfl rfl ?_
 refine rgy (y_mov rfl rfl) rfl rfl rfl rfl ?_
 refine rgy (y_neq rfl rfl rfl) rfl rfl rfl rfl ?_
 refine ry (y_pick rfl rfl rfl) rfl rfl ?_
 refine ry (y_mov rfl rfl) rfl rfl ?_
 refine rgy (y_mov rfl rfl) rfl rfl rfl rfl ?_
 refine rgy (y_pneqnil rfl Try.underlying28 rfl rfl) rfl rfl rfl rfl ?_
 refine ry (y_pick rfl rfl rfl) rfl rfl ?_
 refine ry (y_mov rfl rfl) rfl rfl ?_
 refine rgy (y_mov rfl rfl) rfl rfl rfl rfl ?_
 refine rgy (y_neq rfl rfl rfl) rfl rfl rfl rfl ?_
 refine ry (y_pick rfl rfl rfl) rfl rfl ?_
 refine ry (y_mov rfl rfl) rfl rfl ?_
 refine rgy (y_mov rfl rfl) rfl rfl rfl rfl ?_
 refine rgy (y_pneqnil rfl Try.underlying28 rfl rfl) rfl rfl rfl rfl ?_
 refine ry (y_pick rfl rfl rfl) rfl rfl ?_
 refine ry (y_mov rfl rfl) rfl rfl ?_
 refine rgy (y_mov rfl rfl) rfl rfl rfl rfl ?_
 refine rgy (y_neq rfl rfl rfl) rfl rfl rfl rfl ?_
 refine ry (y_pick rfl rfl rfl) rfl rfl ?_
 refine ry (y_mov rfl rfl) rfl rfl ?_
 refine rgy (y_mov rfl rfl) rfl rfl rfl rfl ?_
 refine rgy (y_neq rfl rfl rfl) rfl rfl rfl rfl ?_
 refine ry (y_pick rfl rfl rfl) rfl rfl ?_
 refine reg_nil ?_
 refine fn_next ?_
 refine cw_condf rfl ?_
 refine cw_skip ?_
 refine fn_next ?_
 refine cw_seq ?_
 refine cw_seq ?_
 refine cw_reg ?_
 refine ry (y_mov rfl rfl) rfl rfl ?_
 refine ry (y_mov rfl rfl) rfl rfl ?_
 refine ry (y_eql rfl rfl rfl) rfl rfl ?_
 refine ry (y_mov rfl rfl) rfl rfl ?_
 refine rg_splitd (d := 145) rfl (fun h42 => ?_) (fun h42 => ?_)
 ·skip
  have c1 := h42
  refine rgy (y_mov rfl rfl) rfl rfl rfl rfl ?_
  refine rgy (y_mov rfl rfl) rfl rfl rfl rfl ?_
  refine rgy (y_eql rfl rfl rfl) rfl rfl rfl rfl ?_
  refine ry (y_pick rfl rfl rfl) rfl rfl ?_
  refine reg_nil ?_
  refine fn_next ?_
  refine cw_condd rfl (fun h43 => ?_) (fun h43 => ?_)
  ·skip
   refine cw_seq ?_
   refine cw_reg ?_
   refine ry (y_asg rfl rfl) rfl rfl ?_
   refine reg_nil ?_
   refine fn_next ?_
   refine cw_ret ?_
   refine fn_then_ret ?_
   refine fn_ret1 rfl rfl ?_
   exact ⟨rfl, H41.base⟩
  ·skip
   have hne : ¬ (a2 = a ∧ h2 = h) := by omega
   refine cw_skip ?_
   refine fn_next ?_
   refine cw_seq ?_
   refine cw_reg ?_
   refine ry (y_mov rfl rfl) rfl rfl ?_
   refine ry (y_mov rfl rfl) rfl rfl ?_
   refine ry (y_mov rfl rfl) rfl rfl ?_
   refine reg_op (op_call (mThree_s3 a a2 h h2 g23 (L) (L) (U) g23 g28 _ (H41.rdg (i := 1) rfl) (H41.rdg (i := 1) rfl) (H41.rdg (i := 0) rfl) hne) rfl kflaw47b_6 ⟨rfl, rfl, rfl, trivial⟩) rfl rfl ?_
   rintro _ w45 ⟨rfl, e44⟩
   have H46 := H41.ext e44
   refine ry (y_mov rfl rfl) rfl rfl ?_
   refine ry (y_ext rfl rfl rfl) rfl rfl ?_
   refine ry (y_ext rfl rfl rfl) rfl rfl ?_
   refine ry (y_ext rfl rfl rfl) rfl rfl ?_
   refine ry (y_asg rfl rfl) rfl rfl ?_
   refine ry (y_asg rfl rfl) rfl rfl ?_
   refine ry (y_asg rfl rfl) rfl rfl ?_
   refine reg_nil ?_
   refine fn_next ?_
   refine cw_seq ?_
   refine cw_reg ?_
   refine ry (y_mov rfl rfl) rfl rfl ?_
   refine ry (y_mov rfl rfl) rfl rfl ?_
   refine ry (y_mov rfl rfl) rfl rfl ?_
   refine ry (y_mov rfl rfl) rfl rfl ?_
   refine reg_op (op_call (mPrefer_s2 a a2 h h2 g23 (L) (U) (L) g28 g23 q _ (H46.rdg (i := 1) rfl) (H46.rdg (i := 0) rfl) (H46.rdg (i := 1) rfl) hne) rfl kflaw47b_7 ⟨rfl, rfl, rfl, rfl, trivial⟩) rfl rfl ?_
   rintro _ w48 ⟨rfl, e47⟩
   have H49 := H46.ext e47
   refine ry (y_mov rfl rfl) rfl rfl ?_
   refine ry (y_ext rfl rfl rfl) rfl rfl ?_
   refine ry (y_ext rfl rfl rfl) rfl rfl ?_
   refine ry (y_asg rfl rfl) rfl rfl ?_
   refine ry (y_asg rfl rfl) rfl rfl ?_
   refine reg_nil ?_
   refine fn_next ?_
   refine cw_seq ?_
   refine cw_reg ?_
   refine ry (y_mov rfl rfl) rfl rfl ?_
   refine ry (y_peqlnil rfl Try.underlying28 rfl rfl) rfl rfl ?_
   refine ry (y_mov rfl rfl) rfl rfl ?_
   refine rgy (y_mov rfl rfl) rfl rfl rfl rfl ?_
   refine rgy (y_len rfl Try.underlying35 rfl) rfl rfl rfl rfl ?_
   refine rgy (y_eql rfl rfl rfl) rfl rfl rfl rfl ?_
   refine ry (y_pick rfl rfl rfl) rfl rfl ?_
   refine ry (y_mov rfl rfl) rfl rfl ?_
   refine rgy (y_mov rfl rfl) rfl rfl rfl rfl ?_
   refine rgy (y_eql rfl rfl rfl) rfl rfl rfl rfl ?_
   refine ry (y_pick rfl rfl rfl) rfl rfl ?_
   refine ry (y_mov rfl rfl) rfl rfl ?_
   refine rgy (y_mov rfl rfl) rfl rfl rfl rfl ?_
   refine rgy (y_peqlnil rfl Try.underlying28 rfl rfl) rfl rfl rfl rfl ?_
   refine ry (y_pick rfl rfl rfl) rfl rfl ?_
   refine ry (y_mov rfl rfl) rfl rfl ?_
   refine rgy (y_mov rfl rfl) rfl rfl rfl rfl ?_
   refine rgy (y_eql rfl rfl rfl) rfl rfl rfl rfl ?_
   refine ry (y_pick rfl rfl rfl) rfl rfl ?_
   refine ry (y_asg rfl rfl) rfl rfl ?_
   refine reg_nil ?_
   refine fn_next ?_
   refine cw_ret ?_
   refine fn_ret1 rfl rfl ?_
   exact ⟨rfl, H49.base⟩
 ·skip
  have hne : ¬ (a2 = a ∧ h2 = h) := by omega
  refine rg_off rfl rfl rfl rfl rfl ?_
  refine rg_off rfl rfl rfl rfl rfl ?_
  refine rg_off rfl rfl rfl rfl rfl ?_
  refine ry (y_pick rfl rfl rfl) rfl rfl ?_
  refine reg_nil ?_
  refine fn_next ?_
  refine cw_condf rfl ?_
  refine cw_skip ?_
  refine fn_next ?_
  refine cw_seq ?_
  refine cw_reg ?_
  refine ry (y_mov rfl rfl) rfl rfl ?_
  refine ry (y_mov rfl rfl) rfl rfl ?_
  refine ry (y_mov rfl rfl) rfl rfl ?_
  refine reg_op (op_call (mThree_s3 a a2 h h2 g23 (L) (L) (U) g23 g28 _ (H41.rdg (i := 1) rfl) (H41.rdg (i := 1) rfl) (H41.rdg (i := 0) rfl) hne) rfl kflaw47b_6 ⟨rfl, rfl, rfl, trivial⟩) rfl rfl ?_
  rintro _ w51 ⟨rfl, e50⟩
  have H52 := H41.ext e50
  refine ry (y_mov rfl rfl) rfl rfl ?_
  refine ry (y_ext rfl rfl rfl) rfl rfl ?_
  refine ry (y_ext rfl rfl rfl) rfl rfl ?_
  refine ry (y_ext rfl rfl rfl) rfl rfl ?_
  refine ry (y_asg rfl rfl) rfl rfl ?_
  refine ry (y_asg rfl rfl) rfl rfl ?_
  refine ry (y_asg rfl rfl) rfl rfl ?_
  refine reg_nil ?_
  refine fn_next ?_
  refine cw_seq ?_
  refine cw_reg ?_
  refine ry (y_mov rfl rfl) rfl rfl ?_
  refine ry (y_mov rfl rfl) rfl rfl ?_
  refine ry (y_mov rfl rfl) rfl rfl ?_
  refine ry (y_mov rfl rfl) rfl rfl ?_
  refine reg_op (op_call (mPrefer_s2 a a2 h h2 g23 (L) (U) (L) g28 g23 q _ (H52.rdg (i := 1) rfl) (H52.rdg (i := 0) rfl) (H52.rdg (i := 1) rfl) hne) rfl kflaw47b_7 ⟨rfl, rfl, rfl, rfl, trivial⟩) rfl rfl ?_
  rintro _ w54 ⟨rfl, e53⟩
  have H55 := H52.ext e53
  refine ry (y_mov rfl rfl) rfl rfl ?_
  refine ry (y_ext rfl rfl rfl) rfl rfl ?_
  refine ry (y_ext rfl rfl rfl) rfl rfl ?_
  refine ry (y_asg rfl rfl) rfl rfl ?_
  refine ry (y_asg rfl rfl) rfl rfl ?_
  refine reg_nil ?_
  refine fn_next ?_
  refine cw_seq ?_
  refine cw_reg ?_
  refine ry (y_mov rfl rfl) rfl rfl ?_
  refine ry (y_peqlnil rfl Try.underlying28 rfl rfl) rfl rfl ?_
  refine ry (y_mov rfl rfl) rfl rfl ?_
  refine rgy (y_mov rfl rfl) rfl rfl rfl rfl ?_
  refine rgy (y_len rfl Try.underlying35 rfl) rfl rfl rfl rfl ?_
  refine rgy (y_eql rfl rfl rfl) rfl rfl rfl rfl ?_
  refine ry (y_pick rfl rfl rfl) rfl rfl ?_
  refine ry (y_mov rfl rfl) rfl rfl ?_
  refine rgy (y_mov rfl rfl) rfl rfl rfl rfl ?_
  refine rgy (y_eql rfl rfl rfl) rfl rfl rfl rfl ?_
  refine ry (y_pick rfl rfl rfl) rfl rfl ?_
  refine ry (y_mov rfl rfl) rfl rfl ?_
  refine rgy (y_mov rfl rfl) rfl rfl rfl rfl ?_
  refine rgy (y_peqlnil rfl Try.underlying28 rfl rfl) rfl rfl rfl rfl ?_
  refine ry (y_pick rfl rfl rfl) rfl rfl ?_
  refine ry (y_mov rfl rfl) rfl rfl ?_
  refine rgy (y_mov rfl rfl) rfl rfl rfl rfl ?_
  refine rgy (y_eql rfl rfl rfl) rfl rfl rfl rfl ?_
  refine ry (y_pick rfl rfl rfl) rfl rfl ?_
  refine ry (y_asg rfl rfl) rfl rfl ?_
  refine reg_nil ?_
  refine fn_next ?_
  refine cw_ret ?_
  refine fn_ret1 rfl rfl ?_
  exact ⟨rfl, H55.base⟩

theorem mergeSizes_all (a h : Int) (L : List Int) (AL : Option Addr) (nL cL : Nat) (a2 h2 : Int) (U : List Int) (AU : Option Addr) (nU cU : Nat) (q : Int) (w : World) (ha : I6 a) (hh : I6 h) (ha2 : I6 a2) (hh2 : I6 h2) (rL : Rd w AL (vi .i64 L)) (lL : L.length = nL) (rU : Rd w AU (vi .i64 U)) (lU : U.length = nU) : Ret Try.prog 14 [.int .i64 a, .int .i64 h, .slice AL nL cL, .int .i64 a2, .int .i64 h2, .slice AU nU cU, .int .i64 q] w (fun z w' => z = .bool true ∧ Below w.heap.size w w') := by
  by_cases hp : LandP a h (300 : Nat) L ∧ LandP a2 h2 (300 : Nat) U
  · obtain ⟨p1, p2⟩ := hp
    obtain ⟨a, h, rfl, rfl, h1, h2', h3, h4, h5, h6, bL⟩ := LandP.nat p1
    obtain ⟨a2, h2, rfl, rfl, k1, k2, k3, k4, k5, k6, bU⟩ := LandP.nat p2
    obtain rfl : nL = a * h := by omega
    obtain rfl : nU = a2 * h2 := by omega
    exact mergeSizes_ok a h L AL cL a2 h2 U AU cU q w h1 h2' h3 h4 h5 k1 k2 k3 k4 k5 rL lL bL rU lU bU
  · exact mergeSizes_no a h L AL nL cL a2 h2 U AU nU cU q w ha hh ha2 hh2 rL lL rU lU hp

theorem mergeSizes_law (a : Int) (h : Int) (ls : List Int) (A2 : Option Addr) (n2 c2 : Nat) (x : Int) (y : Int) (us : List Int) (A5 : Option Addr) (n5 c5 : Nat) (q : Int) (W : World) (ba : I6 a) (bh : I6 h) (hls : Ints .i64 W A2 n2 ls) (le2 : n2 ≤ c2) (mx2 : c2 ≤ maxLen) (wls : ∀ z ∈ ls, I6 z) (bx : I6 x) (by' : I6 y) (hus : Ints .i64 W A5 n5 us) (le5 : n5 ≤ c5) (mx5 : c5 ≤ maxLen) (wus : ∀ z ∈ us, I6 z) (bq : I6 q) :
    Calls Try.prog 14 #[.int .i64 a, .int .i64 h, .slice A2 n2 c2, .int .i64 x, .int .i64 y, .slice A5 n5 c5, .int .i64 q] W fun e w' => e = .returned (.bool true) ∧ Below W.heap.size W w' := lawOf (mergeSizes_all a h ls A2 n2 c2 x y us A5 n5 c5 q W ba bh bx by' (Rd.of_ints hls) hls.len (Rd.of_ints hus) hus.len)

end Go.Proofs.Ytbhmkpnihgjlnaa
