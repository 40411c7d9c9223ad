/- Layer 42: TurnCrops. -/
import Derived.Test.YtbhmkpnihgjlnaaTurn5
import Derived.Test.YtbhmkpnihgjlnaaLand2
set_option linter.unusedVariables false
set_option linter.unusedSimpArgs false
namespace Go.Proofs.Ytbhmkpnihgjlnaa
open Go Go.RowKit
theorem kflaw42b_1 : callB Try.prog 29 = true := by kernel_rfl
theorem kflaw42b_2 : callB Try.prog 16 = true := by kernel_rfl
theorem kflaw42b_3 : (Try.prog.info? 25).bind (fun i => i.zero.map Value.cells) = some (List.toArray [(.int .i64 0), (.int .i64 0), (.slice none 0 0)]) := by kernel_rfl
theorem kflaw42b_4 : szB Try.prog 25 3 = true := by kernel_rfl
theorem kflaw42b_5 : callB Try.prog 17 = true := by kernel_rfl
theorem kflaw42b_6 : aggB Try.prog 55 4 = true := by kernel_rfl
theorem kflaw42b_7 : callB Try.prog 30 = true := by kernel_rfl
theorem kflaw42b_8 : aggB Try.prog 25 3 = true := by kernel_rfl
theorem kflaw42b_9 : callB Try.prog 31 = true := by kernel_rfl
theorem kflaw42b_10 : callB Try.prog 32 = true := by kernel_rfl
theorem kflaw42b_11 : callB Try.prog 33 = true := by kernel_rfl
theorem kflaw42b_12 : callB Try.prog 22 = true := by kernel_rfl

set_option maxRecDepth 100000 in
theorem turnCrops_no (a h : Int) (L : List Int) (A : Option Addr) (n cap : Nat) (x0 y0 x1 y1 : Int) (k : Int) (w : World) (ha : I6 a) (hh : I6 h) (hr : Rd w A (vi .i64 L)) (hl : L.length = n) (hp : ¬ LandP a h (400 : Nat) L) :
    Ret Try.prog 6 [.int .i64 a, .int .i64 h, .slice A n cap, .agg #[.int .i64 x0, .int .i64 y0, .int .i64 x1, .int .i64 y1], .int .i64 k] w (fun z w' => z = .bool true ∧ Below w.heap.size w w') := by
 refine ret_enter Try.func6 rfl rfl rfl ?_
 have H0 := HS.start w
 refine cw_seq ?_
 refine cw_reg ?_
 refine reg_op (op_box (cs := [.int _ _, .int _ _, .int _ _, .int _ _]) H0 rfl rfl rfl) rfl rfl ?_
 rintro _ w2 ⟨b1, rfl, H3⟩
 refine ry (y_asg rfl rfl) rfl rfl ?_
 refine reg_nil ?_
 refine fn_next ?_
 refine cw_seq ?_
 refine cw_seq ?_
 refine cw_reg ?_
 refine reg_op (op_call (turnAwake _) rfl kflaw42b_1 trivial) rfl rfl ?_
 rintro _ w5 ⟨rfl, e4⟩
 have H6 := H3.ext e4
 refine ry (y_not rfl rfl) rfl rfl ?_
 refine reg_nil ?_
 refine fn_next ?_
 refine cw_condf rfl ?_
 refine cw_skip ?_
 refine fn_next ?_
 refine cw_seq ?_
 refine cw_reg ?_
 refine ry (y_mov rfl rfl) rfl rfl ?_
 refine ry (y_mov rfl rfl) rfl rfl ?_
 refine ry (y_mov rfl rfl) rfl rfl ?_
 refine reg_op (op_call (land_any a h 400 L A n cap _ ha hh (by decide) (hr.below H6.base) hl) rfl kflaw42b_2 ⟨rfl, rfl, rfl, rfl, trivial⟩) rfl rfl ?_
 rintro _ w8 ⟨rfl, e7⟩
 have H9 := H6.ext e7
 refine ry (y_mov rfl rfl) rfl rfl ?_
 refine ry (y_ext rfl rfl rfl) rfl rfl ?_
 refine ry (y_ext rfl rfl rfl) rfl rfl ?_
 refine reg_op (op_alloc H9 rfl kflaw42b_3) rfl rfl ?_
 rintro _ w11 ⟨b10, rfl, H12⟩
 refine reg_op (op_st (i := 0) (vs := [.int _ _, .int _ _, .slice _ _ _]) H12 rfl rfl rfl rfl rfl kflaw42b_4 rfl rfl rfl) rfl rfl ?_
 rintro _ w13 H14
 refine ry (y_asg rfl rfl) rfl rfl ?_
 refine reg_nil ?_
 refine fn_next ?_
 refine cw_seq ?_
 refine cw_seq ?_
 refine cw_reg ?_
 refine ry (y_mov rfl rfl) rfl rfl ?_
 refine ry (y_notd rfl rfl) rfl rfl ?_
 refine ry (y_mov rfl rfl) rfl rfl ?_
 refine rg_splitd (d := 33) rfl (fun h15 => ?_) (fun h15 => ?_)
 ·skip
  refine rg_off rfl rfl rfl rfl rfl ?_
  refine rg_off rfl rfl rfl rfl rfl ?_
  refine rg_off rfl rfl rfl rfl rfl ?_
  refine rg_offu rfl rfl rfl rfl ?_
  refine rg_offu rfl rfl rfl rfl ?_
  refine rg_off rfl rfl rfl rfl rfl ?_
  refine rg_off rfl rfl rfl rfl rfl ?_
  refine rg_offu rfl rfl rfl rfl ?_
  refine rg_offu rfl rfl rfl rfl ?_
  refine rg_offu rfl rfl rfl rfl ?_
  refine rg_offu rfl rfl rfl rfl ?_
  refine rg_off rfl rfl rfl rfl rfl ?_
  refine rg_off rfl rfl rfl rfl rfl ?_
  refine rg_offu rfl rfl rfl rfl ?_
  refine rg_offu rfl rfl rfl rfl ?_
  refine rg_offu rfl rfl rfl rfl ?_
  refine rg_offu rfl rfl rfl rfl ?_
  refine rg_off rfl rfl rfl rfl rfl ?_
  refine ry (y_pick rfl rfl rfl) rfl rfl ?_
  refine reg_nil ?_
  refine fn_next ?_
  refine cw_condt rfl ?_
  refine cw_seq ?_
  refine cw_reg ?_
  refine ry (y_asg rfl rfl) rfl rfl ?_
  refine reg_nil ?_
  refine fn_next ?_
  refine cw_ret ?_
  refine fn_then_ret ?_
  refine fn_ret1 rfl rfl ?_
  exact ⟨rfl, H14.base⟩
 · exact absurd (Classical.not_not.1 h15) hp

set_option maxRecDepth 100000 in
theorem turnCrops_skip (a h : Nat) (L : List Int) (A : Option Addr) (cap : Nat) (x0 y0 x1 y1 : Int) (k : Nat) (w : World) (h1 : 1 ≤ a) (h2 : a ≤ 400) (h3 : 1 ≤ h) (h4 : h ≤ 400) (h5 : a * h ≤ 400) (hr : Rd w A (vi .i64 L)) (hl : L.length = a * h) (hb : AllB L) (g1 : 16 < k) (g2 : k ≤ 1024) (g3 : a * k ≤ 1024) (g4 : h * k ≤ 1024) :
    Ret Try.prog 6 [.int .i64 (a : Int), .int .i64 (h : Int), .slice A (a * h) cap, .agg #[.int .i64 x0, .int .i64 y0, .int .i64 x1, .int .i64 y1], .int .i64 (k : Int)] w (fun z w' => z = .bool true ∧ Below w.heap.size w w') := by
 have s : SzG a h := ⟨h1, by omega, h3, by omega⟩
 refine ret_enter Try.func6 rfl rfl rfl ?_
 have H0 := HS.start w
 refine cw_seq ?_
 refine cw_reg ?_
 refine reg_op (op_box (cs := [.int _ _, .int _ _, .int _ _, .int _ _]) H0 rfl rfl rfl) rfl rfl ?_
 rintro _ w2 ⟨b1, rfl, H3⟩
 refine ry (y_asg rfl rfl) rfl rfl ?_
 refine reg_nil ?_
 refine fn_next ?_
 refine cw_seq ?_
 refine cw_seq ?_
 refine cw_reg ?_
 refine reg_op (op_call (turnAwake _) rfl kflaw42b_1 trivial) rfl rfl ?_
 rintro _ w5 ⟨rfl, e4⟩
 have H6 := H3.ext e4
 refine ry (y_not rfl rfl) rfl rfl ?_
 refine reg_nil ?_
 refine fn_next ?_
 refine cw_condf rfl ?_
 refine cw_skip ?_
 refine fn_next ?_
 refine cw_seq ?_
 refine cw_reg ?_
 refine ry (y_mov rfl rfl) rfl rfl ?_
 refine ry (y_mov rfl rfl) rfl rfl ?_
 refine ry (y_mov rfl rfl) rfl rfl ?_
 refine reg_op (op_call (land_ok a h 400 L A (a * h) cap _ h1 h2 h3 h4 h5 rfl hl hb (by decide) (hr.below H6.base)) rfl kflaw42b_2 ⟨rfl, rfl, rfl, rfl, trivial⟩) rfl rfl ?_
 rintro _ w8 ⟨rfl, e7⟩
 have H9 := H6.ext e7
 refine ry (y_mov rfl rfl) rfl rfl ?_
 refine ry (y_ext rfl rfl rfl) rfl rfl ?_
 refine ry (y_ext rfl rfl rfl) rfl rfl ?_
 refine reg_op (op_alloc H9 rfl kflaw42b_3) rfl rfl ?_
 rintro _ w11 ⟨b10, rfl, H12⟩
 refine reg_op (op_st (i := 0) (vs := [.int _ _, .int _ _, .slice _ _ _]) H12 rfl rfl rfl rfl rfl kflaw42b_4 rfl rfl rfl) rfl rfl ?_
 rintro _ w13 H14
 refine ry (y_asg rfl rfl) rfl rfl ?_
 refine reg_nil ?_
 refine fn_next ?_
 refine cw_seq ?_
 refine cw_seq ?_
 refine cw_reg ?_
 refine ry (y_mov rfl rfl) rfl rfl ?_
 refine ry (y_not rfl rfl) rfl rfl ?_
 refine ry (y_mov rfl rfl) rfl rfl ?_
 refine rgy (y_mov rfl rfl) rfl rfl rfl rfl ?_
 refine rgy (y_gtr rfl rfl rfl) rfl rfl rfl rfl ?_
 refine rgy (y_mov rfl rfl) rfl rfl rfl rfl ?_
 refine rg_splitd (d := 36) rfl (fun h15 => ?_) (fun h15 => ?_)
 ·skip
  refine rgy (y_mov rfl rfl) rfl rfl rfl rfl ?_
  refine rgy (y_leq rfl rfl rfl) rfl rfl rfl rfl ?_
  refine rgy (y_pick rfl rfl rfl) rfl rfl rfl rfl ?_
  refine rgy (y_mov rfl rfl) rfl rfl rfl rfl ?_
  refine rg_splitd (d := 40) rfl (fun h16 => ?_) (fun h16 => ?_)
  ·skip
   refine rgy (y_mov rfl rfl) rfl rfl rfl rfl ?_
   refine rgy (y_mov rfl rfl) rfl rfl rfl rfl ?_
   refine rgy (y_mul rfl rfl rfl (mulN (by omega))) rfl rfl rfl rfl ?_
   refine rgy (y_leq rfl rfl rfl) rfl rfl rfl rfl ?_
   refine rgy (y_pick rfl rfl rfl) rfl rfl rfl rfl ?_
   refine rgy (y_mov rfl rfl) rfl rfl rfl rfl ?_
   refine rg_splitd (d := 46) rfl (fun h17 => ?_) (fun h17 => ?_)
   ·skip
    refine rgy (y_mov rfl rfl) rfl rfl rfl rfl ?_
    refine rgy (y_mov rfl rfl) rfl rfl rfl rfl ?_
    refine rgy (y_mul rfl rfl rfl (mulN (by omega))) rfl rfl rfl rfl ?_
    refine rgy (y_leq rfl rfl rfl) rfl rfl rfl rfl ?_
    refine rgy (y_pick rfl rfl rfl) rfl rfl rfl rfl ?_
    refine ry (y_pick rfl rfl rfl) rfl rfl ?_
    refine reg_nil ?_
    refine fn_next ?_
    refine cw_condd rfl (fun h18 => ?_) (fun h18 => ?_)
    ·skip
     refine cw_seq ?_
     refine cw_reg ?_
     refine ry (y_asg rfl rfl) rfl rfl ?_
     refine reg_nil ?_
     refine fn_next ?_
     refine cw_ret ?_
     refine fn_then_ret ?_
     refine fn_ret1 rfl rfl ?_
     exact ⟨rfl, H14.base⟩
    · exfalso; omega
   · exfalso; omega
  · exfalso; omega
 · exfalso; omega

set_option maxRecDepth 100000 in
set_option maxHeartbeats 2000000 in
theorem turnCrops_no_arg (a h : Nat) (L : List Int) (A : Option Addr) (cap : Nat) (x0 y0 x1 y1 : Int) (k : Int) (w : World) (h1 : 1 ≤ a) (h2 : a ≤ 400) (h3 : 1 ≤ h) (h4 : h ≤ 400) (h5 : a * h ≤ 400) (hr : Rd w A (vi .i64 L)) (hl : L.length = a * h) (hb : AllB L) (hw : ¬ withinC x0 y0 x1 y1 a h = 0) (k1 : k < 1) :
    Ret Try.prog 6 [.int .i64 (a : Int), .int .i64 (h : Int), .slice A (a * h) cap, .agg #[.int .i64 x0, .int .i64 y0, .int .i64 x1, .int .i64 y1], .int .i64 (k : Int)] w (fun z w' => z = .bool true ∧ Below w.heap.size w w') := by
 have s : SzG a h := ⟨h1, by omega, h3, by omega⟩
 refine ret_enter Try.func6 rfl rfl rfl ?_
 have H0 := HS.start w
 refine cw_seq ?_
 refine cw_reg ?_
 refine reg_op (op_box (cs := [.int _ _, .int _ _, .int _ _, .int _ _]) H0 rfl rfl rfl) rfl rfl ?_
 rintro _ w2 ⟨b1, rfl, H3⟩
 refine ry (y_asg rfl rfl) rfl rfl ?_
 refine reg_nil ?_
 refine fn_next ?_
 refine cw_seq ?_
 refine cw_seq ?_
 refine cw_reg ?_
 refine reg_op (op_call (turnAwake _) rfl kflaw42b_1 trivial) rfl rfl ?_
 rintro _ w5 ⟨rfl, e4⟩
 have H6 := H3.ext e4
 refine ry (y_not rfl rfl) rfl rfl ?_
 refine reg_nil ?_
 refine fn_next ?_
 refine cw_condf rfl ?_
 refine cw_skip ?_
 refine fn_next ?_
 refine cw_seq ?_
 refine cw_reg ?_
 refine ry (y_mov rfl rfl) rfl rfl ?_
 refine ry (y_mov rfl rfl) rfl rfl ?_
 refine ry (y_mov rfl rfl) rfl rfl ?_
 refine reg_op (op_call (land_ok a h 400 L A (a * h) cap _ h1 h2 h3 h4 h5 rfl hl hb (by decide) (hr.below H6.base)) rfl kflaw42b_2 ⟨rfl, rfl, rfl, rfl, trivial⟩) rfl rfl ?_
 rintro _ w8 ⟨rfl, e7⟩
 have H9 := H6.ext e7
 refine ry (y_mov rfl rfl) rfl rfl ?_
 refine ry (y_ext rfl rfl rfl) rfl rfl ?_
 refine ry (y_ext rfl rfl rfl) rfl rfl ?_
 refine reg_op (op_alloc H9 rfl kflaw42b_3) rfl rfl ?_
 rintro _ w11 ⟨b10, rfl, H12⟩
 refine reg_op (op_st (i := 0) (vs := [.int _ _, .int _ _, .slice _ _ _]) H12 rfl rfl rfl rfl rfl kflaw42b_4 rfl rfl rfl) rfl rfl ?_
 rintro _ w13 H14
 refine ry (y_asg rfl rfl) rfl rfl ?_
 refine reg_nil ?_
 refine fn_next ?_
 refine cw_seq ?_
 refine cw_seq ?_
 refine cw_reg ?_
 refine ry (y_mov rfl rfl) rfl rfl ?_
 refine ry (y_not rfl rfl) rfl rfl ?_
 refine ry (y_mov rfl rfl) rfl rfl ?_
 refine rgy (y_mov rfl rfl) rfl rfl rfl rfl ?_
 refine rgy (y_gtr rfl rfl rfl) rfl rfl rfl rfl ?_
 refine rgy (y_mov rfl rfl) rfl rfl rfl rfl ?_
 refine rg_splitd (d := 36) rfl (fun h15 => ?_) (fun h15 => ?_)
 · exfalso; omega
 ·skip
  refine rg_off rfl rfl rfl rfl rfl ?_
  refine rg_off rfl rfl rfl rfl rfl ?_
  refine rgy (y_pick rfl rfl rfl) rfl rfl rfl rfl ?_
  refine rgy (y_mov rfl rfl) rfl rfl rfl rfl ?_
  refine rg_off rfl rfl rfl rfl rfl ?_
  refine rg_off rfl rfl rfl rfl rfl ?_
  refine rg_off rfl rfl rfl rfl rfl ?_
  refine rg_off rfl rfl rfl rfl rfl ?_
  refine rgy (y_pick rfl rfl rfl) rfl rfl rfl rfl ?_
  refine rgy (y_mov rfl rfl) rfl rfl rfl rfl ?_
  refine rg_off rfl rfl rfl rfl rfl ?_
  refine rg_off rfl rfl rfl rfl rfl ?_
  refine rg_off rfl rfl rfl rfl rfl ?_
  refine rg_off rfl rfl rfl rfl rfl ?_
  refine rgy (y_pick rfl rfl rfl) rfl rfl rfl rfl ?_
  refine ry (y_pick rfl rfl rfl) rfl rfl ?_
  refine reg_nil ?_
  refine fn_next ?_
  refine cw_condf rfl ?_
  refine cw_skip ?_
  refine fn_next ?_
  refine cw_seq ?_
  refine cw_reg ?_
  refine ry (y_mov rfl rfl) rfl rfl ?_
  refine ry (y_mov rfl rfl) rfl rfl ?_
  refine ry (y_mov rfl rfl) rfl rfl ?_
  refine reg_op (op_call (made_ok a h L A (a * h) cap _ s hl rfl hb (hr.below H14.base)) rfl kflaw42b_5 ⟨rfl, rfl, rfl, trivial⟩) rfl rfl ?_
  rintro _ w17 ⟨g19, bl20, rfl, k16⟩
  have H18 := H14.call k16
  refine ry (y_mov rfl rfl) rfl rfl ?_
  refine ry (y_ext rfl rfl rfl) rfl rfl ?_
  refine ry (y_ext rfl rfl rfl) rfl rfl ?_
  refine ry (y_asg rfl rfl) rfl rfl ?_
  refine ry (y_asg rfl rfl) rfl rfl ?_
  refine reg_nil ?_
  refine fn_next ?_
  refine cw_seq ?_
  refine cw_seq ?_
  refine cw_reg ?_
  refine ry (y_mov rfl rfl) rfl rfl ?_
  refine ry (y_not rfl rfl) rfl rfl ?_
  refine reg_nil ?_
  refine fn_next ?_
  refine cw_condf rfl ?_
  refine cw_skip ?_
  refine fn_next ?_
  refine cw_seq ?_
  refine cw_reg ?_
  refine ry (y_mov rfl rfl) rfl rfl ?_
  refine ry (y_ldb (i := 2) (cs := [_, _, _, _]) H18 rfl rfl kflaw42b_6 rfl rfl) rfl rfl ?_
  refine reg_op (op_call (gCrop_no g19 a h (L) x0 y0 x1 y1 _ (H18.rdg (i := 0) rfl) hw) rfl kflaw42b_7 ⟨rfl, rfl, trivial⟩) rfl rfl ?_
  rintro _ w22 ⟨rfl, e21⟩
  have H23 := H18.ext e21
  refine ry (y_mov rfl rfl) rfl rfl ?_
  refine ry (y_ext rfl rfl rfl) rfl rfl ?_
  refine ry (y_ext rfl rfl rfl) rfl rfl ?_
  refine ry (y_asg rfl rfl) rfl rfl ?_
  refine ry (y_asg rfl rfl) rfl rfl ?_
  refine reg_nil ?_
  refine fn_next ?_
  refine cw_seq ?_
  refine cw_reg ?_
  refine ry (y_ldb (i := 1) (cs := [_, _, _]) H23 rfl rfl kflaw42b_8 rfl rfl) rfl rfl ?_
  refine ry (y_ldb (i := 2) (cs := [_, _, _, _]) H23 rfl rfl kflaw42b_6 rfl rfl) rfl rfl ?_
  refine reg_op (op_call (mCrop_no a h A cap L x0 y0 x1 y1 _ s (hr.below H23.base) hl hw) rfl kflaw42b_9 ⟨rfl, rfl, trivial⟩) rfl rfl ?_
  rintro _ w25 ⟨rfl, e24⟩
  have H26 := H23.ext e24
  refine ry (y_mov rfl rfl) rfl rfl ?_
  refine ry (y_ext rfl rfl rfl) rfl rfl ?_
  refine ry (y_ext rfl rfl rfl) rfl rfl ?_
  refine reg_op (op_alloc H26 rfl kflaw42b_3) rfl rfl ?_
  rintro _ w28 ⟨b27, rfl, H29⟩
  refine reg_op (op_st (i := 0) (vs := [.int _ _, .int _ _, .slice _ _ _]) H29 rfl rfl rfl rfl rfl kflaw42b_4 rfl rfl rfl) rfl rfl ?_
  rintro _ w30 H31
  refine ry (y_asg rfl rfl) rfl rfl ?_
  refine reg_nil ?_
  refine fn_next ?_
  refine cw_seq ?_
  refine cw_reg ?_
  refine ry (y_mov rfl rfl) rfl rfl ?_
  refine ry (y_mov rfl rfl) rfl rfl ?_
  refine reg_op (op_call (gScale_arg g19 a h (L) k _ (H31.rdg (i := 1) rfl) k1) rfl kflaw42b_10 ⟨rfl, rfl, trivial⟩) rfl rfl ?_
  rintro _ w33 ⟨rfl, e32⟩
  have H34 := H31.ext e32
  refine ry (y_mov rfl rfl) rfl rfl ?_
  refine ry (y_ext rfl rfl rfl) rfl rfl ?_
  refine ry (y_ext rfl rfl rfl) rfl rfl ?_
  refine ry (y_asg rfl rfl) rfl rfl ?_
  refine ry (y_asg rfl rfl) rfl rfl ?_
  refine reg_nil ?_
  refine fn_next ?_
  refine cw_seq ?_
  refine cw_reg ?_
  refine ry (y_ldb (i := 2) (cs := [_, _, _]) H34 rfl rfl kflaw42b_8 rfl rfl) rfl rfl ?_
  refine ry (y_mov rfl rfl) rfl rfl ?_
  refine reg_op (op_call (mScale_arg a h A cap L k _ s (hr.below H34.base) hl k1) rfl kflaw42b_11 ⟨rfl, rfl, trivial⟩) rfl rfl ?_
  rintro _ w36 ⟨rfl, e35⟩
  have H37 := H34.ext e35
  refine ry (y_mov rfl rfl) rfl rfl ?_
  refine ry (y_ext rfl rfl rfl) rfl rfl ?_
  refine ry (y_ext rfl rfl rfl) rfl rfl ?_
  refine reg_op (op_alloc H37 rfl kflaw42b_3) rfl rfl ?_
  rintro _ w39 ⟨b38, rfl, H40⟩
  refine reg_op (op_st (i := 0) (vs := [.int _ _, .int _ _, .slice _ _ _]) H40 rfl rfl rfl rfl rfl kflaw42b_4 rfl rfl rfl) rfl rfl ?_
  rintro _ w41 H42
  refine ry (y_asg rfl rfl) rfl rfl ?_
  refine reg_nil ?_
  refine fn_next ?_
  refine cw_seq ?_
  refine cw_seq ?_
  refine cw_reg ?_
  refine ry (y_mov rfl rfl) rfl rfl ?_
  refine ry (y_mov rfl rfl) rfl rfl ?_
  refine ry (yv (congrArg Value.bool (decide_eq_false (fun e => e rfl))) (y_neq rfl rfl rfl)) rfl rfl ?_
  refine ry (y_mov rfl rfl) rfl rfl ?_
  refine rgy (y_mov rfl rfl) rfl rfl rfl rfl ?_
  refine rgy (y_mov rfl rfl) rfl rfl rfl rfl ?_
  refine rgy (y_neq rfl rfl rfl) rfl rfl rfl rfl ?_
  refine ry (y_pick rfl rfl rfl) rfl rfl ?_
  refine ry (y_mov rfl rfl) rfl rfl ?_
  refine rgy (y_mov rfl rfl) rfl rfl rfl rfl ?_
  refine rgy (y_peqlnil rfl Try.underlying28 rfl rfl) rfl rfl rfl rfl ?_
  refine rgy (y_mov rfl rfl) rfl rfl rfl rfl ?_
  refine rgy (yv (congrArg Value.bool (decide_eq_true (hw))) (y_neq rfl rfl rfl)) rfl rfl rfl rfl ?_
  refine rgy (y_bneq rfl Try.underlying4 rfl rfl) rfl rfl rfl rfl ?_
  refine ry (y_pick rfl rfl rfl) rfl rfl ?_
  refine ry (y_mov rfl rfl) rfl rfl ?_
  refine rgy (y_mov rfl rfl) rfl rfl rfl rfl ?_
  refine rgy (y_peqlnil rfl Try.underlying28 rfl rfl) rfl rfl rfl rfl ?_
  refine rgy (y_mov rfl rfl) rfl rfl rfl rfl ?_
  refine rgy (y_neq rfl rfl rfl) rfl rfl rfl rfl ?_
  refine rgy (y_bneq rfl Try.underlying4 rfl rfl) rfl rfl rfl rfl ?_
  refine ry (y_pick rfl rfl rfl) rfl rfl ?_
  refine reg_nil ?_
  refine fn_next ?_
  refine cw_condf rfl ?_
  refine cw_skip ?_
  refine fn_next ?_
  refine cw_seq ?_
  refine cw_reg ?_
  refine ry (y_mov rfl rfl) rfl rfl ?_
  refine ry (yv (congrArg Value.bool (decide_eq_true (hw))) (y_neq rfl rfl rfl)) rfl rfl ?_
  refine ry (y_mov rfl rfl) rfl rfl ?_
  refine rg_off rfl rfl rfl rfl rfl ?_
  refine rg_off rfl rfl rfl rfl rfl ?_
  refine rg_off rfl rfl rfl rfl rfl ?_
  refine ry (y_pick rfl rfl rfl) rfl rfl ?_
  refine ry (y_mov rfl rfl) rfl rfl ?_
  refine rgy (y_mov rfl rfl) rfl rfl rfl rfl ?_
  refine rgy (y_neq rfl rfl rfl) rfl rfl rfl rfl ?_
  refine rgy (y_mov rfl rfl) rfl rfl rfl rfl ?_
  refine rg_off rfl rfl rfl rfl rfl ?_
  refine rg_off rfl rfl rfl rfl rfl ?_
  refine rg_off rfl rfl rfl rfl rfl ?_
  refine rgy (y_pick rfl rfl rfl) rfl rfl rfl rfl ?_
  refine ry (y_pick rfl rfl rfl) rfl rfl ?_
  refine ry (y_asg rfl rfl) rfl rfl ?_
  refine reg_nil ?_
  refine fn_next ?_
  refine cw_ret ?_
  refine fn_ret1 rfl rfl ?_
  exact ⟨rfl, H42.base⟩

set_option maxRecDepth 100000 in
set_option maxHeartbeats 2000000 in
theorem turnCrops_no_size (a h : Nat) (L : List Int) (A : Option Addr) (cap : Nat) (x0 y0 x1 y1 : Int) (k : Int) (w : World) (h1 : 1 ≤ a) (h2 : a ≤ 400) (h3 : 1 ≤ h) (h4 : h ≤ 400) (h5 : a * h ≤ 400) (hr : Rd w A (vi .i64 L)) (hl : L.length = a * h) (hb : AllB L) (hw : ¬ withinC x0 y0 x1 y1 a h = 0) (k1 : 1 ≤ k) (k2 : ¬ ((a : Int) * k ≤ 1024 ∧ (h : Int) * k ≤ 1024)) :
    Ret Try.prog 6 [.int .i64 (a : Int), .int .i64 (h : Int), .slice A (a * h) cap, .agg #[.int .i64 x0, .int .i64 y0, .int .i64 x1, .int .i64 y1], .int .i64 (k : Int)] w (fun z w' => z = .bool true ∧ Below w.heap.size w w') := by
 have s : SzG a h := ⟨h1, by omega, h3, by omega⟩
 refine ret_enter Try.func6 rfl rfl rfl ?_
 have H0 := HS.start w
 refine cw_seq ?_
 refine cw_reg ?_
 refine reg_op (op_box (cs := [.int _ _, .int _ _, .int _ _, .int _ _]) H0 rfl rfl rfl) rfl rfl ?_
 rintro _ w2 ⟨b1, rfl, H3⟩
 refine ry (y_asg rfl rfl) rfl rfl ?_
 refine reg_nil ?_
 refine fn_next ?_
 refine cw_seq ?_
 refine cw_seq ?_
 refine cw_reg ?_
 refine reg_op (op_call (turnAwake _) rfl kflaw42b_1 trivial) rfl rfl ?_
 rintro _ w5 ⟨rfl, e4⟩
 have H6 := H3.ext e4
 refine ry (y_not rfl rfl) rfl rfl ?_
 refine reg_nil ?_
 refine fn_next ?_
 refine cw_condf rfl ?_
 refine cw_skip ?_
 refine fn_next ?_
 refine cw_seq ?_
 refine cw_reg ?_
 refine ry (y_mov rfl rfl) rfl rfl ?_
 refine ry (y_mov rfl rfl) rfl rfl ?_
 refine ry (y_mov rfl rfl) rfl rfl ?_
 refine reg_op (op_call (land_ok a h 400 L A (a * h) cap _ h1 h2 h3 h4 h5 rfl hl hb (by decide) (hr.below H6.base)) rfl kflaw42b_2 ⟨rfl, rfl, rfl, rfl, trivial⟩) rfl rfl ?_
 rintro _ w8 ⟨rfl, e7⟩
 have H9 := H6.ext e7
 refine ry (y_mov rfl rfl) rfl rfl ?_
 refine ry (y_ext rfl rfl rfl) rfl rfl ?_
 refine ry (y_ext rfl rfl rfl) rfl rfl ?_
 refine reg_op (op_alloc H9 rfl kflaw42b_3) rfl rfl ?_
 rintro _ w11 ⟨b10, rfl, H12⟩
 refine reg_op (op_st (i := 0) (vs := [.int _ _, .int _ _, .slice _ _ _]) H12 rfl rfl rfl rfl rfl kflaw42b_4 rfl rfl rfl) rfl rfl ?_
 rintro _ w13 H14
 refine ry (y_asg rfl rfl) rfl rfl ?_
 refine reg_nil ?_
 refine fn_next ?_
 refine cw_seq ?_
 refine cw_seq ?_
 refine cw_reg ?_
 refine ry (y_mov rfl rfl) rfl rfl ?_
 refine ry (y_not rfl rfl) rfl rfl ?_
 refine ry (y_mov rfl rfl) rfl rfl ?_
 refine rgy (y_mov rfl rfl) rfl rfl rfl rfl ?_
 refine rgy (y_gtr rfl rfl rfl) rfl rfl rfl rfl ?_
 refine rgy (y_mov rfl rfl) rfl rfl rfl rfl ?_
 refine rg_splitd (d := 36) rfl (fun h15 => ?_) (fun h15 => ?_)
 ·skip
  refine rgy (y_mov rfl rfl) rfl rfl rfl rfl ?_
  refine rgy (y_leq rfl rfl rfl) rfl rfl rfl rfl ?_
  refine rgy (y_pick rfl rfl rfl) rfl rfl rfl rfl ?_
  refine rgy (y_mov rfl rfl) rfl rfl rfl rfl ?_
  refine rg_splitd (d := 40) rfl (fun h16 => ?_) (fun h16 => ?_)
  ·skip
   refine rgy (y_mov rfl rfl) rfl rfl rfl rfl ?_
   refine rgy (y_mov rfl rfl) rfl rfl rfl rfl ?_
   refine rgy (y_mul rfl rfl rfl (wi (by have := mulb (a := a) (k := k) (by omega) (by omega); omega))) rfl rfl rfl rfl ?_
   refine rgy (y_leq rfl rfl rfl) rfl rfl rfl rfl ?_
   refine rgy (y_pick rfl rfl rfl) rfl rfl rfl rfl ?_
   refine rgy (y_mov rfl rfl) rfl rfl rfl rfl ?_
   refine rg_splitd (d := 46) rfl (fun h17 => ?_) (fun h17 => ?_)
   ·skip
    refine rgy (y_mov rfl rfl) rfl rfl rfl rfl ?_
    refine rgy (y_mov rfl rfl) rfl rfl rfl rfl ?_
    refine rgy (y_mul rfl rfl rfl (wi (by have := mulb (a := h) (k := k) (by omega) (by omega); omega))) rfl rfl rfl rfl ?_
    refine rgy (y_leq rfl rfl rfl) rfl rfl rfl rfl ?_
    refine rgy (y_pick rfl rfl rfl) rfl rfl rfl rfl ?_
    refine ry (y_pick rfl rfl rfl) rfl rfl ?_
    refine reg_nil ?_
    refine fn_next ?_
    refine cw_condd rfl (fun h18 => ?_) (fun h18 => ?_)
    · exfalso; omega
    ·skip
     refine cw_skip ?_
     refine fn_next ?_
     refine cw_seq ?_
     refine cw_reg ?_
     refine ry (y_mov rfl rfl) rfl rfl ?_
     refine ry (y_mov rfl rfl) rfl rfl ?_
     refine ry (y_mov rfl rfl) rfl rfl ?_
     refine reg_op (op_call (made_ok a h L A (a * h) cap _ s hl rfl hb (hr.below H14.base)) rfl kflaw42b_5 ⟨rfl, rfl, rfl, trivial⟩) rfl rfl ?_
     rintro _ w20 ⟨g22, bl23, rfl, k19⟩
     have H21 := H14.call k19
     refine ry (y_mov rfl rfl) rfl rfl ?_
     refine ry (y_ext rfl rfl rfl) rfl rfl ?_
     refine ry (y_ext rfl rfl rfl) rfl rfl ?_
     refine ry (y_asg rfl rfl) rfl rfl ?_
     refine ry (y_asg rfl rfl) rfl rfl ?_
     refine reg_nil ?_
     refine fn_next ?_
     refine cw_seq ?_
     refine cw_seq ?_
     refine cw_reg ?_
     refine ry (y_mov rfl rfl) rfl rfl ?_
     refine ry (y_not rfl rfl) rfl rfl ?_
     refine reg_nil ?_
     refine fn_next ?_
     refine cw_condf rfl ?_
     refine cw_skip ?_
     refine fn_next ?_
     refine cw_seq ?_
     refine cw_reg ?_
     refine ry (y_mov rfl rfl) rfl rfl ?_
     refine ry (y_ldb (i := 2) (cs := [_, _, _, _]) H21 rfl rfl kflaw42b_6 rfl rfl) rfl rfl ?_
     refine reg_op (op_call (gCrop_no g22 a h (L) x0 y0 x1 y1 _ (H21.rdg (i := 0) rfl) hw) rfl kflaw42b_7 ⟨rfl, rfl, trivial⟩) rfl rfl ?_
     rintro _ w25 ⟨rfl, e24⟩
     have H26 := H21.ext e24
     refine ry (y_mov rfl rfl) rfl rfl ?_
     refine ry (y_ext rfl rfl rfl) rfl rfl ?_
     refine ry (y_ext rfl rfl rfl) rfl rfl ?_
     refine ry (y_asg rfl rfl) rfl rfl ?_
     refine ry (y_asg rfl rfl) rfl rfl ?_
     refine reg_nil ?_
     refine fn_next ?_
     refine cw_seq ?_
     refine cw_reg ?_
     refine ry (y_ldb (i := 1) (cs := [_, _, _]) H26 rfl rfl kflaw42b_8 rfl rfl) rfl rfl ?_
     refine ry (y_ldb (i := 2) (cs := [_, _, _, _]) H26 rfl rfl kflaw42b_6 rfl rfl) rfl rfl ?_
     refine reg_op (op_call (mCrop_no a h A cap L x0 y0 x1 y1 _ s (hr.below H26.base) hl hw) rfl kflaw42b_9 ⟨rfl, rfl, trivial⟩) rfl rfl ?_
     rintro _ w28 ⟨rfl, e27⟩
     have H29 := H26.ext e27
     refine ry (y_mov rfl rfl) rfl rfl ?_
     refine ry (y_ext rfl rfl rfl) rfl rfl ?_
     refine ry (y_ext rfl rfl rfl) rfl rfl ?_
     refine reg_op (op_alloc H29 rfl kflaw42b_3) rfl rfl ?_
     rintro _ w31 ⟨b30, rfl, H32⟩
     refine reg_op (op_st (i := 0) (vs := [.int _ _, .int _ _, .slice _ _ _]) H32 rfl rfl rfl rfl rfl kflaw42b_4 rfl rfl rfl) rfl rfl ?_
     rintro _ w33 H34
     refine ry (y_asg rfl rfl) rfl rfl ?_
     refine reg_nil ?_
     refine fn_next ?_
     refine cw_seq ?_
     refine cw_reg ?_
     refine ry (y_mov rfl rfl) rfl rfl ?_
     refine ry (y_mov rfl rfl) rfl rfl ?_
     refine reg_op (op_call (gScale_size g22 a h (L) k _ (H34.rdg (i := 1) rfl) k1 k2) rfl kflaw42b_10 ⟨rfl, rfl, trivial⟩) rfl rfl ?_
     rintro _ w36 ⟨rfl, e35⟩
     have H37 := H34.ext e35
     refine ry (y_mov rfl rfl) rfl rfl ?_
     refine ry (y_ext rfl rfl rfl) rfl rfl ?_
     refine ry (y_ext rfl rfl rfl) rfl rfl ?_
     refine ry (y_asg rfl rfl) rfl rfl ?_
     refine ry (y_asg rfl rfl) rfl rfl ?_
     refine reg_nil ?_
     refine fn_next ?_
     refine cw_seq ?_
     refine cw_reg ?_
     refine ry (y_ldb (i := 2) (cs := [_, _, _]) H37 rfl rfl kflaw42b_8 rfl rfl) rfl rfl ?_
     refine ry (y_mov rfl rfl) rfl rfl ?_
     refine reg_op (op_call (mScale_size a h A cap L k _ s (hr.below H37.base) hl k1 k2) rfl kflaw42b_11 ⟨rfl, rfl, trivial⟩) rfl rfl ?_
     rintro _ w39 ⟨rfl, e38⟩
     have H40 := H37.ext e38
     refine ry (y_mov rfl rfl) rfl rfl ?_
     refine ry (y_ext rfl rfl rfl) rfl rfl ?_
     refine ry (y_ext rfl rfl rfl) rfl rfl ?_
     refine reg_op (op_alloc H40 rfl kflaw42b_3) rfl rfl ?_
     rintro _ w42 ⟨b41, rfl, H43⟩
     refine reg_op (op_st (i := 0) (vs := [.int _ _, .int _ _, .slice _ _ _]) H43 rfl rfl rfl rfl rfl kflaw42b_4 rfl rfl rfl) rfl rfl ?_
     rintro _ w44 H45
     refine ry (y_asg rfl rfl) rfl rfl ?_
     refine reg_nil ?_
     refine fn_next ?_
     refine cw_seq ?_
     refine cw_seq ?_
     refine cw_reg ?_
     refine ry (y_mov rfl rfl) rfl rfl ?_
     refine ry (y_mov rfl rfl) rfl rfl ?_
     refine ry (yv (congrArg Value.bool (decide_eq_false (fun e => e rfl))) (y_neq rfl rfl rfl)) rfl rfl ?_
     refine ry (y_mov rfl rfl) rfl rfl ?_
     refine rgy (y_mov rfl rfl) rfl rfl rfl rfl ?_
     refine rgy (y_mov rfl rfl) rfl rfl rfl rfl ?_
     refine rgy (y_neq rfl rfl rfl) rfl rfl rfl rfl ?_
     refine ry (y_pick rfl rfl rfl) rfl rfl ?_
     refine ry (y_mov rfl rfl) rfl rfl ?_
     refine rgy (y_mov rfl rfl) rfl rfl rfl rfl ?_
     refine rgy (y_peqlnil rfl Try.underlying28 rfl rfl) rfl rfl rfl rfl ?_
     refine rgy (y_mov rfl rfl) rfl rfl rfl rfl ?_
     refine rgy (yv (congrArg Value.bool (decide_eq_true (hw))) (y_neq rfl rfl rfl)) rfl rfl rfl rfl ?_
     refine rgy (y_bneq rfl Try.underlying4 rfl rfl) rfl rfl rfl rfl ?_
     refine ry (y_pick rfl rfl rfl) rfl rfl ?_
     refine ry (y_mov rfl rfl) rfl rfl ?_
     refine rgy (y_mov rfl rfl) rfl rfl rfl rfl ?_
     refine rgy (y_peqlnil rfl Try.underlying28 rfl rfl) rfl rfl rfl rfl ?_
     refine rgy (y_mov rfl rfl) rfl rfl rfl rfl ?_
     refine rgy (y_neq rfl rfl rfl) rfl rfl rfl rfl ?_
     refine rgy (y_bneq rfl Try.underlying4 rfl rfl) rfl rfl rfl rfl ?_
     refine ry (y_pick rfl rfl rfl) rfl rfl ?_
     refine reg_nil ?_
     refine fn_next ?_
     refine cw_condf rfl ?_
     refine cw_skip ?_
     refine fn_next ?_
     refine cw_seq ?_
     refine cw_reg ?_
     refine ry (y_mov rfl rfl) rfl rfl ?_
     refine ry (yv (congrArg Value.bool (decide_eq_true (hw))) (y_neq rfl rfl rfl)) rfl rfl ?_
     refine ry (y_mov rfl rfl) rfl rfl ?_
     refine rg_off rfl rfl rfl rfl rfl ?_
     refine rg_off rfl rfl rfl rfl rfl ?_
     refine rg_off rfl rfl rfl rfl rfl ?_
     refine ry (y_pick rfl rfl rfl) rfl rfl ?_
     refine ry (y_mov rfl rfl) rfl rfl ?_
     refine rgy (y_mov rfl rfl) rfl rfl rfl rfl ?_
     refine rgy (y_neq rfl rfl rfl) rfl rfl rfl rfl ?_
     refine rgy (y_mov rfl rfl) rfl rfl rfl rfl ?_
     refine rg_off rfl rfl rfl rfl rfl ?_
     refine rg_off rfl rfl rfl rfl rfl ?_
     refine rg_off rfl rfl rfl rfl rfl ?_
     refine rgy (y_pick rfl rfl rfl) rfl rfl rfl rfl ?_
     refine ry (y_pick rfl rfl rfl) rfl rfl ?_
     refine ry (y_asg rfl rfl) rfl rfl ?_
     refine reg_nil ?_
     refine fn_next ?_
     refine cw_ret ?_
     refine fn_ret1 rfl rfl ?_
     exact ⟨rfl, H45.base⟩
   ·skip
    refine rg_off rfl rfl rfl rfl rfl ?_
    refine rg_off rfl rfl rfl rfl rfl ?_
    refine rg_off rfl rfl rfl rfl rfl ?_
    refine rg_off rfl rfl rfl rfl rfl ?_
    refine rgy (y_pick rfl rfl rfl) rfl rfl rfl rfl ?_
    refine ry (y_pick rfl rfl rfl) rfl rfl ?_
    refine reg_nil ?_
    refine fn_next ?_
    refine cw_condf rfl ?_
    refine cw_skip ?_
    refine fn_next ?_
    refine cw_seq ?_
    refine cw_reg ?_
    refine ry (y_mov rfl rfl) rfl rfl ?_
    refine ry (y_mov rfl rfl) rfl rfl ?_
    refine ry (y_mov rfl rfl) rfl rfl ?_
    refine reg_op (op_call (made_ok a h L A (a * h) cap _ s hl rfl hb (hr.below H14.base)) rfl kflaw42b_5 ⟨rfl, rfl, rfl, trivial⟩) rfl rfl ?_
    rintro _ w47 ⟨g49, bl50, rfl, k46⟩
    have H48 := H14.call k46
    refine ry (y_mov rfl rfl) rfl rfl ?_
    refine ry (y_ext rfl rfl rfl) rfl rfl ?_
    refine ry (y_ext rfl rfl rfl) rfl rfl ?_
    refine ry (y_asg rfl rfl) rfl rfl ?_
    refine ry (y_asg rfl rfl) rfl rfl ?_
    refine reg_nil ?_
    refine fn_next ?_
    refine cw_seq ?_
    refine cw_seq ?_
    refine cw_reg ?_
    refine ry (y_mov rfl rfl) rfl rfl ?_
    refine ry (y_not rfl rfl) rfl rfl ?_
    refine reg_nil ?_
    refine fn_next ?_
    refine cw_condf rfl ?_
    refine cw_skip ?_
    refine fn_next ?_
    refine cw_seq ?_
    refine cw_reg ?_
    refine ry (y_mov rfl rfl) rfl rfl ?_
    refine ry (y_ldb (i := 2) (cs := [_, _, _, _]) H48 rfl rfl kflaw42b_6 rfl rfl) rfl rfl ?_
    refine reg_op (op_call (gCrop_no g49 a h (L) x0 y0 x1 y1 _ (H48.rdg (i := 0) rfl) hw) rfl kflaw42b_7 ⟨rfl, rfl, trivial⟩) rfl rfl ?_
    rintro _ w52 ⟨rfl, e51⟩
    have H53 := H48.ext e51
    refine ry (y_mov rfl rfl) rfl rfl ?_
    refine ry (y_ext rfl rfl rfl) rfl rfl ?_
    refine ry (y_ext rfl rfl rfl) rfl rfl ?_
    refine ry (y_asg rfl rfl) rfl rfl ?_
    refine ry (y_asg rfl rfl) rfl rfl ?_
    refine reg_nil ?_
    refine fn_next ?_
    refine cw_seq ?_
    refine cw_reg ?_
    refine ry (y_ldb (i := 1) (cs := [_, _, _]) H53 rfl rfl kflaw42b_8 rfl rfl) rfl rfl ?_
    refine ry (y_ldb (i := 2) (cs := [_, _, _, _]) H53 rfl rfl kflaw42b_6 rfl rfl) rfl rfl ?_
    refine reg_op (op_call (mCrop_no a h A cap L x0 y0 x1 y1 _ s (hr.below H53.base) hl hw) rfl kflaw42b_9 ⟨rfl, rfl, trivial⟩) rfl rfl ?_
    rintro _ w55 ⟨rfl, e54⟩
    have H56 := H53.ext e54
    refine ry (y_mov rfl rfl) rfl rfl ?_
    refine ry (y_ext rfl rfl rfl) rfl rfl ?_
    refine ry (y_ext rfl rfl rfl) rfl rfl ?_
    refine reg_op (op_alloc H56 rfl kflaw42b_3) rfl rfl ?_
    rintro _ w58 ⟨b57, rfl, H59⟩
    refine reg_op (op_st (i := 0) (vs := [.int _ _, .int _ _, .slice _ _ _]) H59 rfl rfl rfl rfl rfl kflaw42b_4 rfl rfl rfl) rfl rfl ?_
    rintro _ w60 H61
    refine ry (y_asg rfl rfl) rfl rfl ?_
    refine reg_nil ?_
    refine fn_next ?_
    refine cw_seq ?_
    refine cw_reg ?_
    refine ry (y_mov rfl rfl) rfl rfl ?_
    refine ry (y_mov rfl rfl) rfl rfl ?_
    refine reg_op (op_call (gScale_size g49 a h (L) k _ (H61.rdg (i := 1) rfl) k1 k2) rfl kflaw42b_10 ⟨rfl, rfl, trivial⟩) rfl rfl ?_
    rintro _ w63 ⟨rfl, e62⟩
    have H64 := H61.ext e62
    refine ry (y_mov rfl rfl) rfl rfl ?_
    refine ry (y_ext rfl rfl rfl) rfl rfl ?_
    refine ry (y_ext rfl rfl rfl) rfl rfl ?_
    refine ry (y_asg rfl rfl) rfl rfl ?_
    refine ry (y_asg rfl rfl) rfl rfl ?_
    refine reg_nil ?_
    refine fn_next ?_
    refine cw_seq ?_
    refine cw_reg ?_
    refine ry (y_ldb (i := 2) (cs := [_, _, _]) H64 rfl rfl kflaw42b_8 rfl rfl) rfl rfl ?_
    refine ry (y_mov rfl rfl) rfl rfl ?_
    refine reg_op (op_call (mScale_size a h A cap L k _ s (hr.below H64.base) hl k1 k2) rfl kflaw42b_11 ⟨rfl, rfl, trivial⟩) rfl rfl ?_
    rintro _ w66 ⟨rfl, e65⟩
    have H67 := H64.ext e65
    refine ry (y_mov rfl rfl) rfl rfl ?_
    refine ry (y_ext rfl rfl rfl) rfl rfl ?_
    refine ry (y_ext rfl rfl rfl) rfl rfl ?_
    refine reg_op (op_alloc H67 rfl kflaw42b_3) rfl rfl ?_
    rintro _ w69 ⟨b68, rfl, H70⟩
    refine reg_op (op_st (i := 0) (vs := [.int _ _, .int _ _, .slice _ _ _]) H70 rfl rfl rfl rfl rfl kflaw42b_4 rfl rfl rfl) rfl rfl ?_
    rintro _ w71 H72
    refine ry (y_asg rfl rfl) rfl rfl ?_
    refine reg_nil ?_
    refine fn_next ?_
    refine cw_seq ?_
    refine cw_seq ?_
    refine cw_reg ?_
    refine ry (y_mov rfl rfl) rfl rfl ?_
    refine ry (y_mov rfl rfl) rfl rfl ?_
    refine ry (yv (congrArg Value.bool (decide_eq_false (fun e => e rfl))) (y_neq rfl rfl rfl)) rfl rfl ?_
    refine ry (y_mov rfl rfl) rfl rfl ?_
    refine rgy (y_mov rfl rfl) rfl rfl rfl rfl ?_
    refine rgy (y_mov rfl rfl) rfl rfl rfl rfl ?_
    refine rgy (y_neq rfl rfl rfl) rfl rfl rfl rfl ?_
    refine ry (y_pick rfl rfl rfl) rfl rfl ?_
    refine ry (y_mov rfl rfl) rfl rfl ?_
    refine rgy (y_mov rfl rfl) rfl rfl rfl rfl ?_
    refine rgy (y_peqlnil rfl Try.underlying28 rfl rfl) rfl rfl rfl rfl ?_
    refine rgy (y_mov rfl rfl) rfl rfl rfl rfl ?_
    refine rgy (yv (congrArg Value.bool (decide_eq_true (hw))) (y_neq rfl rfl rfl)) rfl rfl rfl rfl ?_
    refine rgy (y_bneq rfl Try.underlying4 rfl rfl) rfl rfl rfl rfl ?_
    refine ry (y_pick rfl rfl rfl) rfl rfl ?_
    refine ry (y_mov rfl rfl) rfl rfl ?_
    refine rgy (y_mov rfl rfl) rfl rfl rfl rfl ?_
    refine rgy (y_peqlnil rfl Try.underlying28 rfl rfl) rfl rfl rfl rfl ?_
    refine rgy (y_mov rfl rfl) rfl rfl rfl rfl ?_
    refine rgy (y_neq rfl rfl rfl) rfl rfl rfl rfl ?_
    refine rgy (y_bneq rfl Try.underlying4 rfl rfl) rfl rfl rfl rfl ?_
    refine ry (y_pick rfl rfl rfl) rfl rfl ?_
    refine reg_nil ?_
    refine fn_next ?_
    refine cw_condf rfl ?_
    refine cw_skip ?_
    refine fn_next ?_
    refine cw_seq ?_
    refine cw_reg ?_
    refine ry (y_mov rfl rfl) rfl rfl ?_
    refine ry (yv (congrArg Value.bool (decide_eq_true (hw))) (y_neq rfl rfl rfl)) rfl rfl ?_
    refine ry (y_mov rfl rfl) rfl rfl ?_
    refine rg_off rfl rfl rfl rfl rfl ?_
    refine rg_off rfl rfl rfl rfl rfl ?_
    refine rg_off rfl rfl rfl rfl rfl ?_
    refine ry (y_pick rfl rfl rfl) rfl rfl ?_
    refine ry (y_mov rfl rfl) rfl rfl ?_
    refine rgy (y_mov rfl rfl) rfl rfl rfl rfl ?_
    refine rgy (y_neq rfl rfl rfl) rfl rfl rfl rfl ?_
    refine rgy (y_mov rfl rfl) rfl rfl rfl rfl ?_
    refine rg_off rfl rfl rfl rfl rfl ?_
    refine rg_off rfl rfl rfl rfl rfl ?_
    refine rg_off rfl rfl rfl rfl rfl ?_
    refine rgy (y_pick rfl rfl rfl) rfl rfl rfl rfl ?_
    refine ry (y_pick rfl rfl rfl) rfl rfl ?_
    refine ry (y_asg rfl rfl) rfl rfl ?_
    refine reg_nil ?_
    refine fn_next ?_
    refine cw_ret ?_
    refine fn_ret1 rfl rfl ?_
    exact ⟨rfl, H72.base⟩
  ·skip
   refine rg_off rfl rfl rfl rfl rfl ?_
   refine rg_off rfl rfl rfl rfl rfl ?_
   refine rg_off rfl rfl rfl rfl rfl ?_
   refine rg_off rfl rfl rfl rfl rfl ?_
   refine rgy (y_pick rfl rfl rfl) rfl rfl rfl rfl ?_
   refine rgy (y_mov rfl rfl) rfl rfl rfl rfl ?_
   refine rg_off rfl rfl rfl rfl rfl ?_
   refine rg_off rfl rfl rfl rfl rfl ?_
   refine rg_off rfl rfl rfl rfl rfl ?_
   refine rg_off rfl rfl rfl rfl rfl ?_
   refine rgy (y_pick rfl rfl rfl) rfl rfl rfl rfl ?_
   refine ry (y_pick rfl rfl rfl) rfl rfl ?_
   refine reg_nil ?_
   refine fn_next ?_
   refine cw_condf rfl ?_
   refine cw_skip ?_
   refine fn_next ?_
   refine cw_seq ?_
   refine cw_reg ?_
   refine ry (y_mov rfl rfl) rfl rfl ?_
   refine ry (y_mov rfl rfl) rfl rfl ?_
   refine ry (y_mov rfl rfl) rfl rfl ?_
   refine reg_op (op_call (made_ok a h L A (a * h) cap _ s hl rfl hb (hr.below H14.base)) rfl kflaw42b_5 ⟨rfl, rfl, rfl, trivial⟩) rfl rfl ?_
   rintro _ w74 ⟨g76, bl77, rfl, k73⟩
   have H75 := H14.call k73
   refine ry (y_mov rfl rfl) rfl rfl ?_
   refine ry (y_ext rfl rfl rfl) rfl rfl ?_
   refine ry (y_ext rfl rfl rfl) rfl rfl ?_
   refine ry (y_asg rfl rfl) rfl rfl ?_
   refine ry (y_asg rfl rfl) rfl rfl ?_
   refine reg_nil ?_
   refine fn_next ?_
   refine cw_seq ?_
   refine cw_seq ?_
   refine cw_reg ?_
   refine ry (y_mov rfl rfl) rfl rfl ?_
   refine ry (y_not rfl rfl) rfl rfl ?_
   refine reg_nil ?_
   refine fn_next ?_
   refine cw_condf rfl ?_
   refine cw_skip ?_
   refine fn_next ?_
   refine cw_seq ?_
   refine cw_reg ?_
   refine ry (y_mov rfl rfl) rfl rfl ?_
   refine ry (y_ldb (i := 2) (cs := [_, _, _, _]) H75 rfl rfl kflaw42b_6 rfl rfl) rfl rfl ?_
   refine reg_op (op_call (gCrop_no g76 a h (L) x0 y0 x1 y1 _ (H75.rdg (i := 0) rfl) hw) rfl kflaw42b_7 ⟨rfl, rfl, trivial⟩) rfl rfl ?_
   rintro _ w79 ⟨rfl, e78⟩
   have H80 := H75.ext e78
   refine ry (y_mov rfl rfl) rfl rfl ?_
   refine ry (y_ext rfl rfl rfl) rfl rfl ?_
   refine ry (y_ext rfl rfl rfl) rfl rfl ?_
   refine ry (y_asg rfl rfl) rfl rfl ?_
   refine ry (y_asg rfl rfl) rfl rfl ?_
   refine reg_nil ?_
   refine fn_next ?_
   refine cw_seq ?_
   refine cw_reg ?_
   refine ry (y_ldb (i := 1) (cs := [_, _, _]) H80 rfl rfl kflaw42b_8 rfl rfl) rfl rfl ?_
   refine ry (y_ldb (i := 2) (cs := [_, _, _, _]) H80 rfl rfl kflaw42b_6 rfl rfl) rfl rfl ?_
   refine reg_op (op_call (mCrop_no a h A cap L x0 y0 x1 y1 _ s (hr.below H80.base) hl hw) rfl kflaw42b_9 ⟨rfl, rfl, trivial⟩) rfl rfl ?_
   rintro _ w82 ⟨rfl, e81⟩
   have H83 := H80.ext e81
   refine ry (y_mov rfl rfl) rfl rfl ?_
   refine ry (y_ext rfl rfl rfl) rfl rfl ?_
   refine ry (y_ext rfl rfl rfl) rfl rfl ?_
   refine reg_op (op_alloc H83 rfl kflaw42b_3) rfl rfl ?_
   rintro _ w85 ⟨b84, rfl, H86⟩
   refine reg_op (op_st (i := 0) (vs := [.int _ _, .int _ _, .slice _ _ _]) H86 rfl rfl rfl rfl rfl kflaw42b_4 rfl rfl rfl) rfl rfl ?_
   rintro _ w87 H88
   refine ry (y_asg rfl rfl) rfl rfl ?_
   refine reg_nil ?_
   refine fn_next ?_
   refine cw_seq ?_
   refine cw_reg ?_
   refine ry (y_mov rfl rfl) rfl rfl ?_
   refine ry (y_mov rfl rfl) rfl rfl ?_
   refine reg_op (op_call (gScale_size g76 a h (L) k _ (H88.rdg (i := 1) rfl) k1 k2) rfl kflaw42b_10 ⟨rfl, rfl, trivial⟩) rfl rfl ?_
   rintro _ w90 ⟨rfl, e89⟩
   have H91 := H88.ext e89
   refine ry (y_mov rfl rfl) rfl rfl ?_
   refine ry (y_ext rfl rfl rfl) rfl rfl ?_
   refine ry (y_ext rfl rfl rfl) rfl rfl ?_
   refine ry (y_asg rfl rfl) rfl rfl ?_
   refine ry (y_asg rfl rfl) rfl rfl ?_
   refine reg_nil ?_
   refine fn_next ?_
   refine cw_seq ?_
   refine cw_reg ?_
   refine ry (y_ldb (i := 2) (cs := [_, _, _]) H91 rfl rfl kflaw42b_8 rfl rfl) rfl rfl ?_
   refine ry (y_mov rfl rfl) rfl rfl ?_
   refine reg_op (op_call (mScale_size a h A cap L k _ s (hr.below H91.base) hl k1 k2) rfl kflaw42b_11 ⟨rfl, rfl, trivial⟩) rfl rfl ?_
   rintro _ w93 ⟨rfl, e92⟩
   have H94 := H91.ext e92
   refine ry (y_mov rfl rfl) rfl rfl ?_
   refine ry (y_ext rfl rfl rfl) rfl rfl ?_
   refine ry (y_ext rfl rfl rfl) rfl rfl ?_
   refine reg_op (op_alloc H94 rfl kflaw42b_3) rfl rfl ?_
   rintro _ w96 ⟨b95, rfl, H97⟩
   refine reg_op (op_st (i := 0) (vs := [.int _ _, .int _ _, .slice _ _ _]) H97 rfl rfl rfl rfl rfl kflaw42b_4 rfl rfl rfl) rfl rfl ?_
   rintro _ w98 H99
   refine ry (y_asg rfl rfl) rfl rfl ?_
   refine reg_nil ?_
   refine fn_next ?_
   refine cw_seq ?_
   refine cw_seq ?_
   refine cw_reg ?_
   refine ry (y_mov rfl rfl) rfl rfl ?_
   refine ry (y_mov rfl rfl) rfl rfl ?_
   refine ry (yv (congrArg Value.bool (decide_eq_false (fun e => e rfl))) (y_neq rfl rfl rfl)) rfl rfl ?_
   refine ry (y_mov rfl rfl) rfl rfl ?_
   refine rgy (y_mov rfl rfl) rfl rfl rfl rfl ?_
   refine rgy (y_mov rfl rfl) rfl rfl rfl rfl ?_
   refine rgy (y_neq rfl rfl rfl) rfl rfl rfl rfl ?_
   refine ry (y_pick rfl rfl rfl) rfl rfl ?_
   refine ry (y_mov rfl rfl) rfl rfl ?_
   refine rgy (y_mov rfl rfl) rfl rfl rfl rfl ?_
   refine rgy (y_peqlnil rfl Try.underlying28 rfl rfl) rfl rfl rfl rfl ?_
   refine rgy (y_mov rfl rfl) rfl rfl rfl rfl ?_
   refine rgy (yv (congrArg Value.bool (decide_eq_true (hw))) (y_neq rfl rfl rfl)) rfl rfl rfl rfl ?_
   refine rgy (y_bneq rfl Try.underlying4 rfl rfl) rfl rfl rfl rfl ?_
   refine ry (y_pick rfl rfl rfl) rfl rfl ?_
   refine ry (y_mov rfl rfl) rfl rfl ?_
   refine rgy (y_mov rfl rfl) rfl rfl rfl rfl ?_
   refine rgy (y_peqlnil rfl Try.underlying28 rfl rfl) rfl rfl rfl rfl ?_
   refine rgy (y_mov rfl rfl) rfl rfl rfl rfl ?_
   refine rgy (y_neq rfl rfl rfl) rfl rfl rfl rfl ?_
   refine rgy (y_bneq rfl Try.underlying4 rfl rfl) rfl rfl rfl rfl ?_
   refine ry (y_pick rfl rfl rfl) rfl rfl ?_
   refine reg_nil ?_
   refine fn_next ?_
   refine cw_condf rfl ?_
   refine cw_skip ?_
   refine fn_next ?_
   refine cw_seq ?_
   refine cw_reg ?_
   refine ry (y_mov rfl rfl) rfl rfl ?_
   refine ry (yv (congrArg Value.bool (decide_eq_true (hw))) (y_neq rfl rfl rfl)) rfl rfl ?_
   refine ry (y_mov rfl rfl) rfl rfl ?_
   refine rg_off rfl rfl rfl rfl rfl ?_
   refine rg_off rfl rfl rfl rfl rfl ?_
   refine rg_off rfl rfl rfl rfl rfl ?_
   refine ry (y_pick rfl rfl rfl) rfl rfl ?_
   refine ry (y_mov rfl rfl) rfl rfl ?_
   refine rgy (y_mov rfl rfl) rfl rfl rfl rfl ?_
   refine rgy (y_neq rfl rfl rfl) rfl rfl rfl rfl ?_
   refine rgy (y_mov rfl rfl) rfl rfl rfl rfl ?_
   refine rg_off rfl rfl rfl rfl rfl ?_
   refine rg_off rfl rfl rfl rfl rfl ?_
   refine rg_off rfl rfl rfl rfl rfl ?_
   refine rgy (y_pick rfl rfl rfl) rfl rfl rfl rfl ?_
   refine ry (y_pick rfl rfl rfl) rfl rfl ?_
   refine ry (y_asg rfl rfl) rfl rfl ?_
   refine reg_nil ?_
   refine fn_next ?_
   refine cw_ret ?_
   refine fn_ret1 rfl rfl ?_
   exact ⟨rfl, H99.base⟩
 ·skip
  refine rg_off rfl rfl rfl rfl rfl ?_
  refine rg_off rfl rfl rfl rfl rfl ?_
  refine rgy (y_pick rfl rfl rfl) rfl rfl rfl rfl ?_
  refine rgy (y_mov rfl rfl) rfl rfl rfl rfl ?_
  refine rg_off rfl rfl rfl rfl rfl ?_
  refine rg_off rfl rfl rfl rfl rfl ?_
  refine rg_off rfl rfl rfl rfl rfl ?_
  refine rg_off rfl rfl rfl rfl rfl ?_
  refine rgy (y_pick rfl rfl rfl) rfl rfl rfl rfl ?_
  refine rgy (y_mov rfl rfl) rfl rfl rfl rfl ?_
  refine rg_off rfl rfl rfl rfl rfl ?_
  refine rg_off rfl rfl rfl rfl rfl ?_
  refine rg_off rfl rfl rfl rfl rfl ?_
  refine rg_off rfl rfl rfl rfl rfl ?_
  refine rgy (y_pick rfl rfl rfl) rfl rfl rfl rfl ?_
  refine ry (y_pick rfl rfl rfl) rfl rfl ?_
  refine reg_nil ?_
  refine fn_next ?_
  refine cw_condf rfl ?_
  refine cw_skip ?_
  refine fn_next ?_
  refine cw_seq ?_
  refine cw_reg ?_
  refine ry (y_mov rfl rfl) rfl rfl ?_
  refine ry (y_mov rfl rfl) rfl rfl ?_
  refine ry (y_mov rfl rfl) rfl rfl ?_
  refine reg_op (op_call (made_ok a h L A (a * h) cap _ s hl rfl hb (hr.below H14.base)) rfl kflaw42b_5 ⟨rfl, rfl, rfl, trivial⟩) rfl rfl ?_
  rintro _ w101 ⟨g103, bl104, rfl, k100⟩
  have H102 := H14.call k100
  refine ry (y_mov rfl rfl) rfl rfl ?_
  refine ry (y_ext rfl rfl rfl) rfl rfl ?_
  refine ry (y_ext rfl rfl rfl) rfl rfl ?_
  refine ry (y_asg rfl rfl) rfl rfl ?_
  refine ry (y_asg rfl rfl) rfl rfl ?_
  refine reg_nil ?_
  refine fn_next ?_
  refine cw_seq ?_
  refine cw_seq ?_
  refine cw_reg ?_
  refine ry (y_mov rfl rfl) rfl rfl ?_
  refine ry (y_not rfl rfl) rfl rfl ?_
  refine reg_nil ?_
  refine fn_next ?_
  refine cw_condf rfl ?_
  refine cw_skip ?_
  refine fn_next ?_
  refine cw_seq ?_
  refine cw_reg ?_
  refine ry (y_mov rfl rfl) rfl rfl ?_
  refine ry (y_ldb (i := 2) (cs := [_, _, _, _]) H102 rfl rfl kflaw42b_6 rfl rfl) rfl rfl ?_
  refine reg_op (op_call (gCrop_no g103 a h (L) x0 y0 x1 y1 _ (H102.rdg (i := 0) rfl) hw) rfl kflaw42b_7 ⟨rfl, rfl, trivial⟩) rfl rfl ?_
  rintro _ w106 ⟨rfl, e105⟩
  have H107 := H102.ext e105
  refine ry (y_mov rfl rfl) rfl rfl ?_
  refine ry (y_ext rfl rfl rfl) rfl rfl ?_
  refine ry (y_ext rfl rfl rfl) rfl rfl ?_
  refine ry (y_asg rfl rfl) rfl rfl ?_
  refine ry (y_asg rfl rfl) rfl rfl ?_
  refine reg_nil ?_
  refine fn_next ?_
  refine cw_seq ?_
  refine cw_reg ?_
  refine ry (y_ldb (i := 1) (cs := [_, _, _]) H107 rfl rfl kflaw42b_8 rfl rfl) rfl rfl ?_
  refine ry (y_ldb (i := 2) (cs := [_, _, _, _]) H107 rfl rfl kflaw42b_6 rfl rfl) rfl rfl ?_
  refine reg_op (op_call (mCrop_no a h A cap L x0 y0 x1 y1 _ s (hr.below H107.base) hl hw) rfl kflaw42b_9 ⟨rfl, rfl, trivial⟩) rfl rfl ?_
  rintro _ w109 ⟨rfl, e108⟩
  have H110 := H107.ext e108
  refine ry (y_mov rfl rfl) rfl rfl ?_
  refine ry (y_ext rfl rfl rfl) rfl rfl ?_
  refine ry (y_ext rfl rfl rfl) rfl rfl ?_
  refine reg_op (op_alloc H110 rfl kflaw42b_3) rfl rfl ?_
  rintro _ w112 ⟨b111, rfl, H113⟩
  refine reg_op (op_st (i := 0) (vs := [.int _ _, .int _ _, .slice _ _ _]) H113 rfl rfl rfl rfl rfl kflaw42b_4 rfl rfl rfl) rfl rfl ?_
  rintro _ w114 H115
  refine ry (y_asg rfl rfl) rfl rfl ?_
  refine reg_nil ?_
  refine fn_next ?_
  refine cw_seq ?_
  refine cw_reg ?_
  refine ry (y_mov rfl rfl) rfl rfl ?_
  refine ry (y_mov rfl rfl) rfl rfl ?_
  refine reg_op (op_call (gScale_size g103 a h (L) k _ (H115.rdg (i := 1) rfl) k1 k2) rfl kflaw42b_10 ⟨rfl, rfl, trivial⟩) rfl rfl ?_
  rintro _ w117 ⟨rfl, e116⟩
  have H118 := H115.ext e116
  refine ry (y_mov rfl rfl) rfl rfl ?_
  refine ry (y_ext rfl rfl rfl) rfl rfl ?_
  refine ry (y_ext rfl rfl rfl) rfl rfl ?_
  refine ry (y_asg rfl rfl) rfl rfl ?_
  refine ry (y_asg rfl rfl) rfl rfl ?_
  refine reg_nil ?_
  refine fn_next ?_
  refine cw_seq ?_
  refine cw_reg ?_
  refine ry (y_ldb (i := 2) (cs := [_, _, _]) H118 rfl rfl kflaw42b_8 rfl rfl) rfl rfl ?_
  refine ry (y_mov rfl rfl) rfl rfl ?_
  refine reg_op (op_call (mScale_size a h A cap L k _ s (hr.below H118.base) hl k1 k2) rfl kflaw42b_11 ⟨rfl, rfl, trivial⟩) rfl rfl ?_
  rintro _ w120 ⟨rfl, e119⟩
  have H121 := H118.ext e119
  refine ry (y_mov rfl rfl) rfl rfl ?_
  refine ry (y_ext rfl rfl rfl) rfl rfl ?_
  refine ry (y_ext rfl rfl rfl) rfl rfl ?_
  refine reg_op (op_alloc H121 rfl kflaw42b_3) rfl rfl ?_
  rintro _ w123 ⟨b122, rfl, H124⟩
  refine reg_op (op_st (i := 0) (vs := [.int _ _, .int _ _, .slice _ _ _]) H124 rfl rfl rfl rfl rfl kflaw42b_4 rfl rfl rfl) rfl rfl ?_
  rintro _ w125 H126
  refine ry (y_asg rfl rfl) rfl rfl ?_
  refine reg_nil ?_
  refine fn_next ?_
  refine cw_seq ?_
  refine cw_seq ?_
  refine cw_reg ?_
  refine ry (y_mov rfl rfl) rfl rfl ?_
  refine ry (y_mov rfl rfl) rfl rfl ?_
  refine ry (yv (congrArg Value.bool (decide_eq_false (fun e => e rfl))) (y_neq rfl rfl rfl)) rfl rfl ?_
  refine ry (y_mov rfl rfl) rfl rfl ?_
  refine rgy (y_mov rfl rfl) rfl rfl rfl rfl ?_
  refine rgy (y_mov rfl rfl) rfl rfl rfl rfl ?_
  refine rgy (y_neq rfl rfl rfl) rfl rfl rfl rfl ?_
  refine ry (y_pick rfl rfl rfl) rfl rfl ?_
  refine ry (y_mov rfl rfl) rfl rfl ?_
  refine rgy (y_mov rfl rfl) rfl rfl rfl rfl ?_
  refine rgy (y_peqlnil rfl Try.underlying28 rfl rfl) rfl rfl rfl rfl ?_
  refine rgy (y_mov rfl rfl) rfl rfl rfl rfl ?_
  refine rgy (yv (congrArg Value.bool (decide_eq_true (hw))) (y_neq rfl rfl rfl)) rfl rfl rfl rfl ?_
  refine rgy (y_bneq rfl Try.underlying4 rfl rfl) rfl rfl rfl rfl ?_
  refine ry (y_pick rfl rfl rfl) rfl rfl ?_
  refine ry (y_mov rfl rfl) rfl rfl ?_
  refine rgy (y_mov rfl rfl) rfl rfl rfl rfl ?_
  refine rgy (y_peqlnil rfl Try.underlying28 rfl rfl) rfl rfl rfl rfl ?_
  refine rgy (y_mov rfl rfl) rfl rfl rfl rfl ?_
  refine rgy (y_neq rfl rfl rfl) rfl rfl rfl rfl ?_
  refine rgy (y_bneq rfl Try.underlying4 rfl rfl) rfl rfl rfl rfl ?_
  refine ry (y_pick rfl rfl rfl) rfl rfl ?_
  refine reg_nil ?_
  refine fn_next ?_
  refine cw_condf rfl ?_
  refine cw_skip ?_
  refine fn_next ?_
  refine cw_seq ?_
  refine cw_reg ?_
  refine ry (y_mov rfl rfl) rfl rfl ?_
  refine ry (yv (congrArg Value.bool (decide_eq_true (hw))) (y_neq rfl rfl rfl)) rfl rfl ?_
  refine ry (y_mov rfl rfl) rfl rfl ?_
  refine rg_off rfl rfl rfl rfl rfl ?_
  refine rg_off rfl rfl rfl rfl rfl ?_
  refine rg_off rfl rfl rfl rfl rfl ?_
  refine ry (y_pick rfl rfl rfl) rfl rfl ?_
  refine ry (y_mov rfl rfl) rfl rfl ?_
  refine rgy (y_mov rfl rfl) rfl rfl rfl rfl ?_
  refine rgy (y_neq rfl rfl rfl) rfl rfl rfl rfl ?_
  refine rgy (y_mov rfl rfl) rfl rfl rfl rfl ?_
  refine rg_off rfl rfl rfl rfl rfl ?_
  refine rg_off rfl rfl rfl rfl rfl ?_
  refine rg_off rfl rfl rfl rfl rfl ?_
  refine rgy (y_pick rfl rfl rfl) rfl rfl rfl rfl ?_
  refine ry (y_pick rfl rfl rfl) rfl rfl ?_
  refine ry (y_asg rfl rfl) rfl rfl ?_
  refine reg_nil ?_
  refine fn_next ?_
  refine cw_ret ?_
  refine fn_ret1 rfl rfl ?_
  exact ⟨rfl, H126.base⟩

set_option maxRecDepth 100000 in
set_option maxHeartbeats 2000000 in
theorem turnCrops_no_ok (a h : Nat) (L : List Int) (A : Option Addr) (cap : Nat) (x0 y0 x1 y1 : Int) (k : Nat) (w : World) (h1 : 1 ≤ a) (h2 : a ≤ 400) (h3 : 1 ≤ h) (h4 : h ≤ 400) (h5 : a * h ≤ 400) (hr : Rd w A (vi .i64 L)) (hl : L.length = a * h) (hb : AllB L) (hw : ¬ withinC x0 y0 x1 y1 a h = 0) (k1 : 1 ≤ k) (k2 : a * k ≤ 1024) (k3 : h * k ≤ 1024) (k4 : k ≤ 16) :
    Ret Try.prog 6 [.int .i64 (a : Int), .int .i64 (h : Int), .slice A (a * h) cap, .agg #[.int .i64 x0, .int .i64 y0, .int .i64 x1, .int .i64 y1], .int .i64 (k : Int)] w (fun z w' => z = .bool true ∧ Below w.heap.size w w') := by
 have s : SzG a h := ⟨h1, by omega, h3, by omega⟩
 refine ret_enter Try.func6 rfl rfl rfl ?_
 have H0 := HS.start w
 refine cw_seq ?_
 refine cw_reg ?_
 refine reg_op (op_box (cs := [.int _ _, .int _ _, .int _ _, .int _ _]) H0 rfl rfl rfl) rfl rfl ?_
 rintro _ w2 ⟨b1, rfl, H3⟩
 refine ry (y_asg rfl rfl) rfl rfl ?_
 refine reg_nil ?_
 refine fn_next ?_
 refine cw_seq ?_
 refine cw_seq ?_
 refine cw_reg ?_
 refine reg_op (op_call (turnAwake _) rfl kflaw42b_1 trivial) rfl rfl ?_
 rintro _ w5 ⟨rfl, e4⟩
 have H6 := H3.ext e4
 refine ry (y_not rfl rfl) rfl rfl ?_
 refine reg_nil ?_
 refine fn_next ?_
 refine cw_condf rfl ?_
 refine cw_skip ?_
 refine fn_next ?_
 refine cw_seq ?_
 refine cw_reg ?_
 refine ry (y_mov rfl rfl) rfl rfl ?_
 refine ry (y_mov rfl rfl) rfl rfl ?_
 refine ry (y_mov rfl rfl) rfl rfl ?_
 refine reg_op (op_call (land_ok a h 400 L A (a * h) cap _ h1 h2 h3 h4 h5 rfl hl hb (by decide) (hr.below H6.base)) rfl kflaw42b_2 ⟨rfl, rfl, rfl, rfl, trivial⟩) rfl rfl ?_
 rintro _ w8 ⟨rfl, e7⟩
 have H9 := H6.ext e7
 refine ry (y_mov rfl rfl) rfl rfl ?_
 refine ry (y_ext rfl rfl rfl) rfl rfl ?_
 refine ry (y_ext rfl rfl rfl) rfl rfl ?_
 refine reg_op (op_alloc H9 rfl kflaw42b_3) rfl rfl ?_
 rintro _ w11 ⟨b10, rfl, H12⟩
 refine reg_op (op_st (i := 0) (vs := [.int _ _, .int _ _, .slice _ _ _]) H12 rfl rfl rfl rfl rfl kflaw42b_4 rfl rfl rfl) rfl rfl ?_
 rintro _ w13 H14
 refine ry (y_asg rfl rfl) rfl rfl ?_
 refine reg_nil ?_
 refine fn_next ?_
 refine cw_seq ?_
 refine cw_seq ?_
 refine cw_reg ?_
 refine ry (y_mov rfl rfl) rfl rfl ?_
 refine ry (y_not rfl rfl) rfl rfl ?_
 refine ry (y_mov rfl rfl) rfl rfl ?_
 refine rgy (y_mov rfl rfl) rfl rfl rfl rfl ?_
 refine rgy (y_gtr rfl rfl rfl) rfl rfl rfl rfl ?_
 refine rgy (y_mov rfl rfl) rfl rfl rfl rfl ?_
 refine rg_splitd (d := 36) rfl (fun h15 => ?_) (fun h15 => ?_)
 · exfalso; omega
 ·skip
  refine rg_off rfl rfl rfl rfl rfl ?_
  refine rg_off rfl rfl rfl rfl rfl ?_
  refine rgy (y_pick rfl rfl rfl) rfl rfl rfl rfl ?_
  refine rgy (y_mov rfl rfl) rfl rfl rfl rfl ?_
  refine rg_off rfl rfl rfl rfl rfl ?_
  refine rg_off rfl rfl rfl rfl rfl ?_
  refine rg_off rfl rfl rfl rfl rfl ?_
  refine rg_off rfl rfl rfl rfl rfl ?_
  refine rgy (y_pick rfl rfl rfl) rfl rfl rfl rfl ?_
  refine rgy (y_mov rfl rfl) rfl rfl rfl rfl ?_
  refine rg_off rfl rfl rfl rfl rfl ?_
  refine rg_off rfl rfl rfl rfl rfl ?_
  refine rg_off rfl rfl rfl rfl rfl ?_
  refine rg_off rfl rfl rfl rfl rfl ?_
  refine rgy (y_pick rfl rfl rfl) rfl rfl rfl rfl ?_
  refine ry (y_pick rfl rfl rfl) rfl rfl ?_
  refine reg_nil ?_
  refine fn_next ?_
  refine cw_condf rfl ?_
  refine cw_skip ?_
  refine fn_next ?_
  refine cw_seq ?_
  refine cw_reg ?_
  refine ry (y_mov rfl rfl) rfl rfl ?_
  refine ry (y_mov rfl rfl) rfl rfl ?_
  refine ry (y_mov rfl rfl) rfl rfl ?_
  refine reg_op (op_call (made_ok a h L A (a * h) cap _ s hl rfl hb (hr.below H14.base)) rfl kflaw42b_5 ⟨rfl, rfl, rfl, trivial⟩) rfl rfl ?_
  rintro _ w17 ⟨g19, bl20, rfl, k16⟩
  have H18 := H14.call k16
  refine ry (y_mov rfl rfl) rfl rfl ?_
  refine ry (y_ext rfl rfl rfl) rfl rfl ?_
  refine ry (y_ext rfl rfl rfl) rfl rfl ?_
  refine ry (y_asg rfl rfl) rfl rfl ?_
  refine ry (y_asg rfl rfl) rfl rfl ?_
  refine reg_nil ?_
  refine fn_next ?_
  refine cw_seq ?_
  refine cw_seq ?_
  refine cw_reg ?_
  refine ry (y_mov rfl rfl) rfl rfl ?_
  refine ry (y_not rfl rfl) rfl rfl ?_
  refine reg_nil ?_
  refine fn_next ?_
  refine cw_condf rfl ?_
  refine cw_skip ?_
  refine fn_next ?_
  refine cw_seq ?_
  refine cw_reg ?_
  refine ry (y_mov rfl rfl) rfl rfl ?_
  refine ry (y_ldb (i := 2) (cs := [_, _, _, _]) H18 rfl rfl kflaw42b_6 rfl rfl) rfl rfl ?_
  refine reg_op (op_call (gCrop_no g19 a h (L) x0 y0 x1 y1 _ (H18.rdg (i := 0) rfl) hw) rfl kflaw42b_7 ⟨rfl, rfl, trivial⟩) rfl rfl ?_
  rintro _ w22 ⟨rfl, e21⟩
  have H23 := H18.ext e21
  refine ry (y_mov rfl rfl) rfl rfl ?_
  refine ry (y_ext rfl rfl rfl) rfl rfl ?_
  refine ry (y_ext rfl rfl rfl) rfl rfl ?_
  refine ry (y_asg rfl rfl) rfl rfl ?_
  refine ry (y_asg rfl rfl) rfl rfl ?_
  refine reg_nil ?_
  refine fn_next ?_
  refine cw_seq ?_
  refine cw_reg ?_
  refine ry (y_ldb (i := 1) (cs := [_, _, _]) H23 rfl rfl kflaw42b_8 rfl rfl) rfl rfl ?_
  refine ry (y_ldb (i := 2) (cs := [_, _, _, _]) H23 rfl rfl kflaw42b_6 rfl rfl) rfl rfl ?_
  refine reg_op (op_call (mCrop_no a h A cap L x0 y0 x1 y1 _ s (hr.below H23.base) hl hw) rfl kflaw42b_9 ⟨rfl, rfl, trivial⟩) rfl rfl ?_
  rintro _ w25 ⟨rfl, e24⟩
  have H26 := H23.ext e24
  refine ry (y_mov rfl rfl) rfl rfl ?_
  refine ry (y_ext rfl rfl rfl) rfl rfl ?_
  refine ry (y_ext rfl rfl rfl) rfl rfl ?_
  refine reg_op (op_alloc H26 rfl kflaw42b_3) rfl rfl ?_
  rintro _ w28 ⟨b27, rfl, H29⟩
  refine reg_op (op_st (i := 0) (vs := [.int _ _, .int _ _, .slice _ _ _]) H29 rfl rfl rfl rfl rfl kflaw42b_4 rfl rfl rfl) rfl rfl ?_
  rintro _ w30 H31
  refine ry (y_asg rfl rfl) rfl rfl ?_
  refine reg_nil ?_
  refine fn_next ?_
  refine cw_seq ?_
  refine cw_reg ?_
  refine ry (y_mov rfl rfl) rfl rfl ?_
  refine ry (y_mov rfl rfl) rfl rfl ?_
  refine reg_op (op_call (gScale_ok g19 a h (L) k _ (H31.rdg (i := 1) rfl) k1 k2 k3) rfl kflaw42b_10 ⟨rfl, rfl, trivial⟩) rfl rfl ?_
  rintro _ w33 ⟨g35, bl36, rfl, k32⟩
  have H34 := H31.call k32
  refine ry (y_mov rfl rfl) rfl rfl ?_
  refine ry (y_ext rfl rfl rfl) rfl rfl ?_
  refine ry (y_ext rfl rfl rfl) rfl rfl ?_
  refine ry (y_asg rfl rfl) rfl rfl ?_
  refine ry (y_asg rfl rfl) rfl rfl ?_
  refine reg_nil ?_
  refine fn_next ?_
  refine cw_seq ?_
  refine cw_reg ?_
  refine ry (y_ldb (i := 3) (cs := [_, _, _]) H34 rfl rfl kflaw42b_8 rfl rfl) rfl rfl ?_
  refine ry (y_mov rfl rfl) rfl rfl ?_
  refine reg_op (op_call (mScale_ok a h A cap L k _ s (hr.below H34.base) hl k1 k2 k3) rfl kflaw42b_11 ⟨rfl, rfl, trivial⟩) rfl rfl ?_
  rintro _ w38 ⟨A40, c41, rfl, k37⟩
  have H39 := H34.call k37
  refine ry (y_mov rfl rfl) rfl rfl ?_
  refine ry (y_ext rfl rfl rfl) rfl rfl ?_
  refine ry (y_ext rfl rfl rfl) rfl rfl ?_
  refine reg_op (op_alloc H39 rfl kflaw42b_3) rfl rfl ?_
  rintro _ w43 ⟨b42, rfl, H44⟩
  refine reg_op (op_st (i := 0) (vs := [.int _ _, .int _ _, .slice _ _ _]) H44 rfl rfl rfl rfl rfl kflaw42b_4 rfl rfl rfl) rfl rfl ?_
  rintro _ w45 H46
  refine ry (y_asg rfl rfl) rfl rfl ?_
  refine reg_nil ?_
  refine fn_next ?_
  refine cw_seq ?_
  refine cw_seq ?_
  refine cw_reg ?_
  refine ry (y_mov rfl rfl) rfl rfl ?_
  refine ry (y_mov rfl rfl) rfl rfl ?_
  refine ry (yv (congrArg Value.bool (decide_eq_false (fun e => e rfl))) (y_neq rfl rfl rfl)) rfl rfl ?_
  refine ry (y_mov rfl rfl) rfl rfl ?_
  refine rgy (y_mov rfl rfl) rfl rfl rfl rfl ?_
  refine rgy (y_mov rfl rfl) rfl rfl rfl rfl ?_
  refine rgy (y_neq rfl rfl rfl) rfl rfl rfl rfl ?_
  refine ry (y_pick rfl rfl rfl) rfl rfl ?_
  refine ry (y_mov rfl rfl) rfl rfl ?_
  refine rgy (y_mov rfl rfl) rfl rfl rfl rfl ?_
  refine rgy (y_peqlnil rfl Try.underlying28 rfl rfl) rfl rfl rfl rfl ?_
  refine rgy (y_mov rfl rfl) rfl rfl rfl rfl ?_
  refine rgy (yv (congrArg Value.bool (decide_eq_true (hw))) (y_neq rfl rfl rfl)) rfl rfl rfl rfl ?_
  refine rgy (y_bneq rfl Try.underlying4 rfl rfl) rfl rfl rfl rfl ?_
  refine ry (y_pick rfl rfl rfl) rfl rfl ?_
  refine ry (y_mov rfl rfl) rfl rfl ?_
  refine rgy (y_mov rfl rfl) rfl rfl rfl rfl ?_
  refine rgy (y_peqlnil rfl Try.underlying28 rfl rfl) rfl rfl rfl rfl ?_
  refine rgy (y_mov rfl rfl) rfl rfl rfl rfl ?_
  refine rgy (y_neq rfl rfl rfl) rfl rfl rfl rfl ?_
  refine rgy (y_bneq rfl Try.underlying4 rfl rfl) rfl rfl rfl rfl ?_
  refine ry (y_pick rfl rfl rfl) rfl rfl ?_
  refine reg_nil ?_
  refine fn_next ?_
  refine cw_condf rfl ?_
  refine cw_skip ?_
  refine fn_next ?_
  refine cw_seq ?_
  refine cw_reg ?_
  refine ry (y_mov rfl rfl) rfl rfl ?_
  refine ry (yv (congrArg Value.bool (decide_eq_true (hw))) (y_neq rfl rfl rfl)) rfl rfl ?_
  refine ry (y_mov rfl rfl) rfl rfl ?_
  refine rg_off rfl rfl rfl rfl rfl ?_
  refine rg_off rfl rfl rfl rfl rfl ?_
  refine rg_off rfl rfl rfl rfl rfl ?_
  refine ry (y_pick rfl rfl rfl) rfl rfl ?_
  refine ry (y_mov rfl rfl) rfl rfl ?_
  refine rgy (y_mov rfl rfl) rfl rfl rfl rfl ?_
  refine rgy (y_neq rfl rfl rfl) rfl rfl rfl rfl ?_
  refine rgy (y_mov rfl rfl) rfl rfl rfl rfl ?_
  refine rgy (y_mov rfl rfl) rfl rfl rfl rfl ?_
  refine rgy (y_ldb (i := 0) (cs := [_, _, _]) H46 rfl rfl kflaw42b_8 rfl rfl) rfl rfl rfl rfl ?_
  refine rg_on rfl rfl rfl (op_call (lIs g35 (a * k) (h * k) (scV (L) a h k) _ _ _ (H46.rdg (i := 2) rfl) (H46.rd (i := 1) rfl)) rfl kflaw42b_12 ⟨rfl, rfl, trivial⟩) rfl ?_
  rintro _ w48 ⟨rfl, e47⟩
  have H49 := H46.ext e47
  refine rgy (y_pick rfl rfl rfl) rfl rfl rfl rfl ?_
  refine ry (y_pick rfl rfl rfl) rfl rfl ?_
  refine ry (y_asg rfl rfl) rfl rfl ?_
  refine reg_nil ?_
  refine fn_next ?_
  refine cw_ret ?_
  refine fn_ret1 rfl rfl ?_
  exact ⟨rfl, H49.base⟩

set_option maxRecDepth 100000 in
set_option maxHeartbeats 2000000 in
theorem turnCrops_ok_arg (a h : Nat) (L : List Int) (A : Option Addr) (cap : Nat) (p0 q0 p1 q1 : Nat) (k : Int) (w : World) (h1 : 1 ≤ a) (h2 : a ≤ 400) (h3 : 1 ≤ h) (h4 : h ≤ 400) (h5 : a * h ≤ 400) (hr : Rd w A (vi .i64 L)) (hl : L.length = a * h) (hb : AllB L) (u1 : p0 ≤ p1) (u2 : p1 < a) (u3 : q0 ≤ q1) (u4 : q1 < h) (k1 : k < 1) :
    Ret Try.prog 6 [.int .i64 (a : Int), .int .i64 (h : Int), .slice A (a * h) cap, .agg #[.int .i64 (p0 : Int), .int .i64 (q0 : Int), .int .i64 (p1 : Int), .int .i64 (q1 : Int)], .int .i64 (k : Int)] w (fun z w' => z = .bool true ∧ Below w.heap.size w w') := by
 have s : SzG a h := ⟨h1, by omega, h3, by omega⟩
 refine ret_enter Try.func6 rfl rfl rfl ?_
 have H0 := HS.start w
 refine cw_seq ?_
 refine cw_reg ?_
 refine reg_op (op_box (cs := [.int _ _, .int _ _, .int _ _, .int _ _]) H0 rfl rfl rfl) rfl rfl ?_
 rintro _ w2 ⟨b1, rfl, H3⟩
 refine ry (y_asg rfl rfl) rfl rfl ?_
 refine reg_nil ?_
 refine fn_next ?_
 refine cw_seq ?_
 refine cw_seq ?_
 refine cw_reg ?_
 refine reg_op (op_call (turnAwake _) rfl kflaw42b_1 trivial) rfl rfl ?_
 rintro _ w5 ⟨rfl, e4⟩
 have H6 := H3.ext e4
 refine ry (y_not rfl rfl) rfl rfl ?_
 refine reg_nil ?_
 refine fn_next ?_
 refine cw_condf rfl ?_
 refine cw_skip ?_
 refine fn_next ?_
 refine cw_seq ?_
 refine cw_reg ?_
 refine ry (y_mov rfl rfl) rfl rfl ?_
 refine ry (y_mov rfl rfl) rfl rfl ?_
 refine ry (y_mov rfl rfl) rfl rfl ?_
 refine reg_op (op_call (land_ok a h 400 L A (a * h) cap _ h1 h2 h3 h4 h5 rfl hl hb (by decide) (hr.below H6.base)) rfl kflaw42b_2 ⟨rfl, rfl, rfl, rfl, trivial⟩) rfl rfl ?_
 rintro _ w8 ⟨rfl, e7⟩
 have H9 := H6.ext e7
 refine ry (y_mov rfl rfl) rfl rfl ?_
 refine ry (y_ext rfl rfl rfl) rfl rfl ?_
 refine ry (y_ext rfl rfl rfl) rfl rfl ?_
 refine reg_op (op_alloc H9 rfl kflaw42b_3) rfl rfl ?_
 rintro _ w11 ⟨b10, rfl, H12⟩
 refine reg_op (op_st (i := 0) (vs := [.int _ _, .int _ _, .slice _ _ _]) H12 rfl rfl rfl rfl rfl kflaw42b_4 rfl rfl rfl) rfl rfl ?_
 rintro _ w13 H14
 refine ry (y_asg rfl rfl) rfl rfl ?_
 refine reg_nil ?_
 refine fn_next ?_
 refine cw_seq ?_
 refine cw_seq ?_
 refine cw_reg ?_
 refine ry (y_mov rfl rfl) rfl rfl ?_
 refine ry (y_not rfl rfl) rfl rfl ?_
 refine ry (y_mov rfl rfl) rfl rfl ?_
 refine rgy (y_mov rfl rfl) rfl rfl rfl rfl ?_
 refine rgy (y_gtr rfl rfl rfl) rfl rfl rfl rfl ?_
 refine rgy (y_mov rfl rfl) rfl rfl rfl rfl ?_
 refine rg_splitd (d := 36) rfl (fun h15 => ?_) (fun h15 => ?_)
 · exfalso; omega
 ·skip
  refine rg_off rfl rfl rfl rfl rfl ?_
  refine rg_off rfl rfl rfl rfl rfl ?_
  refine rgy (y_pick rfl rfl rfl) rfl rfl rfl rfl ?_
  refine rgy (y_mov rfl rfl) rfl rfl rfl rfl ?_
  refine rg_off rfl rfl rfl rfl rfl ?_
  refine rg_off rfl rfl rfl rfl rfl ?_
  refine rg_off rfl rfl rfl rfl rfl ?_
  refine rg_off rfl rfl rfl rfl rfl ?_
  refine rgy (y_pick rfl rfl rfl) rfl rfl rfl rfl ?_
  refine rgy (y_mov rfl rfl) rfl rfl rfl rfl ?_
  refine rg_off rfl rfl rfl rfl rfl ?_
  refine rg_off rfl rfl rfl rfl rfl ?_
  refine rg_off rfl rfl rfl rfl rfl ?_
  refine rg_off rfl rfl rfl rfl rfl ?_
  refine rgy (y_pick rfl rfl rfl) rfl rfl rfl rfl ?_
  refine ry (y_pick rfl rfl rfl) rfl rfl ?_
  refine reg_nil ?_
  refine fn_next ?_
  refine cw_condf rfl ?_
  refine cw_skip ?_
  refine fn_next ?_
  refine cw_seq ?_
  refine cw_reg ?_
  refine ry (y_mov rfl rfl) rfl rfl ?_
  refine ry (y_mov rfl rfl) rfl rfl ?_
  refine ry (y_mov rfl rfl) rfl rfl ?_
  refine reg_op (op_call (made_ok a h L A (a * h) cap _ s hl rfl hb (hr.below H14.base)) rfl kflaw42b_5 ⟨rfl, rfl, rfl, trivial⟩) rfl rfl ?_
  rintro _ w17 ⟨g19, bl20, rfl, k16⟩
  have H18 := H14.call k16
  refine ry (y_mov rfl rfl) rfl rfl ?_
  refine ry (y_ext rfl rfl rfl) rfl rfl ?_
  refine ry (y_ext rfl rfl rfl) rfl rfl ?_
  refine ry (y_asg rfl rfl) rfl rfl ?_
  refine ry (y_asg rfl rfl) rfl rfl ?_
  refine reg_nil ?_
  refine fn_next ?_
  refine cw_seq ?_
  refine cw_seq ?_
  refine cw_reg ?_
  refine ry (y_mov rfl rfl) rfl rfl ?_
  refine ry (y_not rfl rfl) rfl rfl ?_
  refine reg_nil ?_
  refine fn_next ?_
  refine cw_condf rfl ?_
  refine cw_skip ?_
  refine fn_next ?_
  refine cw_seq ?_
  refine cw_reg ?_
  refine ry (y_mov rfl rfl) rfl rfl ?_
  refine ry (y_ldb (i := 2) (cs := [_, _, _, _]) H18 rfl rfl kflaw42b_6 rfl rfl) rfl rfl ?_
  refine reg_op (op_call (gCrop_ok g19 a h (L) p0 q0 p1 q1 _ (H18.rdg (i := 0) rfl) u1 u2 u3 u4) rfl kflaw42b_7 ⟨rfl, rfl, trivial⟩) rfl rfl ?_
  rintro _ w22 ⟨g24, bl25, rfl, k21⟩
  have H23 := H18.call k21
  refine ry (y_mov rfl rfl) rfl rfl ?_
  refine ry (y_ext rfl rfl rfl) rfl rfl ?_
  refine ry (y_ext rfl rfl rfl) rfl rfl ?_
  refine ry (y_asg rfl rfl) rfl rfl ?_
  refine ry (y_asg rfl rfl) rfl rfl ?_
  refine reg_nil ?_
  refine fn_next ?_
  refine cw_seq ?_
  refine cw_reg ?_
  refine ry (y_ldb (i := 2) (cs := [_, _, _]) H23 rfl rfl kflaw42b_8 rfl rfl) rfl rfl ?_
  refine ry (y_ldb (i := 3) (cs := [_, _, _, _]) H23 rfl rfl kflaw42b_6 rfl rfl) rfl rfl ?_
  refine reg_op (op_call (mCrop_ok a h A cap L p0 q0 p1 q1 _ s (hr.below H23.base) hl u1 u2 u3 u4) rfl kflaw42b_9 ⟨rfl, rfl, trivial⟩) rfl rfl ?_
  rintro _ w27 ⟨A29, c30, rfl, k26⟩
  have H28 := H23.call k26
  refine ry (y_mov rfl rfl) rfl rfl ?_
  refine ry (y_ext rfl rfl rfl) rfl rfl ?_
  refine ry (y_ext rfl rfl rfl) rfl rfl ?_
  refine reg_op (op_alloc H28 rfl kflaw42b_3) rfl rfl ?_
  rintro _ w32 ⟨b31, rfl, H33⟩
  refine reg_op (op_st (i := 0) (vs := [.int _ _, .int _ _, .slice _ _ _]) H33 rfl rfl rfl rfl rfl kflaw42b_4 rfl rfl rfl) rfl rfl ?_
  rintro _ w34 H35
  refine ry (y_asg rfl rfl) rfl rfl ?_
  refine reg_nil ?_
  refine fn_next ?_
  refine cw_seq ?_
  refine cw_reg ?_
  refine ry (y_mov rfl rfl) rfl rfl ?_
  refine ry (y_mov rfl rfl) rfl rfl ?_
  refine reg_op (op_call (gScale_arg g19 a h (L) k _ (H35.rdg (i := 3) rfl) k1) rfl kflaw42b_10 ⟨rfl, rfl, trivial⟩) rfl rfl ?_
  rintro _ w37 ⟨rfl, e36⟩
  have H38 := H35.ext e36
  refine ry (y_mov rfl rfl) rfl rfl ?_
  refine ry (y_ext rfl rfl rfl) rfl rfl ?_
  refine ry (y_ext rfl rfl rfl) rfl rfl ?_
  refine ry (y_asg rfl rfl) rfl rfl ?_
  refine ry (y_asg rfl rfl) rfl rfl ?_
  refine reg_nil ?_
  refine fn_next ?_
  refine cw_seq ?_
  refine cw_reg ?_
  refine ry (y_ldb (i := 4) (cs := [_, _, _]) H38 rfl rfl kflaw42b_8 rfl rfl) rfl rfl ?_
  refine ry (y_mov rfl rfl) rfl rfl ?_
  refine reg_op (op_call (mScale_arg a h A cap L k _ s (hr.below H38.base) hl k1) rfl kflaw42b_11 ⟨rfl, rfl, trivial⟩) rfl rfl ?_
  rintro _ w40 ⟨rfl, e39⟩
  have H41 := H38.ext e39
  refine ry (y_mov rfl rfl) rfl rfl ?_
  refine ry (y_ext rfl rfl rfl) rfl rfl ?_
  refine ry (y_ext rfl rfl rfl) rfl rfl ?_
  refine reg_op (op_alloc H41 rfl kflaw42b_3) rfl rfl ?_
  rintro _ w43 ⟨b42, rfl, H44⟩
  refine reg_op (op_st (i := 0) (vs := [.int _ _, .int _ _, .slice _ _ _]) H44 rfl rfl rfl rfl rfl kflaw42b_4 rfl rfl rfl) rfl rfl ?_
  rintro _ w45 H46
  refine ry (y_asg rfl rfl) rfl rfl ?_
  refine reg_nil ?_
  refine fn_next ?_
  refine cw_seq ?_
  refine cw_seq ?_
  refine cw_reg ?_
  refine ry (y_mov rfl rfl) rfl rfl ?_
  refine ry (y_mov rfl rfl) rfl rfl ?_
  refine ry (y_neq rfl rfl rfl) rfl rfl ?_
  refine ry (y_mov rfl rfl) rfl rfl ?_
  refine rgy (y_mov rfl rfl) rfl rfl rfl rfl ?_
  refine rgy (y_mov rfl rfl) rfl rfl rfl rfl ?_
  refine rgy (y_neq rfl rfl rfl) rfl rfl rfl rfl ?_
  refine ry (y_pick rfl rfl rfl) rfl rfl ?_
  refine ry (y_mov rfl rfl) rfl rfl ?_
  refine rgy (y_mov rfl rfl) rfl rfl rfl rfl ?_
  refine rgy (y_peqlnil rfl Try.underlying28 rfl rfl) rfl rfl rfl rfl ?_
  refine rgy (y_mov rfl rfl) rfl rfl rfl rfl ?_
  refine rgy (y_neq rfl rfl rfl) rfl rfl rfl rfl ?_
  refine rgy (y_bneq rfl Try.underlying4 rfl rfl) rfl rfl rfl rfl ?_
  refine ry (y_pick rfl rfl rfl) rfl rfl ?_
  refine ry (y_mov rfl rfl) rfl rfl ?_
  refine rgy (y_mov rfl rfl) rfl rfl rfl rfl ?_
  refine rgy (y_peqlnil rfl Try.underlying28 rfl rfl) rfl rfl rfl rfl ?_
  refine rgy (y_mov rfl rfl) rfl rfl rfl rfl ?_
  refine rgy (y_neq rfl rfl rfl) rfl rfl rfl rfl ?_
  refine rgy (y_bneq rfl Try.underlying4 rfl rfl) rfl rfl rfl rfl ?_
  refine ry (y_pick rfl rfl rfl) rfl rfl ?_
  refine reg_nil ?_
  refine fn_next ?_
  refine cw_condf rfl ?_
  refine cw_skip ?_
  refine fn_next ?_
  refine cw_seq ?_
  refine cw_reg ?_
  refine ry (y_mov rfl rfl) rfl rfl ?_
  refine ry (y_neq rfl rfl rfl) rfl rfl ?_
  refine ry (y_mov rfl rfl) rfl rfl ?_
  refine rgy (y_mov rfl rfl) rfl rfl rfl rfl ?_
  refine rgy (y_ldb (i := 1) (cs := [_, _, _]) H46 rfl rfl kflaw42b_8 rfl rfl) rfl rfl rfl rfl ?_
  refine rg_on rfl rfl rfl (op_call (lIs g24 (p1 + 1 - p0) (q1 + 1 - q0) (gvalV (L) a h p0 q0 p1 q1) _ _ _ (H46.rdg (i := 3) rfl) (H46.rd (i := 2) rfl)) rfl kflaw42b_12 ⟨rfl, rfl, trivial⟩) rfl ?_
  rintro _ w48 ⟨rfl, e47⟩
  have H49 := H46.ext e47
  refine ry (y_pick rfl rfl rfl) rfl rfl ?_
  refine ry (y_mov rfl rfl) rfl rfl ?_
  refine rgy (y_mov rfl rfl) rfl rfl rfl rfl ?_
  refine rgy (y_neq rfl rfl rfl) rfl rfl rfl rfl ?_
  refine rgy (y_mov rfl rfl) rfl rfl rfl rfl ?_
  refine rg_off rfl rfl rfl rfl rfl ?_
  refine rg_off rfl rfl rfl rfl rfl ?_
  refine rg_off rfl rfl rfl rfl rfl ?_
  refine rgy (y_pick rfl rfl rfl) rfl rfl rfl rfl ?_
  refine ry (y_pick rfl rfl rfl) rfl rfl ?_
  refine ry (y_asg rfl rfl) rfl rfl ?_
  refine reg_nil ?_
  refine fn_next ?_
  refine cw_ret ?_
  refine fn_ret1 rfl rfl ?_
  exact ⟨rfl, H49.base⟩

set_option maxRecDepth 100000 in
set_option maxHeartbeats 2000000 in
theorem turnCrops_ok_size (a h : Nat) (L : List Int) (A : Option Addr) (cap : Nat) (p0 q0 p1 q1 : Nat) (k : Int) (w : World) (h1 : 1 ≤ a) (h2 : a ≤ 400) (h3 : 1 ≤ h) (h4 : h ≤ 400) (h5 : a * h ≤ 400) (hr : Rd w A (vi .i64 L)) (hl : L.length = a * h) (hb : AllB L) (u1 : p0 ≤ p1) (u2 : p1 < a) (u3 : q0 ≤ q1) (u4 : q1 < h) (k1 : 1 ≤ k) (k2 : ¬ ((a : Int) * k ≤ 1024 ∧ (h : Int) * k ≤ 1024)) :
    Ret Try.prog 6 [.int .i64 (a : Int), .int .i64 (h : Int), .slice A (a * h) cap, .agg #[.int .i64 (p0 : Int), .int .i64 (q0 : Int), .int .i64 (p1 : Int), .int .i64 (q1 : Int)], .int .i64 (k : Int)] w (fun z w' => z = .bool true ∧ Below w.heap.size w w') := by
 have s : SzG a h := ⟨h1, by omega, h3, by omega⟩
 refine ret_enter Try.func6 rfl rfl rfl ?_
 have H0 := HS.start w
 refine cw_seq ?_
 refine cw_reg ?_
 refine reg_op (op_box (cs := [.int _ _, .int _ _, .int _ _, .int _ _]) H0 rfl rfl rfl) rfl rfl ?_
 rintro _ w2 ⟨b1, rfl, H3⟩
 refine ry (y_asg rfl rfl) rfl rfl ?_
 refine reg_nil ?_
 refine fn_next ?_
 refine cw_seq ?_
 refine cw_seq ?_
 refine cw_reg ?_
 refine reg_op (op_call (turnAwake _) rfl kflaw42b_1 trivial) rfl rfl ?_
 rintro _ w5 ⟨rfl, e4⟩
 have H6 := H3.ext e4
 refine ry (y_not rfl rfl) rfl rfl ?_
 refine reg_nil ?_
 refine fn_next ?_
 refine cw_condf rfl ?_
 refine cw_skip ?_
 refine fn_next ?_
 refine cw_seq ?_
 refine cw_reg ?_
 refine ry (y_mov rfl rfl) rfl rfl ?_
 refine ry (y_mov rfl rfl) rfl rfl ?_
 refine ry (y_mov rfl rfl) rfl rfl ?_
 refine reg_op (op_call (land_ok a h 400 L A (a * h) cap _ h1 h2 h3 h4 h5 rfl hl hb (by decide) (hr.below H6.base)) rfl kflaw42b_2 ⟨rfl, rfl, rfl, rfl, trivial⟩) rfl rfl ?_
 rintro _ w8 ⟨rfl, e7⟩
 have H9 := H6.ext e7
 refine ry (y_mov rfl rfl) rfl rfl ?_
 refine ry (y_ext rfl rfl rfl) rfl rfl ?_
 refine ry (y_ext rfl rfl rfl) rfl rfl ?_
 refine reg_op (op_alloc H9 rfl kflaw42b_3) rfl rfl ?_
 rintro _ w11 ⟨b10, rfl, H12⟩
 refine reg_op (op_st (i := 0) (vs := [.int _ _, .int _ _, .slice _ _ _]) H12 rfl rfl rfl rfl rfl kflaw42b_4 rfl rfl rfl) rfl rfl ?_
 rintro _ w13 H14
 refine ry (y_asg rfl rfl) rfl rfl ?_
 refine reg_nil ?_
 refine fn_next ?_
 refine cw_seq ?_
 refine cw_seq ?_
 refine cw_reg ?_
 refine ry (y_mov rfl rfl) rfl rfl ?_
 refine ry (y_not rfl rfl) rfl rfl ?_
 refine ry (y_mov rfl rfl) rfl rfl ?_
 refine rgy (y_mov rfl rfl) rfl rfl rfl rfl ?_
 refine rgy (y_gtr rfl rfl rfl) rfl rfl rfl rfl ?_
 refine rgy (y_mov rfl rfl) rfl rfl rfl rfl ?_
 refine rg_splitd (d := 36) rfl (fun h15 => ?_) (fun h15 => ?_)
 ·skip
  refine rgy (y_mov rfl rfl) rfl rfl rfl rfl ?_
  refine rgy (y_leq rfl rfl rfl) rfl rfl rfl rfl ?_
  refine rgy (y_pick rfl rfl rfl) rfl rfl rfl rfl ?_
  refine rgy (y_mov rfl rfl) rfl rfl rfl rfl ?_
  refine rg_splitd (d := 40) rfl (fun h16 => ?_) (fun h16 => ?_)
  ·skip
   refine rgy (y_mov rfl rfl) rfl rfl rfl rfl ?_
   refine rgy (y_mov rfl rfl) rfl rfl rfl rfl ?_
   refine rgy (y_mul rfl rfl rfl (wi (by have := mulb (a := a) (k := k) (by omega) (by omega); omega))) rfl rfl rfl rfl ?_
   refine rgy (y_leq rfl rfl rfl) rfl rfl rfl rfl ?_
   refine rgy (y_pick rfl rfl rfl) rfl rfl rfl rfl ?_
   refine rgy (y_mov rfl rfl) rfl rfl rfl rfl ?_
   refine rg_splitd (d := 46) rfl (fun h17 => ?_) (fun h17 => ?_)
   ·skip
    refine rgy (y_mov rfl rfl) rfl rfl rfl rfl ?_
    refine rgy (y_mov rfl rfl) rfl rfl rfl rfl ?_
    refine rgy (y_mul rfl rfl rfl (wi (by have := mulb (a := h) (k := k) (by omega) (by omega); omega))) rfl rfl rfl rfl ?_
    refine rgy (y_leq rfl rfl rfl) rfl rfl rfl rfl ?_
    refine rgy (y_pick rfl rfl rfl) rfl rfl rfl rfl ?_
    refine ry (y_pick rfl rfl rfl) rfl rfl ?_
    refine reg_nil ?_
    refine fn_next ?_
    refine cw_condd rfl (fun h18 => ?_) (fun h18 => ?_)
    · exfalso; omega
    ·skip
     refine cw_skip ?_
     refine fn_next ?_
     refine cw_seq ?_
     refine cw_reg ?_
     refine ry (y_mov rfl rfl) rfl rfl ?_
     refine ry (y_mov rfl rfl) rfl rfl ?_
     refine ry (y_mov rfl rfl) rfl rfl ?_
     refine reg_op (op_call (made_ok a h L A (a * h) cap _ s hl rfl hb (hr.below H14.base)) rfl kflaw42b_5 ⟨rfl, rfl, rfl, trivial⟩) rfl rfl ?_
     rintro _ w20 ⟨g22, bl23, rfl, k19⟩
     have H21 := H14.call k19
     refine ry (y_mov rfl rfl) rfl rfl ?_
     refine ry (y_ext rfl rfl rfl) rfl rfl ?_
     refine ry (y_ext rfl rfl rfl) rfl rfl ?_
     refine ry (y_asg rfl rfl) rfl rfl ?_
     refine ry (y_asg rfl rfl) rfl rfl ?_
     refine reg_nil ?_
     refine fn_next ?_
     refine cw_seq ?_
     refine cw_seq ?_
     refine cw_reg ?_
     refine ry (y_mov rfl rfl) rfl rfl ?_
     refine ry (y_not rfl rfl) rfl rfl ?_
     refine reg_nil ?_
     refine fn_next ?_
     refine cw_condf rfl ?_
     refine cw_skip ?_
     refine fn_next ?_
     refine cw_seq ?_
     refine cw_reg ?_
     refine ry (y_mov rfl rfl) rfl rfl ?_
     refine ry (y_ldb (i := 2) (cs := [_, _, _, _]) H21 rfl rfl kflaw42b_6 rfl rfl) rfl rfl ?_
     refine reg_op (op_call (gCrop_ok g22 a h (L) p0 q0 p1 q1 _ (H21.rdg (i := 0) rfl) u1 u2 u3 u4) rfl kflaw42b_7 ⟨rfl, rfl, trivial⟩) rfl rfl ?_
     rintro _ w25 ⟨g27, bl28, rfl, k24⟩
     have H26 := H21.call k24
     refine ry (y_mov rfl rfl) rfl rfl ?_
     refine ry (y_ext rfl rfl rfl) rfl rfl ?_
     refine ry (y_ext rfl rfl rfl) rfl rfl ?_
     refine ry (y_asg rfl rfl) rfl rfl ?_
     refine ry (y_asg rfl rfl) rfl rfl ?_
     refine reg_nil ?_
     refine fn_next ?_
     refine cw_seq ?_
     refine cw_reg ?_
     refine ry (y_ldb (i := 2) (cs := [_, _, _]) H26 rfl rfl kflaw42b_8 rfl rfl) rfl rfl ?_
     refine ry (y_ldb (i := 3) (cs := [_, _, _, _]) H26 rfl rfl kflaw42b_6 rfl rfl) rfl rfl ?_
     refine reg_op (op_call (mCrop_ok a h A cap L p0 q0 p1 q1 _ s (hr.below H26.base) hl u1 u2 u3 u4) rfl kflaw42b_9 ⟨rfl, rfl, trivial⟩) rfl rfl ?_
     rintro _ w30 ⟨A32, c33, rfl, k29⟩
     have H31 := H26.call k29
     refine ry (y_mov rfl rfl) rfl rfl ?_
     refine ry (y_ext rfl rfl rfl) rfl rfl ?_
     refine ry (y_ext rfl rfl rfl) rfl rfl ?_
     refine reg_op (op_alloc H31 rfl kflaw42b_3) rfl rfl ?_
     rintro _ w35 ⟨b34, rfl, H36⟩
     refine reg_op (op_st (i := 0) (vs := [.int _ _, .int _ _, .slice _ _ _]) H36 rfl rfl rfl rfl rfl kflaw42b_4 rfl rfl rfl) rfl rfl ?_
     rintro _ w37 H38
     refine ry (y_asg rfl rfl) rfl rfl ?_
     refine reg_nil ?_
     refine fn_next ?_
     refine cw_seq ?_
     refine cw_reg ?_
     refine ry (y_mov rfl rfl) rfl rfl ?_
     refine ry (y_mov rfl rfl) rfl rfl ?_
     refine reg_op (op_call (gScale_size g22 a h (L) k _ (H38.rdg (i := 3) rfl) k1 k2) rfl kflaw42b_10 ⟨rfl, rfl, trivial⟩) rfl rfl ?_
     rintro _ w40 ⟨rfl, e39⟩
     have H41 := H38.ext e39
     refine ry (y_mov rfl rfl) rfl rfl ?_
     refine ry (y_ext rfl rfl rfl) rfl rfl ?_
     refine ry (y_ext rfl rfl rfl) rfl rfl ?_
     refine ry (y_asg rfl rfl) rfl rfl ?_
     refine ry (y_asg rfl rfl) rfl rfl ?_
     refine reg_nil ?_
     refine fn_next ?_
     refine cw_seq ?_
     refine cw_reg ?_
     refine ry (y_ldb (i := 4) (cs := [_, _, _]) H41 rfl rfl kflaw42b_8 rfl rfl) rfl rfl ?_
     refine ry (y_mov rfl rfl) rfl rfl ?_
     refine reg_op (op_call (mScale_size a h A cap L k _ s (hr.below H41.base) hl k1 k2) rfl kflaw42b_11 ⟨rfl, rfl, trivial⟩) rfl rfl ?_
     rintro _ w43 ⟨rfl, e42⟩
     have H44 := H41.ext e42
     refine ry (y_mov rfl rfl) rfl rfl ?_
     refine ry (y_ext rfl rfl rfl) rfl rfl ?_
     refine ry (y_ext rfl rfl rfl) rfl rfl ?_
     refine reg_op (op_alloc H44 rfl kflaw42b_3) rfl rfl ?_
     rintro _ w46 ⟨b45, rfl, H47⟩
     refine reg_op (op_st (i := 0) (vs := [.int _ _, .int _ _, .slice _ _ _]) H47 rfl rfl rfl rfl rfl kflaw42b_4 rfl rfl rfl) rfl rfl ?_
     rintro _ w48 H49
     refine ry (y_asg rfl rfl) rfl rfl ?_
     refine reg_nil ?_
     refine fn_next ?_
     refine cw_seq ?_
     refine cw_seq ?_
     refine cw_reg ?_
     refine ry (y_mov rfl rfl) rfl rfl ?_
     refine ry (y_mov rfl rfl) rfl rfl ?_
     refine ry (y_neq rfl rfl rfl) rfl rfl ?_
     refine ry (y_mov rfl rfl) rfl rfl ?_
     refine rgy (y_mov rfl rfl) rfl rfl rfl rfl ?_
     refine rgy (y_mov rfl rfl) rfl rfl rfl rfl ?_
     refine rgy (y_neq rfl rfl rfl) rfl rfl rfl rfl ?_
     refine ry (y_pick rfl rfl rfl) rfl rfl ?_
     refine ry (y_mov rfl rfl) rfl rfl ?_
     refine rgy (y_mov rfl rfl) rfl rfl rfl rfl ?_
     refine rgy (y_peqlnil rfl Try.underlying28 rfl rfl) rfl rfl rfl rfl ?_
     refine rgy (y_mov rfl rfl) rfl rfl rfl rfl ?_
     refine rgy (y_neq rfl rfl rfl) rfl rfl rfl rfl ?_
     refine rgy (y_bneq rfl Try.underlying4 rfl rfl) rfl rfl rfl rfl ?_
     refine ry (y_pick rfl rfl rfl) rfl rfl ?_
     refine ry (y_mov rfl rfl) rfl rfl ?_
     refine rgy (y_mov rfl rfl) rfl rfl rfl rfl ?_
     refine rgy (y_peqlnil rfl Try.underlying28 rfl rfl) rfl rfl rfl rfl ?_
     refine rgy (y_mov rfl rfl) rfl rfl rfl rfl ?_
     refine rgy (y_neq rfl rfl rfl) rfl rfl rfl rfl ?_
     refine rgy (y_bneq rfl Try.underlying4 rfl rfl) rfl rfl rfl rfl ?_
     refine ry (y_pick rfl rfl rfl) rfl rfl ?_
     refine reg_nil ?_
     refine fn_next ?_
     refine cw_condf rfl ?_
     refine cw_skip ?_
     refine fn_next ?_
     refine cw_seq ?_
     refine cw_reg ?_
     refine ry (y_mov rfl rfl) rfl rfl ?_
     refine ry (y_neq rfl rfl rfl) rfl rfl ?_
     refine ry (y_mov rfl rfl) rfl rfl ?_
     refine rgy (y_mov rfl rfl) rfl rfl rfl rfl ?_
     refine rgy (y_ldb (i := 1) (cs := [_, _, _]) H49 rfl rfl kflaw42b_8 rfl rfl) rfl rfl rfl rfl ?_
     refine rg_on rfl rfl rfl (op_call (lIs g27 (p1 + 1 - p0) (q1 + 1 - q0) (gvalV (L) a h p0 q0 p1 q1) _ _ _ (H49.rdg (i := 3) rfl) (H49.rd (i := 2) rfl)) rfl kflaw42b_12 ⟨rfl, rfl, trivial⟩) rfl ?_
     rintro _ w51 ⟨rfl, e50⟩
     have H52 := H49.ext e50
     refine ry (y_pick rfl rfl rfl) rfl rfl ?_
     refine ry (y_mov rfl rfl) rfl rfl ?_
     refine rgy (y_mov rfl rfl) rfl rfl rfl rfl ?_
     refine rgy (y_neq rfl rfl rfl) rfl rfl rfl rfl ?_
     refine rgy (y_mov rfl rfl) rfl rfl rfl rfl ?_
     refine rg_off rfl rfl rfl rfl rfl ?_
     refine rg_off rfl rfl rfl rfl rfl ?_
     refine rg_off rfl rfl rfl rfl rfl ?_
     refine rgy (y_pick rfl rfl rfl) rfl rfl rfl rfl ?_
     refine ry (y_pick rfl rfl rfl) rfl rfl ?_
     refine ry (y_asg rfl rfl) rfl rfl ?_
     refine reg_nil ?_
     refine fn_next ?_
     refine cw_ret ?_
     refine fn_ret1 rfl rfl ?_
     exact ⟨rfl, H52.base⟩
   ·skip
    refine rg_off rfl rfl rfl rfl rfl ?_
    refine rg_off rfl rfl rfl rfl rfl ?_
    refine rg_off rfl rfl rfl rfl rfl ?_
    refine rg_off rfl rfl rfl rfl rfl ?_
    refine rgy (y_pick rfl rfl rfl) rfl rfl rfl rfl ?_
    refine ry (y_pick rfl rfl rfl) rfl rfl ?_
    refine reg_nil ?_
    refine fn_next ?_
    refine cw_condf rfl ?_
    refine cw_skip ?_
    refine fn_next ?_
    refine cw_seq ?_
    refine cw_reg ?_
    refine ry (y_mov rfl rfl) rfl rfl ?_
    refine ry (y_mov rfl rfl) rfl rfl ?_
    refine ry (y_mov rfl rfl) rfl rfl ?_
    refine reg_op (op_call (made_ok a h L A (a * h) cap _ s hl rfl hb (hr.below H14.base)) rfl kflaw42b_5 ⟨rfl, rfl, rfl, trivial⟩) rfl rfl ?_
    rintro _ w54 ⟨g56, bl57, rfl, k53⟩
    have H55 := H14.call k53
    refine ry (y_mov rfl rfl) rfl rfl ?_
    refine ry (y_ext rfl rfl rfl) rfl rfl ?_
    refine ry (y_ext rfl rfl rfl) rfl rfl ?_
    refine ry (y_asg rfl rfl) rfl rfl ?_
    refine ry (y_asg rfl rfl) rfl rfl ?_
    refine reg_nil ?_
    refine fn_next ?_
    refine cw_seq ?_
    refine cw_seq ?_
    refine cw_reg ?_
    refine ry (y_mov rfl rfl) rfl rfl ?_
    refine ry (y_not rfl rfl) rfl rfl ?_
    refine reg_nil ?_
    refine fn_next ?_
    refine cw_condf rfl ?_
    refine cw_skip ?_
    refine fn_next ?_
    refine cw_seq ?_
    refine cw_reg ?_
    refine ry (y_mov rfl rfl) rfl rfl ?_
    refine ry (y_ldb (i := 2) (cs := [_, _, _, _]) H55 rfl rfl kflaw42b_6 rfl rfl) rfl rfl ?_
    refine reg_op (op_call (gCrop_ok g56 a h (L) p0 q0 p1 q1 _ (H55.rdg (i := 0) rfl) u1 u2 u3 u4) rfl kflaw42b_7 ⟨rfl, rfl, trivial⟩) rfl rfl ?_
    rintro _ w59 ⟨g61, bl62, rfl, k58⟩
    have H60 := H55.call k58
    refine ry (y_mov rfl rfl) rfl rfl ?_
    refine ry (y_ext rfl rfl rfl) rfl rfl ?_
    refine ry (y_ext rfl rfl rfl) rfl rfl ?_
    refine ry (y_asg rfl rfl) rfl rfl ?_
    refine ry (y_asg rfl rfl) rfl rfl ?_
    refine reg_nil ?_
    refine fn_next ?_
    refine cw_seq ?_
    refine cw_reg ?_
    refine ry (y_ldb (i := 2) (cs := [_, _, _]) H60 rfl rfl kflaw42b_8 rfl rfl) rfl rfl ?_
    refine ry (y_ldb (i := 3) (cs := [_, _, _, _]) H60 rfl rfl kflaw42b_6 rfl rfl) rfl rfl ?_
    refine reg_op (op_call (mCrop_ok a h A cap L p0 q0 p1 q1 _ s (hr.below H60.base) hl u1 u2 u3 u4) rfl kflaw42b_9 ⟨rfl, rfl, trivial⟩) rfl rfl ?_
    rintro _ w64 ⟨A66, c67, rfl, k63⟩
    have H65 := H60.call k63
    refine ry (y_mov rfl rfl) rfl rfl ?_
    refine ry (y_ext rfl rfl rfl) rfl rfl ?_
    refine ry (y_ext rfl rfl rfl) rfl rfl ?_
    refine reg_op (op_alloc H65 rfl kflaw42b_3) rfl rfl ?_
    rintro _ w69 ⟨b68, rfl, H70⟩
    refine reg_op (op_st (i := 0) (vs := [.int _ _, .int _ _, .slice _ _ _]) H70 rfl rfl rfl rfl rfl kflaw42b_4 rfl rfl rfl) rfl rfl ?_
    rintro _ w71 H72
    refine ry (y_asg rfl rfl) rfl rfl ?_
    refine reg_nil ?_
    refine fn_next ?_
    refine cw_seq ?_
    refine cw_reg ?_
    refine ry (y_mov rfl rfl) rfl rfl ?_
    refine ry (y_mov rfl rfl) rfl rfl ?_
    refine reg_op (op_call (gScale_size g56 a h (L) k _ (H72.rdg (i := 3) rfl) k1 k2) rfl kflaw42b_10 ⟨rfl, rfl, trivial⟩) rfl rfl ?_
    rintro _ w74 ⟨rfl, e73⟩
    have H75 := H72.ext e73
    refine ry (y_mov rfl rfl) rfl rfl ?_
    refine ry (y_ext rfl rfl rfl) rfl rfl ?_
    refine ry (y_ext rfl rfl rfl) rfl rfl ?_
    refine ry (y_asg rfl rfl) rfl rfl ?_
    refine ry (y_asg rfl rfl) rfl rfl ?_
    refine reg_nil ?_
    refine fn_next ?_
    refine cw_seq ?_
    refine cw_reg ?_
    refine ry (y_ldb (i := 4) (cs := [_, _, _]) H75 rfl rfl kflaw42b_8 rfl rfl) rfl rfl ?_
    refine ry (y_mov rfl rfl) rfl rfl ?_
    refine reg_op (op_call (mScale_size a h A cap L k _ s (hr.below H75.base) hl k1 k2) rfl kflaw42b_11 ⟨rfl, rfl, trivial⟩) rfl rfl ?_
    rintro _ w77 ⟨rfl, e76⟩
    have H78 := H75.ext e76
    refine ry (y_mov rfl rfl) rfl rfl ?_
    refine ry (y_ext rfl rfl rfl) rfl rfl ?_
    refine ry (y_ext rfl rfl rfl) rfl rfl ?_
    refine reg_op (op_alloc H78 rfl kflaw42b_3) rfl rfl ?_
    rintro _ w80 ⟨b79, rfl, H81⟩
    refine reg_op (op_st (i := 0) (vs := [.int _ _, .int _ _, .slice _ _ _]) H81 rfl rfl rfl rfl rfl kflaw42b_4 rfl rfl rfl) rfl rfl ?_
    rintro _ w82 H83
    refine ry (y_asg rfl rfl) rfl rfl ?_
    refine reg_nil ?_
    refine fn_next ?_
    refine cw_seq ?_
    refine cw_seq ?_
    refine cw_reg ?_
    refine ry (y_mov rfl rfl) rfl rfl ?_
    refine ry (y_mov rfl rfl) rfl rfl ?_
    refine ry (y_neq rfl rfl rfl) rfl rfl ?_
    refine ry (y_mov rfl rfl) rfl rfl ?_
    refine rgy (y_mov rfl rfl) rfl rfl rfl rfl ?_
    refine rgy (y_mov rfl rfl) rfl rfl rfl rfl ?_
    refine rgy (y_neq rfl rfl rfl) rfl rfl rfl rfl ?_
    refine ry (y_pick rfl rfl rfl) rfl rfl ?_
    refine ry (y_mov rfl rfl) rfl rfl ?_
    refine rgy (y_mov rfl rfl) rfl rfl rfl rfl ?_
    refine rgy (y_peqlnil rfl Try.underlying28 rfl rfl) rfl rfl rfl rfl ?_
    refine rgy (y_mov rfl rfl) rfl rfl rfl rfl ?_
    refine rgy (y_neq rfl rfl rfl) rfl rfl rfl rfl ?_
    refine rgy (y_bneq rfl Try.underlying4 rfl rfl) rfl rfl rfl rfl ?_
    refine ry (y_pick rfl rfl rfl) rfl rfl ?_
    refine ry (y_mov rfl rfl) rfl rfl ?_
    refine rgy (y_mov rfl rfl) rfl rfl rfl rfl ?_
    refine rgy (y_peqlnil rfl Try.underlying28 rfl rfl) rfl rfl rfl rfl ?_
    refine rgy (y_mov rfl rfl) rfl rfl rfl rfl ?_
    refine rgy (y_neq rfl rfl rfl) rfl rfl rfl rfl ?_
    refine rgy (y_bneq rfl Try.underlying4 rfl rfl) rfl rfl rfl rfl ?_
    refine ry (y_pick rfl rfl rfl) rfl rfl ?_
    refine reg_nil ?_
    refine fn_next ?_
    refine cw_condf rfl ?_
    refine cw_skip ?_
    refine fn_next ?_
    refine cw_seq ?_
    refine cw_reg ?_
    refine ry (y_mov rfl rfl) rfl rfl ?_
    refine ry (y_neq rfl rfl rfl) rfl rfl ?_
    refine ry (y_mov rfl rfl) rfl rfl ?_
    refine rgy (y_mov rfl rfl) rfl rfl rfl rfl ?_
    refine rgy (y_ldb (i := 1) (cs := [_, _, _]) H83 rfl rfl kflaw42b_8 rfl rfl) rfl rfl rfl rfl ?_
    refine rg_on rfl rfl rfl (op_call (lIs g61 (p1 + 1 - p0) (q1 + 1 - q0) (gvalV (L) a h p0 q0 p1 q1) _ _ _ (H83.rdg (i := 3) rfl) (H83.rd (i := 2) rfl)) rfl kflaw42b_12 ⟨rfl, rfl, trivial⟩) rfl ?_
    rintro _ w85 ⟨rfl, e84⟩
    have H86 := H83.ext e84
    refine ry (y_pick rfl rfl rfl) rfl rfl ?_
    refine ry (y_mov rfl rfl) rfl rfl ?_
    refine rgy (y_mov rfl rfl) rfl rfl rfl rfl ?_
    refine rgy (y_neq rfl rfl rfl) rfl rfl rfl rfl ?_
    refine rgy (y_mov rfl rfl) rfl rfl rfl rfl ?_
    refine rg_off rfl rfl rfl rfl rfl ?_
    refine rg_off rfl rfl rfl rfl rfl ?_
    refine rg_off rfl rfl rfl rfl rfl ?_
    refine rgy (y_pick rfl rfl rfl) rfl rfl rfl rfl ?_
    refine ry (y_pick rfl rfl rfl) rfl rfl ?_
    refine ry (y_asg rfl rfl) rfl rfl ?_
    refine reg_nil ?_
    refine fn_next ?_
    refine cw_ret ?_
    refine fn_ret1 rfl rfl ?_
    exact ⟨rfl, H86.base⟩
  ·skip
   refine rg_off rfl rfl rfl rfl rfl ?_
   refine rg_off rfl rfl rfl rfl rfl ?_
   refine rg_off rfl rfl rfl rfl rfl ?_
   refine rg_off rfl rfl rfl rfl rfl ?_
   refine rgy (y_pick rfl rfl rfl) rfl rfl rfl rfl ?_
   refine rgy (y_mov rfl rfl) rfl rfl rfl rfl ?_
   refine rg_off rfl rfl rfl rfl rfl ?_
   refine rg_off rfl rfl rfl rfl rfl ?_
   refine rg_off rfl rfl rfl rfl rfl ?_
   refine rg_off rfl rfl rfl rfl rfl ?_
   refine rgy (y_pick rfl rfl rfl) rfl rfl rfl rfl ?_
   refine ry (y_pick rfl rfl rfl) rfl rfl ?_
   refine reg_nil ?_
   refine fn_next ?_
   refine cw_condf rfl ?_
   refine cw_skip ?_
   refine fn_next ?_
   refine cw_seq ?_
   refine cw_reg ?_
   refine ry (y_mov rfl rfl) rfl rfl ?_
   refine ry (y_mov rfl rfl) rfl rfl ?_
   refine ry (y_mov rfl rfl) rfl rfl ?_
   refine reg_op (op_call (made_ok a h L A (a * h) cap _ s hl rfl hb (hr.below H14.base)) rfl kflaw42b_5 ⟨rfl, rfl, rfl, trivial⟩) rfl rfl ?_
   rintro _ w88 ⟨g90, bl91, rfl, k87⟩
   have H89 := H14.call k87
   refine ry (y_mov rfl rfl) rfl rfl ?_
   refine ry (y_ext rfl rfl rfl) rfl rfl ?_
   refine ry (y_ext rfl rfl rfl) rfl rfl ?_
   refine ry (y_asg rfl rfl) rfl rfl ?_
   refine ry (y_asg rfl rfl) rfl rfl ?_
   refine reg_nil ?_
   refine fn_next ?_
   refine cw_seq ?_
   refine cw_seq ?_
   refine cw_reg ?_
   refine ry (y_mov rfl rfl) rfl rfl ?_
   refine ry (y_not rfl rfl) rfl rfl ?_
   refine reg_nil ?_
   refine fn_next ?_
   refine cw_condf rfl ?_
   refine cw_skip ?_
   refine fn_next ?_
   refine cw_seq ?_
   refine cw_reg ?_
   refine ry (y_mov rfl rfl) rfl rfl ?_
   refine ry (y_ldb (i := 2) (cs := [_, _, _, _]) H89 rfl rfl kflaw42b_6 rfl rfl) rfl rfl ?_
   refine reg_op (op_call (gCrop_ok g90 a h (L) p0 q0 p1 q1 _ (H89.rdg (i := 0) rfl) u1 u2 u3 u4) rfl kflaw42b_7 ⟨rfl, rfl, trivial⟩) rfl rfl ?_
   rintro _ w93 ⟨g95, bl96, rfl, k92⟩
   have H94 := H89.call k92
   refine ry (y_mov rfl rfl) rfl rfl ?_
   refine ry (y_ext rfl rfl rfl) rfl rfl ?_
   refine ry (y_ext rfl rfl rfl) rfl rfl ?_
   refine ry (y_asg rfl rfl) rfl rfl ?_
   refine ry (y_asg rfl rfl) rfl rfl ?_
   refine reg_nil ?_
   refine fn_next ?_
   refine cw_seq ?_
   refine cw_reg ?_
   refine ry (y_ldb (i := 2) (cs := [_, _, _]) H94 rfl rfl kflaw42b_8 rfl rfl) rfl rfl ?_
   refine ry (y_ldb (i := 3) (cs := [_, _, _, _]) H94 rfl rfl kflaw42b_6 rfl rfl) rfl rfl ?_
   refine reg_op (op_call (mCrop_ok a h A cap L p0 q0 p1 q1 _ s (hr.below H94.base) hl u1 u2 u3 u4) rfl kflaw42b_9 ⟨rfl, rfl, trivial⟩) rfl rfl ?_
   rintro _ w98 ⟨A100, c101, rfl, k97⟩
   have H99 := H94.call k97
   refine ry (y_mov rfl rfl) rfl rfl ?_
   refine ry (y_ext rfl rfl rfl) rfl rfl ?_
   refine ry (y_ext rfl rfl rfl) rfl rfl ?_
   refine reg_op (op_alloc H99 rfl kflaw42b_3) rfl rfl ?_
   rintro _ w103 ⟨b102, rfl, H104⟩
   refine reg_op (op_st (i := 0) (vs := [.int _ _, .int _ _, .slice _ _ _]) H104 rfl rfl rfl rfl rfl kflaw42b_4 rfl rfl rfl) rfl rfl ?_
   rintro _ w105 H106
   refine ry (y_asg rfl rfl) rfl rfl ?_
   refine reg_nil ?_
   refine fn_next ?_
   refine cw_seq ?_
   refine cw_reg ?_
   refine ry (y_mov rfl rfl) rfl rfl ?_
   refine ry (y_mov rfl rfl) rfl rfl ?_
   refine reg_op (op_call (gScale_size g90 a h (L) k _ (H106.rdg (i := 3) rfl) k1 k2) rfl kflaw42b_10 ⟨rfl, rfl, trivial⟩) rfl rfl ?_
   rintro _ w108 ⟨rfl, e107⟩
   have H109 := H106.ext e107
   refine ry (y_mov rfl rfl) rfl rfl ?_
   refine ry (y_ext rfl rfl rfl) rfl rfl ?_
   refine ry (y_ext rfl rfl rfl) rfl rfl ?_
   refine ry (y_asg rfl rfl) rfl rfl ?_
   refine ry (y_asg rfl rfl) rfl rfl ?_
   refine reg_nil ?_
   refine fn_next ?_
   refine cw_seq ?_
   refine cw_reg ?_
   refine ry (y_ldb (i := 4) (cs := [_, _, _]) H109 rfl rfl kflaw42b_8 rfl rfl) rfl rfl ?_
   refine ry (y_mov rfl rfl) rfl rfl ?_
   refine reg_op (op_call (mScale_size a h A cap L k _ s (hr.below H109.base) hl k1 k2) rfl kflaw42b_11 ⟨rfl, rfl, trivial⟩) rfl rfl ?_
   rintro _ w111 ⟨rfl, e110⟩
   have H112 := H109.ext e110
   refine ry (y_mov rfl rfl) rfl rfl ?_
   refine ry (y_ext rfl rfl rfl) rfl rfl ?_
   refine ry (y_ext rfl rfl rfl) rfl rfl ?_
   refine reg_op (op_alloc H112 rfl kflaw42b_3) rfl rfl ?_
   rintro _ w114 ⟨b113, rfl, H115⟩
   refine reg_op (op_st (i := 0) (vs := [.int _ _, .int _ _, .slice _ _ _]) H115 rfl rfl rfl rfl rfl kflaw42b_4 rfl rfl rfl) rfl rfl ?_
   rintro _ w116 H117
   refine ry (y_asg rfl rfl) rfl rfl ?_
   refine reg_nil ?_
   refine fn_next ?_
   refine cw_seq ?_
   refine cw_seq ?_
   refine cw_reg ?_
   refine ry (y_mov rfl rfl) rfl rfl ?_
   refine ry (y_mov rfl rfl) rfl rfl ?_
   refine ry (y_neq rfl rfl rfl) rfl rfl ?_
   refine ry (y_mov rfl rfl) rfl rfl ?_
   refine rgy (y_mov rfl rfl) rfl rfl rfl rfl ?_
   refine rgy (y_mov rfl rfl) rfl rfl rfl rfl ?_
   refine rgy (y_neq rfl rfl rfl) rfl rfl rfl rfl ?_
   refine ry (y_pick rfl rfl rfl) rfl rfl ?_
   refine ry (y_mov rfl rfl) rfl rfl ?_
   refine rgy (y_mov rfl rfl) rfl rfl rfl rfl ?_
   refine rgy (y_peqlnil rfl Try.underlying28 rfl rfl) rfl rfl rfl rfl ?_
   refine rgy (y_mov rfl rfl) rfl rfl rfl rfl ?_
   refine rgy (y_neq rfl rfl rfl) rfl rfl rfl rfl ?_
   refine rgy (y_bneq rfl Try.underlying4 rfl rfl) rfl rfl rfl rfl ?_
   refine ry (y_pick rfl rfl rfl) rfl rfl ?_
   refine ry (y_mov rfl rfl) rfl rfl ?_
   refine rgy (y_mov rfl rfl) rfl rfl rfl rfl ?_
   refine rgy (y_peqlnil rfl Try.underlying28 rfl rfl) rfl rfl rfl rfl ?_
   refine rgy (y_mov rfl rfl) rfl rfl rfl rfl ?_
   refine rgy (y_neq rfl rfl rfl) rfl rfl rfl rfl ?_
   refine rgy (y_bneq rfl Try.underlying4 rfl rfl) rfl rfl rfl rfl ?_
   refine ry (y_pick rfl rfl rfl) rfl rfl ?_
   refine reg_nil ?_
   refine fn_next ?_
   refine cw_condf rfl ?_
   refine cw_skip ?_
   refine fn_next ?_
   refine cw_seq ?_
   refine cw_reg ?_
   refine ry (y_mov rfl rfl) rfl rfl ?_
   refine ry (y_neq rfl rfl rfl) rfl rfl ?_
   refine ry (y_mov rfl rfl) rfl rfl ?_
   refine rgy (y_mov rfl rfl) rfl rfl rfl rfl ?_
   refine rgy (y_ldb (i := 1) (cs := [_, _, _]) H117 rfl rfl kflaw42b_8 rfl rfl) rfl rfl rfl rfl ?_
   refine rg_on rfl rfl rfl (op_call (lIs g95 (p1 + 1 - p0) (q1 + 1 - q0) (gvalV (L) a h p0 q0 p1 q1) _ _ _ (H117.rdg (i := 3) rfl) (H117.rd (i := 2) rfl)) rfl kflaw42b_12 ⟨rfl, rfl, trivial⟩) rfl ?_
   rintro _ w119 ⟨rfl, e118⟩
   have H120 := H117.ext e118
   refine ry (y_pick rfl rfl rfl) rfl rfl ?_
   refine ry (y_mov rfl rfl) rfl rfl ?_
   refine rgy (y_mov rfl rfl) rfl rfl rfl rfl ?_
   refine rgy (y_neq rfl rfl rfl) rfl rfl rfl rfl ?_
   refine rgy (y_mov rfl rfl) rfl rfl rfl rfl ?_
   refine rg_off rfl rfl rfl rfl rfl ?_
   refine rg_off rfl rfl rfl rfl rfl ?_
   refine rg_off rfl rfl rfl rfl rfl ?_
   refine rgy (y_pick rfl rfl rfl) rfl rfl rfl rfl ?_
   refine ry (y_pick rfl rfl rfl) rfl rfl ?_
   refine ry (y_asg rfl rfl) rfl rfl ?_
   refine reg_nil ?_
   refine fn_next ?_
   refine cw_ret ?_
   refine fn_ret1 rfl rfl ?_
   exact ⟨rfl, H120.base⟩
 ·skip
  refine rg_off rfl rfl rfl rfl rfl ?_
  refine rg_off rfl rfl rfl rfl rfl ?_
  refine rgy (y_pick rfl rfl rfl) rfl rfl rfl rfl ?_
  refine rgy (y_mov rfl rfl) rfl rfl rfl rfl ?_
  refine rg_off rfl rfl rfl rfl rfl ?_
  refine rg_off rfl rfl rfl rfl rfl ?_
  refine rg_off rfl rfl rfl rfl rfl ?_
  refine rg_off rfl rfl rfl rfl rfl ?_
  refine rgy (y_pick rfl rfl rfl) rfl rfl rfl rfl ?_
  refine rgy (y_mov rfl rfl) rfl rfl rfl rfl ?_
  refine rg_off rfl rfl rfl rfl rfl ?_
  refine rg_off rfl rfl rfl rfl rfl ?_
  refine rg_off rfl rfl rfl rfl rfl ?_
  refine rg_off rfl rfl rfl rfl rfl ?_
  refine rgy (y_pick rfl rfl rfl) rfl rfl rfl rfl ?_
  refine ry (y_pick rfl rfl rfl) rfl rfl ?_
  refine reg_nil ?_
  refine fn_next ?_
  refine cw_condf rfl ?_
  refine cw_skip ?_
  refine fn_next ?_
  refine cw_seq ?_
  refine cw_reg ?_
  refine ry (y_mov rfl rfl) rfl rfl ?_
  refine ry (y_mov rfl rfl) rfl rfl ?_
  refine ry (y_mov rfl rfl) rfl rfl ?_
  refine reg_op (op_call (made_ok a h L A (a * h) cap _ s hl rfl hb (hr.below H14.base)) rfl kflaw42b_5 ⟨rfl, rfl, rfl, trivial⟩) rfl rfl ?_
  rintro _ w122 ⟨g124, bl125, rfl, k121⟩
  have H123 := H14.call k121
  refine ry (y_mov rfl rfl) rfl rfl ?_
  refine ry (y_ext rfl rfl rfl) rfl rfl ?_
  refine ry (y_ext rfl rfl rfl) rfl rfl ?_
  refine ry (y_asg rfl rfl) rfl rfl ?_
  refine ry (y_asg rfl rfl) rfl rfl ?_
  refine reg_nil ?_
  refine fn_next ?_
  refine cw_seq ?_
  refine cw_seq ?_
  refine cw_reg ?_
  refine ry (y_mov rfl rfl) rfl rfl ?_
  refine ry (y_not rfl rfl) rfl rfl ?_
  refine reg_nil ?_
  refine fn_next ?_
  refine cw_condf rfl ?_
  refine cw_skip ?_
  refine fn_next ?_
  refine cw_seq ?_
  refine cw_reg ?_
  refine ry (y_mov rfl rfl) rfl rfl ?_
  refine ry (y_ldb (i := 2) (cs := [_, _, _, _]) H123 rfl rfl kflaw42b_6 rfl rfl) rfl rfl ?_
  refine reg_op (op_call (gCrop_ok g124 a h (L) p0 q0 p1 q1 _ (H123.rdg (i := 0) rfl) u1 u2 u3 u4) rfl kflaw42b_7 ⟨rfl, rfl, trivial⟩) rfl rfl ?_
  rintro _ w127 ⟨g129, bl130, rfl, k126⟩
  have H128 := H123.call k126
  refine ry (y_mov rfl rfl) rfl rfl ?_
  refine ry (y_ext rfl rfl rfl) rfl rfl ?_
  refine ry (y_ext rfl rfl rfl) rfl rfl ?_
  refine ry (y_asg rfl rfl) rfl rfl ?_
  refine ry (y_asg rfl rfl) rfl rfl ?_
  refine reg_nil ?_
  refine fn_next ?_
  refine cw_seq ?_
  refine cw_reg ?_
  refine ry (y_ldb (i := 2) (cs := [_, _, _]) H128 rfl rfl kflaw42b_8 rfl rfl) rfl rfl ?_
  refine ry (y_ldb (i := 3) (cs := [_, _, _, _]) H128 rfl rfl kflaw42b_6 rfl rfl) rfl rfl ?_
  refine reg_op (op_call (mCrop_ok a h A cap L p0 q0 p1 q1 _ s (hr.below H128.base) hl u1 u2 u3 u4) rfl kflaw42b_9 ⟨rfl, rfl, trivial⟩) rfl rfl ?_
  rintro _ w132 ⟨A134, c135, rfl, k131⟩
  have H133 := H128.call k131
  refine ry (y_mov rfl rfl) rfl rfl ?_
  refine ry (y_ext rfl rfl rfl) rfl rfl ?_
  refine ry (y_ext rfl rfl rfl) rfl rfl ?_
  refine reg_op (op_alloc H133 rfl kflaw42b_3) rfl rfl ?_
  rintro _ w137 ⟨b136, rfl, H138⟩
  refine reg_op (op_st (i := 0) (vs := [.int _ _, .int _ _, .slice _ _ _]) H138 rfl rfl rfl rfl rfl kflaw42b_4 rfl rfl rfl) rfl rfl ?_
  rintro _ w139 H140
  refine ry (y_asg rfl rfl) rfl rfl ?_
  refine reg_nil ?_
  refine fn_next ?_
  refine cw_seq ?_
  refine cw_reg ?_
  refine ry (y_mov rfl rfl) rfl rfl ?_
  refine ry (y_mov rfl rfl) rfl rfl ?_
  refine reg_op (op_call (gScale_size g124 a h (L) k _ (H140.rdg (i := 3) rfl) k1 k2) rfl kflaw42b_10 ⟨rfl, rfl, trivial⟩) rfl rfl ?_
  rintro _ w142 ⟨rfl, e141⟩
  have H143 := H140.ext e141
  refine ry (y_mov rfl rfl) rfl rfl ?_
  refine ry (y_ext rfl rfl rfl) rfl rfl ?_
  refine ry (y_ext rfl rfl rfl) rfl rfl ?_
  refine ry (y_asg rfl rfl) rfl rfl ?_
  refine ry (y_asg rfl rfl) rfl rfl ?_
  refine reg_nil ?_
  refine fn_next ?_
  refine cw_seq ?_
  refine cw_reg ?_
  refine ry (y_ldb (i := 4) (cs := [_, _, _]) H143 rfl rfl kflaw42b_8 rfl rfl) rfl rfl ?_
  refine ry (y_mov rfl rfl) rfl rfl ?_
  refine reg_op (op_call (mScale_size a h A cap L k _ s (hr.below H143.base) hl k1 k2) rfl kflaw42b_11 ⟨rfl, rfl, trivial⟩) rfl rfl ?_
  rintro _ w145 ⟨rfl, e144⟩
  have H146 := H143.ext e144
  refine ry (y_mov rfl rfl) rfl rfl ?_
  refine ry (y_ext rfl rfl rfl) rfl rfl ?_
  refine ry (y_ext rfl rfl rfl) rfl rfl ?_
  refine reg_op (op_alloc H146 rfl kflaw42b_3) rfl rfl ?_
  rintro _ w148 ⟨b147, rfl, H149⟩
  refine reg_op (op_st (i := 0) (vs := [.int _ _, .int _ _, .slice _ _ _]) H149 rfl rfl rfl rfl rfl kflaw42b_4 rfl rfl rfl) rfl rfl ?_
  rintro _ w150 H151
  refine ry (y_asg rfl rfl) rfl rfl ?_
  refine reg_nil ?_
  refine fn_next ?_
  refine cw_seq ?_
  refine cw_seq ?_
  refine cw_reg ?_
  refine ry (y_mov rfl rfl) rfl rfl ?_
  refine ry (y_mov rfl rfl) rfl rfl ?_
  refine ry (y_neq rfl rfl rfl) rfl rfl ?_
  refine ry (y_mov rfl rfl) rfl rfl ?_
  refine rgy (y_mov rfl rfl) rfl rfl rfl rfl ?_
  refine rgy (y_mov rfl rfl) rfl rfl rfl rfl ?_
  refine rgy (y_neq rfl rfl rfl) rfl rfl rfl rfl ?_
  refine ry (y_pick rfl rfl rfl) rfl rfl ?_
  refine ry (y_mov rfl rfl) rfl rfl ?_
  refine rgy (y_mov rfl rfl) rfl rfl rfl rfl ?_
  refine rgy (y_peqlnil rfl Try.underlying28 rfl rfl) rfl rfl rfl rfl ?_
  refine rgy (y_mov rfl rfl) rfl rfl rfl rfl ?_
  refine rgy (y_neq rfl rfl rfl) rfl rfl rfl rfl ?_
  refine rgy (y_bneq rfl Try.underlying4 rfl rfl) rfl rfl rfl rfl ?_
  refine ry (y_pick rfl rfl rfl) rfl rfl ?_
  refine ry (y_mov rfl rfl) rfl rfl ?_
  refine rgy (y_mov rfl rfl) rfl rfl rfl rfl ?_
  refine rgy (y_peqlnil rfl Try.underlying28 rfl rfl) rfl rfl rfl rfl ?_
  refine rgy (y_mov rfl rfl) rfl rfl rfl rfl ?_
  refine rgy (y_neq rfl rfl rfl) rfl rfl rfl rfl ?_
  refine rgy (y_bneq rfl Try.underlying4 rfl rfl) rfl rfl rfl rfl ?_
  refine ry (y_pick rfl rfl rfl) rfl rfl ?_
  refine reg_nil ?_
  refine fn_next ?_
  refine cw_condf rfl ?_
  refine cw_skip ?_
  refine fn_next ?_
  refine cw_seq ?_
  refine cw_reg ?_
  refine ry (y_mov rfl rfl) rfl rfl ?_
  refine ry (y_neq rfl rfl rfl) rfl rfl ?_
  refine ry (y_mov rfl rfl) rfl rfl ?_
  refine rgy (y_mov rfl rfl) rfl rfl rfl rfl ?_
  refine rgy (y_ldb (i := 1) (cs := [_, _, _]) H151 rfl rfl kflaw42b_8 rfl rfl) rfl rfl rfl rfl ?_
  refine rg_on rfl rfl rfl (op_call (lIs g129 (p1 + 1 - p0) (q1 + 1 - q0) (gvalV (L) a h p0 q0 p1 q1) _ _ _ (H151.rdg (i := 3) rfl) (H151.rd (i := 2) rfl)) rfl kflaw42b_12 ⟨rfl, rfl, trivial⟩) rfl ?_
  rintro _ w153 ⟨rfl, e152⟩
  have H154 := H151.ext e152
  refine ry (y_pick rfl rfl rfl) rfl rfl ?_
  refine ry (y_mov rfl rfl) rfl rfl ?_
  refine rgy (y_mov rfl rfl) rfl rfl rfl rfl ?_
  refine rgy (y_neq rfl rfl rfl) rfl rfl rfl rfl ?_
  refine rgy (y_mov rfl rfl) rfl rfl rfl rfl ?_
  refine rg_off rfl rfl rfl rfl rfl ?_
  refine rg_off rfl rfl rfl rfl rfl ?_
  refine rg_off rfl rfl rfl rfl rfl ?_
  refine rgy (y_pick rfl rfl rfl) rfl rfl rfl rfl ?_
  refine ry (y_pick rfl rfl rfl) rfl rfl ?_
  refine ry (y_asg rfl rfl) rfl rfl ?_
  refine reg_nil ?_
  refine fn_next ?_
  refine cw_ret ?_
  refine fn_ret1 rfl rfl ?_
  exact ⟨rfl, H154.base⟩

set_option maxRecDepth 100000 in
set_option maxHeartbeats 2000000 in
theorem turnCrops_ok_ok (a h : Nat) (L : List Int) (A : Option Addr) (cap : Nat) (p0 q0 p1 q1 : Nat) (k : Nat) (w : World) (h1 : 1 ≤ a) (h2 : a ≤ 400) (h3 : 1 ≤ h) (h4 : h ≤ 400) (h5 : a * h ≤ 400) (hr : Rd w A (vi .i64 L)) (hl : L.length = a * h) (hb : AllB L) (u1 : p0 ≤ p1) (u2 : p1 < a) (u3 : q0 ≤ q1) (u4 : q1 < h) (k1 : 1 ≤ k) (k2 : a * k ≤ 1024) (k3 : h * k ≤ 1024) (k4 : k ≤ 16) :
    Ret Try.prog 6 [.int .i64 (a : Int), .int .i64 (h : Int), .slice A (a * h) cap, .agg #[.int .i64 (p0 : Int), .int .i64 (q0 : Int), .int .i64 (p1 : Int), .int .i64 (q1 : Int)], .int .i64 (k : Int)] w (fun z w' => z = .bool true ∧ Below w.heap.size w w') := by
 have s : SzG a h := ⟨h1, by omega, h3, by omega⟩
 refine ret_enter Try.func6 rfl rfl rfl ?_
 have H0 := HS.start w
 refine cw_seq ?_
 refine cw_reg ?_
 refine reg_op (op_box (cs := [.int _ _, .int _ _, .int _ _, .int _ _]) H0 rfl rfl rfl) rfl rfl ?_
 rintro _ w2 ⟨b1, rfl, H3⟩
 refine ry (y_asg rfl rfl) rfl rfl ?_
 refine reg_nil ?_
 refine fn_next ?_
 refine cw_seq ?_
 refine cw_seq ?_
 refine cw_reg ?_
 refine reg_op (op_call (turnAwake _) rfl kflaw42b_1 trivial) rfl rfl ?_
 rintro _ w5 ⟨rfl, e4⟩
 have H6 := H3.ext e4
 refine ry (y_not rfl rfl) rfl rfl ?_
 refine reg_nil ?_
 refine fn_next ?_
 refine cw_condf rfl ?_
 refine cw_skip ?_
 refine fn_next ?_
 refine cw_seq ?_
 refine cw_reg ?_
 refine ry (y_mov rfl rfl) rfl rfl ?_
 refine ry (y_mov rfl rfl) rfl rfl ?_
 refine ry (y_mov rfl rfl) rfl rfl ?_
 refine reg_op (op_call (land_ok a h 400 L A (a * h) cap _ h1 h2 h3 h4 h5 rfl hl hb (by decide) (hr.below H6.base)) rfl kflaw42b_2 ⟨rfl, rfl, rfl, rfl, trivial⟩) rfl rfl ?_
 rintro _ w8 ⟨rfl, e7⟩
 have H9 := H6.ext e7
 refine ry (y_mov rfl rfl) rfl rfl ?_
 refine ry (y_ext rfl rfl rfl) rfl rfl ?_
 refine ry (y_ext rfl rfl rfl) rfl rfl ?_
 refine reg_op (op_alloc H9 rfl kflaw42b_3) rfl rfl ?_
 rintro _ w11 ⟨b10, rfl, H12⟩
 refine reg_op (op_st (i := 0) (vs := [.int _ _, .int _ _, .slice _ _ _]) H12 rfl rfl rfl rfl rfl kflaw42b_4 rfl rfl rfl) rfl rfl ?_
 rintro _ w13 H14
 refine ry (y_asg rfl rfl) rfl rfl ?_
 refine reg_nil ?_
 refine fn_next ?_
 refine cw_seq ?_
 refine cw_seq ?_
 refine cw_reg ?_
 refine ry (y_mov rfl rfl) rfl rfl ?_
 refine ry (y_not rfl rfl) rfl rfl ?_
 refine ry (y_mov rfl rfl) rfl rfl ?_
 refine rgy (y_mov rfl rfl) rfl rfl rfl rfl ?_
 refine rgy (y_gtr rfl rfl rfl) rfl rfl rfl rfl ?_
 refine rgy (y_mov rfl rfl) rfl rfl rfl rfl ?_
 refine rg_splitd (d := 36) rfl (fun h15 => ?_) (fun h15 => ?_)
 · exfalso; omega
 ·skip
  refine rg_off rfl rfl rfl rfl rfl ?_
  refine rg_off rfl rfl rfl rfl rfl ?_
  refine rgy (y_pick rfl rfl rfl) rfl rfl rfl rfl ?_
  refine rgy (y_mov rfl rfl) rfl rfl rfl rfl ?_
  refine rg_off rfl rfl rfl rfl rfl ?_
  refine rg_off rfl rfl rfl rfl rfl ?_
  refine rg_off rfl rfl rfl rfl rfl ?_
  refine rg_off rfl rfl rfl rfl rfl ?_
  refine rgy (y_pick rfl rfl rfl) rfl rfl rfl rfl ?_
  refine rgy (y_mov rfl rfl) rfl rfl rfl rfl ?_
  refine rg_off rfl rfl rfl rfl rfl ?_
  refine rg_off rfl rfl rfl rfl rfl ?_
  refine rg_off rfl rfl rfl rfl rfl ?_
  refine rg_off rfl rfl rfl rfl rfl ?_
  refine rgy (y_pick rfl rfl rfl) rfl rfl rfl rfl ?_
  refine ry (y_pick rfl rfl rfl) rfl rfl ?_
  refine reg_nil ?_
  refine fn_next ?_
  refine cw_condf rfl ?_
  refine cw_skip ?_
  refine fn_next ?_
  refine cw_seq ?_
  refine cw_reg ?_
  refine ry (y_mov rfl rfl) rfl rfl ?_
  refine ry (y_mov rfl rfl) rfl rfl ?_
  refine ry (y_mov rfl rfl) rfl rfl ?_
  refine reg_op (op_call (made_ok a h L A (a * h) cap _ s hl rfl hb (hr.below H14.base)) rfl kflaw42b_5 ⟨rfl, rfl, rfl, trivial⟩) rfl rfl ?_
  rintro _ w17 ⟨g19, bl20, rfl, k16⟩
  have H18 := H14.call k16
  refine ry (y_mov rfl rfl) rfl rfl ?_
  refine ry (y_ext rfl rfl rfl) rfl rfl ?_
  refine ry (y_ext rfl rfl rfl) rfl rfl ?_
  refine ry (y_asg rfl rfl) rfl rfl ?_
  refine ry (y_asg rfl rfl) rfl rfl ?_
  refine reg_nil ?_
  refine fn_next ?_
  refine cw_seq ?_
  refine cw_seq ?_
  refine cw_reg ?_
  refine ry (y_mov rfl rfl) rfl rfl ?_
  refine ry (y_not rfl rfl) rfl rfl ?_
  refine reg_nil ?_
  refine fn_next ?_
  refine cw_condf rfl ?_
  refine cw_skip ?_
  refine fn_next ?_
  refine cw_seq ?_
  refine cw_reg ?_
  refine ry (y_mov rfl rfl) rfl rfl ?_
  refine ry (y_ldb (i := 2) (cs := [_, _, _, _]) H18 rfl rfl kflaw42b_6 rfl rfl) rfl rfl ?_
  refine reg_op (op_call (gCrop_ok g19 a h (L) p0 q0 p1 q1 _ (H18.rdg (i := 0) rfl) u1 u2 u3 u4) rfl kflaw42b_7 ⟨rfl, rfl, trivial⟩) rfl rfl ?_
  rintro _ w22 ⟨g24, bl25, rfl, k21⟩
  have H23 := H18.call k21
  refine ry (y_mov rfl rfl) rfl rfl ?_
  refine ry (y_ext rfl rfl rfl) rfl rfl ?_
  refine ry (y_ext rfl rfl rfl) rfl rfl ?_
  refine ry (y_asg rfl rfl) rfl rfl ?_
  refine ry (y_asg rfl rfl) rfl rfl ?_
  refine reg_nil ?_
  refine fn_next ?_
  refine cw_seq ?_
  refine cw_reg ?_
  refine ry (y_ldb (i := 2) (cs := [_, _, _]) H23 rfl rfl kflaw42b_8 rfl rfl) rfl rfl ?_
  refine ry (y_ldb (i := 3) (cs := [_, _, _, _]) H23 rfl rfl kflaw42b_6 rfl rfl) rfl rfl ?_
  refine reg_op (op_call (mCrop_ok a h A cap L p0 q0 p1 q1 _ s (hr.below H23.base) hl u1 u2 u3 u4) rfl kflaw42b_9 ⟨rfl, rfl, trivial⟩) rfl rfl ?_
  rintro _ w27 ⟨A29, c30, rfl, k26⟩
  have H28 := H23.call k26
  refine ry (y_mov rfl rfl) rfl rfl ?_
  refine ry (y_ext rfl rfl rfl) rfl rfl ?_
  refine ry (y_ext rfl rfl rfl) rfl rfl ?_
  refine reg_op (op_alloc H28 rfl kflaw42b_3) rfl rfl ?_
  rintro _ w32 ⟨b31, rfl, H33⟩
  refine reg_op (op_st (i := 0) (vs := [.int _ _, .int _ _, .slice _ _ _]) H33 rfl rfl rfl rfl rfl kflaw42b_4 rfl rfl rfl) rfl rfl ?_
  rintro _ w34 H35
  refine ry (y_asg rfl rfl) rfl rfl ?_
  refine reg_nil ?_
  refine fn_next ?_
  refine cw_seq ?_
  refine cw_reg ?_
  refine ry (y_mov rfl rfl) rfl rfl ?_
  refine ry (y_mov rfl rfl) rfl rfl ?_
  refine reg_op (op_call (gScale_ok g19 a h (L) k _ (H35.rdg (i := 3) rfl) k1 k2 k3) rfl kflaw42b_10 ⟨rfl, rfl, trivial⟩) rfl rfl ?_
  rintro _ w37 ⟨g39, bl40, rfl, k36⟩
  have H38 := H35.call k36
  refine ry (y_mov rfl rfl) rfl rfl ?_
  refine ry (y_ext rfl rfl rfl) rfl rfl ?_
  refine ry (y_ext rfl rfl rfl) rfl rfl ?_
  refine ry (y_asg rfl rfl) rfl rfl ?_
  refine ry (y_asg rfl rfl) rfl rfl ?_
  refine reg_nil ?_
  refine fn_next ?_
  refine cw_seq ?_
  refine cw_reg ?_
  refine ry (y_ldb (i := 5) (cs := [_, _, _]) H38 rfl rfl kflaw42b_8 rfl rfl) rfl rfl ?_
  refine ry (y_mov rfl rfl) rfl rfl ?_
  refine reg_op (op_call (mScale_ok a h A cap L k _ s (hr.below H38.base) hl k1 k2 k3) rfl kflaw42b_11 ⟨rfl, rfl, trivial⟩) rfl rfl ?_
  rintro _ w42 ⟨A44, c45, rfl, k41⟩
  have H43 := H38.call k41
  refine ry (y_mov rfl rfl) rfl rfl ?_
  refine ry (y_ext rfl rfl rfl) rfl rfl ?_
  refine ry (y_ext rfl rfl rfl) rfl rfl ?_
  refine reg_op (op_alloc H43 rfl kflaw42b_3) rfl rfl ?_
  rintro _ w47 ⟨b46, rfl, H48⟩
  refine reg_op (op_st (i := 0) (vs := [.int _ _, .int _ _, .slice _ _ _]) H48 rfl rfl rfl rfl rfl kflaw42b_4 rfl rfl rfl) rfl rfl ?_
  rintro _ w49 H50
  refine ry (y_asg rfl rfl) rfl rfl ?_
  refine reg_nil ?_
  refine fn_next ?_
  refine cw_seq ?_
  refine cw_seq ?_
  refine cw_reg ?_
  refine ry (y_mov rfl rfl) rfl rfl ?_
  refine ry (y_mov rfl rfl) rfl rfl ?_
  refine ry (y_neq rfl rfl rfl) rfl rfl ?_
  refine ry (y_mov rfl rfl) rfl rfl ?_
  refine rgy (y_mov rfl rfl) rfl rfl rfl rfl ?_
  refine rgy (y_mov rfl rfl) rfl rfl rfl rfl ?_
  refine rgy (y_neq rfl rfl rfl) rfl rfl rfl rfl ?_
  refine ry (y_pick rfl rfl rfl) rfl rfl ?_
  refine ry (y_mov rfl rfl) rfl rfl ?_
  refine rgy (y_mov rfl rfl) rfl rfl rfl rfl ?_
  refine rgy (y_peqlnil rfl Try.underlying28 rfl rfl) rfl rfl rfl rfl ?_
  refine rgy (y_mov rfl rfl) rfl rfl rfl rfl ?_
  refine rgy (y_neq rfl rfl rfl) rfl rfl rfl rfl ?_
  refine rgy (y_bneq rfl Try.underlying4 rfl rfl) rfl rfl rfl rfl ?_
  refine ry (y_pick rfl rfl rfl) rfl rfl ?_
  refine ry (y_mov rfl rfl) rfl rfl ?_
  refine rgy (y_mov rfl rfl) rfl rfl rfl rfl ?_
  refine rgy (y_peqlnil rfl Try.underlying28 rfl rfl) rfl rfl rfl rfl ?_
  refine rgy (y_mov rfl rfl) rfl rfl rfl rfl ?_
  refine rgy (y_neq rfl rfl rfl) rfl rfl rfl rfl ?_
  refine rgy (y_bneq rfl Try.underlying4 rfl rfl) rfl rfl rfl rfl ?_
  refine ry (y_pick rfl rfl rfl) rfl rfl ?_
  refine reg_nil ?_
  refine fn_next ?_
  refine cw_condf rfl ?_
  refine cw_skip ?_
  refine fn_next ?_
  refine cw_seq ?_
  refine cw_reg ?_
  refine ry (y_mov rfl rfl) rfl rfl ?_
  refine ry (y_neq rfl rfl rfl) rfl rfl ?_
  refine ry (y_mov rfl rfl) rfl rfl ?_
  refine rgy (y_mov rfl rfl) rfl rfl rfl rfl ?_
  refine rgy (y_ldb (i := 3) (cs := [_, _, _]) H50 rfl rfl kflaw42b_8 rfl rfl) rfl rfl rfl rfl ?_
  refine rg_on rfl rfl rfl (op_call (lIs g24 (p1 + 1 - p0) (q1 + 1 - q0) (gvalV (L) a h p0 q0 p1 q1) _ _ _ (H50.rdg (i := 5) rfl) (H50.rd (i := 4) rfl)) rfl kflaw42b_12 ⟨rfl, rfl, trivial⟩) rfl ?_
  rintro _ w52 ⟨rfl, e51⟩
  have H53 := H50.ext e51
  refine ry (y_pick rfl rfl rfl) rfl rfl ?_
  refine ry (y_mov rfl rfl) rfl rfl ?_
  refine rgy (y_mov rfl rfl) rfl rfl rfl rfl ?_
  refine rgy (y_neq rfl rfl rfl) rfl rfl rfl rfl ?_
  refine rgy (y_mov rfl rfl) rfl rfl rfl rfl ?_
  refine rgy (y_mov rfl rfl) rfl rfl rfl rfl ?_
  refine rgy (y_ldb (i := 0) (cs := [_, _, _]) H53 rfl rfl kflaw42b_8 rfl rfl) rfl rfl rfl rfl ?_
  refine rg_on rfl rfl rfl (op_call (lIs g39 (a * k) (h * k) (scV (L) a h k) _ _ _ (H53.rdg (i := 2) rfl) (H53.rd (i := 1) rfl)) rfl kflaw42b_12 ⟨rfl, rfl, trivial⟩) rfl ?_
  rintro _ w55 ⟨rfl, e54⟩
  have H56 := H53.ext e54
  refine rgy (y_pick rfl rfl rfl) rfl rfl rfl rfl ?_
  refine ry (y_pick rfl rfl rfl) rfl rfl ?_
  refine ry (y_asg rfl rfl) rfl rfl ?_
  refine reg_nil ?_
  refine fn_next ?_
  refine cw_ret ?_
  refine fn_ret1 rfl rfl ?_
  exact ⟨rfl, H56.base⟩

theorem turnCrops_all (a h : Int) (L : List Int) (A : Option Addr) (n cap : Nat) (x0 y0 x1 y1 : Int) (k : Int) (w : World) (ha : I6 a) (hh : I6 h) (hr : Rd w A (vi .i64 L)) (hl : L.length = n) : Ret Try.prog 6 [.int .i64 a, .int .i64 h, .slice A n cap, .agg #[.int .i64 x0, .int .i64 y0, .int .i64 x1, .int .i64 y1], .int .i64 k] w (fun z w' => z = .bool true ∧ Below w.heap.size w w') := by
  by_cases hp : LandP a h (400 : Nat) L
  · obtain ⟨a, h, rfl, rfl, h1, h2, h3, h4, h5, h6, h7⟩ := LandP.nat hp
    obtain rfl : n = a * h := by omega
    have s : SzG a h := ⟨h1, by omega, h3, by omega⟩
    by_cases hk : k < 1
    · by_cases hw : withinC x0 y0 x1 y1 a h = 0
      · obtain ⟨p0, q0, p1, q1, rfl, rfl, rfl, rfl, u1, u2, u3, u4⟩ := within_natG s hw
        exact turnCrops_ok_arg a h L A cap p0 q0 p1 q1 k w h1 h2 h3 h4 h5 hr hl h7 u1 u2 u3 u4 hk
      · exact turnCrops_no_arg a h L A cap x0 y0 x1 y1 k w h1 h2 h3 h4 h5 hr hl h7 hw hk
    · by_cases hs : (a : Int) * k ≤ 1024 ∧ (h : Int) * k ≤ 1024
      · obtain ⟨k, rfl⟩ : ∃ q : Nat, k = q := ⟨k.toNat, by omega⟩
        rw [← Int.natCast_mul, ← Int.natCast_mul] at hs
        have hs1 : a * k ≤ 1024 := by omega
        have hs2 : h * k ≤ 1024 := by omega
        have hk3 : 1 * k ≤ a * k := Nat.mul_le_mul_right _ h1
        by_cases hk2 : k ≤ 16
        · by_cases hw : withinC x0 y0 x1 y1 a h = 0
          · obtain ⟨p0, q0, p1, q1, rfl, rfl, rfl, rfl, u1, u2, u3, u4⟩ := within_natG s hw
            exact turnCrops_ok_ok a h L A cap p0 q0 p1 q1 k w h1 h2 h3 h4 h5 hr hl h7 u1 u2 u3 u4 (by omega) hs1 hs2 hk2
          · exact turnCrops_no_ok a h L A cap x0 y0 x1 y1 k w h1 h2 h3 h4 h5 hr hl h7 hw (by omega) hs1 hs2 hk2
        · exact turnCrops_skip a h L A cap x0 y0 x1 y1 k w h1 h2 h3 h4 h5 hr hl h7 (by omega) (by omega) hs1 hs2
      · by_cases hw : withinC x0 y0 x1 y1 a h = 0
        · obtain ⟨p0, q0, p1, q1, rfl, rfl, rfl, rfl, u1, u2, u3, u4⟩ := within_natG s hw
          exact turnCrops_ok_size a h L A cap p0 q0 p1 q1 k w h1 h2 h3 h4 h5 hr hl h7 u1 u2 u3 u4 (by omega) hs
        · exact turnCrops_no_size a h L A cap x0 y0 x1 y1 k w h1 h2 h3 h4 h5 hr hl h7 hw (by omega) hs
  · exact turnCrops_no a h L A n cap x0 y0 x1 y1 k w ha hh hr hl hp

theorem turnCrops_law (a : Int) (h : Int) (zs : List Int) (A2 : Option Addr) (n2 c2 : Nat) (rx0 ry0 rx1 ry1 : Int) (k : Int) (W : World) (ba : I6 a) (bh : I6 h) (hzs : Ints .i64 W A2 n2 zs) (le2 : n2 ≤ c2) (mx2 : c2 ≤ maxLen) (wzs : ∀ z ∈ zs, I6 z) (brx0 : I6 rx0) (bry0 : I6 ry0) (brx1 : I6 rx1) (bry1 : I6 ry1) (bk : I6 k) :
    Calls Try.prog 6 #[.int .i64 a, .int .i64 h, .slice A2 n2 c2, .agg #[.int .i64 rx0, .int .i64 ry0, .int .i64 rx1, .int .i64 ry1], .int .i64 k] W fun e w' => e = .returned (.bool true) ∧ Below W.heap.size W w' := lawOf (turnCrops_all a h zs A2 n2 c2 rx0 ry0 rx1 ry1 k W ba bh (Rd.of_ints hzs) hzs.len)

end Go.Proofs.Ytbhmkpnihgjlnaa
