/- Layer 42: TurnJoins. -/
import Derived.Test.YtbhmkpnihgjlnaaTurn5
import Derived.Test.YtbhmkpnihgjlnaaLand2
set_option linter.unusedVariables false
set_option linter.unusedSimpArgs false
namespace Go.Proofs.Ytbhmkpnihgjlnaa
open Go Go.RowKit
theorem kflaw42c_1 : callB Try.prog 29 = true := by kernel_rfl
theorem kflaw42c_2 : callB Try.prog 16 = true := by kernel_rfl
theorem kflaw42c_3 : (Try.prog.info? 25).bind (fun i => i.zero.map Value.cells) = some (List.toArray [(.int .i64 0), (.int .i64 0), (.slice none 0 0)]) := by kernel_rfl
theorem kflaw42c_4 : szB Try.prog 25 3 = true := by kernel_rfl
theorem kflaw42c_5 : callB Try.prog 17 = true := by kernel_rfl
theorem kflaw42c_6 : callB Try.prog 46 = true := by kernel_rfl
theorem kflaw42c_7 : callB Try.prog 47 = true := by kernel_rfl
theorem kflaw42c_8 : aggB Try.prog 25 3 = true := by kernel_rfl
theorem kflaw42c_9 : callB Try.prog 50 = true := by kernel_rfl
theorem kflaw42c_10 : callB Try.prog 51 = true := by kernel_rfl
theorem kflaw42c_11 : (Try.prog.info? 55).bind (fun i => i.zero.map Value.cells) = some (List.toArray [(.int .i64 0), (.int .i64 0), (.int .i64 0), (.int .i64 0)]) := by kernel_rfl
theorem kflaw42c_12 : callB Try.prog 30 = true := by kernel_rfl
theorem kflaw42c_13 : callB Try.prog 22 = true := by kernel_rfl
theorem kflaw42c_14 : callB Try.prog 38 = true := by kernel_rfl

set_option maxRecDepth 100000 in
theorem turnJoins_no (a h : Int) (L : List Int) (A : Option Addr) (n cap : Nat) (a2 h2 : Int) (L2 : List Int) (B : Option Addr) (n2 cap2 : Nat) (w : World) (ha : I6 a) (hh : I6 h) (hr : Rd w A (vi .i64 L)) (hl : L.length = n) (ha2 : I6 a2) (hh2 : I6 h2) (hr2 : Rd w B (vi .i64 L2)) (hl2 : L2.length = n2) (hp : ¬ (LandP a h (1000 : Nat) L ∧ LandP a2 h2 (1000 : Nat) L2)) :
    Ret Try.prog 13 [.int .i64 a, .int .i64 h, .slice A n cap, .int .i64 a2, .int .i64 h2, .slice B n2 cap2] w (fun z w' => z = .bool true ∧ Below w.heap.size w w') := by
 refine ret_enter Try.func13 rfl rfl rfl ?_
 have H0 := HS.start w
 refine cw_seq ?_
 refine cw_reg ?_
 refine ry (y_asg rfl rfl) rfl rfl ?_
 refine reg_nil ?_
 refine fn_next ?_
 refine cw_seq ?_
 refine cw_seq ?_
 refine cw_reg ?_
 refine reg_op (op_call (turnAwake _) rfl kflaw42c_1 trivial) rfl rfl ?_
 rintro _ w2 ⟨rfl, e1⟩
 have H3 := H0.ext e1
 refine ry (y_not rfl rfl) rfl rfl ?_
 refine reg_nil ?_
 refine fn_next ?_
 refine cw_condf rfl ?_
 refine cw_skip ?_
 refine fn_next ?_
 refine cw_seq ?_
 refine cw_reg ?_
 refine ry (y_mov rfl rfl) rfl rfl ?_
 refine ry (y_mov rfl rfl) rfl rfl ?_
 refine ry (y_mov rfl rfl) rfl rfl ?_
 refine reg_op (op_call (land_any a h 1000 L A n cap _ ha hh (by decide) (hr.below H3.base) hl) rfl kflaw42c_2 ⟨rfl, rfl, rfl, rfl, trivial⟩) rfl rfl ?_
 rintro _ w5 ⟨rfl, e4⟩
 have H6 := H3.ext e4
 refine ry (y_mov rfl rfl) rfl rfl ?_
 refine ry (y_ext rfl rfl rfl) rfl rfl ?_
 refine ry (y_ext rfl rfl rfl) rfl rfl ?_
 refine reg_op (op_alloc H6 rfl kflaw42c_3) rfl rfl ?_
 rintro _ w8 ⟨b7, rfl, H9⟩
 refine reg_op (op_st (i := 0) (vs := [.int _ _, .int _ _, .slice _ _ _]) H9 rfl rfl rfl rfl rfl kflaw42c_4 rfl rfl rfl) rfl rfl ?_
 rintro _ w10 H11
 refine ry (y_asg rfl rfl) rfl rfl ?_
 refine reg_nil ?_
 refine fn_next ?_
 refine cw_seq ?_
 refine cw_reg ?_
 refine ry (y_mov rfl rfl) rfl rfl ?_
 refine ry (y_mov rfl rfl) rfl rfl ?_
 refine ry (y_mov rfl rfl) rfl rfl ?_
 refine reg_op (op_call (land_any a2 h2 1000 L2 B n2 cap2 _ ha2 hh2 (by decide) (hr2.below H11.base) hl2) rfl kflaw42c_2 ⟨rfl, rfl, rfl, rfl, trivial⟩) rfl rfl ?_
 rintro _ w13 ⟨rfl, e12⟩
 have H14 := H11.ext e12
 refine ry (y_mov rfl rfl) rfl rfl ?_
 refine ry (y_ext rfl rfl rfl) rfl rfl ?_
 refine ry (y_ext rfl rfl rfl) rfl rfl ?_
 refine reg_op (op_alloc H14 rfl kflaw42c_3) rfl rfl ?_
 rintro _ w16 ⟨b15, rfl, H17⟩
 refine reg_op (op_st (i := 0) (vs := [.int _ _, .int _ _, .slice _ _ _]) H17 rfl rfl rfl rfl rfl kflaw42c_4 rfl rfl rfl) rfl rfl ?_
 rintro _ w18 H19
 refine ry (y_asg rfl rfl) rfl rfl ?_
 refine reg_nil ?_
 refine fn_next ?_
 refine cw_seq ?_
 refine cw_seq ?_
 refine cw_reg ?_
 refine ry (y_mov rfl rfl) rfl rfl ?_
 refine ry (y_notd rfl rfl) rfl rfl ?_
 refine ry (y_mov rfl rfl) rfl rfl ?_
 refine rg_splitd (d := 51) rfl (fun h20 => ?_) (fun h20 => ?_)
 ·skip
  refine rg_off rfl rfl rfl rfl rfl ?_
  refine rg_off rfl rfl rfl rfl rfl ?_
  refine ry (y_pick rfl rfl rfl) rfl rfl ?_
  refine reg_nil ?_
  refine fn_next ?_
  refine cw_condt rfl ?_
  refine cw_seq ?_
  refine cw_reg ?_
  refine ry (y_asg rfl rfl) rfl rfl ?_
  refine reg_nil ?_
  refine fn_next ?_
  refine cw_ret ?_
  refine fn_then_ret ?_
  refine fn_ret1 rfl rfl ?_
  exact ⟨rfl, H19.base⟩
 ·skip
  have q1 := Classical.not_not.1 h20
  refine rgy (y_mov rfl rfl) rfl rfl rfl rfl ?_
  refine rgy (y_notd rfl rfl) rfl rfl rfl rfl ?_
  refine ry (y_pick rfl rfl rfl) rfl rfl ?_
  refine reg_nil ?_
  refine fn_next ?_
  refine cw_condd rfl (fun h21 => ?_) (fun h21 => ?_)
  ·skip
   refine cw_seq ?_
   refine cw_reg ?_
   refine ry (y_asg rfl rfl) rfl rfl ?_
   refine reg_nil ?_
   refine fn_next ?_
   refine cw_ret ?_
   refine fn_then_ret ?_
   refine fn_ret1 rfl rfl ?_
   exact ⟨rfl, H19.base⟩
  · exact absurd ⟨q1, Classical.not_not.1 h21⟩ hp

set_option maxRecDepth 100000 in
set_option maxHeartbeats 2000000 in
theorem turnJoins_n_n (a h : Nat) (L : List Int) (A : Option Addr) (cap : Nat) (a2 : Nat) (h2 : Nat) (L2 : List Int) (B : Option Addr) (cap2 : Nat) (w : World) (j1 : 1 ≤ a) (j2 : a ≤ 1000) (j3 : 1 ≤ h) (j4 : h ≤ 1000) (j5 : a * h ≤ 1000) (hr : Rd w A (vi .i64 L)) (hl : L.length = a * h) (hb : AllB L) (i1 : 1 ≤ a2) (i2 : a2 ≤ 1000) (i3 : 1 ≤ h2) (i4 : h2 ≤ 1000) (i5 : a2 * h2 ≤ 1000) (hr2 : Rd w B (vi .i64 L2)) (hl2 : L2.length = a2 * h2) (hb2 : AllB L2) (hn : ¬ h = h2) (kn : ¬ a = a2) :
    Ret Try.prog 13 [.int .i64 (a : Int), .int .i64 (h : Int), .slice A (a * h) cap, .int .i64 (a2 : Int), .int .i64 (h2 : Int), .slice B (a2 * h2) cap2] w (fun z w' => z = .bool true ∧ Below w.heap.size w w') := by
 have s : SzG a h := ⟨j1, by omega, j3, by omega⟩
 have s' : SzG a2 h2 := ⟨i1, by omega, i3, by omega⟩
 have G1 : GV a h L := ⟨j1, by omega, j3, by omega, hl, hb⟩
 have G2 : GV a2 h2 L2 := ⟨i1, by omega, i3, by omega, hl2, hb2⟩
 refine ret_enter Try.func13 rfl rfl rfl ?_
 have H0 := HS.start w
 refine cw_seq ?_
 refine cw_reg ?_
 refine ry (y_asg rfl rfl) rfl rfl ?_
 refine reg_nil ?_
 refine fn_next ?_
 refine cw_seq ?_
 refine cw_seq ?_
 refine cw_reg ?_
 refine reg_op (op_call (turnAwake _) rfl kflaw42c_1 trivial) rfl rfl ?_
 rintro _ w2 ⟨rfl, e1⟩
 have H3 := H0.ext e1
 refine ry (y_not rfl rfl) rfl rfl ?_
 refine reg_nil ?_
 refine fn_next ?_
 refine cw_condf rfl ?_
 refine cw_skip ?_
 refine fn_next ?_
 refine cw_seq ?_
 refine cw_reg ?_
 refine ry (y_mov rfl rfl) rfl rfl ?_
 refine ry (y_mov rfl rfl) rfl rfl ?_
 refine ry (y_mov rfl rfl) rfl rfl ?_
 refine reg_op (op_call (land_ok a h 1000 L A (a * h) cap _ j1 j2 j3 j4 j5 rfl hl hb (by decide) (hr.below H3.base)) rfl kflaw42c_2 ⟨rfl, rfl, rfl, rfl, trivial⟩) rfl rfl ?_
 rintro _ w5 ⟨rfl, e4⟩
 have H6 := H3.ext e4
 refine ry (y_mov rfl rfl) rfl rfl ?_
 refine ry (y_ext rfl rfl rfl) rfl rfl ?_
 refine ry (y_ext rfl rfl rfl) rfl rfl ?_
 refine reg_op (op_alloc H6 rfl kflaw42c_3) rfl rfl ?_
 rintro _ w8 ⟨b7, rfl, H9⟩
 refine reg_op (op_st (i := 0) (vs := [.int _ _, .int _ _, .slice _ _ _]) H9 rfl rfl rfl rfl rfl kflaw42c_4 rfl rfl rfl) rfl rfl ?_
 rintro _ w10 H11
 refine ry (y_asg rfl rfl) rfl rfl ?_
 refine reg_nil ?_
 refine fn_next ?_
 refine cw_seq ?_
 refine cw_reg ?_
 refine ry (y_mov rfl rfl) rfl rfl ?_
 refine ry (y_mov rfl rfl) rfl rfl ?_
 refine ry (y_mov rfl rfl) rfl rfl ?_
 refine reg_op (op_call (land_ok a2 h2 1000 L2 B (a2 * h2) cap2 _ i1 i2 i3 i4 i5 rfl hl2 hb2 (by decide) (hr2.below H11.base)) rfl kflaw42c_2 ⟨rfl, rfl, rfl, rfl, trivial⟩) rfl rfl ?_
 rintro _ w13 ⟨rfl, e12⟩
 have H14 := H11.ext e12
 refine ry (y_mov rfl rfl) rfl rfl ?_
 refine ry (y_ext rfl rfl rfl) rfl rfl ?_
 refine ry (y_ext rfl rfl rfl) rfl rfl ?_
 refine reg_op (op_alloc H14 rfl kflaw42c_3) rfl rfl ?_
 rintro _ w16 ⟨b15, rfl, H17⟩
 refine reg_op (op_st (i := 0) (vs := [.int _ _, .int _ _, .slice _ _ _]) H17 rfl rfl rfl rfl rfl kflaw42c_4 rfl rfl rfl) rfl rfl ?_
 rintro _ w18 H19
 refine ry (y_asg rfl rfl) rfl rfl ?_
 refine reg_nil ?_
 refine fn_next ?_
 refine cw_seq ?_
 refine cw_seq ?_
 refine cw_reg ?_
 refine ry (y_mov rfl rfl) rfl rfl ?_
 refine ry (y_not rfl rfl) rfl rfl ?_
 refine ry (y_mov rfl rfl) rfl rfl ?_
 refine rgy (y_mov rfl rfl) rfl rfl rfl rfl ?_
 refine rgy (y_not rfl rfl) rfl rfl rfl rfl ?_
 refine ry (y_pick rfl rfl rfl) rfl rfl ?_
 refine reg_nil ?_
 refine fn_next ?_
 refine cw_condf rfl ?_
 refine cw_skip ?_
 refine fn_next ?_
 refine cw_seq ?_
 refine cw_reg ?_
 refine ry (y_mov rfl rfl) rfl rfl ?_
 refine ry (y_mov rfl rfl) rfl rfl ?_
 refine ry (y_mov rfl rfl) rfl rfl ?_
 refine reg_op (op_call (made_ok a h L A (a * h) cap _ s hl rfl hb (hr.below H19.base)) rfl kflaw42c_5 ⟨rfl, rfl, rfl, trivial⟩) rfl rfl ?_
 rintro _ w21 ⟨g23, bl24, rfl, k20⟩
 have H22 := H19.call k20
 refine ry (y_mov rfl rfl) rfl rfl ?_
 refine ry (y_ext rfl rfl rfl) rfl rfl ?_
 refine ry (y_ext rfl rfl rfl) rfl rfl ?_
 refine ry (y_asg rfl rfl) rfl rfl ?_
 refine ry (y_asg rfl rfl) rfl rfl ?_
 refine reg_nil ?_
 refine fn_next ?_
 refine cw_seq ?_
 refine cw_reg ?_
 refine ry (y_mov rfl rfl) rfl rfl ?_
 refine ry (y_mov rfl rfl) rfl rfl ?_
 refine ry (y_mov rfl rfl) rfl rfl ?_
 refine reg_op (op_call (made_ok a2 h2 L2 B (a2 * h2) cap2 _ s' hl2 rfl hb2 (hr2.below H22.base)) rfl kflaw42c_5 ⟨rfl, rfl, rfl, trivial⟩) rfl rfl ?_
 rintro _ w26 ⟨g28, bl29, rfl, k25⟩
 have H27 := H22.call k25
 refine ry (y_mov rfl rfl) rfl rfl ?_
 refine ry (y_ext rfl rfl rfl) rfl rfl ?_
 refine ry (y_ext rfl rfl rfl) rfl rfl ?_
 refine ry (y_asg rfl rfl) rfl rfl ?_
 refine ry (y_asg rfl rfl) rfl rfl ?_
 refine reg_nil ?_
 refine fn_next ?_
 refine cw_seq ?_
 refine cw_reg ?_
 refine ry (y_mov rfl rfl) rfl rfl ?_
 refine ry (y_mov rfl rfl) rfl rfl ?_
 refine reg_op (op_call (gBeside_n g23 a h L g28 a2 h2 L2 _ (H27.rdg (i := 1) rfl) (H27.rdg (i := 0) rfl) hn) rfl kflaw42c_6 ⟨rfl, rfl, trivial⟩) rfl rfl ?_
 rintro _ w31 ⟨rfl, e30⟩
 have H32 := H27.ext e30
 refine ry (y_mov rfl rfl) rfl rfl ?_
 refine ry (y_ext rfl rfl rfl) rfl rfl ?_
 refine ry (y_ext rfl rfl rfl) rfl rfl ?_
 refine ry (y_asg rfl rfl) rfl rfl ?_
 refine ry (y_asg rfl rfl) rfl rfl ?_
 refine reg_nil ?_
 refine fn_next ?_
 refine cw_seq ?_
 refine cw_reg ?_
 refine ry (y_mov rfl rfl) rfl rfl ?_
 refine ry (y_mov rfl rfl) rfl rfl ?_
 refine reg_op (op_call (gBelow_n g23 a h L g28 a2 h2 L2 _ (H32.rdg (i := 1) rfl) (H32.rdg (i := 0) rfl) kn) rfl kflaw42c_7 ⟨rfl, rfl, trivial⟩) rfl rfl ?_
 rintro _ w34 ⟨rfl, e33⟩
 have H35 := H32.ext e33
 refine ry (y_mov rfl rfl) rfl rfl ?_
 refine ry (y_ext rfl rfl rfl) rfl rfl ?_
 refine ry (y_ext rfl rfl rfl) rfl rfl ?_
 refine ry (y_asg rfl rfl) rfl rfl ?_
 refine ry (y_asg rfl rfl) rfl rfl ?_
 refine reg_nil ?_
 refine fn_next ?_
 refine cw_seq ?_
 refine cw_reg ?_
 refine ry (y_ldb (i := 3) (cs := [_, _, _]) H35 rfl rfl kflaw42c_8 rfl rfl) rfl rfl ?_
 refine ry (y_ldb (i := 2) (cs := [_, _, _]) H35 rfl rfl kflaw42c_8 rfl rfl) rfl rfl ?_
 refine reg_op (op_call (mBeside_n a h A cap L a2 h2 B cap2 L2 _ s (hr.below H35.base) hl s' (hr2.below H35.base) hl2 hn) rfl kflaw42c_9 ⟨rfl, rfl, trivial⟩) rfl rfl ?_
 rintro _ w37 ⟨rfl, e36⟩
 have H38 := H35.ext e36
 refine ry (y_mov rfl rfl) rfl rfl ?_
 refine ry (y_ext rfl rfl rfl) rfl rfl ?_
 refine ry (y_ext rfl rfl rfl) rfl rfl ?_
 refine reg_op (op_alloc H38 rfl kflaw42c_3) rfl rfl ?_
 rintro _ w40 ⟨b39, rfl, H41⟩
 refine reg_op (op_st (i := 0) (vs := [.int _ _, .int _ _, .slice _ _ _]) H41 rfl rfl rfl rfl rfl kflaw42c_4 rfl rfl rfl) rfl rfl ?_
 rintro _ w42 H43
 refine ry (y_asg rfl rfl) rfl rfl ?_
 refine reg_nil ?_
 refine fn_next ?_
 refine cw_seq ?_
 refine cw_reg ?_
 refine ry (y_ldb (i := 4) (cs := [_, _, _]) H43 rfl rfl kflaw42c_8 rfl rfl) rfl rfl ?_
 refine ry (y_ldb (i := 3) (cs := [_, _, _]) H43 rfl rfl kflaw42c_8 rfl rfl) rfl rfl ?_
 refine reg_op (op_call (mBelow_n a h A cap L a2 h2 B cap2 L2 _ s (hr.below H43.base) hl s' (hr2.below H43.base) hl2 kn) rfl kflaw42c_10 ⟨rfl, rfl, trivial⟩) rfl rfl ?_
 rintro _ w45 ⟨rfl, e44⟩
 have H46 := H43.ext e44
 refine ry (y_mov rfl rfl) rfl rfl ?_
 refine ry (y_ext rfl rfl rfl) rfl rfl ?_
 refine ry (y_ext rfl rfl rfl) rfl rfl ?_
 refine reg_op (op_alloc H46 rfl kflaw42c_3) rfl rfl ?_
 rintro _ w48 ⟨b47, rfl, H49⟩
 refine reg_op (op_st (i := 0) (vs := [.int _ _, .int _ _, .slice _ _ _]) H49 rfl rfl rfl rfl rfl kflaw42c_4 rfl rfl rfl) rfl rfl ?_
 rintro _ w50 H51
 refine ry (y_asg rfl rfl) rfl rfl ?_
 refine reg_nil ?_
 refine fn_next ?_
 refine cw_seq ?_
 refine cw_seq ?_
 refine cw_reg ?_
 refine ry (y_mov rfl rfl) rfl rfl ?_
 refine ry (y_not rfl rfl) rfl rfl ?_
 refine ry (y_mov rfl rfl) rfl rfl ?_
 refine rgy (y_mov rfl rfl) rfl rfl rfl rfl ?_
 refine rgy (y_not rfl rfl) rfl rfl rfl rfl ?_
 refine ry (y_pick rfl rfl rfl) rfl rfl ?_
 refine ry (y_mov rfl rfl) rfl rfl ?_
 refine rgy (y_mov rfl rfl) rfl rfl rfl rfl ?_
 refine rgy (y_mov rfl rfl) rfl rfl rfl rfl ?_
 refine rgy (y_neq rfl rfl rfl) rfl rfl rfl rfl ?_
 refine ry (y_pick rfl rfl rfl) rfl rfl ?_
 refine ry (y_mov rfl rfl) rfl rfl ?_
 refine rgy (y_mov rfl rfl) rfl rfl rfl rfl ?_
 refine rgy (y_mov rfl rfl) rfl rfl rfl rfl ?_
 refine rgy (y_neq rfl rfl rfl) rfl rfl rfl rfl ?_
 refine ry (y_pick rfl rfl rfl) rfl rfl ?_
 refine ry (y_mov rfl rfl) rfl rfl ?_
 refine rgy (y_mov rfl rfl) rfl rfl rfl rfl ?_
 refine rgy (y_peqlnil rfl Try.underlying28 rfl rfl) rfl rfl rfl rfl ?_
 refine rgy (y_mov rfl rfl) rfl rfl rfl rfl ?_
 refine rgy (y_neq rfl rfl rfl) rfl rfl rfl rfl ?_
 refine rgy (y_bneq rfl Try.underlying4 rfl rfl) rfl rfl rfl rfl ?_
 refine ry (y_pick rfl rfl rfl) rfl rfl ?_
 refine ry (y_mov rfl rfl) rfl rfl ?_
 refine rgy (y_mov rfl rfl) rfl rfl rfl rfl ?_
 refine rgy (y_peqlnil rfl Try.underlying28 rfl rfl) rfl rfl rfl rfl ?_
 refine rgy (y_mov rfl rfl) rfl rfl rfl rfl ?_
 refine rgy (y_neq rfl rfl rfl) rfl rfl rfl rfl ?_
 refine rgy (y_bneq rfl Try.underlying4 rfl rfl) rfl rfl rfl rfl ?_
 refine ry (y_pick rfl rfl rfl) rfl rfl ?_
 refine reg_nil ?_
 refine fn_next ?_
 refine cw_condf rfl ?_
 refine cw_skip ?_
 refine fn_next ?_
 refine cw_seq ?_
 refine cw_seq ?_
 refine cw_reg ?_
 refine ry (y_mov rfl rfl) rfl rfl ?_
 refine ry (y_eql rfl rfl rfl) rfl rfl ?_
 refine reg_nil ?_
 refine fn_next ?_
 refine cw_condf rfl ?_
 refine cw_skip ?_
 refine fn_next ?_
 refine cw_seq ?_
 refine cw_seq ?_
 refine cw_reg ?_
 refine ry (y_mov rfl rfl) rfl rfl ?_
 refine ry (y_eql rfl rfl rfl) rfl rfl ?_
 refine reg_nil ?_
 refine fn_next ?_
 refine cw_condf rfl ?_
 refine cw_skip ?_
 refine fn_next ?_
 refine cw_seq ?_
 refine cw_reg ?_
 refine ry (y_asg rfl rfl) rfl rfl ?_
 refine reg_nil ?_
 refine fn_next ?_
 refine cw_ret ?_
 refine fn_ret1 rfl rfl ?_
 exact ⟨rfl, H51.base⟩

set_option maxRecDepth 100000 in
set_option maxHeartbeats 2000000 in
theorem turnJoins_n_s (a h : Nat) (L : List Int) (A : Option Addr) (cap : Nat) (a2 : Nat) (h2 : Nat) (L2 : List Int) (B : Option Addr) (cap2 : Nat) (w : World) (j1 : 1 ≤ a) (j2 : a ≤ 1000) (j3 : 1 ≤ h) (j4 : h ≤ 1000) (j5 : a * h ≤ 1000) (hr : Rd w A (vi .i64 L)) (hl : L.length = a * h) (hb : AllB L) (i1 : 1 ≤ a2) (i2 : a2 ≤ 1000) (i3 : 1 ≤ h2) (i4 : h2 ≤ 1000) (i5 : a2 * h2 ≤ 1000) (hr2 : Rd w B (vi .i64 L2)) (hl2 : L2.length = a2 * h2) (hb2 : AllB L2) (hn : ¬ h = h2) (kn : a = a2) (ks : ¬ h + h2 ≤ 1024) :
    Ret Try.prog 13 [.int .i64 (a : Int), .int .i64 (h : Int), .slice A (a * h) cap, .int .i64 (a2 : Int), .int .i64 (h2 : Int), .slice B (a2 * h2) cap2] w (fun z w' => z = .bool true ∧ Below w.heap.size w w') := by
 have s : SzG a h := ⟨j1, by omega, j3, by omega⟩
 have s' : SzG a2 h2 := ⟨i1, by omega, i3, by omega⟩
 have G1 : GV a h L := ⟨j1, by omega, j3, by omega, hl, hb⟩
 have G2 : GV a2 h2 L2 := ⟨i1, by omega, i3, by omega, hl2, hb2⟩
 refine ret_enter Try.func13 rfl rfl rfl ?_
 have H0 := HS.start w
 refine cw_seq ?_
 refine cw_reg ?_
 refine ry (y_asg rfl rfl) rfl rfl ?_
 refine reg_nil ?_
 refine fn_next ?_
 refine cw_seq ?_
 refine cw_seq ?_
 refine cw_reg ?_
 refine reg_op (op_call (turnAwake _) rfl kflaw42c_1 trivial) rfl rfl ?_
 rintro _ w2 ⟨rfl, e1⟩
 have H3 := H0.ext e1
 refine ry (y_not rfl rfl) rfl rfl ?_
 refine reg_nil ?_
 refine fn_next ?_
 refine cw_condf rfl ?_
 refine cw_skip ?_
 refine fn_next ?_
 refine cw_seq ?_
 refine cw_reg ?_
 refine ry (y_mov rfl rfl) rfl rfl ?_
 refine ry (y_mov rfl rfl) rfl rfl ?_
 refine ry (y_mov rfl rfl) rfl rfl ?_
 refine reg_op (op_call (land_ok a h 1000 L A (a * h) cap _ j1 j2 j3 j4 j5 rfl hl hb (by decide) (hr.below H3.base)) rfl kflaw42c_2 ⟨rfl, rfl, rfl, rfl, trivial⟩) rfl rfl ?_
 rintro _ w5 ⟨rfl, e4⟩
 have H6 := H3.ext e4
 refine ry (y_mov rfl rfl) rfl rfl ?_
 refine ry (y_ext rfl rfl rfl) rfl rfl ?_
 refine ry (y_ext rfl rfl rfl) rfl rfl ?_
 refine reg_op (op_alloc H6 rfl kflaw42c_3) rfl rfl ?_
 rintro _ w8 ⟨b7, rfl, H9⟩
 refine reg_op (op_st (i := 0) (vs := [.int _ _, .int _ _, .slice _ _ _]) H9 rfl rfl rfl rfl rfl kflaw42c_4 rfl rfl rfl) rfl rfl ?_
 rintro _ w10 H11
 refine ry (y_asg rfl rfl) rfl rfl ?_
 refine reg_nil ?_
 refine fn_next ?_
 refine cw_seq ?_
 refine cw_reg ?_
 refine ry (y_mov rfl rfl) rfl rfl ?_
 refine ry (y_mov rfl rfl) rfl rfl ?_
 refine ry (y_mov rfl rfl) rfl rfl ?_
 refine reg_op (op_call (land_ok a2 h2 1000 L2 B (a2 * h2) cap2 _ i1 i2 i3 i4 i5 rfl hl2 hb2 (by decide) (hr2.below H11.base)) rfl kflaw42c_2 ⟨rfl, rfl, rfl, rfl, trivial⟩) rfl rfl ?_
 rintro _ w13 ⟨rfl, e12⟩
 have H14 := H11.ext e12
 refine ry (y_mov rfl rfl) rfl rfl ?_
 refine ry (y_ext rfl rfl rfl) rfl rfl ?_
 refine ry (y_ext rfl rfl rfl) rfl rfl ?_
 refine reg_op (op_alloc H14 rfl kflaw42c_3) rfl rfl ?_
 rintro _ w16 ⟨b15, rfl, H17⟩
 refine reg_op (op_st (i := 0) (vs := [.int _ _, .int _ _, .slice _ _ _]) H17 rfl rfl rfl rfl rfl kflaw42c_4 rfl rfl rfl) rfl rfl ?_
 rintro _ w18 H19
 refine ry (y_asg rfl rfl) rfl rfl ?_
 refine reg_nil ?_
 refine fn_next ?_
 refine cw_seq ?_
 refine cw_seq ?_
 refine cw_reg ?_
 refine ry (y_mov rfl rfl) rfl rfl ?_
 refine ry (y_not rfl rfl) rfl rfl ?_
 refine ry (y_mov rfl rfl) rfl rfl ?_
 refine rgy (y_mov rfl rfl) rfl rfl rfl rfl ?_
 refine rgy (y_not rfl rfl) rfl rfl rfl rfl ?_
 refine ry (y_pick rfl rfl rfl) rfl rfl ?_
 refine reg_nil ?_
 refine fn_next ?_
 refine cw_condf rfl ?_
 refine cw_skip ?_
 refine fn_next ?_
 refine cw_seq ?_
 refine cw_reg ?_
 refine ry (y_mov rfl rfl) rfl rfl ?_
 refine ry (y_mov rfl rfl) rfl rfl ?_
 refine ry (y_mov rfl rfl) rfl rfl ?_
 refine reg_op (op_call (made_ok a h L A (a * h) cap _ s hl rfl hb (hr.below H19.base)) rfl kflaw42c_5 ⟨rfl, rfl, rfl, trivial⟩) rfl rfl ?_
 rintro _ w21 ⟨g23, bl24, rfl, k20⟩
 have H22 := H19.call k20
 refine ry (y_mov rfl rfl) rfl rfl ?_
 refine ry (y_ext rfl rfl rfl) rfl rfl ?_
 refine ry (y_ext rfl rfl rfl) rfl rfl ?_
 refine ry (y_asg rfl rfl) rfl rfl ?_
 refine ry (y_asg rfl rfl) rfl rfl ?_
 refine reg_nil ?_
 refine fn_next ?_
 refine cw_seq ?_
 refine cw_reg ?_
 refine ry (y_mov rfl rfl) rfl rfl ?_
 refine ry (y_mov rfl rfl) rfl rfl ?_
 refine ry (y_mov rfl rfl) rfl rfl ?_
 refine reg_op (op_call (made_ok a2 h2 L2 B (a2 * h2) cap2 _ s' hl2 rfl hb2 (hr2.below H22.base)) rfl kflaw42c_5 ⟨rfl, rfl, rfl, trivial⟩) rfl rfl ?_
 rintro _ w26 ⟨g28, bl29, rfl, k25⟩
 have H27 := H22.call k25
 refine ry (y_mov rfl rfl) rfl rfl ?_
 refine ry (y_ext rfl rfl rfl) rfl rfl ?_
 refine ry (y_ext rfl rfl rfl) rfl rfl ?_
 refine ry (y_asg rfl rfl) rfl rfl ?_
 refine ry (y_asg rfl rfl) rfl rfl ?_
 refine reg_nil ?_
 refine fn_next ?_
 refine cw_seq ?_
 refine cw_reg ?_
 refine ry (y_mov rfl rfl) rfl rfl ?_
 refine ry (y_mov rfl rfl) rfl rfl ?_
 refine reg_op (op_call (gBeside_n g23 a h L g28 a2 h2 L2 _ (H27.rdg (i := 1) rfl) (H27.rdg (i := 0) rfl) hn) rfl kflaw42c_6 ⟨rfl, rfl, trivial⟩) rfl rfl ?_
 rintro _ w31 ⟨rfl, e30⟩
 have H32 := H27.ext e30
 refine ry (y_mov rfl rfl) rfl rfl ?_
 refine ry (y_ext rfl rfl rfl) rfl rfl ?_
 refine ry (y_ext rfl rfl rfl) rfl rfl ?_
 refine ry (y_asg rfl rfl) rfl rfl ?_
 refine ry (y_asg rfl rfl) rfl rfl ?_
 refine reg_nil ?_
 refine fn_next ?_
 refine cw_seq ?_
 refine cw_reg ?_
 refine ry (y_mov rfl rfl) rfl rfl ?_
 refine ry (y_mov rfl rfl) rfl rfl ?_
 refine reg_op (op_call (gBelow_s g23 a h L g28 a2 h2 L2 _ (H32.rdg (i := 1) rfl) (H32.rdg (i := 0) rfl) kn ks) rfl kflaw42c_7 ⟨rfl, rfl, trivial⟩) rfl rfl ?_
 rintro _ w34 ⟨rfl, e33⟩
 have H35 := H32.ext e33
 refine ry (y_mov rfl rfl) rfl rfl ?_
 refine ry (y_ext rfl rfl rfl) rfl rfl ?_
 refine ry (y_ext rfl rfl rfl) rfl rfl ?_
 refine ry (y_asg rfl rfl) rfl rfl ?_
 refine ry (y_asg rfl rfl) rfl rfl ?_
 refine reg_nil ?_
 refine fn_next ?_
 refine cw_seq ?_
 refine cw_reg ?_
 refine ry (y_ldb (i := 3) (cs := [_, _, _]) H35 rfl rfl kflaw42c_8 rfl rfl) rfl rfl ?_
 refine ry (y_ldb (i := 2) (cs := [_, _, _]) H35 rfl rfl kflaw42c_8 rfl rfl) rfl rfl ?_
 refine reg_op (op_call (mBeside_n a h A cap L a2 h2 B cap2 L2 _ s (hr.below H35.base) hl s' (hr2.below H35.base) hl2 hn) rfl kflaw42c_9 ⟨rfl, rfl, trivial⟩) rfl rfl ?_
 rintro _ w37 ⟨rfl, e36⟩
 have H38 := H35.ext e36
 refine ry (y_mov rfl rfl) rfl rfl ?_
 refine ry (y_ext rfl rfl rfl) rfl rfl ?_
 refine ry (y_ext rfl rfl rfl) rfl rfl ?_
 refine reg_op (op_alloc H38 rfl kflaw42c_3) rfl rfl ?_
 rintro _ w40 ⟨b39, rfl, H41⟩
 refine reg_op (op_st (i := 0) (vs := [.int _ _, .int _ _, .slice _ _ _]) H41 rfl rfl rfl rfl rfl kflaw42c_4 rfl rfl rfl) rfl rfl ?_
 rintro _ w42 H43
 refine ry (y_asg rfl rfl) rfl rfl ?_
 refine reg_nil ?_
 refine fn_next ?_
 refine cw_seq ?_
 refine cw_reg ?_
 refine ry (y_ldb (i := 4) (cs := [_, _, _]) H43 rfl rfl kflaw42c_8 rfl rfl) rfl rfl ?_
 refine ry (y_ldb (i := 3) (cs := [_, _, _]) H43 rfl rfl kflaw42c_8 rfl rfl) rfl rfl ?_
 refine reg_op (op_call (mBelow_s a h A cap L a2 h2 B cap2 L2 _ s (hr.below H43.base) hl s' (hr2.below H43.base) hl2 kn ks) rfl kflaw42c_10 ⟨rfl, rfl, trivial⟩) rfl rfl ?_
 rintro _ w45 ⟨rfl, e44⟩
 have H46 := H43.ext e44
 refine ry (y_mov rfl rfl) rfl rfl ?_
 refine ry (y_ext rfl rfl rfl) rfl rfl ?_
 refine ry (y_ext rfl rfl rfl) rfl rfl ?_
 refine reg_op (op_alloc H46 rfl kflaw42c_3) rfl rfl ?_
 rintro _ w48 ⟨b47, rfl, H49⟩
 refine reg_op (op_st (i := 0) (vs := [.int _ _, .int _ _, .slice _ _ _]) H49 rfl rfl rfl rfl rfl kflaw42c_4 rfl rfl rfl) rfl rfl ?_
 rintro _ w50 H51
 refine ry (y_asg rfl rfl) rfl rfl ?_
 refine reg_nil ?_
 refine fn_next ?_
 refine cw_seq ?_
 refine cw_seq ?_
 refine cw_reg ?_
 refine ry (y_mov rfl rfl) rfl rfl ?_
 refine ry (y_not rfl rfl) rfl rfl ?_
 refine ry (y_mov rfl rfl) rfl rfl ?_
 refine rgy (y_mov rfl rfl) rfl rfl rfl rfl ?_
 refine rgy (y_not rfl rfl) rfl rfl rfl rfl ?_
 refine ry (y_pick rfl rfl rfl) rfl rfl ?_
 refine ry (y_mov rfl rfl) rfl rfl ?_
 refine rgy (y_mov rfl rfl) rfl rfl rfl rfl ?_
 refine rgy (y_mov rfl rfl) rfl rfl rfl rfl ?_
 refine rgy (y_neq rfl rfl rfl) rfl rfl rfl rfl ?_
 refine ry (y_pick rfl rfl rfl) rfl rfl ?_
 refine ry (y_mov rfl rfl) rfl rfl ?_
 refine rgy (y_mov rfl rfl) rfl rfl rfl rfl ?_
 refine rgy (y_mov rfl rfl) rfl rfl rfl rfl ?_
 refine rgy (y_neq rfl rfl rfl) rfl rfl rfl rfl ?_
 refine ry (y_pick rfl rfl rfl) rfl rfl ?_
 refine ry (y_mov rfl rfl) rfl rfl ?_
 refine rgy (y_mov rfl rfl) rfl rfl rfl rfl ?_
 refine rgy (y_peqlnil rfl Try.underlying28 rfl rfl) rfl rfl rfl rfl ?_
 refine rgy (y_mov rfl rfl) rfl rfl rfl rfl ?_
 refine rgy (y_neq rfl rfl rfl) rfl rfl rfl rfl ?_
 refine rgy (y_bneq rfl Try.underlying4 rfl rfl) rfl rfl rfl rfl ?_
 refine ry (y_pick rfl rfl rfl) rfl rfl ?_
 refine ry (y_mov rfl rfl) rfl rfl ?_
 refine rgy (y_mov rfl rfl) rfl rfl rfl rfl ?_
 refine rgy (y_peqlnil rfl Try.underlying28 rfl rfl) rfl rfl rfl rfl ?_
 refine rgy (y_mov rfl rfl) rfl rfl rfl rfl ?_
 refine rgy (y_neq rfl rfl rfl) rfl rfl rfl rfl ?_
 refine rgy (y_bneq rfl Try.underlying4 rfl rfl) rfl rfl rfl rfl ?_
 refine ry (y_pick rfl rfl rfl) rfl rfl ?_
 refine reg_nil ?_
 refine fn_next ?_
 refine cw_condf rfl ?_
 refine cw_skip ?_
 refine fn_next ?_
 refine cw_seq ?_
 refine cw_seq ?_
 refine cw_reg ?_
 refine ry (y_mov rfl rfl) rfl rfl ?_
 refine ry (y_eql rfl rfl rfl) rfl rfl ?_
 refine reg_nil ?_
 refine fn_next ?_
 refine cw_condf rfl ?_
 refine cw_skip ?_
 refine fn_next ?_
 refine cw_seq ?_
 refine cw_seq ?_
 refine cw_reg ?_
 refine ry (y_mov rfl rfl) rfl rfl ?_
 refine ry (y_eql rfl rfl rfl) rfl rfl ?_
 refine reg_nil ?_
 refine fn_next ?_
 refine cw_condf rfl ?_
 refine cw_skip ?_
 refine fn_next ?_
 refine cw_seq ?_
 refine cw_reg ?_
 refine ry (y_asg rfl rfl) rfl rfl ?_
 refine reg_nil ?_
 refine fn_next ?_
 refine cw_ret ?_
 refine fn_ret1 rfl rfl ?_
 exact ⟨rfl, H51.base⟩

set_option maxRecDepth 100000 in
set_option maxHeartbeats 2000000 in
theorem turnJoins_n_ok (a h : Nat) (L : List Int) (A : Option Addr) (cap : Nat) (h2 : Nat) (L2 : List Int) (B : Option Addr) (cap2 : Nat) (w : World) (j1 : 1 ≤ a) (j2 : a ≤ 1000) (j3 : 1 ≤ h) (j4 : h ≤ 1000) (j5 : a * h ≤ 1000) (hr : Rd w A (vi .i64 L)) (hl : L.length = a * h) (hb : AllB L) (i1 : 1 ≤ a) (i2 : a ≤ 1000) (i3 : 1 ≤ h2) (i4 : h2 ≤ 1000) (i5 : a * h2 ≤ 1000) (hr2 : Rd w B (vi .i64 L2)) (hl2 : L2.length = a * h2) (hb2 : AllB L2) (hn : ¬ h = h2) (ks : h + h2 ≤ 1024) :
    Ret Try.prog 13 [.int .i64 (a : Int), .int .i64 (h : Int), .slice A (a * h) cap, .int .i64 (a : Int), .int .i64 (h2 : Int), .slice B (a * h2) cap2] w (fun z w' => z = .bool true ∧ Below w.heap.size w w') := by
 have s : SzG a h := ⟨j1, by omega, j3, by omega⟩
 have s' : SzG a h2 := ⟨i1, by omega, i3, by omega⟩
 have G1 : GV a h L := ⟨j1, by omega, j3, by omega, hl, hb⟩
 have G2 : GV a h2 L2 := ⟨i1, by omega, i3, by omega, hl2, hb2⟩
 have sL : SzG a (h + h2) := ⟨by omega, by omega, by omega, by omega⟩
 refine ret_enter Try.func13 rfl rfl rfl ?_
 have H0 := HS.start w
 refine cw_seq ?_
 refine cw_reg ?_
 refine ry (y_asg rfl rfl) rfl rfl ?_
 refine reg_nil ?_
 refine fn_next ?_
 refine cw_seq ?_
 refine cw_seq ?_
 refine cw_reg ?_
 refine reg_op (op_call (turnAwake _) rfl kflaw42c_1 trivial) rfl rfl ?_
 rintro _ w2 ⟨rfl, e1⟩
 have H3 := H0.ext e1
 refine ry (y_not rfl rfl) rfl rfl ?_
 refine reg_nil ?_
 refine fn_next ?_
 refine cw_condf rfl ?_
 refine cw_skip ?_
 refine fn_next ?_
 refine cw_seq ?_
 refine cw_reg ?_
 refine ry (y_mov rfl rfl) rfl rfl ?_
 refine ry (y_mov rfl rfl) rfl rfl ?_
 refine ry (y_mov rfl rfl) rfl rfl ?_
 refine reg_op (op_call (land_ok a h 1000 L A (a * h) cap _ j1 j2 j3 j4 j5 rfl hl hb (by decide) (hr.below H3.base)) rfl kflaw42c_2 ⟨rfl, rfl, rfl, rfl, trivial⟩) rfl rfl ?_
 rintro _ w5 ⟨rfl, e4⟩
 have H6 := H3.ext e4
 refine ry (y_mov rfl rfl) rfl rfl ?_
 refine ry (y_ext rfl rfl rfl) rfl rfl ?_
 refine ry (y_ext rfl rfl rfl) rfl rfl ?_
 refine reg_op (op_alloc H6 rfl kflaw42c_3) rfl rfl ?_
 rintro _ w8 ⟨b7, rfl, H9⟩
 refine reg_op (op_st (i := 0) (vs := [.int _ _, .int _ _, .slice _ _ _]) H9 rfl rfl rfl rfl rfl kflaw42c_4 rfl rfl rfl) rfl rfl ?_
 rintro _ w10 H11
 refine ry (y_asg rfl rfl) rfl rfl ?_
 refine reg_nil ?_
 refine fn_next ?_
 refine cw_seq ?_
 refine cw_reg ?_
 refine ry (y_mov rfl rfl) rfl rfl ?_
 refine ry (y_mov rfl rfl) rfl rfl ?_
 refine ry (y_mov rfl rfl) rfl rfl ?_
 refine reg_op (op_call (land_ok a h2 1000 L2 B (a * h2) cap2 _ i1 i2 i3 i4 i5 rfl hl2 hb2 (by decide) (hr2.below H11.base)) rfl kflaw42c_2 ⟨rfl, rfl, rfl, rfl, trivial⟩) rfl rfl ?_
 rintro _ w13 ⟨rfl, e12⟩
 have H14 := H11.ext e12
 refine ry (y_mov rfl rfl) rfl rfl ?_
 refine ry (y_ext rfl rfl rfl) rfl rfl ?_
 refine ry (y_ext rfl rfl rfl) rfl rfl ?_
 refine reg_op (op_alloc H14 rfl kflaw42c_3) rfl rfl ?_
 rintro _ w16 ⟨b15, rfl, H17⟩
 refine reg_op (op_st (i := 0) (vs := [.int _ _, .int _ _, .slice _ _ _]) H17 rfl rfl rfl rfl rfl kflaw42c_4 rfl rfl rfl) rfl rfl ?_
 rintro _ w18 H19
 refine ry (y_asg rfl rfl) rfl rfl ?_
 refine reg_nil ?_
 refine fn_next ?_
 refine cw_seq ?_
 refine cw_seq ?_
 refine cw_reg ?_
 refine ry (y_mov rfl rfl) rfl rfl ?_
 refine ry (y_not rfl rfl) rfl rfl ?_
 refine ry (y_mov rfl rfl) rfl rfl ?_
 refine rgy (y_mov rfl rfl) rfl rfl rfl rfl ?_
 refine rgy (y_not rfl rfl) rfl rfl rfl rfl ?_
 refine ry (y_pick rfl rfl rfl) rfl rfl ?_
 refine reg_nil ?_
 refine fn_next ?_
 refine cw_condf rfl ?_
 refine cw_skip ?_
 refine fn_next ?_
 refine cw_seq ?_
 refine cw_reg ?_
 refine ry (y_mov rfl rfl) rfl rfl ?_
 refine ry (y_mov rfl rfl) rfl rfl ?_
 refine ry (y_mov rfl rfl) rfl rfl ?_
 refine reg_op (op_call (made_ok a h L A (a * h) cap _ s hl rfl hb (hr.below H19.base)) rfl kflaw42c_5 ⟨rfl, rfl, rfl, trivial⟩) rfl rfl ?_
 rintro _ w21 ⟨g23, bl24, rfl, k20⟩
 have H22 := H19.call k20
 refine ry (y_mov rfl rfl) rfl rfl ?_
 refine ry (y_ext rfl rfl rfl) rfl rfl ?_
 refine ry (y_ext rfl rfl rfl) rfl rfl ?_
 refine ry (y_asg rfl rfl) rfl rfl ?_
 refine ry (y_asg rfl rfl) rfl rfl ?_
 refine reg_nil ?_
 refine fn_next ?_
 refine cw_seq ?_
 refine cw_reg ?_
 refine ry (y_mov rfl rfl) rfl rfl ?_
 refine ry (y_mov rfl rfl) rfl rfl ?_
 refine ry (y_mov rfl rfl) rfl rfl ?_
 refine reg_op (op_call (made_ok a h2 L2 B (a * h2) cap2 _ s' hl2 rfl hb2 (hr2.below H22.base)) rfl kflaw42c_5 ⟨rfl, rfl, rfl, trivial⟩) rfl rfl ?_
 rintro _ w26 ⟨g28, bl29, rfl, k25⟩
 have H27 := H22.call k25
 refine ry (y_mov rfl rfl) rfl rfl ?_
 refine ry (y_ext rfl rfl rfl) rfl rfl ?_
 refine ry (y_ext rfl rfl rfl) rfl rfl ?_
 refine ry (y_asg rfl rfl) rfl rfl ?_
 refine ry (y_asg rfl rfl) rfl rfl ?_
 refine reg_nil ?_
 refine fn_next ?_
 refine cw_seq ?_
 refine cw_reg ?_
 refine ry (y_mov rfl rfl) rfl rfl ?_
 refine ry (y_mov rfl rfl) rfl rfl ?_
 refine reg_op (op_call (gBeside_n g23 a h L g28 a h2 L2 _ (H27.rdg (i := 1) rfl) (H27.rdg (i := 0) rfl) hn) rfl kflaw42c_6 ⟨rfl, rfl, trivial⟩) rfl rfl ?_
 rintro _ w31 ⟨rfl, e30⟩
 have H32 := H27.ext e30
 refine ry (y_mov rfl rfl) rfl rfl ?_
 refine ry (y_ext rfl rfl rfl) rfl rfl ?_
 refine ry (y_ext rfl rfl rfl) rfl rfl ?_
 refine ry (y_asg rfl rfl) rfl rfl ?_
 refine ry (y_asg rfl rfl) rfl rfl ?_
 refine reg_nil ?_
 refine fn_next ?_
 refine cw_seq ?_
 refine cw_reg ?_
 refine ry (y_mov rfl rfl) rfl rfl ?_
 refine ry (y_mov rfl rfl) rfl rfl ?_
 refine reg_op (op_call (gBelow_ok g23 a h L g28 h2 L2 _ (H32.rdg (i := 1) rfl) (H32.rdg (i := 0) rfl) ks) rfl kflaw42c_7 ⟨rfl, rfl, trivial⟩) rfl rfl ?_
 rintro _ w34 ⟨g36, bl37, rfl, k33⟩
 have H35 := H32.call k33
 refine ry (y_mov rfl rfl) rfl rfl ?_
 refine ry (y_ext rfl rfl rfl) rfl rfl ?_
 refine ry (y_ext rfl rfl rfl) rfl rfl ?_
 refine ry (y_asg rfl rfl) rfl rfl ?_
 refine ry (y_asg rfl rfl) rfl rfl ?_
 refine reg_nil ?_
 refine fn_next ?_
 refine cw_seq ?_
 refine cw_reg ?_
 refine ry (y_ldb (i := 4) (cs := [_, _, _]) H35 rfl rfl kflaw42c_8 rfl rfl) rfl rfl ?_
 refine ry (y_ldb (i := 3) (cs := [_, _, _]) H35 rfl rfl kflaw42c_8 rfl rfl) rfl rfl ?_
 refine reg_op (op_call (mBeside_n a h A cap L a h2 B cap2 L2 _ s (hr.below H35.base) hl s' (hr2.below H35.base) hl2 hn) rfl kflaw42c_9 ⟨rfl, rfl, trivial⟩) rfl rfl ?_
 rintro _ w39 ⟨rfl, e38⟩
 have H40 := H35.ext e38
 refine ry (y_mov rfl rfl) rfl rfl ?_
 refine ry (y_ext rfl rfl rfl) rfl rfl ?_
 refine ry (y_ext rfl rfl rfl) rfl rfl ?_
 refine reg_op (op_alloc H40 rfl kflaw42c_3) rfl rfl ?_
 rintro _ w42 ⟨b41, rfl, H43⟩
 refine reg_op (op_st (i := 0) (vs := [.int _ _, .int _ _, .slice _ _ _]) H43 rfl rfl rfl rfl rfl kflaw42c_4 rfl rfl rfl) rfl rfl ?_
 rintro _ w44 H45
 refine ry (y_asg rfl rfl) rfl rfl ?_
 refine reg_nil ?_
 refine fn_next ?_
 refine cw_seq ?_
 refine cw_reg ?_
 refine ry (y_ldb (i := 5) (cs := [_, _, _]) H45 rfl rfl kflaw42c_8 rfl rfl) rfl rfl ?_
 refine ry (y_ldb (i := 4) (cs := [_, _, _]) H45 rfl rfl kflaw42c_8 rfl rfl) rfl rfl ?_
 refine reg_op (op_call (mBelow_ok a h A cap L h2 B cap2 L2 _ s (hr.below H45.base) hl s' (hr2.below H45.base) hl2 ks) rfl kflaw42c_10 ⟨rfl, rfl, trivial⟩) rfl rfl ?_
 rintro _ w47 ⟨A49, c50, rfl, k46⟩
 have H48 := H45.call k46
 refine ry (y_mov rfl rfl) rfl rfl ?_
 refine ry (y_ext rfl rfl rfl) rfl rfl ?_
 refine ry (y_ext rfl rfl rfl) rfl rfl ?_
 refine reg_op (op_alloc H48 rfl kflaw42c_3) rfl rfl ?_
 rintro _ w52 ⟨b51, rfl, H53⟩
 refine reg_op (op_st (i := 0) (vs := [.int _ _, .int _ _, .slice _ _ _]) H53 rfl rfl rfl rfl rfl kflaw42c_4 rfl rfl rfl) rfl rfl ?_
 rintro _ w54 H55
 refine ry (y_asg rfl rfl) rfl rfl ?_
 refine reg_nil ?_
 refine fn_next ?_
 refine cw_seq ?_
 refine cw_seq ?_
 refine cw_reg ?_
 refine ry (y_mov rfl rfl) rfl rfl ?_
 refine ry (y_not rfl rfl) rfl rfl ?_
 refine ry (y_mov rfl rfl) rfl rfl ?_
 refine rgy (y_mov rfl rfl) rfl rfl rfl rfl ?_
 refine rgy (y_not rfl rfl) rfl rfl rfl rfl ?_
 refine ry (y_pick rfl rfl rfl) rfl rfl ?_
 refine ry (y_mov rfl rfl) rfl rfl ?_
 refine rgy (y_mov rfl rfl) rfl rfl rfl rfl ?_
 refine rgy (y_mov rfl rfl) rfl rfl rfl rfl ?_
 refine rgy (y_neq rfl rfl rfl) rfl rfl rfl rfl ?_
 refine ry (y_pick rfl rfl rfl) rfl rfl ?_
 refine ry (y_mov rfl rfl) rfl rfl ?_
 refine rgy (y_mov rfl rfl) rfl rfl rfl rfl ?_
 refine rgy (y_mov rfl rfl) rfl rfl rfl rfl ?_
 refine rgy (y_neq rfl rfl rfl) rfl rfl rfl rfl ?_
 refine ry (y_pick rfl rfl rfl) rfl rfl ?_
 refine ry (y_mov rfl rfl) rfl rfl ?_
 refine rgy (y_mov rfl rfl) rfl rfl rfl rfl ?_
 refine rgy (y_peqlnil rfl Try.underlying28 rfl rfl) rfl rfl rfl rfl ?_
 refine rgy (y_mov rfl rfl) rfl rfl rfl rfl ?_
 refine rgy (y_neq rfl rfl rfl) rfl rfl rfl rfl ?_
 refine rgy (y_bneq rfl Try.underlying4 rfl rfl) rfl rfl rfl rfl ?_
 refine ry (y_pick rfl rfl rfl) rfl rfl ?_
 refine ry (y_mov rfl rfl) rfl rfl ?_
 refine rgy (y_mov rfl rfl) rfl rfl rfl rfl ?_
 refine rgy (y_peqlnil rfl Try.underlying28 rfl rfl) rfl rfl rfl rfl ?_
 refine rgy (y_mov rfl rfl) rfl rfl rfl rfl ?_
 refine rgy (y_neq rfl rfl rfl) rfl rfl rfl rfl ?_
 refine rgy (y_bneq rfl Try.underlying4 rfl rfl) rfl rfl rfl rfl ?_
 refine ry (y_pick rfl rfl rfl) rfl rfl ?_
 refine reg_nil ?_
 refine fn_next ?_
 refine cw_condf rfl ?_
 refine cw_skip ?_
 refine fn_next ?_
 refine cw_seq ?_
 refine cw_seq ?_
 refine cw_reg ?_
 refine ry (y_mov rfl rfl) rfl rfl ?_
 refine ry (y_eql rfl rfl rfl) rfl rfl ?_
 refine reg_nil ?_
 refine fn_next ?_
 refine cw_condf rfl ?_
 refine cw_skip ?_
 refine fn_next ?_
 refine cw_seq ?_
 refine cw_seq ?_
 refine cw_reg ?_
 refine ry (y_mov rfl rfl) rfl rfl ?_
 refine ry (y_eql rfl rfl rfl) rfl rfl ?_
 refine reg_nil ?_
 refine fn_next ?_
 refine cw_condt rfl ?_
 refine cw_seq ?_
 refine cw_reg ?_
 refine ry (y_mov rfl rfl) rfl rfl ?_
 refine ry (y_mov rfl rfl) rfl rfl ?_
 refine ry (y_sub rfl rfl rfl (show _ = ((a - 1 : Nat) : Int) from (wi (by omega)).trans (by omega))) rfl rfl ?_
 refine ry (y_mov rfl rfl) rfl rfl ?_
 refine ry (y_sub rfl rfl rfl (show _ = ((h - 1 : Nat) : Int) from (wi (by omega)).trans (by omega))) rfl rfl ?_
 refine ry (y_build (places := [(0, 1), (1, 1), (2, 1), (3, 1)]) (parts := [(2, _), (3, _)]) (vs := [(2, _), (3, _)]) (cs := [.int _ _, .int _ _, .int _ _, .int _ _]) rfl Try.underlying55 (by kernel_rfl) kflaw42c_11 rfl ⟨rfl, rfl, trivial⟩ rfl) rfl rfl ?_
 refine reg_op (op_call (gCrop_ok g36 a (h + h2) (L ++ L2) 0 0 (a - 1) (h - 1) _ (H55.rdg (i := 3) rfl) (by omega) (by omega) (by omega) (by omega)) rfl kflaw42c_12 ⟨rfl, rfl, trivial⟩) rfl rfl ?_
 rintro _ w57 ⟨g59, bl60, rfl, k56⟩
 have H58 := H55.call k56
 rw [show a - 1 + 1 - 0 = a by omega, show h - 1 + 1 - 0 = h by omega, crop_below G1 sL i3] at H58
 refine ry (y_mov rfl rfl) rfl rfl ?_
 refine ry (y_ext rfl rfl rfl) rfl rfl ?_
 refine ry (y_ext rfl rfl rfl) rfl rfl ?_
 refine ry (y_asg rfl rfl) rfl rfl ?_
 refine ry (y_asg rfl rfl) rfl rfl ?_
 refine reg_nil ?_
 refine fn_next ?_
 refine cw_seq ?_
 refine cw_reg ?_
 refine ry (y_mov rfl rfl) rfl rfl ?_
 refine ry (y_ldb (i := 1) (cs := [_, _, _]) H58 rfl rfl kflaw42c_8 rfl rfl) rfl rfl ?_
 refine reg_op (op_call (lIs g36 a (h + h2) (L ++ L2) _ _ _ (H58.rdg (i := 4) rfl) (H58.rd (i := 2) rfl)) rfl kflaw42c_13 ⟨rfl, rfl, trivial⟩) rfl rfl ?_
 rintro _ w62 ⟨rfl, e61⟩
 have H63 := H58.ext e61
 refine ry (y_not rfl rfl) rfl rfl ?_
 refine ry (y_mov rfl rfl) rfl rfl ?_
 refine rgy (y_mov rfl rfl) rfl rfl rfl rfl ?_
 refine rgy (y_neq rfl rfl rfl) rfl rfl rfl rfl ?_
 refine ry (y_pick rfl rfl rfl) rfl rfl ?_
 refine ry (y_mov rfl rfl) rfl rfl ?_
 refine rgy (y_mov rfl rfl) rfl rfl rfl rfl ?_
 refine rgy (y_mov rfl rfl) rfl rfl rfl rfl ?_
 refine rg_on rfl rfl rfl (op_call (ret_v (v := .bool true) (gSame g59 a h (L) g23 a h (L) _ (H63.rdg (i := 0) rfl) (H63.rdg (i := 6) rfl)) (by rw [decide_eq_true (show _ ∧ _ ∧ _ from ⟨rfl, rfl, rfl⟩)])) rfl kflaw42c_14 ⟨rfl, rfl, trivial⟩) rfl ?_
 rintro _ w65 ⟨rfl, e64⟩
 have H66 := H63.ext e64
 refine rgy (y_not rfl rfl) rfl rfl rfl rfl ?_
 refine ry (y_pick rfl rfl rfl) rfl rfl ?_
 refine reg_nil ?_
 refine fn_next ?_
 refine cw_condf rfl ?_
 refine cw_skip ?_
 refine fn_next ?_
 refine cw_seq ?_
 refine cw_reg ?_
 refine ry (y_asg rfl rfl) rfl rfl ?_
 refine reg_nil ?_
 refine fn_next ?_
 refine cw_ret ?_
 refine fn_ret1 rfl rfl ?_
 exact ⟨rfl, H66.base⟩

set_option maxRecDepth 100000 in
set_option maxHeartbeats 2000000 in
theorem turnJoins_s_n (a h : Nat) (L : List Int) (A : Option Addr) (cap : Nat) (a2 : Nat) (h2 : Nat) (L2 : List Int) (B : Option Addr) (cap2 : Nat) (w : World) (j1 : 1 ≤ a) (j2 : a ≤ 1000) (j3 : 1 ≤ h) (j4 : h ≤ 1000) (j5 : a * h ≤ 1000) (hr : Rd w A (vi .i64 L)) (hl : L.length = a * h) (hb : AllB L) (i1 : 1 ≤ a2) (i2 : a2 ≤ 1000) (i3 : 1 ≤ h2) (i4 : h2 ≤ 1000) (i5 : a2 * h2 ≤ 1000) (hr2 : Rd w B (vi .i64 L2)) (hl2 : L2.length = a2 * h2) (hb2 : AllB L2) (hn : h = h2) (hs : ¬ a + a2 ≤ 1024) (kn : ¬ a = a2) :
    Ret Try.prog 13 [.int .i64 (a : Int), .int .i64 (h : Int), .slice A (a * h) cap, .int .i64 (a2 : Int), .int .i64 (h2 : Int), .slice B (a2 * h2) cap2] w (fun z w' => z = .bool true ∧ Below w.heap.size w w') := by
 have s : SzG a h := ⟨j1, by omega, j3, by omega⟩
 have s' : SzG a2 h2 := ⟨i1, by omega, i3, by omega⟩
 have G1 : GV a h L := ⟨j1, by omega, j3, by omega, hl, hb⟩
 have G2 : GV a2 h2 L2 := ⟨i1, by omega, i3, by omega, hl2, hb2⟩
 refine ret_enter Try.func13 rfl rfl rfl ?_
 have H0 := HS.start w
 refine cw_seq ?_
 refine cw_reg ?_
 refine ry (y_asg rfl rfl) rfl rfl ?_
 refine reg_nil ?_
 refine fn_next ?_
 refine cw_seq ?_
 refine cw_seq ?_
 refine cw_reg ?_
 refine reg_op (op_call (turnAwake _) rfl kflaw42c_1 trivial) rfl rfl ?_
 rintro _ w2 ⟨rfl, e1⟩
 have H3 := H0.ext e1
 refine ry (y_not rfl rfl) rfl rfl ?_
 refine reg_nil ?_
 refine fn_next ?_
 refine cw_condf rfl ?_
 refine cw_skip ?_
 refine fn_next ?_
 refine cw_seq ?_
 refine cw_reg ?_
 refine ry (y_mov rfl rfl) rfl rfl ?_
 refine ry (y_mov rfl rfl) rfl rfl ?_
 refine ry (y_mov rfl rfl) rfl rfl ?_
 refine reg_op (op_call (land_ok a h 1000 L A (a * h) cap _ j1 j2 j3 j4 j5 rfl hl hb (by decide) (hr.below H3.base)) rfl kflaw42c_2 ⟨rfl, rfl, rfl, rfl, trivial⟩) rfl rfl ?_
 rintro _ w5 ⟨rfl, e4⟩
 have H6 := H3.ext e4
 refine ry (y_mov rfl rfl) rfl rfl ?_
 refine ry (y_ext rfl rfl rfl) rfl rfl ?_
 refine ry (y_ext rfl rfl rfl) rfl rfl ?_
 refine reg_op (op_alloc H6 rfl kflaw42c_3) rfl rfl ?_
 rintro _ w8 ⟨b7, rfl, H9⟩
 refine reg_op (op_st (i := 0) (vs := [.int _ _, .int _ _, .slice _ _ _]) H9 rfl rfl rfl rfl rfl kflaw42c_4 rfl rfl rfl) rfl rfl ?_
 rintro _ w10 H11
 refine ry (y_asg rfl rfl) rfl rfl ?_
 refine reg_nil ?_
 refine fn_next ?_
 refine cw_seq ?_
 refine cw_reg ?_
 refine ry (y_mov rfl rfl) rfl rfl ?_
 refine ry (y_mov rfl rfl) rfl rfl ?_
 refine ry (y_mov rfl rfl) rfl rfl ?_
 refine reg_op (op_call (land_ok a2 h2 1000 L2 B (a2 * h2) cap2 _ i1 i2 i3 i4 i5 rfl hl2 hb2 (by decide) (hr2.below H11.base)) rfl kflaw42c_2 ⟨rfl, rfl, rfl, rfl, trivial⟩) rfl rfl ?_
 rintro _ w13 ⟨rfl, e12⟩
 have H14 := H11.ext e12
 refine ry (y_mov rfl rfl) rfl rfl ?_
 refine ry (y_ext rfl rfl rfl) rfl rfl ?_
 refine ry (y_ext rfl rfl rfl) rfl rfl ?_
 refine reg_op (op_alloc H14 rfl kflaw42c_3) rfl rfl ?_
 rintro _ w16 ⟨b15, rfl, H17⟩
 refine reg_op (op_st (i := 0) (vs := [.int _ _, .int _ _, .slice _ _ _]) H17 rfl rfl rfl rfl rfl kflaw42c_4 rfl rfl rfl) rfl rfl ?_
 rintro _ w18 H19
 refine ry (y_asg rfl rfl) rfl rfl ?_
 refine reg_nil ?_
 refine fn_next ?_
 refine cw_seq ?_
 refine cw_seq ?_
 refine cw_reg ?_
 refine ry (y_mov rfl rfl) rfl rfl ?_
 refine ry (y_not rfl rfl) rfl rfl ?_
 refine ry (y_mov rfl rfl) rfl rfl ?_
 refine rgy (y_mov rfl rfl) rfl rfl rfl rfl ?_
 refine rgy (y_not rfl rfl) rfl rfl rfl rfl ?_
 refine ry (y_pick rfl rfl rfl) rfl rfl ?_
 refine reg_nil ?_
 refine fn_next ?_
 refine cw_condf rfl ?_
 refine cw_skip ?_
 refine fn_next ?_
 refine cw_seq ?_
 refine cw_reg ?_
 refine ry (y_mov rfl rfl) rfl rfl ?_
 refine ry (y_mov rfl rfl) rfl rfl ?_
 refine ry (y_mov rfl rfl) rfl rfl ?_
 refine reg_op (op_call (made_ok a h L A (a * h) cap _ s hl rfl hb (hr.below H19.base)) rfl kflaw42c_5 ⟨rfl, rfl, rfl, trivial⟩) rfl rfl ?_
 rintro _ w21 ⟨g23, bl24, rfl, k20⟩
 have H22 := H19.call k20
 refine ry (y_mov rfl rfl) rfl rfl ?_
 refine ry (y_ext rfl rfl rfl) rfl rfl ?_
 refine ry (y_ext rfl rfl rfl) rfl rfl ?_
 refine ry (y_asg rfl rfl) rfl rfl ?_
 refine ry (y_asg rfl rfl) rfl rfl ?_
 refine reg_nil ?_
 refine fn_next ?_
 refine cw_seq ?_
 refine cw_reg ?_
 refine ry (y_mov rfl rfl) rfl rfl ?_
 refine ry (y_mov rfl rfl) rfl rfl ?_
 refine ry (y_mov rfl rfl) rfl rfl ?_
 refine reg_op (op_call (made_ok a2 h2 L2 B (a2 * h2) cap2 _ s' hl2 rfl hb2 (hr2.below H22.base)) rfl kflaw42c_5 ⟨rfl, rfl, rfl, trivial⟩) rfl rfl ?_
 rintro _ w26 ⟨g28, bl29, rfl, k25⟩
 have H27 := H22.call k25
 refine ry (y_mov rfl rfl) rfl rfl ?_
 refine ry (y_ext rfl rfl rfl) rfl rfl ?_
 refine ry (y_ext rfl rfl rfl) rfl rfl ?_
 refine ry (y_asg rfl rfl) rfl rfl ?_
 refine ry (y_asg rfl rfl) rfl rfl ?_
 refine reg_nil ?_
 refine fn_next ?_
 refine cw_seq ?_
 refine cw_reg ?_
 refine ry (y_mov rfl rfl) rfl rfl ?_
 refine ry (y_mov rfl rfl) rfl rfl ?_
 refine reg_op (op_call (gBeside_s g23 a h L g28 a2 h2 L2 _ (H27.rdg (i := 1) rfl) (H27.rdg (i := 0) rfl) hn hs) rfl kflaw42c_6 ⟨rfl, rfl, trivial⟩) rfl rfl ?_
 rintro _ w31 ⟨rfl, e30⟩
 have H32 := H27.ext e30
 refine ry (y_mov rfl rfl) rfl rfl ?_
 refine ry (y_ext rfl rfl rfl) rfl rfl ?_
 refine ry (y_ext rfl rfl rfl) rfl rfl ?_
 refine ry (y_asg rfl rfl) rfl rfl ?_
 refine ry (y_asg rfl rfl) rfl rfl ?_
 refine reg_nil ?_
 refine fn_next ?_
 refine cw_seq ?_
 refine cw_reg ?_
 refine ry (y_mov rfl rfl) rfl rfl ?_
 refine ry (y_mov rfl rfl) rfl rfl ?_
 refine reg_op (op_call (gBelow_n g23 a h L g28 a2 h2 L2 _ (H32.rdg (i := 1) rfl) (H32.rdg (i := 0) rfl) kn) rfl kflaw42c_7 ⟨rfl, rfl, trivial⟩) rfl rfl ?_
 rintro _ w34 ⟨rfl, e33⟩
 have H35 := H32.ext e33
 refine ry (y_mov rfl rfl) rfl rfl ?_
 refine ry (y_ext rfl rfl rfl) rfl rfl ?_
 refine ry (y_ext rfl rfl rfl) rfl rfl ?_
 refine ry (y_asg rfl rfl) rfl rfl ?_
 refine ry (y_asg rfl rfl) rfl rfl ?_
 refine reg_nil ?_
 refine fn_next ?_
 refine cw_seq ?_
 refine cw_reg ?_
 refine ry (y_ldb (i := 3) (cs := [_, _, _]) H35 rfl rfl kflaw42c_8 rfl rfl) rfl rfl ?_
 refine ry (y_ldb (i := 2) (cs := [_, _, _]) H35 rfl rfl kflaw42c_8 rfl rfl) rfl rfl ?_
 refine reg_op (op_call (mBeside_s a h A cap L a2 h2 B cap2 L2 _ s (hr.below H35.base) hl s' (hr2.below H35.base) hl2 hn hs) rfl kflaw42c_9 ⟨rfl, rfl, trivial⟩) rfl rfl ?_
 rintro _ w37 ⟨rfl, e36⟩
 have H38 := H35.ext e36
 refine ry (y_mov rfl rfl) rfl rfl ?_
 refine ry (y_ext rfl rfl rfl) rfl rfl ?_
 refine ry (y_ext rfl rfl rfl) rfl rfl ?_
 refine reg_op (op_alloc H38 rfl kflaw42c_3) rfl rfl ?_
 rintro _ w40 ⟨b39, rfl, H41⟩
 refine reg_op (op_st (i := 0) (vs := [.int _ _, .int _ _, .slice _ _ _]) H41 rfl rfl rfl rfl rfl kflaw42c_4 rfl rfl rfl) rfl rfl ?_
 rintro _ w42 H43
 refine ry (y_asg rfl rfl) rfl rfl ?_
 refine reg_nil ?_
 refine fn_next ?_
 refine cw_seq ?_
 refine cw_reg ?_
 refine ry (y_ldb (i := 4) (cs := [_, _, _]) H43 rfl rfl kflaw42c_8 rfl rfl) rfl rfl ?_
 refine ry (y_ldb (i := 3) (cs := [_, _, _]) H43 rfl rfl kflaw42c_8 rfl rfl) rfl rfl ?_
 refine reg_op (op_call (mBelow_n a h A cap L a2 h2 B cap2 L2 _ s (hr.below H43.base) hl s' (hr2.below H43.base) hl2 kn) rfl kflaw42c_10 ⟨rfl, rfl, trivial⟩) rfl rfl ?_
 rintro _ w45 ⟨rfl, e44⟩
 have H46 := H43.ext e44
 refine ry (y_mov rfl rfl) rfl rfl ?_
 refine ry (y_ext rfl rfl rfl) rfl rfl ?_
 refine ry (y_ext rfl rfl rfl) rfl rfl ?_
 refine reg_op (op_alloc H46 rfl kflaw42c_3) rfl rfl ?_
 rintro _ w48 ⟨b47, rfl, H49⟩
 refine reg_op (op_st (i := 0) (vs := [.int _ _, .int _ _, .slice _ _ _]) H49 rfl rfl rfl rfl rfl kflaw42c_4 rfl rfl rfl) rfl rfl ?_
 rintro _ w50 H51
 refine ry (y_asg rfl rfl) rfl rfl ?_
 refine reg_nil ?_
 refine fn_next ?_
 refine cw_seq ?_
 refine cw_seq ?_
 refine cw_reg ?_
 refine ry (y_mov rfl rfl) rfl rfl ?_
 refine ry (y_not rfl rfl) rfl rfl ?_
 refine ry (y_mov rfl rfl) rfl rfl ?_
 refine rgy (y_mov rfl rfl) rfl rfl rfl rfl ?_
 refine rgy (y_not rfl rfl) rfl rfl rfl rfl ?_
 refine ry (y_pick rfl rfl rfl) rfl rfl ?_
 refine ry (y_mov rfl rfl) rfl rfl ?_
 refine rgy (y_mov rfl rfl) rfl rfl rfl rfl ?_
 refine rgy (y_mov rfl rfl) rfl rfl rfl rfl ?_
 refine rgy (y_neq rfl rfl rfl) rfl rfl rfl rfl ?_
 refine ry (y_pick rfl rfl rfl) rfl rfl ?_
 refine ry (y_mov rfl rfl) rfl rfl ?_
 refine rgy (y_mov rfl rfl) rfl rfl rfl rfl ?_
 refine rgy (y_mov rfl rfl) rfl rfl rfl rfl ?_
 refine rgy (y_neq rfl rfl rfl) rfl rfl rfl rfl ?_
 refine ry (y_pick rfl rfl rfl) rfl rfl ?_
 refine ry (y_mov rfl rfl) rfl rfl ?_
 refine rgy (y_mov rfl rfl) rfl rfl rfl rfl ?_
 refine rgy (y_peqlnil rfl Try.underlying28 rfl rfl) rfl rfl rfl rfl ?_
 refine rgy (y_mov rfl rfl) rfl rfl rfl rfl ?_
 refine rgy (y_neq rfl rfl rfl) rfl rfl rfl rfl ?_
 refine rgy (y_bneq rfl Try.underlying4 rfl rfl) rfl rfl rfl rfl ?_
 refine ry (y_pick rfl rfl rfl) rfl rfl ?_
 refine ry (y_mov rfl rfl) rfl rfl ?_
 refine rgy (y_mov rfl rfl) rfl rfl rfl rfl ?_
 refine rgy (y_peqlnil rfl Try.underlying28 rfl rfl) rfl rfl rfl rfl ?_
 refine rgy (y_mov rfl rfl) rfl rfl rfl rfl ?_
 refine rgy (y_neq rfl rfl rfl) rfl rfl rfl rfl ?_
 refine rgy (y_bneq rfl Try.underlying4 rfl rfl) rfl rfl rfl rfl ?_
 refine ry (y_pick rfl rfl rfl) rfl rfl ?_
 refine reg_nil ?_
 refine fn_next ?_
 refine cw_condf rfl ?_
 refine cw_skip ?_
 refine fn_next ?_
 refine cw_seq ?_
 refine cw_seq ?_
 refine cw_reg ?_
 refine ry (y_mov rfl rfl) rfl rfl ?_
 refine ry (y_eql rfl rfl rfl) rfl rfl ?_
 refine reg_nil ?_
 refine fn_next ?_
 refine cw_condf rfl ?_
 refine cw_skip ?_
 refine fn_next ?_
 refine cw_seq ?_
 refine cw_seq ?_
 refine cw_reg ?_
 refine ry (y_mov rfl rfl) rfl rfl ?_
 refine ry (y_eql rfl rfl rfl) rfl rfl ?_
 refine reg_nil ?_
 refine fn_next ?_
 refine cw_condf rfl ?_
 refine cw_skip ?_
 refine fn_next ?_
 refine cw_seq ?_
 refine cw_reg ?_
 refine ry (y_asg rfl rfl) rfl rfl ?_
 refine reg_nil ?_
 refine fn_next ?_
 refine cw_ret ?_
 refine fn_ret1 rfl rfl ?_
 exact ⟨rfl, H51.base⟩

set_option maxRecDepth 100000 in
set_option maxHeartbeats 2000000 in
theorem turnJoins_s_s (a h : Nat) (L : List Int) (A : Option Addr) (cap : Nat) (a2 : Nat) (h2 : Nat) (L2 : List Int) (B : Option Addr) (cap2 : Nat) (w : World) (j1 : 1 ≤ a) (j2 : a ≤ 1000) (j3 : 1 ≤ h) (j4 : h ≤ 1000) (j5 : a * h ≤ 1000) (hr : Rd w A (vi .i64 L)) (hl : L.length = a * h) (hb : AllB L) (i1 : 1 ≤ a2) (i2 : a2 ≤ 1000) (i3 : 1 ≤ h2) (i4 : h2 ≤ 1000) (i5 : a2 * h2 ≤ 1000) (hr2 : Rd w B (vi .i64 L2)) (hl2 : L2.length = a2 * h2) (hb2 : AllB L2) (hn : h = h2) (hs : ¬ a + a2 ≤ 1024) (kn : a = a2) (ks : ¬ h + h2 ≤ 1024) :
    Ret Try.prog 13 [.int .i64 (a : Int), .int .i64 (h : Int), .slice A (a * h) cap, .int .i64 (a2 : Int), .int .i64 (h2 : Int), .slice B (a2 * h2) cap2] w (fun z w' => z = .bool true ∧ Below w.heap.size w w') := by
 have s : SzG a h := ⟨j1, by omega, j3, by omega⟩
 have s' : SzG a2 h2 := ⟨i1, by omega, i3, by omega⟩
 have G1 : GV a h L := ⟨j1, by omega, j3, by omega, hl, hb⟩
 have G2 : GV a2 h2 L2 := ⟨i1, by omega, i3, by omega, hl2, hb2⟩
 refine ret_enter Try.func13 rfl rfl rfl ?_
 have H0 := HS.start w
 refine cw_seq ?_
 refine cw_reg ?_
 refine ry (y_asg rfl rfl) rfl rfl ?_
 refine reg_nil ?_
 refine fn_next ?_
 refine cw_seq ?_
 refine cw_seq ?_
 refine cw_reg ?_
 refine reg_op (op_call (turnAwake _) rfl kflaw42c_1 trivial) rfl rfl ?_
 rintro _ w2 ⟨rfl, e1⟩
 have H3 := H0.ext e1
 refine ry (y_not rfl rfl) rfl rfl ?_
 refine reg_nil ?_
 refine fn_next ?_
 refine cw_condf rfl ?_
 refine cw_skip ?_
 refine fn_next ?_
 refine cw_seq ?_
 refine cw_reg ?_
 refine ry (y_mov rfl rfl) rfl rfl ?_
 refine ry (y_mov rfl rfl) rfl rfl ?_
 refine ry (y_mov rfl rfl) rfl rfl ?_
 refine reg_op (op_call (land_ok a h 1000 L A (a * h) cap _ j1 j2 j3 j4 j5 rfl hl hb (by decide) (hr.below H3.base)) rfl kflaw42c_2 ⟨rfl, rfl, rfl, rfl, trivial⟩) rfl rfl ?_
 rintro _ w5 ⟨rfl, e4⟩
 have H6 := H3.ext e4
 refine ry (y_mov rfl rfl) rfl rfl ?_
 refine ry (y_ext rfl rfl rfl) rfl rfl ?_
 refine ry (y_ext rfl rfl rfl) rfl rfl ?_
 refine reg_op (op_alloc H6 rfl kflaw42c_3) rfl rfl ?_
 rintro _ w8 ⟨b7, rfl, H9⟩
 refine reg_op (op_st (i := 0) (vs := [.int _ _, .int _ _, .slice _ _ _]) H9 rfl rfl rfl rfl rfl kflaw42c_4 rfl rfl rfl) rfl rfl ?_
 rintro _ w10 H11
 refine ry (y_asg rfl rfl) rfl rfl ?_
 refine reg_nil ?_
 refine fn_next ?_
 refine cw_seq ?_
 refine cw_reg ?_
 refine ry (y_mov rfl rfl) rfl rfl ?_
 refine ry (y_mov rfl rfl) rfl rfl ?_
 refine ry (y_mov rfl rfl) rfl rfl ?_
 refine reg_op (op_call (land_ok a2 h2 1000 L2 B (a2 * h2) cap2 _ i1 i2 i3 i4 i5 rfl hl2 hb2 (by decide) (hr2.below H11.base)) rfl kflaw42c_2 ⟨rfl, rfl, rfl, rfl, trivial⟩) rfl rfl ?_
 rintro _ w13 ⟨rfl, e12⟩
 have H14 := H11.ext e12
 refine ry (y_mov rfl rfl) rfl rfl ?_
 refine ry (y_ext rfl rfl rfl) rfl rfl ?_
 refine ry (y_ext rfl rfl rfl) rfl rfl ?_
 refine reg_op (op_alloc H14 rfl kflaw42c_3) rfl rfl ?_
 rintro _ w16 ⟨b15, rfl, H17⟩
 refine reg_op (op_st (i := 0) (vs := [.int _ _, .int _ _, .slice _ _ _]) H17 rfl rfl rfl rfl rfl kflaw42c_4 rfl rfl rfl) rfl rfl ?_
 rintro _ w18 H19
 refine ry (y_asg rfl rfl) rfl rfl ?_
 refine reg_nil ?_
 refine fn_next ?_
 refine cw_seq ?_
 refine cw_seq ?_
 refine cw_reg ?_
 refine ry (y_mov rfl rfl) rfl rfl ?_
 refine ry (y_not rfl rfl) rfl rfl ?_
 refine ry (y_mov rfl rfl) rfl rfl ?_
 refine rgy (y_mov rfl rfl) rfl rfl rfl rfl ?_
 refine rgy (y_not rfl rfl) rfl rfl rfl rfl ?_
 refine ry (y_pick rfl rfl rfl) rfl rfl ?_
 refine reg_nil ?_
 refine fn_next ?_
 refine cw_condf rfl ?_
 refine cw_skip ?_
 refine fn_next ?_
 refine cw_seq ?_
 refine cw_reg ?_
 refine ry (y_mov rfl rfl) rfl rfl ?_
 refine ry (y_mov rfl rfl) rfl rfl ?_
 refine ry (y_mov rfl rfl) rfl rfl ?_
 refine reg_op (op_call (made_ok a h L A (a * h) cap _ s hl rfl hb (hr.below H19.base)) rfl kflaw42c_5 ⟨rfl, rfl, rfl, trivial⟩) rfl rfl ?_
 rintro _ w21 ⟨g23, bl24, rfl, k20⟩
 have H22 := H19.call k20
 refine ry (y_mov rfl rfl) rfl rfl ?_
 refine ry (y_ext rfl rfl rfl) rfl rfl ?_
 refine ry (y_ext rfl rfl rfl) rfl rfl ?_
 refine ry (y_asg rfl rfl) rfl rfl ?_
 refine ry (y_asg rfl rfl) rfl rfl ?_
 refine reg_nil ?_
 refine fn_next ?_
 refine cw_seq ?_
 refine cw_reg ?_
 refine ry (y_mov rfl rfl) rfl rfl ?_
 refine ry (y_mov rfl rfl) rfl rfl ?_
 refine ry (y_mov rfl rfl) rfl rfl ?_
 refine reg_op (op_call (made_ok a2 h2 L2 B (a2 * h2) cap2 _ s' hl2 rfl hb2 (hr2.below H22.base)) rfl kflaw42c_5 ⟨rfl, rfl, rfl, trivial⟩) rfl rfl ?_
 rintro _ w26 ⟨g28, bl29, rfl, k25⟩
 have H27 := H22.call k25
 refine ry (y_mov rfl rfl) rfl rfl ?_
 refine ry (y_ext rfl rfl rfl) rfl rfl ?_
 refine ry (y_ext rfl rfl rfl) rfl rfl ?_
 refine ry (y_asg rfl rfl) rfl rfl ?_
 refine ry (y_asg rfl rfl) rfl rfl ?_
 refine reg_nil ?_
 refine fn_next ?_
 refine cw_seq ?_
 refine cw_reg ?_
 refine ry (y_mov rfl rfl) rfl rfl ?_
 refine ry (y_mov rfl rfl) rfl rfl ?_
 refine reg_op (op_call (gBeside_s g23 a h L g28 a2 h2 L2 _ (H27.rdg (i := 1) rfl) (H27.rdg (i := 0) rfl) hn hs) rfl kflaw42c_6 ⟨rfl, rfl, trivial⟩) rfl rfl ?_
 rintro _ w31 ⟨rfl, e30⟩
 have H32 := H27.ext e30
 refine ry (y_mov rfl rfl) rfl rfl ?_
 refine ry (y_ext rfl rfl rfl) rfl rfl ?_
 refine ry (y_ext rfl rfl rfl) rfl rfl ?_
 refine ry (y_asg rfl rfl) rfl rfl ?_
 refine ry (y_asg rfl rfl) rfl rfl ?_
 refine reg_nil ?_
 refine fn_next ?_
 refine cw_seq ?_
 refine cw_reg ?_
 refine ry (y_mov rfl rfl) rfl rfl ?_
 refine ry (y_mov rfl rfl) rfl rfl ?_
 refine reg_op (op_call (gBelow_s g23 a h L g28 a2 h2 L2 _ (H32.rdg (i := 1) rfl) (H32.rdg (i := 0) rfl) kn ks) rfl kflaw42c_7 ⟨rfl, rfl, trivial⟩) rfl rfl ?_
 rintro _ w34 ⟨rfl, e33⟩
 have H35 := H32.ext e33
 refine ry (y_mov rfl rfl) rfl rfl ?_
 refine ry (y_ext rfl rfl rfl) rfl rfl ?_
 refine ry (y_ext rfl rfl rfl) rfl rfl ?_
 refine ry (y_asg rfl rfl) rfl rfl ?_
 refine ry (y_asg rfl rfl) rfl rfl ?_
 refine reg_nil ?_
 refine fn_next ?_
 refine cw_seq ?_
 refine cw_reg ?_
 refine ry (y_ldb (i := 3) (cs := [_, _, _]) H35 rfl rfl kflaw42c_8 rfl rfl) rfl rfl ?_
 refine ry (y_ldb (i := 2) (cs := [_, _, _]) H35 rfl rfl kflaw42c_8 rfl rfl) rfl rfl ?_
 refine reg_op (op_call (mBeside_s a h A cap L a2 h2 B cap2 L2 _ s (hr.below H35.base) hl s' (hr2.below H35.base) hl2 hn hs) rfl kflaw42c_9 ⟨rfl, rfl, trivial⟩) rfl rfl ?_
 rintro _ w37 ⟨rfl, e36⟩
 have H38 := H35.ext e36
 refine ry (y_mov rfl rfl) rfl rfl ?_
 refine ry (y_ext rfl rfl rfl) rfl rfl ?_
 refine ry (y_ext rfl rfl rfl) rfl rfl ?_
 refine reg_op (op_alloc H38 rfl kflaw42c_3) rfl rfl ?_
 rintro _ w40 ⟨b39, rfl, H41⟩
 refine reg_op (op_st (i := 0) (vs := [.int _ _, .int _ _, .slice _ _ _]) H41 rfl rfl rfl rfl rfl kflaw42c_4 rfl rfl rfl) rfl rfl ?_
 rintro _ w42 H43
 refine ry (y_asg rfl rfl) rfl rfl ?_
 refine reg_nil ?_
 refine fn_next ?_
 refine cw_seq ?_
 refine cw_reg ?_
 refine ry (y_ldb (i := 4) (cs := [_, _, _]) H43 rfl rfl kflaw42c_8 rfl rfl) rfl rfl ?_
 refine ry (y_ldb (i := 3) (cs := [_, _, _]) H43 rfl rfl kflaw42c_8 rfl rfl) rfl rfl ?_
 refine reg_op (op_call (mBelow_s a h A cap L a2 h2 B cap2 L2 _ s (hr.below H43.base) hl s' (hr2.below H43.base) hl2 kn ks) rfl kflaw42c_10 ⟨rfl, rfl, trivial⟩) rfl rfl ?_
 rintro _ w45 ⟨rfl, e44⟩
 have H46 := H43.ext e44
 refine ry (y_mov rfl rfl) rfl rfl ?_
 refine ry (y_ext rfl rfl rfl) rfl rfl ?_
 refine ry (y_ext rfl rfl rfl) rfl rfl ?_
 refine reg_op (op_alloc H46 rfl kflaw42c_3) rfl rfl ?_
 rintro _ w48 ⟨b47, rfl, H49⟩
 refine reg_op (op_st (i := 0) (vs := [.int _ _, .int _ _, .slice _ _ _]) H49 rfl rfl rfl rfl rfl kflaw42c_4 rfl rfl rfl) rfl rfl ?_
 rintro _ w50 H51
 refine ry (y_asg rfl rfl) rfl rfl ?_
 refine reg_nil ?_
 refine fn_next ?_
 refine cw_seq ?_
 refine cw_seq ?_
 refine cw_reg ?_
 refine ry (y_mov rfl rfl) rfl rfl ?_
 refine ry (y_not rfl rfl) rfl rfl ?_
 refine ry (y_mov rfl rfl) rfl rfl ?_
 refine rgy (y_mov rfl rfl) rfl rfl rfl rfl ?_
 refine rgy (y_not rfl rfl) rfl rfl rfl rfl ?_
 refine ry (y_pick rfl rfl rfl) rfl rfl ?_
 refine ry (y_mov rfl rfl) rfl rfl ?_
 refine rgy (y_mov rfl rfl) rfl rfl rfl rfl ?_
 refine rgy (y_mov rfl rfl) rfl rfl rfl rfl ?_
 refine rgy (y_neq rfl rfl rfl) rfl rfl rfl rfl ?_
 refine ry (y_pick rfl rfl rfl) rfl rfl ?_
 refine ry (y_mov rfl rfl) rfl rfl ?_
 refine rgy (y_mov rfl rfl) rfl rfl rfl rfl ?_
 refine rgy (y_mov rfl rfl) rfl rfl rfl rfl ?_
 refine rgy (y_neq rfl rfl rfl) rfl rfl rfl rfl ?_
 refine ry (y_pick rfl rfl rfl) rfl rfl ?_
 refine ry (y_mov rfl rfl) rfl rfl ?_
 refine rgy (y_mov rfl rfl) rfl rfl rfl rfl ?_
 refine rgy (y_peqlnil rfl Try.underlying28 rfl rfl) rfl rfl rfl rfl ?_
 refine rgy (y_mov rfl rfl) rfl rfl rfl rfl ?_
 refine rgy (y_neq rfl rfl rfl) rfl rfl rfl rfl ?_
 refine rgy (y_bneq rfl Try.underlying4 rfl rfl) rfl rfl rfl rfl ?_
 refine ry (y_pick rfl rfl rfl) rfl rfl ?_
 refine ry (y_mov rfl rfl) rfl rfl ?_
 refine rgy (y_mov rfl rfl) rfl rfl rfl rfl ?_
 refine rgy (y_peqlnil rfl Try.underlying28 rfl rfl) rfl rfl rfl rfl ?_
 refine rgy (y_mov rfl rfl) rfl rfl rfl rfl ?_
 refine rgy (y_neq rfl rfl rfl) rfl rfl rfl rfl ?_
 refine rgy (y_bneq rfl Try.underlying4 rfl rfl) rfl rfl rfl rfl ?_
 refine ry (y_pick rfl rfl rfl) rfl rfl ?_
 refine reg_nil ?_
 refine fn_next ?_
 refine cw_condf rfl ?_
 refine cw_skip ?_
 refine fn_next ?_
 refine cw_seq ?_
 refine cw_seq ?_
 refine cw_reg ?_
 refine ry (y_mov rfl rfl) rfl rfl ?_
 refine ry (y_eql rfl rfl rfl) rfl rfl ?_
 refine reg_nil ?_
 refine fn_next ?_
 refine cw_condf rfl ?_
 refine cw_skip ?_
 refine fn_next ?_
 refine cw_seq ?_
 refine cw_seq ?_
 refine cw_reg ?_
 refine ry (y_mov rfl rfl) rfl rfl ?_
 refine ry (y_eql rfl rfl rfl) rfl rfl ?_
 refine reg_nil ?_
 refine fn_next ?_
 refine cw_condf rfl ?_
 refine cw_skip ?_
 refine fn_next ?_
 refine cw_seq ?_
 refine cw_reg ?_
 refine ry (y_asg rfl rfl) rfl rfl ?_
 refine reg_nil ?_
 refine fn_next ?_
 refine cw_ret ?_
 refine fn_ret1 rfl rfl ?_
 exact ⟨rfl, H51.base⟩

set_option maxRecDepth 100000 in
set_option maxHeartbeats 2000000 in
theorem turnJoins_s_ok (a h : Nat) (L : List Int) (A : Option Addr) (cap : Nat) (h2 : Nat) (L2 : List Int) (B : Option Addr) (cap2 : Nat) (w : World) (j1 : 1 ≤ a) (j2 : a ≤ 1000) (j3 : 1 ≤ h) (j4 : h ≤ 1000) (j5 : a * h ≤ 1000) (hr : Rd w A (vi .i64 L)) (hl : L.length = a * h) (hb : AllB L) (i1 : 1 ≤ a) (i2 : a ≤ 1000) (i3 : 1 ≤ h2) (i4 : h2 ≤ 1000) (i5 : a * h2 ≤ 1000) (hr2 : Rd w B (vi .i64 L2)) (hl2 : L2.length = a * h2) (hb2 : AllB L2) (hn : h = h2) (hs : ¬ a + a ≤ 1024) (ks : h + h2 ≤ 1024) :
    Ret Try.prog 13 [.int .i64 (a : Int), .int .i64 (h : Int), .slice A (a * h) cap, .int .i64 (a : Int), .int .i64 (h2 : Int), .slice B (a * h2) cap2] w (fun z w' => z = .bool true ∧ Below w.heap.size w w') := by
 have s : SzG a h := ⟨j1, by omega, j3, by omega⟩
 have s' : SzG a h2 := ⟨i1, by omega, i3, by omega⟩
 have G1 : GV a h L := ⟨j1, by omega, j3, by omega, hl, hb⟩
 have G2 : GV a h2 L2 := ⟨i1, by omega, i3, by omega, hl2, hb2⟩
 have sL : SzG a (h + h2) := ⟨by omega, by omega, by omega, by omega⟩
 refine ret_enter Try.func13 rfl rfl rfl ?_
 have H0 := HS.start w
 refine cw_seq ?_
 refine cw_reg ?_
 refine ry (y_asg rfl rfl) rfl rfl ?_
 refine reg_nil ?_
 refine fn_next ?_
 refine cw_seq ?_
 refine cw_seq ?_
 refine cw_reg ?_
 refine reg_op (op_call (turnAwake _) rfl kflaw42c_1 trivial) rfl rfl ?_
 rintro _ w2 ⟨rfl, e1⟩
 have H3 := H0.ext e1
 refine ry (y_not rfl rfl) rfl rfl ?_
 refine reg_nil ?_
 refine fn_next ?_
 refine cw_condf rfl ?_
 refine cw_skip ?_
 refine fn_next ?_
 refine cw_seq ?_
 refine cw_reg ?_
 refine ry (y_mov rfl rfl) rfl rfl ?_
 refine ry (y_mov rfl rfl) rfl rfl ?_
 refine ry (y_mov rfl rfl) rfl rfl ?_
 refine reg_op (op_call (land_ok a h 1000 L A (a * h) cap _ j1 j2 j3 j4 j5 rfl hl hb (by decide) (hr.below H3.base)) rfl kflaw42c_2 ⟨rfl, rfl, rfl, rfl, trivial⟩) rfl rfl ?_
 rintro _ w5 ⟨rfl, e4⟩
 have H6 := H3.ext e4
 refine ry (y_mov rfl rfl) rfl rfl ?_
 refine ry (y_ext rfl rfl rfl) rfl rfl ?_
 refine ry (y_ext rfl rfl rfl) rfl rfl ?_
 refine reg_op (op_alloc H6 rfl kflaw42c_3) rfl rfl ?_
 rintro _ w8 ⟨b7, rfl, H9⟩
 refine reg_op (op_st (i := 0) (vs := [.int _ _, .int _ _, .slice _ _ _]) H9 rfl rfl rfl rfl rfl kflaw42c_4 rfl rfl rfl) rfl rfl ?_
 rintro _ w10 H11
 refine ry (y_asg rfl rfl) rfl rfl ?_
 refine reg_nil ?_
 refine fn_next ?_
 refine cw_seq ?_
 refine cw_reg ?_
 refine ry (y_mov rfl rfl) rfl rfl ?_
 refine ry (y_mov rfl rfl) rfl rfl ?_
 refine ry (y_mov rfl rfl) rfl rfl ?_
 refine reg_op (op_call (land_ok a h2 1000 L2 B (a * h2) cap2 _ i1 i2 i3 i4 i5 rfl hl2 hb2 (by decide) (hr2.below H11.base)) rfl kflaw42c_2 ⟨rfl, rfl, rfl, rfl, trivial⟩) rfl rfl ?_
 rintro _ w13 ⟨rfl, e12⟩
 have H14 := H11.ext e12
 refine ry (y_mov rfl rfl) rfl rfl ?_
 refine ry (y_ext rfl rfl rfl) rfl rfl ?_
 refine ry (y_ext rfl rfl rfl) rfl rfl ?_
 refine reg_op (op_alloc H14 rfl kflaw42c_3) rfl rfl ?_
 rintro _ w16 ⟨b15, rfl, H17⟩
 refine reg_op (op_st (i := 0) (vs := [.int _ _, .int _ _, .slice _ _ _]) H17 rfl rfl rfl rfl rfl kflaw42c_4 rfl rfl rfl) rfl rfl ?_
 rintro _ w18 H19
 refine ry (y_asg rfl rfl) rfl rfl ?_
 refine reg_nil ?_
 refine fn_next ?_
 refine cw_seq ?_
 refine cw_seq ?_
 refine cw_reg ?_
 refine ry (y_mov rfl rfl) rfl rfl ?_
 refine ry (y_not rfl rfl) rfl rfl ?_
 refine ry (y_mov rfl rfl) rfl rfl ?_
 refine rgy (y_mov rfl rfl) rfl rfl rfl rfl ?_
 refine rgy (y_not rfl rfl) rfl rfl rfl rfl ?_
 refine ry (y_pick rfl rfl rfl) rfl rfl ?_
 refine reg_nil ?_
 refine fn_next ?_
 refine cw_condf rfl ?_
 refine cw_skip ?_
 refine fn_next ?_
 refine cw_seq ?_
 refine cw_reg ?_
 refine ry (y_mov rfl rfl) rfl rfl ?_
 refine ry (y_mov rfl rfl) rfl rfl ?_
 refine ry (y_mov rfl rfl) rfl rfl ?_
 refine reg_op (op_call (made_ok a h L A (a * h) cap _ s hl rfl hb (hr.below H19.base)) rfl kflaw42c_5 ⟨rfl, rfl, rfl, trivial⟩) rfl rfl ?_
 rintro _ w21 ⟨g23, bl24, rfl, k20⟩
 have H22 := H19.call k20
 refine ry (y_mov rfl rfl) rfl rfl ?_
 refine ry (y_ext rfl rfl rfl) rfl rfl ?_
 refine ry (y_ext rfl rfl rfl) rfl rfl ?_
 refine ry (y_asg rfl rfl) rfl rfl ?_
 refine ry (y_asg rfl rfl) rfl rfl ?_
 refine reg_nil ?_
 refine fn_next ?_
 refine cw_seq ?_
 refine cw_reg ?_
 refine ry (y_mov rfl rfl) rfl rfl ?_
 refine ry (y_mov rfl rfl) rfl rfl ?_
 refine ry (y_mov rfl rfl) rfl rfl ?_
 refine reg_op (op_call (made_ok a h2 L2 B (a * h2) cap2 _ s' hl2 rfl hb2 (hr2.below H22.base)) rfl kflaw42c_5 ⟨rfl, rfl, rfl, trivial⟩) rfl rfl ?_
 rintro _ w26 ⟨g28, bl29, rfl, k25⟩
 have H27 := H22.call k25
 refine ry (y_mov rfl rfl) rfl rfl ?_
 refine ry (y_ext rfl rfl rfl) rfl rfl ?_
 refine ry (y_ext rfl rfl rfl) rfl rfl ?_
 refine ry (y_asg rfl rfl) rfl rfl ?_
 refine ry (y_asg rfl rfl) rfl rfl ?_
 refine reg_nil ?_
 refine fn_next ?_
 refine cw_seq ?_
 refine cw_reg ?_
 refine ry (y_mov rfl rfl) rfl rfl ?_
 refine ry (y_mov rfl rfl) rfl rfl ?_
 refine reg_op (op_call (gBeside_s g23 a h L g28 a h2 L2 _ (H27.rdg (i := 1) rfl) (H27.rdg (i := 0) rfl) hn hs) rfl kflaw42c_6 ⟨rfl, rfl, trivial⟩) rfl rfl ?_
 rintro _ w31 ⟨rfl, e30⟩
 have H32 := H27.ext e30
 refine ry (y_mov rfl rfl) rfl rfl ?_
 refine ry (y_ext rfl rfl rfl) rfl rfl ?_
 refine ry (y_ext rfl rfl rfl) rfl rfl ?_
 refine ry (y_asg rfl rfl) rfl rfl ?_
 refine ry (y_asg rfl rfl) rfl rfl ?_
 refine reg_nil ?_
 refine fn_next ?_
 refine cw_seq ?_
 refine cw_reg ?_
 refine ry (y_mov rfl rfl) rfl rfl ?_
 refine ry (y_mov rfl rfl) rfl rfl ?_
 refine reg_op (op_call (gBelow_ok g23 a h L g28 h2 L2 _ (H32.rdg (i := 1) rfl) (H32.rdg (i := 0) rfl) ks) rfl kflaw42c_7 ⟨rfl, rfl, trivial⟩) rfl rfl ?_
 rintro _ w34 ⟨g36, bl37, rfl, k33⟩
 have H35 := H32.call k33
 refine ry (y_mov rfl rfl) rfl rfl ?_
 refine ry (y_ext rfl rfl rfl) rfl rfl ?_
 refine ry (y_ext rfl rfl rfl) rfl rfl ?_
 refine ry (y_asg rfl rfl) rfl rfl ?_
 refine ry (y_asg rfl rfl) rfl rfl ?_
 refine reg_nil ?_
 refine fn_next ?_
 refine cw_seq ?_
 refine cw_reg ?_
 refine ry (y_ldb (i := 4) (cs := [_, _, _]) H35 rfl rfl kflaw42c_8 rfl rfl) rfl rfl ?_
 refine ry (y_ldb (i := 3) (cs := [_, _, _]) H35 rfl rfl kflaw42c_8 rfl rfl) rfl rfl ?_
 refine reg_op (op_call (mBeside_s a h A cap L a h2 B cap2 L2 _ s (hr.below H35.base) hl s' (hr2.below H35.base) hl2 hn hs) rfl kflaw42c_9 ⟨rfl, rfl, trivial⟩) rfl rfl ?_
 rintro _ w39 ⟨rfl, e38⟩
 have H40 := H35.ext e38
 refine ry (y_mov rfl rfl) rfl rfl ?_
 refine ry (y_ext rfl rfl rfl) rfl rfl ?_
 refine ry (y_ext rfl rfl rfl) rfl rfl ?_
 refine reg_op (op_alloc H40 rfl kflaw42c_3) rfl rfl ?_
 rintro _ w42 ⟨b41, rfl, H43⟩
 refine reg_op (op_st (i := 0) (vs := [.int _ _, .int _ _, .slice _ _ _]) H43 rfl rfl rfl rfl rfl kflaw42c_4 rfl rfl rfl) rfl rfl ?_
 rintro _ w44 H45
 refine ry (y_asg rfl rfl) rfl rfl ?_
 refine reg_nil ?_
 refine fn_next ?_
 refine cw_seq ?_
 refine cw_reg ?_
 refine ry (y_ldb (i := 5) (cs := [_, _, _]) H45 rfl rfl kflaw42c_8 rfl rfl) rfl rfl ?_
 refine ry (y_ldb (i := 4) (cs := [_, _, _]) H45 rfl rfl kflaw42c_8 rfl rfl) rfl rfl ?_
 refine reg_op (op_call (mBelow_ok a h A cap L h2 B cap2 L2 _ s (hr.below H45.base) hl s' (hr2.below H45.base) hl2 ks) rfl kflaw42c_10 ⟨rfl, rfl, trivial⟩) rfl rfl ?_
 rintro _ w47 ⟨A49, c50, rfl, k46⟩
 have H48 := H45.call k46
 refine ry (y_mov rfl rfl) rfl rfl ?_
 refine ry (y_ext rfl rfl rfl) rfl rfl ?_
 refine ry (y_ext rfl rfl rfl) rfl rfl ?_
 refine reg_op (op_alloc H48 rfl kflaw42c_3) rfl rfl ?_
 rintro _ w52 ⟨b51, rfl, H53⟩
 refine reg_op (op_st (i := 0) (vs := [.int _ _, .int _ _, .slice _ _ _]) H53 rfl rfl rfl rfl rfl kflaw42c_4 rfl rfl rfl) rfl rfl ?_
 rintro _ w54 H55
 refine ry (y_asg rfl rfl) rfl rfl ?_
 refine reg_nil ?_
 refine fn_next ?_
 refine cw_seq ?_
 refine cw_seq ?_
 refine cw_reg ?_
 refine ry (y_mov rfl rfl) rfl rfl ?_
 refine ry (y_not rfl rfl) rfl rfl ?_
 refine ry (y_mov rfl rfl) rfl rfl ?_
 refine rgy (y_mov rfl rfl) rfl rfl rfl rfl ?_
 refine rgy (y_not rfl rfl) rfl rfl rfl rfl ?_
 refine ry (y_pick rfl rfl rfl) rfl rfl ?_
 refine ry (y_mov rfl rfl) rfl rfl ?_
 refine rgy (y_mov rfl rfl) rfl rfl rfl rfl ?_
 refine rgy (y_mov rfl rfl) rfl rfl rfl rfl ?_
 refine rgy (y_neq rfl rfl rfl) rfl rfl rfl rfl ?_
 refine ry (y_pick rfl rfl rfl) rfl rfl ?_
 refine ry (y_mov rfl rfl) rfl rfl ?_
 refine rgy (y_mov rfl rfl) rfl rfl rfl rfl ?_
 refine rgy (y_mov rfl rfl) rfl rfl rfl rfl ?_
 refine rgy (y_neq rfl rfl rfl) rfl rfl rfl rfl ?_
 refine ry (y_pick rfl rfl rfl) rfl rfl ?_
 refine ry (y_mov rfl rfl) rfl rfl ?_
 refine rgy (y_mov rfl rfl) rfl rfl rfl rfl ?_
 refine rgy (y_peqlnil rfl Try.underlying28 rfl rfl) rfl rfl rfl rfl ?_
 refine rgy (y_mov rfl rfl) rfl rfl rfl rfl ?_
 refine rgy (y_neq rfl rfl rfl) rfl rfl rfl rfl ?_
 refine rgy (y_bneq rfl Try.underlying4 rfl rfl) rfl rfl rfl rfl ?_
 refine ry (y_pick rfl rfl rfl) rfl rfl ?_
 refine ry (y_mov rfl rfl) rfl rfl ?_
 refine rgy (y_mov rfl rfl) rfl rfl rfl rfl ?_
 refine rgy (y_peqlnil rfl Try.underlying28 rfl rfl) rfl rfl rfl rfl ?_
 refine rgy (y_mov rfl rfl) rfl rfl rfl rfl ?_
 refine rgy (y_neq rfl rfl rfl) rfl rfl rfl rfl ?_
 refine rgy (y_bneq rfl Try.underlying4 rfl rfl) rfl rfl rfl rfl ?_
 refine ry (y_pick rfl rfl rfl) rfl rfl ?_
 refine reg_nil ?_
 refine fn_next ?_
 refine cw_condf rfl ?_
 refine cw_skip ?_
 refine fn_next ?_
 refine cw_seq ?_
 refine cw_seq ?_
 refine cw_reg ?_
 refine ry (y_mov rfl rfl) rfl rfl ?_
 refine ry (y_eql rfl rfl rfl) rfl rfl ?_
 refine reg_nil ?_
 refine fn_next ?_
 refine cw_condf rfl ?_
 refine cw_skip ?_
 refine fn_next ?_
 refine cw_seq ?_
 refine cw_seq ?_
 refine cw_reg ?_
 refine ry (y_mov rfl rfl) rfl rfl ?_
 refine ry (y_eql rfl rfl rfl) rfl rfl ?_
 refine reg_nil ?_
 refine fn_next ?_
 refine cw_condt rfl ?_
 refine cw_seq ?_
 refine cw_reg ?_
 refine ry (y_mov rfl rfl) rfl rfl ?_
 refine ry (y_mov rfl rfl) rfl rfl ?_
 refine ry (y_sub rfl rfl rfl (show _ = ((a - 1 : Nat) : Int) from (wi (by omega)).trans (by omega))) rfl rfl ?_
 refine ry (y_mov rfl rfl) rfl rfl ?_
 refine ry (y_sub rfl rfl rfl (show _ = ((h - 1 : Nat) : Int) from (wi (by omega)).trans (by omega))) rfl rfl ?_
 refine ry (y_build (places := [(0, 1), (1, 1), (2, 1), (3, 1)]) (parts := [(2, _), (3, _)]) (vs := [(2, _), (3, _)]) (cs := [.int _ _, .int _ _, .int _ _, .int _ _]) rfl Try.underlying55 (by kernel_rfl) kflaw42c_11 rfl ⟨rfl, rfl, trivial⟩ rfl) rfl rfl ?_
 refine reg_op (op_call (gCrop_ok g36 a (h + h2) (L ++ L2) 0 0 (a - 1) (h - 1) _ (H55.rdg (i := 3) rfl) (by omega) (by omega) (by omega) (by omega)) rfl kflaw42c_12 ⟨rfl, rfl, trivial⟩) rfl rfl ?_
 rintro _ w57 ⟨g59, bl60, rfl, k56⟩
 have H58 := H55.call k56
 rw [show a - 1 + 1 - 0 = a by omega, show h - 1 + 1 - 0 = h by omega, crop_below G1 sL i3] at H58
 refine ry (y_mov rfl rfl) rfl rfl ?_
 refine ry (y_ext rfl rfl rfl) rfl rfl ?_
 refine ry (y_ext rfl rfl rfl) rfl rfl ?_
 refine ry (y_asg rfl rfl) rfl rfl ?_
 refine ry (y_asg rfl rfl) rfl rfl ?_
 refine reg_nil ?_
 refine fn_next ?_
 refine cw_seq ?_
 refine cw_reg ?_
 refine ry (y_mov rfl rfl) rfl rfl ?_
 refine ry (y_ldb (i := 1) (cs := [_, _, _]) H58 rfl rfl kflaw42c_8 rfl rfl) rfl rfl ?_
 refine reg_op (op_call (lIs g36 a (h + h2) (L ++ L2) _ _ _ (H58.rdg (i := 4) rfl) (H58.rd (i := 2) rfl)) rfl kflaw42c_13 ⟨rfl, rfl, trivial⟩) rfl rfl ?_
 rintro _ w62 ⟨rfl, e61⟩
 have H63 := H58.ext e61
 refine ry (y_not rfl rfl) rfl rfl ?_
 refine ry (y_mov rfl rfl) rfl rfl ?_
 refine rgy (y_mov rfl rfl) rfl rfl rfl rfl ?_
 refine rgy (y_neq rfl rfl rfl) rfl rfl rfl rfl ?_
 refine ry (y_pick rfl rfl rfl) rfl rfl ?_
 refine ry (y_mov rfl rfl) rfl rfl ?_
 refine rgy (y_mov rfl rfl) rfl rfl rfl rfl ?_
 refine rgy (y_mov rfl rfl) rfl rfl rfl rfl ?_
 refine rg_on rfl rfl rfl (op_call (ret_v (v := .bool true) (gSame g59 a h (L) g23 a h (L) _ (H63.rdg (i := 0) rfl) (H63.rdg (i := 6) rfl)) (by rw [decide_eq_true (show _ ∧ _ ∧ _ from ⟨rfl, rfl, rfl⟩)])) rfl kflaw42c_14 ⟨rfl, rfl, trivial⟩) rfl ?_
 rintro _ w65 ⟨rfl, e64⟩
 have H66 := H63.ext e64
 refine rgy (y_not rfl rfl) rfl rfl rfl rfl ?_
 refine ry (y_pick rfl rfl rfl) rfl rfl ?_
 refine reg_nil ?_
 refine fn_next ?_
 refine cw_condf rfl ?_
 refine cw_skip ?_
 refine fn_next ?_
 refine cw_seq ?_
 refine cw_reg ?_
 refine ry (y_asg rfl rfl) rfl rfl ?_
 refine reg_nil ?_
 refine fn_next ?_
 refine cw_ret ?_
 refine fn_ret1 rfl rfl ?_
 exact ⟨rfl, H66.base⟩

set_option maxRecDepth 100000 in
set_option maxHeartbeats 2000000 in
theorem turnJoins_ok_n (a h : Nat) (L : List Int) (A : Option Addr) (cap : Nat) (a2 : Nat) (L2 : List Int) (B : Option Addr) (cap2 : Nat) (w : World) (j1 : 1 ≤ a) (j2 : a ≤ 1000) (j3 : 1 ≤ h) (j4 : h ≤ 1000) (j5 : a * h ≤ 1000) (hr : Rd w A (vi .i64 L)) (hl : L.length = a * h) (hb : AllB L) (i1 : 1 ≤ a2) (i2 : a2 ≤ 1000) (i3 : 1 ≤ h) (i4 : h ≤ 1000) (i5 : a2 * h ≤ 1000) (hr2 : Rd w B (vi .i64 L2)) (hl2 : L2.length = a2 * h) (hb2 : AllB L2) (hs : a + a2 ≤ 1024) (kn : ¬ a = a2) :
    Ret Try.prog 13 [.int .i64 (a : Int), .int .i64 (h : Int), .slice A (a * h) cap, .int .i64 (a2 : Int), .int .i64 (h : Int), .slice B (a2 * h) cap2] w (fun z w' => z = .bool true ∧ Below w.heap.size w w') := by
 have s : SzG a h := ⟨j1, by omega, j3, by omega⟩
 have s' : SzG a2 h := ⟨i1, by omega, i3, by omega⟩
 have G1 : GV a h L := ⟨j1, by omega, j3, by omega, hl, hb⟩
 have G2 : GV a2 h L2 := ⟨i1, by omega, i3, by omega, hl2, hb2⟩
 have sB : SzG (a + a2) h := ⟨by omega, by omega, by omega, by omega⟩
 refine ret_enter Try.func13 rfl rfl rfl ?_
 have H0 := HS.start w
 refine cw_seq ?_
 refine cw_reg ?_
 refine ry (y_asg rfl rfl) rfl rfl ?_
 refine reg_nil ?_
 refine fn_next ?_
 refine cw_seq ?_
 refine cw_seq ?_
 refine cw_reg ?_
 refine reg_op (op_call (turnAwake _) rfl kflaw42c_1 trivial) rfl rfl ?_
 rintro _ w2 ⟨rfl, e1⟩
 have H3 := H0.ext e1
 refine ry (y_not rfl rfl) rfl rfl ?_
 refine reg_nil ?_
 refine fn_next ?_
 refine cw_condf rfl ?_
 refine cw_skip ?_
 refine fn_next ?_
 refine cw_seq ?_
 refine cw_reg ?_
 refine ry (y_mov rfl rfl) rfl rfl ?_
 refine ry (y_mov rfl rfl) rfl rfl ?_
 refine ry (y_mov rfl rfl) rfl rfl ?_
 refine reg_op (op_call (land_ok a h 1000 L A (a * h) cap _ j1 j2 j3 j4 j5 rfl hl hb (by decide) (hr.below H3.base)) rfl kflaw42c_2 ⟨rfl, rfl, rfl, rfl, trivial⟩) rfl rfl ?_
 rintro _ w5 ⟨rfl, e4⟩
 have H6 := H3.ext e4
 refine ry (y_mov rfl rfl) rfl rfl ?_
 refine ry (y_ext rfl rfl rfl) rfl rfl ?_
 refine ry (y_ext rfl rfl rfl) rfl rfl ?_
 refine reg_op (op_alloc H6 rfl kflaw42c_3) rfl rfl ?_
 rintro _ w8 ⟨b7, rfl, H9⟩
 refine reg_op (op_st (i := 0) (vs := [.int _ _, .int _ _, .slice _ _ _]) H9 rfl rfl rfl rfl rfl kflaw42c_4 rfl rfl rfl) rfl rfl ?_
 rintro _ w10 H11
 refine ry (y_asg rfl rfl) rfl rfl ?_
 refine reg_nil ?_
 refine fn_next ?_
 refine cw_seq ?_
 refine cw_reg ?_
 refine ry (y_mov rfl rfl) rfl rfl ?_
 refine ry (y_mov rfl rfl) rfl rfl ?_
 refine ry (y_mov rfl rfl) rfl rfl ?_
 refine reg_op (op_call (land_ok a2 h 1000 L2 B (a2 * h) cap2 _ i1 i2 i3 i4 i5 rfl hl2 hb2 (by decide) (hr2.below H11.base)) rfl kflaw42c_2 ⟨rfl, rfl, rfl, rfl, trivial⟩) rfl rfl ?_
 rintro _ w13 ⟨rfl, e12⟩
 have H14 := H11.ext e12
 refine ry (y_mov rfl rfl) rfl rfl ?_
 refine ry (y_ext rfl rfl rfl) rfl rfl ?_
 refine ry (y_ext rfl rfl rfl) rfl rfl ?_
 refine reg_op (op_alloc H14 rfl kflaw42c_3) rfl rfl ?_
 rintro _ w16 ⟨b15, rfl, H17⟩
 refine reg_op (op_st (i := 0) (vs := [.int _ _, .int _ _, .slice _ _ _]) H17 rfl rfl rfl rfl rfl kflaw42c_4 rfl rfl rfl) rfl rfl ?_
 rintro _ w18 H19
 refine ry (y_asg rfl rfl) rfl rfl ?_
 refine reg_nil ?_
 refine fn_next ?_
 refine cw_seq ?_
 refine cw_seq ?_
 refine cw_reg ?_
 refine ry (y_mov rfl rfl) rfl rfl ?_
 refine ry (y_not rfl rfl) rfl rfl ?_
 refine ry (y_mov rfl rfl) rfl rfl ?_
 refine rgy (y_mov rfl rfl) rfl rfl rfl rfl ?_
 refine rgy (y_not rfl rfl) rfl rfl rfl rfl ?_
 refine ry (y_pick rfl rfl rfl) rfl rfl ?_
 refine reg_nil ?_
 refine fn_next ?_
 refine cw_condf rfl ?_
 refine cw_skip ?_
 refine fn_next ?_
 refine cw_seq ?_
 refine cw_reg ?_
 refine ry (y_mov rfl rfl) rfl rfl ?_
 refine ry (y_mov rfl rfl) rfl rfl ?_
 refine ry (y_mov rfl rfl) rfl rfl ?_
 refine reg_op (op_call (made_ok a h L A (a * h) cap _ s hl rfl hb (hr.below H19.base)) rfl kflaw42c_5 ⟨rfl, rfl, rfl, trivial⟩) rfl rfl ?_
 rintro _ w21 ⟨g23, bl24, rfl, k20⟩
 have H22 := H19.call k20
 refine ry (y_mov rfl rfl) rfl rfl ?_
 refine ry (y_ext rfl rfl rfl) rfl rfl ?_
 refine ry (y_ext rfl rfl rfl) rfl rfl ?_
 refine ry (y_asg rfl rfl) rfl rfl ?_
 refine ry (y_asg rfl rfl) rfl rfl ?_
 refine reg_nil ?_
 refine fn_next ?_
 refine cw_seq ?_
 refine cw_reg ?_
 refine ry (y_mov rfl rfl) rfl rfl ?_
 refine ry (y_mov rfl rfl) rfl rfl ?_
 refine ry (y_mov rfl rfl) rfl rfl ?_
 refine reg_op (op_call (made_ok a2 h L2 B (a2 * h) cap2 _ s' hl2 rfl hb2 (hr2.below H22.base)) rfl kflaw42c_5 ⟨rfl, rfl, rfl, trivial⟩) rfl rfl ?_
 rintro _ w26 ⟨g28, bl29, rfl, k25⟩
 have H27 := H22.call k25
 refine ry (y_mov rfl rfl) rfl rfl ?_
 refine ry (y_ext rfl rfl rfl) rfl rfl ?_
 refine ry (y_ext rfl rfl rfl) rfl rfl ?_
 refine ry (y_asg rfl rfl) rfl rfl ?_
 refine ry (y_asg rfl rfl) rfl rfl ?_
 refine reg_nil ?_
 refine fn_next ?_
 refine cw_seq ?_
 refine cw_reg ?_
 refine ry (y_mov rfl rfl) rfl rfl ?_
 refine ry (y_mov rfl rfl) rfl rfl ?_
 refine reg_op (op_call (gBeside_ok g23 a h L g28 a2 L2 _ (H27.rdg (i := 1) rfl) (H27.rdg (i := 0) rfl) hs) rfl kflaw42c_6 ⟨rfl, rfl, trivial⟩) rfl rfl ?_
 rintro _ w31 ⟨g33, bl34, rfl, k30⟩
 have H32 := H27.call k30
 refine ry (y_mov rfl rfl) rfl rfl ?_
 refine ry (y_ext rfl rfl rfl) rfl rfl ?_
 refine ry (y_ext rfl rfl rfl) rfl rfl ?_
 refine ry (y_asg rfl rfl) rfl rfl ?_
 refine ry (y_asg rfl rfl) rfl rfl ?_
 refine reg_nil ?_
 refine fn_next ?_
 refine cw_seq ?_
 refine cw_reg ?_
 refine ry (y_mov rfl rfl) rfl rfl ?_
 refine ry (y_mov rfl rfl) rfl rfl ?_
 refine reg_op (op_call (gBelow_n g23 a h L g28 a2 h L2 _ (H32.rdg (i := 2) rfl) (H32.rdg (i := 1) rfl) kn) rfl kflaw42c_7 ⟨rfl, rfl, trivial⟩) rfl rfl ?_
 rintro _ w36 ⟨rfl, e35⟩
 have H37 := H32.ext e35
 refine ry (y_mov rfl rfl) rfl rfl ?_
 refine ry (y_ext rfl rfl rfl) rfl rfl ?_
 refine ry (y_ext rfl rfl rfl) rfl rfl ?_
 refine ry (y_asg rfl rfl) rfl rfl ?_
 refine ry (y_asg rfl rfl) rfl rfl ?_
 refine reg_nil ?_
 refine fn_next ?_
 refine cw_seq ?_
 refine cw_reg ?_
 refine ry (y_ldb (i := 4) (cs := [_, _, _]) H37 rfl rfl kflaw42c_8 rfl rfl) rfl rfl ?_
 refine ry (y_ldb (i := 3) (cs := [_, _, _]) H37 rfl rfl kflaw42c_8 rfl rfl) rfl rfl ?_
 refine reg_op (op_call (mBeside_ok a h A cap L a2 B cap2 L2 _ s (hr.below H37.base) hl s' (hr2.below H37.base) hl2 hs) rfl kflaw42c_9 ⟨rfl, rfl, trivial⟩) rfl rfl ?_
 rintro _ w39 ⟨A41, c42, rfl, k38⟩
 have H40 := H37.call k38
 rw [beside_swap G1 G2] at H40
 refine ry (y_mov rfl rfl) rfl rfl ?_
 refine ry (y_ext rfl rfl rfl) rfl rfl ?_
 refine ry (y_ext rfl rfl rfl) rfl rfl ?_
 refine reg_op (op_alloc H40 rfl kflaw42c_3) rfl rfl ?_
 rintro _ w44 ⟨b43, rfl, H45⟩
 refine reg_op (op_st (i := 0) (vs := [.int _ _, .int _ _, .slice _ _ _]) H45 rfl rfl rfl rfl rfl kflaw42c_4 rfl rfl rfl) rfl rfl ?_
 rintro _ w46 H47
 refine ry (y_asg rfl rfl) rfl rfl ?_
 refine reg_nil ?_
 refine fn_next ?_
 refine cw_seq ?_
 refine cw_reg ?_
 refine ry (y_ldb (i := 6) (cs := [_, _, _]) H47 rfl rfl kflaw42c_8 rfl rfl) rfl rfl ?_
 refine ry (y_ldb (i := 5) (cs := [_, _, _]) H47 rfl rfl kflaw42c_8 rfl rfl) rfl rfl ?_
 refine reg_op (op_call (mBelow_n a h A cap L a2 h B cap2 L2 _ s (hr.below H47.base) hl s' (hr2.below H47.base) hl2 kn) rfl kflaw42c_10 ⟨rfl, rfl, trivial⟩) rfl rfl ?_
 rintro _ w49 ⟨rfl, e48⟩
 have H50 := H47.ext e48
 refine ry (y_mov rfl rfl) rfl rfl ?_
 refine ry (y_ext rfl rfl rfl) rfl rfl ?_
 refine ry (y_ext rfl rfl rfl) rfl rfl ?_
 refine reg_op (op_alloc H50 rfl kflaw42c_3) rfl rfl ?_
 rintro _ w52 ⟨b51, rfl, H53⟩
 refine reg_op (op_st (i := 0) (vs := [.int _ _, .int _ _, .slice _ _ _]) H53 rfl rfl rfl rfl rfl kflaw42c_4 rfl rfl rfl) rfl rfl ?_
 rintro _ w54 H55
 refine ry (y_asg rfl rfl) rfl rfl ?_
 refine reg_nil ?_
 refine fn_next ?_
 refine cw_seq ?_
 refine cw_seq ?_
 refine cw_reg ?_
 refine ry (y_mov rfl rfl) rfl rfl ?_
 refine ry (y_not rfl rfl) rfl rfl ?_
 refine ry (y_mov rfl rfl) rfl rfl ?_
 refine rgy (y_mov rfl rfl) rfl rfl rfl rfl ?_
 refine rgy (y_not rfl rfl) rfl rfl rfl rfl ?_
 refine ry (y_pick rfl rfl rfl) rfl rfl ?_
 refine ry (y_mov rfl rfl) rfl rfl ?_
 refine rgy (y_mov rfl rfl) rfl rfl rfl rfl ?_
 refine rgy (y_mov rfl rfl) rfl rfl rfl rfl ?_
 refine rgy (y_neq rfl rfl rfl) rfl rfl rfl rfl ?_
 refine ry (y_pick rfl rfl rfl) rfl rfl ?_
 refine ry (y_mov rfl rfl) rfl rfl ?_
 refine rgy (y_mov rfl rfl) rfl rfl rfl rfl ?_
 refine rgy (y_mov rfl rfl) rfl rfl rfl rfl ?_
 refine rgy (y_neq rfl rfl rfl) rfl rfl rfl rfl ?_
 refine ry (y_pick rfl rfl rfl) rfl rfl ?_
 refine ry (y_mov rfl rfl) rfl rfl ?_
 refine rgy (y_mov rfl rfl) rfl rfl rfl rfl ?_
 refine rgy (y_peqlnil rfl Try.underlying28 rfl rfl) rfl rfl rfl rfl ?_
 refine rgy (y_mov rfl rfl) rfl rfl rfl rfl ?_
 refine rgy (y_neq rfl rfl rfl) rfl rfl rfl rfl ?_
 refine rgy (y_bneq rfl Try.underlying4 rfl rfl) rfl rfl rfl rfl ?_
 refine ry (y_pick rfl rfl rfl) rfl rfl ?_
 refine ry (y_mov rfl rfl) rfl rfl ?_
 refine rgy (y_mov rfl rfl) rfl rfl rfl rfl ?_
 refine rgy (y_peqlnil rfl Try.underlying28 rfl rfl) rfl rfl rfl rfl ?_
 refine rgy (y_mov rfl rfl) rfl rfl rfl rfl ?_
 refine rgy (y_neq rfl rfl rfl) rfl rfl rfl rfl ?_
 refine rgy (y_bneq rfl Try.underlying4 rfl rfl) rfl rfl rfl rfl ?_
 refine ry (y_pick rfl rfl rfl) rfl rfl ?_
 refine reg_nil ?_
 refine fn_next ?_
 refine cw_condf rfl ?_
 refine cw_skip ?_
 refine fn_next ?_
 refine cw_seq ?_
 refine cw_seq ?_
 refine cw_reg ?_
 refine ry (y_mov rfl rfl) rfl rfl ?_
 refine ry (y_eql rfl rfl rfl) rfl rfl ?_
 refine reg_nil ?_
 refine fn_next ?_
 refine cw_condt rfl ?_
 refine cw_seq ?_
 refine cw_reg ?_
 refine ry (y_mov rfl rfl) rfl rfl ?_
 refine ry (y_mov rfl rfl) rfl rfl ?_
 refine ry (y_mov rfl rfl) rfl rfl ?_
 refine ry (y_mov rfl rfl) rfl rfl ?_
 refine ry (y_add rfl rfl rfl (show _ = ((a + a2 : Nat) : Int) from (wi (by omega)).trans (by omega))) rfl rfl ?_
 refine ry (y_sub rfl rfl rfl (show _ = ((a + a2 - 1 : Nat) : Int) from (wi (by omega)).trans (by omega))) rfl rfl ?_
 refine ry (y_mov rfl rfl) rfl rfl ?_
 refine ry (y_sub rfl rfl rfl (show _ = ((h - 1 : Nat) : Int) from (wi (by omega)).trans (by omega))) rfl rfl ?_
 refine ry (y_build (places := [(0, 1), (1, 1), (2, 1), (3, 1)]) (parts := [(0, _), (2, _), (3, _)]) (vs := [(0, _), (2, _), (3, _)]) (cs := [.int _ _, .int _ _, .int _ _, .int _ _]) rfl Try.underlying55 (by kernel_rfl) kflaw42c_11 rfl ⟨rfl, rfl, rfl, trivial⟩ rfl) rfl rfl ?_
 refine reg_op (op_call (gCrop_ok g33 (a + a2) h (beV L a L2 a2 h) a 0 (a + a2 - 1) (h - 1) _ (H55.rdg (i := 3) rfl) (by omega) (by omega) (by omega) (by omega)) rfl kflaw42c_12 ⟨rfl, rfl, trivial⟩) rfl rfl ?_
 rintro _ w57 ⟨g59, bl60, rfl, k56⟩
 have H58 := H55.call k56
 rw [show a + a2 - 1 + 1 - a = a2 by omega, show h - 1 + 1 - 0 = h by omega, crop_beside G1 G2 sB] at H58
 refine ry (y_mov rfl rfl) rfl rfl ?_
 refine ry (y_ext rfl rfl rfl) rfl rfl ?_
 refine ry (y_ext rfl rfl rfl) rfl rfl ?_
 refine ry (y_asg rfl rfl) rfl rfl ?_
 refine ry (y_asg rfl rfl) rfl rfl ?_
 refine reg_nil ?_
 refine fn_next ?_
 refine cw_seq ?_
 refine cw_reg ?_
 refine ry (y_mov rfl rfl) rfl rfl ?_
 refine ry (y_ldb (i := 2) (cs := [_, _, _]) H58 rfl rfl kflaw42c_8 rfl rfl) rfl rfl ?_
 refine reg_op (op_call (lIs g33 (a + a2) h (beV L a L2 a2 h) _ _ _ (H58.rdg (i := 4) rfl) (H58.rd (i := 3) rfl)) rfl kflaw42c_13 ⟨rfl, rfl, trivial⟩) rfl rfl ?_
 rintro _ w62 ⟨rfl, e61⟩
 have H63 := H58.ext e61
 refine ry (y_not rfl rfl) rfl rfl ?_
 refine ry (y_mov rfl rfl) rfl rfl ?_
 refine rgy (y_mov rfl rfl) rfl rfl rfl rfl ?_
 refine rgy (y_neq rfl rfl rfl) rfl rfl rfl rfl ?_
 refine ry (y_pick rfl rfl rfl) rfl rfl ?_
 refine ry (y_mov rfl rfl) rfl rfl ?_
 refine rgy (y_mov rfl rfl) rfl rfl rfl rfl ?_
 refine rgy (y_mov rfl rfl) rfl rfl rfl rfl ?_
 refine rg_on rfl rfl rfl (op_call (ret_v (v := .bool true) (gSame g59 a2 h (L2) g28 a2 h (L2) _ (H63.rdg (i := 0) rfl) (H63.rdg (i := 5) rfl)) (by rw [decide_eq_true (show _ ∧ _ ∧ _ from ⟨rfl, rfl, rfl⟩)])) rfl kflaw42c_14 ⟨rfl, rfl, trivial⟩) rfl ?_
 rintro _ w65 ⟨rfl, e64⟩
 have H66 := H63.ext e64
 refine rgy (y_not rfl rfl) rfl rfl rfl rfl ?_
 refine ry (y_pick rfl rfl rfl) rfl rfl ?_
 refine reg_nil ?_
 refine fn_next ?_
 refine cw_condf rfl ?_
 refine cw_skip ?_
 refine fn_next ?_
 refine cw_seq ?_
 refine cw_seq ?_
 refine cw_reg ?_
 refine ry (y_mov rfl rfl) rfl rfl ?_
 refine ry (y_eql rfl rfl rfl) rfl rfl ?_
 refine reg_nil ?_
 refine fn_next ?_
 refine cw_condf rfl ?_
 refine cw_skip ?_
 refine fn_next ?_
 refine cw_seq ?_
 refine cw_reg ?_
 refine ry (y_asg rfl rfl) rfl rfl ?_
 refine reg_nil ?_
 refine fn_next ?_
 refine cw_ret ?_
 refine fn_ret1 rfl rfl ?_
 exact ⟨rfl, H66.base⟩

set_option maxRecDepth 100000 in
set_option maxHeartbeats 2000000 in
theorem turnJoins_ok_s (a h : Nat) (L : List Int) (A : Option Addr) (cap : Nat) (a2 : Nat) (L2 : List Int) (B : Option Addr) (cap2 : Nat) (w : World) (j1 : 1 ≤ a) (j2 : a ≤ 1000) (j3 : 1 ≤ h) (j4 : h ≤ 1000) (j5 : a * h ≤ 1000) (hr : Rd w A (vi .i64 L)) (hl : L.length = a * h) (hb : AllB L) (i1 : 1 ≤ a2) (i2 : a2 ≤ 1000) (i3 : 1 ≤ h) (i4 : h ≤ 1000) (i5 : a2 * h ≤ 1000) (hr2 : Rd w B (vi .i64 L2)) (hl2 : L2.length = a2 * h) (hb2 : AllB L2) (hs : a + a2 ≤ 1024) (kn : a = a2) (ks : ¬ h + h ≤ 1024) :
    Ret Try.prog 13 [.int .i64 (a : Int), .int .i64 (h : Int), .slice A (a * h) cap, .int .i64 (a2 : Int), .int .i64 (h : Int), .slice B (a2 * h) cap2] w (fun z w' => z = .bool true ∧ Below w.heap.size w w') := by
 have s : SzG a h := ⟨j1, by omega, j3, by omega⟩
 have s' : SzG a2 h := ⟨i1, by omega, i3, by omega⟩
 have G1 : GV a h L := ⟨j1, by omega, j3, by omega, hl, hb⟩
 have G2 : GV a2 h L2 := ⟨i1, by omega, i3, by omega, hl2, hb2⟩
 have sB : SzG (a + a2) h := ⟨by omega, by omega, by omega, by omega⟩
 refine ret_enter Try.func13 rfl rfl rfl ?_
 have H0 := HS.start w
 refine cw_seq ?_
 refine cw_reg ?_
 refine ry (y_asg rfl rfl) rfl rfl ?_
 refine reg_nil ?_
 refine fn_next ?_
 refine cw_seq ?_
 refine cw_seq ?_
 refine cw_reg ?_
 refine reg_op (op_call (turnAwake _) rfl kflaw42c_1 trivial) rfl rfl ?_
 rintro _ w2 ⟨rfl, e1⟩
 have H3 := H0.ext e1
 refine ry (y_not rfl rfl) rfl rfl ?_
 refine reg_nil ?_
 refine fn_next ?_
 refine cw_condf rfl ?_
 refine cw_skip ?_
 refine fn_next ?_
 refine cw_seq ?_
 refine cw_reg ?_
 refine ry (y_mov rfl rfl) rfl rfl ?_
 refine ry (y_mov rfl rfl) rfl rfl ?_
 refine ry (y_mov rfl rfl) rfl rfl ?_
 refine reg_op (op_call (land_ok a h 1000 L A (a * h) cap _ j1 j2 j3 j4 j5 rfl hl hb (by decide) (hr.below H3.base)) rfl kflaw42c_2 ⟨rfl, rfl, rfl, rfl, trivial⟩) rfl rfl ?_
 rintro _ w5 ⟨rfl, e4⟩
 have H6 := H3.ext e4
 refine ry (y_mov rfl rfl) rfl rfl ?_
 refine ry (y_ext rfl rfl rfl) rfl rfl ?_
 refine ry (y_ext rfl rfl rfl) rfl rfl ?_
 refine reg_op (op_alloc H6 rfl kflaw42c_3) rfl rfl ?_
 rintro _ w8 ⟨b7, rfl, H9⟩
 refine reg_op (op_st (i := 0) (vs := [.int _ _, .int _ _, .slice _ _ _]) H9 rfl rfl rfl rfl rfl kflaw42c_4 rfl rfl rfl) rfl rfl ?_
 rintro _ w10 H11
 refine ry (y_asg rfl rfl) rfl rfl ?_
 refine reg_nil ?_
 refine fn_next ?_
 refine cw_seq ?_
 refine cw_reg ?_
 refine ry (y_mov rfl rfl) rfl rfl ?_
 refine ry (y_mov rfl rfl) rfl rfl ?_
 refine ry (y_mov rfl rfl) rfl rfl ?_
 refine reg_op (op_call (land_ok a2 h 1000 L2 B (a2 * h) cap2 _ i1 i2 i3 i4 i5 rfl hl2 hb2 (by decide) (hr2.below H11.base)) rfl kflaw42c_2 ⟨rfl, rfl, rfl, rfl, trivial⟩) rfl rfl ?_
 rintro _ w13 ⟨rfl, e12⟩
 have H14 := H11.ext e12
 refine ry (y_mov rfl rfl) rfl rfl ?_
 refine ry (y_ext rfl rfl rfl) rfl rfl ?_
 refine ry (y_ext rfl rfl rfl) rfl rfl ?_
 refine reg_op (op_alloc H14 rfl kflaw42c_3) rfl rfl ?_
 rintro _ w16 ⟨b15, rfl, H17⟩
 refine reg_op (op_st (i := 0) (vs := [.int _ _, .int _ _, .slice _ _ _]) H17 rfl rfl rfl rfl rfl kflaw42c_4 rfl rfl rfl) rfl rfl ?_
 rintro _ w18 H19
 refine ry (y_asg rfl rfl) rfl rfl ?_
 refine reg_nil ?_
 refine fn_next ?_
 refine cw_seq ?_
 refine cw_seq ?_
 refine cw_reg ?_
 refine ry (y_mov rfl rfl) rfl rfl ?_
 refine ry (y_not rfl rfl) rfl rfl ?_
 refine ry (y_mov rfl rfl) rfl rfl ?_
 refine rgy (y_mov rfl rfl) rfl rfl rfl rfl ?_
 refine rgy (y_not rfl rfl) rfl rfl rfl rfl ?_
 refine ry (y_pick rfl rfl rfl) rfl rfl ?_
 refine reg_nil ?_
 refine fn_next ?_
 refine cw_condf rfl ?_
 refine cw_skip ?_
 refine fn_next ?_
 refine cw_seq ?_
 refine cw_reg ?_
 refine ry (y_mov rfl rfl) rfl rfl ?_
 refine ry (y_mov rfl rfl) rfl rfl ?_
 refine ry (y_mov rfl rfl) rfl rfl ?_
 refine reg_op (op_call (made_ok a h L A (a * h) cap _ s hl rfl hb (hr.below H19.base)) rfl kflaw42c_5 ⟨rfl, rfl, rfl, trivial⟩) rfl rfl ?_
 rintro _ w21 ⟨g23, bl24, rfl, k20⟩
 have H22 := H19.call k20
 refine ry (y_mov rfl rfl) rfl rfl ?_
 refine ry (y_ext rfl rfl rfl) rfl rfl ?_
 refine ry (y_ext rfl rfl rfl) rfl rfl ?_
 refine ry (y_asg rfl rfl) rfl rfl ?_
 refine ry (y_asg rfl rfl) rfl rfl ?_
 refine reg_nil ?_
 refine fn_next ?_
 refine cw_seq ?_
 refine cw_reg ?_
 refine ry (y_mov rfl rfl) rfl rfl ?_
 refine ry (y_mov rfl rfl) rfl rfl ?_
 refine ry (y_mov rfl rfl) rfl rfl ?_
 refine reg_op (op_call (made_ok a2 h L2 B (a2 * h) cap2 _ s' hl2 rfl hb2 (hr2.below H22.base)) rfl kflaw42c_5 ⟨rfl, rfl, rfl, trivial⟩) rfl rfl ?_
 rintro _ w26 ⟨g28, bl29, rfl, k25⟩
 have H27 := H22.call k25
 refine ry (y_mov rfl rfl) rfl rfl ?_
 refine ry (y_ext rfl rfl rfl) rfl rfl ?_
 refine ry (y_ext rfl rfl rfl) rfl rfl ?_
 refine ry (y_asg rfl rfl) rfl rfl ?_
 refine ry (y_asg rfl rfl) rfl rfl ?_
 refine reg_nil ?_
 refine fn_next ?_
 refine cw_seq ?_
 refine cw_reg ?_
 refine ry (y_mov rfl rfl) rfl rfl ?_
 refine ry (y_mov rfl rfl) rfl rfl ?_
 refine reg_op (op_call (gBeside_ok g23 a h L g28 a2 L2 _ (H27.rdg (i := 1) rfl) (H27.rdg (i := 0) rfl) hs) rfl kflaw42c_6 ⟨rfl, rfl, trivial⟩) rfl rfl ?_
 rintro _ w31 ⟨g33, bl34, rfl, k30⟩
 have H32 := H27.call k30
 refine ry (y_mov rfl rfl) rfl rfl ?_
 refine ry (y_ext rfl rfl rfl) rfl rfl ?_
 refine ry (y_ext rfl rfl rfl) rfl rfl ?_
 refine ry (y_asg rfl rfl) rfl rfl ?_
 refine ry (y_asg rfl rfl) rfl rfl ?_
 refine reg_nil ?_
 refine fn_next ?_
 refine cw_seq ?_
 refine cw_reg ?_
 refine ry (y_mov rfl rfl) rfl rfl ?_
 refine ry (y_mov rfl rfl) rfl rfl ?_
 refine reg_op (op_call (gBelow_s g23 a h L g28 a2 h L2 _ (H32.rdg (i := 2) rfl) (H32.rdg (i := 1) rfl) kn ks) rfl kflaw42c_7 ⟨rfl, rfl, trivial⟩) rfl rfl ?_
 rintro _ w36 ⟨rfl, e35⟩
 have H37 := H32.ext e35
 refine ry (y_mov rfl rfl) rfl rfl ?_
 refine ry (y_ext rfl rfl rfl) rfl rfl ?_
 refine ry (y_ext rfl rfl rfl) rfl rfl ?_
 refine ry (y_asg rfl rfl) rfl rfl ?_
 refine ry (y_asg rfl rfl) rfl rfl ?_
 refine reg_nil ?_
 refine fn_next ?_
 refine cw_seq ?_
 refine cw_reg ?_
 refine ry (y_ldb (i := 4) (cs := [_, _, _]) H37 rfl rfl kflaw42c_8 rfl rfl) rfl rfl ?_
 refine ry (y_ldb (i := 3) (cs := [_, _, _]) H37 rfl rfl kflaw42c_8 rfl rfl) rfl rfl ?_
 refine reg_op (op_call (mBeside_ok a h A cap L a2 B cap2 L2 _ s (hr.below H37.base) hl s' (hr2.below H37.base) hl2 hs) rfl kflaw42c_9 ⟨rfl, rfl, trivial⟩) rfl rfl ?_
 rintro _ w39 ⟨A41, c42, rfl, k38⟩
 have H40 := H37.call k38
 rw [beside_swap G1 G2] at H40
 refine ry (y_mov rfl rfl) rfl rfl ?_
 refine ry (y_ext rfl rfl rfl) rfl rfl ?_
 refine ry (y_ext rfl rfl rfl) rfl rfl ?_
 refine reg_op (op_alloc H40 rfl kflaw42c_3) rfl rfl ?_
 rintro _ w44 ⟨b43, rfl, H45⟩
 refine reg_op (op_st (i := 0) (vs := [.int _ _, .int _ _, .slice _ _ _]) H45 rfl rfl rfl rfl rfl kflaw42c_4 rfl rfl rfl) rfl rfl ?_
 rintro _ w46 H47
 refine ry (y_asg rfl rfl) rfl rfl ?_
 refine reg_nil ?_
 refine fn_next ?_
 refine cw_seq ?_
 refine cw_reg ?_
 refine ry (y_ldb (i := 6) (cs := [_, _, _]) H47 rfl rfl kflaw42c_8 rfl rfl) rfl rfl ?_
 refine ry (y_ldb (i := 5) (cs := [_, _, _]) H47 rfl rfl kflaw42c_8 rfl rfl) rfl rfl ?_
 refine reg_op (op_call (mBelow_s a h A cap L a2 h B cap2 L2 _ s (hr.below H47.base) hl s' (hr2.below H47.base) hl2 kn ks) rfl kflaw42c_10 ⟨rfl, rfl, trivial⟩) rfl rfl ?_
 rintro _ w49 ⟨rfl, e48⟩
 have H50 := H47.ext e48
 refine ry (y_mov rfl rfl) rfl rfl ?_
 refine ry (y_ext rfl rfl rfl) rfl rfl ?_
 refine ry (y_ext rfl rfl rfl) rfl rfl ?_
 refine reg_op (op_alloc H50 rfl kflaw42c_3) rfl rfl ?_
 rintro _ w52 ⟨b51, rfl, H53⟩
 refine reg_op (op_st (i := 0) (vs := [.int _ _, .int _ _, .slice _ _ _]) H53 rfl rfl rfl rfl rfl kflaw42c_4 rfl rfl rfl) rfl rfl ?_
 rintro _ w54 H55
 refine ry (y_asg rfl rfl) rfl rfl ?_
 refine reg_nil ?_
 refine fn_next ?_
 refine cw_seq ?_
 refine cw_seq ?_
 refine cw_reg ?_
 refine ry (y_mov rfl rfl) rfl rfl ?_
 refine ry (y_not rfl rfl) rfl rfl ?_
 refine ry (y_mov rfl rfl) rfl rfl ?_
 refine rgy (y_mov rfl rfl) rfl rfl rfl rfl ?_
 refine rgy (y_not rfl rfl) rfl rfl rfl rfl ?_
 refine ry (y_pick rfl rfl rfl) rfl rfl ?_
 refine ry (y_mov rfl rfl) rfl rfl ?_
 refine rgy (y_mov rfl rfl) rfl rfl rfl rfl ?_
 refine rgy (y_mov rfl rfl) rfl rfl rfl rfl ?_
 refine rgy (y_neq rfl rfl rfl) rfl rfl rfl rfl ?_
 refine ry (y_pick rfl rfl rfl) rfl rfl ?_
 refine ry (y_mov rfl rfl) rfl rfl ?_
 refine rgy (y_mov rfl rfl) rfl rfl rfl rfl ?_
 refine rgy (y_mov rfl rfl) rfl rfl rfl rfl ?_
 refine rgy (y_neq rfl rfl rfl) rfl rfl rfl rfl ?_
 refine ry (y_pick rfl rfl rfl) rfl rfl ?_
 refine ry (y_mov rfl rfl) rfl rfl ?_
 refine rgy (y_mov rfl rfl) rfl rfl rfl rfl ?_
 refine rgy (y_peqlnil rfl Try.underlying28 rfl rfl) rfl rfl rfl rfl ?_
 refine rgy (y_mov rfl rfl) rfl rfl rfl rfl ?_
 refine rgy (y_neq rfl rfl rfl) rfl rfl rfl rfl ?_
 refine rgy (y_bneq rfl Try.underlying4 rfl rfl) rfl rfl rfl rfl ?_
 refine ry (y_pick rfl rfl rfl) rfl rfl ?_
 refine ry (y_mov rfl rfl) rfl rfl ?_
 refine rgy (y_mov rfl rfl) rfl rfl rfl rfl ?_
 refine rgy (y_peqlnil rfl Try.underlying28 rfl rfl) rfl rfl rfl rfl ?_
 refine rgy (y_mov rfl rfl) rfl rfl rfl rfl ?_
 refine rgy (y_neq rfl rfl rfl) rfl rfl rfl rfl ?_
 refine rgy (y_bneq rfl Try.underlying4 rfl rfl) rfl rfl rfl rfl ?_
 refine ry (y_pick rfl rfl rfl) rfl rfl ?_
 refine reg_nil ?_
 refine fn_next ?_
 refine cw_condf rfl ?_
 refine cw_skip ?_
 refine fn_next ?_
 refine cw_seq ?_
 refine cw_seq ?_
 refine cw_reg ?_
 refine ry (y_mov rfl rfl) rfl rfl ?_
 refine ry (y_eql rfl rfl rfl) rfl rfl ?_
 refine reg_nil ?_
 refine fn_next ?_
 refine cw_condt rfl ?_
 refine cw_seq ?_
 refine cw_reg ?_
 refine ry (y_mov rfl rfl) rfl rfl ?_
 refine ry (y_mov rfl rfl) rfl rfl ?_
 refine ry (y_mov rfl rfl) rfl rfl ?_
 refine ry (y_mov rfl rfl) rfl rfl ?_
 refine ry (y_add rfl rfl rfl (show _ = ((a + a2 : Nat) : Int) from (wi (by omega)).trans (by omega))) rfl rfl ?_
 refine ry (y_sub rfl rfl rfl (show _ = ((a + a2 - 1 : Nat) : Int) from (wi (by omega)).trans (by omega))) rfl rfl ?_
 refine ry (y_mov rfl rfl) rfl rfl ?_
 refine ry (y_sub rfl rfl rfl (show _ = ((h - 1 : Nat) : Int) from (wi (by omega)).trans (by omega))) rfl rfl ?_
 refine ry (y_build (places := [(0, 1), (1, 1), (2, 1), (3, 1)]) (parts := [(0, _), (2, _), (3, _)]) (vs := [(0, _), (2, _), (3, _)]) (cs := [.int _ _, .int _ _, .int _ _, .int _ _]) rfl Try.underlying55 (by kernel_rfl) kflaw42c_11 rfl ⟨rfl, rfl, rfl, trivial⟩ rfl) rfl rfl ?_
 refine reg_op (op_call (gCrop_ok g33 (a + a2) h (beV L a L2 a2 h) a 0 (a + a2 - 1) (h - 1) _ (H55.rdg (i := 3) rfl) (by omega) (by omega) (by omega) (by omega)) rfl kflaw42c_12 ⟨rfl, rfl, trivial⟩) rfl rfl ?_
 rintro _ w57 ⟨g59, bl60, rfl, k56⟩
 have H58 := H55.call k56
 rw [show a + a2 - 1 + 1 - a = a2 by omega, show h - 1 + 1 - 0 = h by omega, crop_beside G1 G2 sB] at H58
 refine ry (y_mov rfl rfl) rfl rfl ?_
 refine ry (y_ext rfl rfl rfl) rfl rfl ?_
 refine ry (y_ext rfl rfl rfl) rfl rfl ?_
 refine ry (y_asg rfl rfl) rfl rfl ?_
 refine ry (y_asg rfl rfl) rfl rfl ?_
 refine reg_nil ?_
 refine fn_next ?_
 refine cw_seq ?_
 refine cw_reg ?_
 refine ry (y_mov rfl rfl) rfl rfl ?_
 refine ry (y_ldb (i := 2) (cs := [_, _, _]) H58 rfl rfl kflaw42c_8 rfl rfl) rfl rfl ?_
 refine reg_op (op_call (lIs g33 (a + a2) h (beV L a L2 a2 h) _ _ _ (H58.rdg (i := 4) rfl) (H58.rd (i := 3) rfl)) rfl kflaw42c_13 ⟨rfl, rfl, trivial⟩) rfl rfl ?_
 rintro _ w62 ⟨rfl, e61⟩
 have H63 := H58.ext e61
 refine ry (y_not rfl rfl) rfl rfl ?_
 refine ry (y_mov rfl rfl) rfl rfl ?_
 refine rgy (y_mov rfl rfl) rfl rfl rfl rfl ?_
 refine rgy (y_neq rfl rfl rfl) rfl rfl rfl rfl ?_
 refine ry (y_pick rfl rfl rfl) rfl rfl ?_
 refine ry (y_mov rfl rfl) rfl rfl ?_
 refine rgy (y_mov rfl rfl) rfl rfl rfl rfl ?_
 refine rgy (y_mov rfl rfl) rfl rfl rfl rfl ?_
 refine rg_on rfl rfl rfl (op_call (ret_v (v := .bool true) (gSame g59 a2 h (L2) g28 a2 h (L2) _ (H63.rdg (i := 0) rfl) (H63.rdg (i := 5) rfl)) (by rw [decide_eq_true (show _ ∧ _ ∧ _ from ⟨rfl, rfl, rfl⟩)])) rfl kflaw42c_14 ⟨rfl, rfl, trivial⟩) rfl ?_
 rintro _ w65 ⟨rfl, e64⟩
 have H66 := H63.ext e64
 refine rgy (y_not rfl rfl) rfl rfl rfl rfl ?_
 refine ry (y_pick rfl rfl rfl) rfl rfl ?_
 refine reg_nil ?_
 refine fn_next ?_
 refine cw_condf rfl ?_
 refine cw_skip ?_
 refine fn_next ?_
 refine cw_seq ?_
 refine cw_seq ?_
 refine cw_reg ?_
 refine ry (y_mov rfl rfl) rfl rfl ?_
 refine ry (y_eql rfl rfl rfl) rfl rfl ?_
 refine reg_nil ?_
 refine fn_next ?_
 refine cw_condf rfl ?_
 refine cw_skip ?_
 refine fn_next ?_
 refine cw_seq ?_
 refine cw_reg ?_
 refine ry (y_asg rfl rfl) rfl rfl ?_
 refine reg_nil ?_
 refine fn_next ?_
 refine cw_ret ?_
 refine fn_ret1 rfl rfl ?_
 exact ⟨rfl, H66.base⟩

set_option maxRecDepth 100000 in
set_option maxHeartbeats 2000000 in
theorem turnJoins_ok_ok (a h : Nat) (L : List Int) (A : Option Addr) (cap : Nat) (L2 : List Int) (B : Option Addr) (cap2 : Nat) (w : World) (j1 : 1 ≤ a) (j2 : a ≤ 1000) (j3 : 1 ≤ h) (j4 : h ≤ 1000) (j5 : a * h ≤ 1000) (hr : Rd w A (vi .i64 L)) (hl : L.length = a * h) (hb : AllB L) (i1 : 1 ≤ a) (i2 : a ≤ 1000) (i3 : 1 ≤ h) (i4 : h ≤ 1000) (i5 : a * h ≤ 1000) (hr2 : Rd w B (vi .i64 L2)) (hl2 : L2.length = a * h) (hb2 : AllB L2) (hs : a + a ≤ 1024) (ks : h + h ≤ 1024) :
    Ret Try.prog 13 [.int .i64 (a : Int), .int .i64 (h : Int), .slice A (a * h) cap, .int .i64 (a : Int), .int .i64 (h : Int), .slice B (a * h) cap2] w (fun z w' => z = .bool true ∧ Below w.heap.size w w') := by
 have s : SzG a h := ⟨j1, by omega, j3, by omega⟩
 have s' : SzG a h := ⟨i1, by omega, i3, by omega⟩
 have G1 : GV a h L := ⟨j1, by omega, j3, by omega, hl, hb⟩
 have G2 : GV a h L2 := ⟨i1, by omega, i3, by omega, hl2, hb2⟩
 have sB : SzG (a + a) h := ⟨by omega, by omega, by omega, by omega⟩
 have sL : SzG a (h + h) := ⟨by omega, by omega, by omega, by omega⟩
 refine ret_enter Try.func13 rfl rfl rfl ?_
 have H0 := HS.start w
 refine cw_seq ?_
 refine cw_reg ?_
 refine ry (y_asg rfl rfl) rfl rfl ?_
 refine reg_nil ?_
 refine fn_next ?_
 refine cw_seq ?_
 refine cw_seq ?_
 refine cw_reg ?_
 refine reg_op (op_call (turnAwake _) rfl kflaw42c_1 trivial) rfl rfl ?_
 rintro _ w2 ⟨rfl, e1⟩
 have H3 := H0.ext e1
 refine ry (y_not rfl rfl) rfl rfl ?_
 refine reg_nil ?_
 refine fn_next ?_
 refine cw_condf rfl ?_
 refine cw_skip ?_
 refine fn_next ?_
 refine cw_seq ?_
 refine cw_reg ?_
 refine ry (y_mov rfl rfl) rfl rfl ?_
 refine ry (y_mov rfl rfl) rfl rfl ?_
 refine ry (y_mov rfl rfl) rfl rfl ?_
 refine reg_op (op_call (land_ok a h 1000 L A (a * h) cap _ j1 j2 j3 j4 j5 rfl hl hb (by decide) (hr.below H3.base)) rfl kflaw42c_2 ⟨rfl, rfl, rfl, rfl, trivial⟩) rfl rfl ?_
 rintro _ w5 ⟨rfl, e4⟩
 have H6 := H3.ext e4
 refine ry (y_mov rfl rfl) rfl rfl ?_
 refine ry (y_ext rfl rfl rfl) rfl rfl ?_
 refine ry (y_ext rfl rfl rfl) rfl rfl ?_
 refine reg_op (op_alloc H6 rfl kflaw42c_3) rfl rfl ?_
 rintro _ w8 ⟨b7, rfl, H9⟩
 refine reg_op (op_st (i := 0) (vs := [.int _ _, .int _ _, .slice _ _ _]) H9 rfl rfl rfl rfl rfl kflaw42c_4 rfl rfl rfl) rfl rfl ?_
 rintro _ w10 H11
 refine ry (y_asg rfl rfl) rfl rfl ?_
 refine reg_nil ?_
 refine fn_next ?_
 refine cw_seq ?_
 refine cw_reg ?_
 refine ry (y_mov rfl rfl) rfl rfl ?_
 refine ry (y_mov rfl rfl) rfl rfl ?_
 refine ry (y_mov rfl rfl) rfl rfl ?_
 refine reg_op (op_call (land_ok a h 1000 L2 B (a * h) cap2 _ i1 i2 i3 i4 i5 rfl hl2 hb2 (by decide) (hr2.below H11.base)) rfl kflaw42c_2 ⟨rfl, rfl, rfl, rfl, trivial⟩) rfl rfl ?_
 rintro _ w13 ⟨rfl, e12⟩
 have H14 := H11.ext e12
 refine ry (y_mov rfl rfl) rfl rfl ?_
 refine ry (y_ext rfl rfl rfl) rfl rfl ?_
 refine ry (y_ext rfl rfl rfl) rfl rfl ?_
 refine reg_op (op_alloc H14 rfl kflaw42c_3) rfl rfl ?_
 rintro _ w16 ⟨b15, rfl, H17⟩
 refine reg_op (op_st (i := 0) (vs := [.int _ _, .int _ _, .slice _ _ _]) H17 rfl rfl rfl rfl rfl kflaw42c_4 rfl rfl rfl) rfl rfl ?_
 rintro _ w18 H19
 refine ry (y_asg rfl rfl) rfl rfl ?_
 refine reg_nil ?_
 refine fn_next ?_
 refine cw_seq ?_
 refine cw_seq ?_
 refine cw_reg ?_
 refine ry (y_mov rfl rfl) rfl rfl ?_
 refine ry (y_not rfl rfl) rfl rfl ?_
 refine ry (y_mov rfl rfl) rfl rfl ?_
 refine rgy (y_mov rfl rfl) rfl rfl rfl rfl ?_
 refine rgy (y_not rfl rfl) rfl rfl rfl rfl ?_
 refine ry (y_pick rfl rfl rfl) rfl rfl ?_
 refine reg_nil ?_
 refine fn_next ?_
 refine cw_condf rfl ?_
 refine cw_skip ?_
 refine fn_next ?_
 refine cw_seq ?_
 refine cw_reg ?_
 refine ry (y_mov rfl rfl) rfl rfl ?_
 refine ry (y_mov rfl rfl) rfl rfl ?_
 refine ry (y_mov rfl rfl) rfl rfl ?_
 refine reg_op (op_call (made_ok a h L A (a * h) cap _ s hl rfl hb (hr.below H19.base)) rfl kflaw42c_5 ⟨rfl, rfl, rfl, trivial⟩) rfl rfl ?_
 rintro _ w21 ⟨g23, bl24, rfl, k20⟩
 have H22 := H19.call k20
 refine ry (y_mov rfl rfl) rfl rfl ?_
 refine ry (y_ext rfl rfl rfl) rfl rfl ?_
 refine ry (y_ext rfl rfl rfl) rfl rfl ?_
 refine ry (y_asg rfl rfl) rfl rfl ?_
 refine ry (y_asg rfl rfl) rfl rfl ?_
 refine reg_nil ?_
 refine fn_next ?_
 refine cw_seq ?_
 refine cw_reg ?_
 refine ry (y_mov rfl rfl) rfl rfl ?_
 refine ry (y_mov rfl rfl) rfl rfl ?_
 refine ry (y_mov rfl rfl) rfl rfl ?_
 refine reg_op (op_call (made_ok a h L2 B (a * h) cap2 _ s' hl2 rfl hb2 (hr2.below H22.base)) rfl kflaw42c_5 ⟨rfl, rfl, rfl, trivial⟩) rfl rfl ?_
 rintro _ w26 ⟨g28, bl29, rfl, k25⟩
 have H27 := H22.call k25
 refine ry (y_mov rfl rfl) rfl rfl ?_
 refine ry (y_ext rfl rfl rfl) rfl rfl ?_
 refine ry (y_ext rfl rfl rfl) rfl rfl ?_
 refine ry (y_asg rfl rfl) rfl rfl ?_
 refine ry (y_asg rfl rfl) rfl rfl ?_
 refine reg_nil ?_
 refine fn_next ?_
 refine cw_seq ?_
 refine cw_reg ?_
 refine ry (y_mov rfl rfl) rfl rfl ?_
 refine ry (y_mov rfl rfl) rfl rfl ?_
 refine reg_op (op_call (gBeside_ok g23 a h L g28 a L2 _ (H27.rdg (i := 1) rfl) (H27.rdg (i := 0) rfl) hs) rfl kflaw42c_6 ⟨rfl, rfl, trivial⟩) rfl rfl ?_
 rintro _ w31 ⟨g33, bl34, rfl, k30⟩
 have H32 := H27.call k30
 refine ry (y_mov rfl rfl) rfl rfl ?_
 refine ry (y_ext rfl rfl rfl) rfl rfl ?_
 refine ry (y_ext rfl rfl rfl) rfl rfl ?_
 refine ry (y_asg rfl rfl) rfl rfl ?_
 refine ry (y_asg rfl rfl) rfl rfl ?_
 refine reg_nil ?_
 refine fn_next ?_
 refine cw_seq ?_
 refine cw_reg ?_
 refine ry (y_mov rfl rfl) rfl rfl ?_
 refine ry (y_mov rfl rfl) rfl rfl ?_
 refine reg_op (op_call (gBelow_ok g23 a h L g28 h L2 _ (H32.rdg (i := 2) rfl) (H32.rdg (i := 1) rfl) ks) rfl kflaw42c_7 ⟨rfl, rfl, trivial⟩) rfl rfl ?_
 rintro _ w36 ⟨g38, bl39, rfl, k35⟩
 have H37 := H32.call k35
 refine ry (y_mov rfl rfl) rfl rfl ?_
 refine ry (y_ext rfl rfl rfl) rfl rfl ?_
 refine ry (y_ext rfl rfl rfl) rfl rfl ?_
 refine ry (y_asg rfl rfl) rfl rfl ?_
 refine ry (y_asg rfl rfl) rfl rfl ?_
 refine reg_nil ?_
 refine fn_next ?_
 refine cw_seq ?_
 refine cw_reg ?_
 refine ry (y_ldb (i := 5) (cs := [_, _, _]) H37 rfl rfl kflaw42c_8 rfl rfl) rfl rfl ?_
 refine ry (y_ldb (i := 4) (cs := [_, _, _]) H37 rfl rfl kflaw42c_8 rfl rfl) rfl rfl ?_
 refine reg_op (op_call (mBeside_ok a h A cap L a B cap2 L2 _ s (hr.below H37.base) hl s' (hr2.below H37.base) hl2 hs) rfl kflaw42c_9 ⟨rfl, rfl, trivial⟩) rfl rfl ?_
 rintro _ w41 ⟨A43, c44, rfl, k40⟩
 have H42 := H37.call k40
 rw [beside_swap G1 G2] at H42
 refine ry (y_mov rfl rfl) rfl rfl ?_
 refine ry (y_ext rfl rfl rfl) rfl rfl ?_
 refine ry (y_ext rfl rfl rfl) rfl rfl ?_
 refine reg_op (op_alloc H42 rfl kflaw42c_3) rfl rfl ?_
 rintro _ w46 ⟨b45, rfl, H47⟩
 refine reg_op (op_st (i := 0) (vs := [.int _ _, .int _ _, .slice _ _ _]) H47 rfl rfl rfl rfl rfl kflaw42c_4 rfl rfl rfl) rfl rfl ?_
 rintro _ w48 H49
 refine ry (y_asg rfl rfl) rfl rfl ?_
 refine reg_nil ?_
 refine fn_next ?_
 refine cw_seq ?_
 refine cw_reg ?_
 refine ry (y_ldb (i := 7) (cs := [_, _, _]) H49 rfl rfl kflaw42c_8 rfl rfl) rfl rfl ?_
 refine ry (y_ldb (i := 6) (cs := [_, _, _]) H49 rfl rfl kflaw42c_8 rfl rfl) rfl rfl ?_
 refine reg_op (op_call (mBelow_ok a h A cap L h B cap2 L2 _ s (hr.below H49.base) hl s' (hr2.below H49.base) hl2 ks) rfl kflaw42c_10 ⟨rfl, rfl, trivial⟩) rfl rfl ?_
 rintro _ w51 ⟨A53, c54, rfl, k50⟩
 have H52 := H49.call k50
 refine ry (y_mov rfl rfl) rfl rfl ?_
 refine ry (y_ext rfl rfl rfl) rfl rfl ?_
 refine ry (y_ext rfl rfl rfl) rfl rfl ?_
 refine reg_op (op_alloc H52 rfl kflaw42c_3) rfl rfl ?_
 rintro _ w56 ⟨b55, rfl, H57⟩
 refine reg_op (op_st (i := 0) (vs := [.int _ _, .int _ _, .slice _ _ _]) H57 rfl rfl rfl rfl rfl kflaw42c_4 rfl rfl rfl) rfl rfl ?_
 rintro _ w58 H59
 refine ry (y_asg rfl rfl) rfl rfl ?_
 refine reg_nil ?_
 refine fn_next ?_
 refine cw_seq ?_
 refine cw_seq ?_
 refine cw_reg ?_
 refine ry (y_mov rfl rfl) rfl rfl ?_
 refine ry (y_not rfl rfl) rfl rfl ?_
 refine ry (y_mov rfl rfl) rfl rfl ?_
 refine rgy (y_mov rfl rfl) rfl rfl rfl rfl ?_
 refine rgy (y_not rfl rfl) rfl rfl rfl rfl ?_
 refine ry (y_pick rfl rfl rfl) rfl rfl ?_
 refine ry (y_mov rfl rfl) rfl rfl ?_
 refine rgy (y_mov rfl rfl) rfl rfl rfl rfl ?_
 refine rgy (y_mov rfl rfl) rfl rfl rfl rfl ?_
 refine rgy (y_neq rfl rfl rfl) rfl rfl rfl rfl ?_
 refine ry (y_pick rfl rfl rfl) rfl rfl ?_
 refine ry (y_mov rfl rfl) rfl rfl ?_
 refine rgy (y_mov rfl rfl) rfl rfl rfl rfl ?_
 refine rgy (y_mov rfl rfl) rfl rfl rfl rfl ?_
 refine rgy (y_neq rfl rfl rfl) rfl rfl rfl rfl ?_
 refine ry (y_pick rfl rfl rfl) rfl rfl ?_
 refine ry (y_mov rfl rfl) rfl rfl ?_
 refine rgy (y_mov rfl rfl) rfl rfl rfl rfl ?_
 refine rgy (y_peqlnil rfl Try.underlying28 rfl rfl) rfl rfl rfl rfl ?_
 refine rgy (y_mov rfl rfl) rfl rfl rfl rfl ?_
 refine rgy (y_neq rfl rfl rfl) rfl rfl rfl rfl ?_
 refine rgy (y_bneq rfl Try.underlying4 rfl rfl) rfl rfl rfl rfl ?_
 refine ry (y_pick rfl rfl rfl) rfl rfl ?_
 refine ry (y_mov rfl rfl) rfl rfl ?_
 refine rgy (y_mov rfl rfl) rfl rfl rfl rfl ?_
 refine rgy (y_peqlnil rfl Try.underlying28 rfl rfl) rfl rfl rfl rfl ?_
 refine rgy (y_mov rfl rfl) rfl rfl rfl rfl ?_
 refine rgy (y_neq rfl rfl rfl) rfl rfl rfl rfl ?_
 refine rgy (y_bneq rfl Try.underlying4 rfl rfl) rfl rfl rfl rfl ?_
 refine ry (y_pick rfl rfl rfl) rfl rfl ?_
 refine reg_nil ?_
 refine fn_next ?_
 refine cw_condf rfl ?_
 refine cw_skip ?_
 refine fn_next ?_
 refine cw_seq ?_
 refine cw_seq ?_
 refine cw_reg ?_
 refine ry (y_mov rfl rfl) rfl rfl ?_
 refine ry (y_eql rfl rfl rfl) rfl rfl ?_
 refine reg_nil ?_
 refine fn_next ?_
 refine cw_condt rfl ?_
 refine cw_seq ?_
 refine cw_reg ?_
 refine ry (y_mov rfl rfl) rfl rfl ?_
 refine ry (y_mov rfl rfl) rfl rfl ?_
 refine ry (y_mov rfl rfl) rfl rfl ?_
 refine ry (y_mov rfl rfl) rfl rfl ?_
 refine ry (y_add rfl rfl rfl (show _ = ((a + a : Nat) : Int) from (wi (by omega)).trans (by omega))) rfl rfl ?_
 refine ry (y_sub rfl rfl rfl (show _ = ((a + a - 1 : Nat) : Int) from (wi (by omega)).trans (by omega))) rfl rfl ?_
 refine ry (y_mov rfl rfl) rfl rfl ?_
 refine ry (y_sub rfl rfl rfl (show _ = ((h - 1 : Nat) : Int) from (wi (by omega)).trans (by omega))) rfl rfl ?_
 refine ry (y_build (places := [(0, 1), (1, 1), (2, 1), (3, 1)]) (parts := [(0, _), (2, _), (3, _)]) (vs := [(0, _), (2, _), (3, _)]) (cs := [.int _ _, .int _ _, .int _ _, .int _ _]) rfl Try.underlying55 (by kernel_rfl) kflaw42c_11 rfl ⟨rfl, rfl, rfl, trivial⟩ rfl) rfl rfl ?_
 refine reg_op (op_call (gCrop_ok g33 (a + a) h (beV L a L2 a h) a 0 (a + a - 1) (h - 1) _ (H59.rdg (i := 5) rfl) (by omega) (by omega) (by omega) (by omega)) rfl kflaw42c_12 ⟨rfl, rfl, trivial⟩) rfl rfl ?_
 rintro _ w61 ⟨g63, bl64, rfl, k60⟩
 have H62 := H59.call k60
 rw [show a + a - 1 + 1 - a = a by omega, show h - 1 + 1 - 0 = h by omega, crop_beside G1 G2 sB] at H62
 refine ry (y_mov rfl rfl) rfl rfl ?_
 refine ry (y_ext rfl rfl rfl) rfl rfl ?_
 refine ry (y_ext rfl rfl rfl) rfl rfl ?_
 refine ry (y_asg rfl rfl) rfl rfl ?_
 refine ry (y_asg rfl rfl) rfl rfl ?_
 refine reg_nil ?_
 refine fn_next ?_
 refine cw_seq ?_
 refine cw_reg ?_
 refine ry (y_mov rfl rfl) rfl rfl ?_
 refine ry (y_ldb (i := 3) (cs := [_, _, _]) H62 rfl rfl kflaw42c_8 rfl rfl) rfl rfl ?_
 refine reg_op (op_call (lIs g33 (a + a) h (beV L a L2 a h) _ _ _ (H62.rdg (i := 6) rfl) (H62.rd (i := 4) rfl)) rfl kflaw42c_13 ⟨rfl, rfl, trivial⟩) rfl rfl ?_
 rintro _ w66 ⟨rfl, e65⟩
 have H67 := H62.ext e65
 refine ry (y_not rfl rfl) rfl rfl ?_
 refine ry (y_mov rfl rfl) rfl rfl ?_
 refine rgy (y_mov rfl rfl) rfl rfl rfl rfl ?_
 refine rgy (y_neq rfl rfl rfl) rfl rfl rfl rfl ?_
 refine ry (y_pick rfl rfl rfl) rfl rfl ?_
 refine ry (y_mov rfl rfl) rfl rfl ?_
 refine rgy (y_mov rfl rfl) rfl rfl rfl rfl ?_
 refine rgy (y_mov rfl rfl) rfl rfl rfl rfl ?_
 refine rg_on rfl rfl rfl (op_call (ret_v (v := .bool true) (gSame g63 a h (L2) g28 a h (L2) _ (H67.rdg (i := 0) rfl) (H67.rdg (i := 7) rfl)) (by rw [decide_eq_true (show _ ∧ _ ∧ _ from ⟨rfl, rfl, rfl⟩)])) rfl kflaw42c_14 ⟨rfl, rfl, trivial⟩) rfl ?_
 rintro _ w69 ⟨rfl, e68⟩
 have H70 := H67.ext e68
 refine rgy (y_not rfl rfl) rfl rfl rfl rfl ?_
 refine ry (y_pick rfl rfl rfl) rfl rfl ?_
 refine reg_nil ?_
 refine fn_next ?_
 refine cw_condf rfl ?_
 refine cw_skip ?_
 refine fn_next ?_
 refine cw_seq ?_
 refine cw_seq ?_
 refine cw_reg ?_
 refine ry (y_mov rfl rfl) rfl rfl ?_
 refine ry (y_eql rfl rfl rfl) rfl rfl ?_
 refine reg_nil ?_
 refine fn_next ?_
 refine cw_condt rfl ?_
 refine cw_seq ?_
 refine cw_reg ?_
 refine ry (y_mov rfl rfl) rfl rfl ?_
 refine ry (y_mov rfl rfl) rfl rfl ?_
 refine ry (y_sub rfl rfl rfl (show _ = ((a - 1 : Nat) : Int) from (wi (by omega)).trans (by omega))) rfl rfl ?_
 refine ry (y_mov rfl rfl) rfl rfl ?_
 refine ry (y_sub rfl rfl rfl (show _ = ((h - 1 : Nat) : Int) from (wi (by omega)).trans (by omega))) rfl rfl ?_
 refine ry (y_build (places := [(0, 1), (1, 1), (2, 1), (3, 1)]) (parts := [(2, _), (3, _)]) (vs := [(2, _), (3, _)]) (cs := [.int _ _, .int _ _, .int _ _, .int _ _]) rfl Try.underlying55 (by kernel_rfl) kflaw42c_11 rfl ⟨rfl, rfl, trivial⟩ rfl) rfl rfl ?_
 refine reg_op (op_call (gCrop_ok g38 a (h + h) (L ++ L2) 0 0 (a - 1) (h - 1) _ (H70.rdg (i := 5) rfl) (by omega) (by omega) (by omega) (by omega)) rfl kflaw42c_12 ⟨rfl, rfl, trivial⟩) rfl rfl ?_
 rintro _ w72 ⟨g74, bl75, rfl, k71⟩
 have H73 := H70.call k71
 rw [show a - 1 + 1 - 0 = a by omega, show h - 1 + 1 - 0 = h by omega, crop_below G1 sL i3] at H73
 refine ry (y_mov rfl rfl) rfl rfl ?_
 refine ry (y_ext rfl rfl rfl) rfl rfl ?_
 refine ry (y_ext rfl rfl rfl) rfl rfl ?_
 refine ry (y_asg rfl rfl) rfl rfl ?_
 refine ry (y_asg rfl rfl) rfl rfl ?_
 refine reg_nil ?_
 refine fn_next ?_
 refine cw_seq ?_
 refine cw_reg ?_
 refine ry (y_mov rfl rfl) rfl rfl ?_
 refine ry (y_ldb (i := 2) (cs := [_, _, _]) H73 rfl rfl kflaw42c_8 rfl rfl) rfl rfl ?_
 refine reg_op (op_call (lIs g38 a (h + h) (L ++ L2) _ _ _ (H73.rdg (i := 6) rfl) (H73.rd (i := 3) rfl)) rfl kflaw42c_13 ⟨rfl, rfl, trivial⟩) rfl rfl ?_
 rintro _ w77 ⟨rfl, e76⟩
 have H78 := H73.ext e76
 refine ry (y_not rfl rfl) rfl rfl ?_
 refine ry (y_mov rfl rfl) rfl rfl ?_
 refine rgy (y_mov rfl rfl) rfl rfl rfl rfl ?_
 refine rgy (y_neq rfl rfl rfl) rfl rfl rfl rfl ?_
 refine ry (y_pick rfl rfl rfl) rfl rfl ?_
 refine ry (y_mov rfl rfl) rfl rfl ?_
 refine rgy (y_mov rfl rfl) rfl rfl rfl rfl ?_
 refine rgy (y_mov rfl rfl) rfl rfl rfl rfl ?_
 refine rg_on rfl rfl rfl (op_call (ret_v (v := .bool true) (gSame g74 a h (L) g23 a h (L) _ (H78.rdg (i := 0) rfl) (H78.rdg (i := 9) rfl)) (by rw [decide_eq_true (show _ ∧ _ ∧ _ from ⟨rfl, rfl, rfl⟩)])) rfl kflaw42c_14 ⟨rfl, rfl, trivial⟩) rfl ?_
 rintro _ w80 ⟨rfl, e79⟩
 have H81 := H78.ext e79
 refine rgy (y_not rfl rfl) rfl rfl rfl rfl ?_
 refine ry (y_pick rfl rfl rfl) rfl rfl ?_
 refine reg_nil ?_
 refine fn_next ?_
 refine cw_condf rfl ?_
 refine cw_skip ?_
 refine fn_next ?_
 refine cw_seq ?_
 refine cw_reg ?_
 refine ry (y_asg rfl rfl) rfl rfl ?_
 refine reg_nil ?_
 refine fn_next ?_
 refine cw_ret ?_
 refine fn_ret1 rfl rfl ?_
 exact ⟨rfl, H81.base⟩

theorem turnJoins_all (a h : Int) (L : List Int) (A : Option Addr) (n cap : Nat) (a2 h2 : Int) (L2 : List Int) (B : Option Addr) (n2 cap2 : Nat) (w : World) (ha : I6 a) (hh : I6 h) (hr : Rd w A (vi .i64 L)) (hl : L.length = n) (ha2 : I6 a2) (hh2 : I6 h2) (hr2 : Rd w B (vi .i64 L2)) (hl2 : L2.length = n2) : Ret Try.prog 13 [.int .i64 a, .int .i64 h, .slice A n cap, .int .i64 a2, .int .i64 h2, .slice B n2 cap2] w (fun z w' => z = .bool true ∧ Below w.heap.size w w') := by
  by_cases hp : LandP a h (1000 : Nat) L ∧ LandP a2 h2 (1000 : Nat) L2
  · obtain ⟨p1, p2⟩ := hp
    obtain ⟨a, h, rfl, rfl, j1, j2, j3, j4, j5, j6, j7⟩ := LandP.nat p1
    obtain ⟨a2, h2, rfl, rfl, i1, i2, i3, i4, i5, i6, i7⟩ := LandP.nat p2
    obtain rfl : n = a * h := by omega
    obtain rfl : n2 = a2 * h2 := by omega
    clear p1 p2 ha hh ha2 hh2 j6 i6
    by_cases c1 : h = h2
    · by_cases c2 : a + a2 ≤ 1024
      · subst c1
        by_cases c3 : a = a2
        · by_cases c4 : h + h ≤ 1024
          · subst c3
            exact turnJoins_ok_ok a h L A cap L2 B cap2 w j1 j2 j3 j4 j5 hr hl j7 i1 i2 i3 i4 i5 hr2 hl2 i7 c2 c4
          · exact turnJoins_ok_s a h L A cap a2 L2 B cap2 w j1 j2 j3 j4 j5 hr hl j7 i1 i2 i3 i4 i5 hr2 hl2 i7 c2 c3 c4
        · exact turnJoins_ok_n a h L A cap a2 L2 B cap2 w j1 j2 j3 j4 j5 hr hl j7 i1 i2 i3 i4 i5 hr2 hl2 i7 c2 c3
      · by_cases c3 : a = a2
        · by_cases c4 : h + h2 ≤ 1024
          · subst c3
            exact turnJoins_s_ok a h L A cap h2 L2 B cap2 w j1 j2 j3 j4 j5 hr hl j7 i1 i2 i3 i4 i5 hr2 hl2 i7 c1 c2 c4
          · exact turnJoins_s_s a h L A cap a2 h2 L2 B cap2 w j1 j2 j3 j4 j5 hr hl j7 i1 i2 i3 i4 i5 hr2 hl2 i7 c1 c2 c3 c4
        · exact turnJoins_s_n a h L A cap a2 h2 L2 B cap2 w j1 j2 j3 j4 j5 hr hl j7 i1 i2 i3 i4 i5 hr2 hl2 i7 c1 c2 c3

    · by_cases c3 : a = a2
      · by_cases c4 : h + h2 ≤ 1024
        · subst c3
          exact turnJoins_n_ok a h L A cap h2 L2 B cap2 w j1 j2 j3 j4 j5 hr hl j7 i1 i2 i3 i4 i5 hr2 hl2 i7 c1 c4
        · exact turnJoins_n_s a h L A cap a2 h2 L2 B cap2 w j1 j2 j3 j4 j5 hr hl j7 i1 i2 i3 i4 i5 hr2 hl2 i7 c1 c3 c4
      · exact turnJoins_n_n a h L A cap a2 h2 L2 B cap2 w j1 j2 j3 j4 j5 hr hl j7 i1 i2 i3 i4 i5 hr2 hl2 i7 c1 c3

  · exact turnJoins_no a h L A n cap a2 h2 L2 B n2 cap2 w ha hh hr hl ha2 hh2 hr2 hl2 hp

theorem turnJoins_law (a : Int) (h : Int) (zs : List Int) (A2 : Option Addr) (n2 c2 : Nat) (x : Int) (k : Int) (us : List Int) (A5 : Option Addr) (n5 c5 : Nat) (W : World) (ba : I6 a) (bh : I6 h) (hzs : Ints .i64 W A2 n2 zs) (le2 : n2 ≤ c2) (mx2 : c2 ≤ maxLen) (wzs : ∀ z ∈ zs, I6 z) (bx : I6 x) (bk : I6 k) (hus : Ints .i64 W A5 n5 us) (le5 : n5 ≤ c5) (mx5 : c5 ≤ maxLen) (wus : ∀ z ∈ us, I6 z) :
    Calls Try.prog 13 #[.int .i64 a, .int .i64 h, .slice A2 n2 c2, .int .i64 x, .int .i64 k, .slice A5 n5 c5] W fun e w' => e = .returned (.bool true) ∧ Below W.heap.size W w' := lawOf (turnJoins_all a h zs A2 n2 c2 x k us A5 n5 c5 W ba bh (Rd.of_ints hzs) hzs.len bx bk (Rd.of_ints hus) hus.len)

end Go.Proofs.Ytbhmkpnihgjlnaa
