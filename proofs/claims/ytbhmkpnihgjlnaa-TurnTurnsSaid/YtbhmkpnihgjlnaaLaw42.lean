/- Layer 42: TurnTurns. -/
import Derived.Test.YtbhmkpnihgjlnaaTurn5
import Derived.Test.YtbhmkpnihgjlnaaLand2
set_option linter.unusedVariables false
set_option linter.unusedSimpArgs false
namespace Go.Proofs.Ytbhmkpnihgjlnaa
open Go Go.RowKit
theorem kflaw42_1 : callB Try.prog 29 = true := by kernel_rfl
theorem kflaw42_2 : callB Try.prog 16 = true := by kernel_rfl
theorem kflaw42_3 : (Try.prog.info? 25).bind (fun i => i.zero.map Value.cells) = some (List.toArray [(.int .i64 0), (.int .i64 0), (.slice none 0 0)]) := by kernel_rfl
theorem kflaw42_4 : szB Try.prog 25 3 = true := by kernel_rfl
theorem kflaw42_5 : callB Try.prog 17 = true := by kernel_rfl
theorem kflaw42_6 : callB Try.prog 39 = true := by kernel_rfl
theorem kflaw42_7 : callB Try.prog 40 = true := by kernel_rfl
theorem kflaw42_8 : callB Try.prog 41 = true := by kernel_rfl
theorem kflaw42_9 : aggB Try.prog 25 3 = true := by kernel_rfl
theorem kflaw42_10 : callB Try.prog 42 = true := by kernel_rfl
theorem kflaw42_11 : callB Try.prog 22 = true := by kernel_rfl
theorem kflaw42_12 : callB Try.prog 43 = true := by kernel_rfl
theorem kflaw42_13 : callB Try.prog 44 = true := by kernel_rfl
theorem kflaw42_14 : callB Try.prog 38 = true := by kernel_rfl

set_option maxRecDepth 100000 in
theorem turnTurns_no (a h : Int) (L : List Int) (A : Option Addr) (n cap : Nat) (k : Int) (w : World) (ha : I6 a) (hh : I6 h) (hr : Rd w A (vi .i64 L)) (hl : L.length = n) (hp : ¬ LandP a h (1000 : Nat) L) :
    Ret Try.prog 10 [.int .i64 a, .int .i64 h, .slice A n cap, .int .i64 k] w (fun z w' => z = .bool true ∧ Below w.heap.size w w') := by
  refine ret_enter Try.func10 rfl rfl rfl ?_
  have H0 := HS.start w
  refine cw_seq ?_
  refine cw_reg ?_
  refine ry (y_asg rfl rfl) rfl rfl ?_
  refine reg_nil ?_
  refine fn_next ?_
  refine cw_seq ?_
  refine cw_seq ?_
  refine cw_reg ?_
  refine reg_op (op_call (turnAwake _) rfl kflaw42_1 trivial) rfl rfl ?_
  rintro _ w2 ⟨rfl, e1⟩
  have H3 := H0.ext e1
  refine ry (y_not rfl rfl) rfl rfl ?_
  refine reg_nil ?_
  refine fn_next ?_
  refine cw_condf rfl ?_
  refine cw_skip ?_
  refine fn_next ?_
  refine cw_seq ?_
  refine cw_reg ?_
  refine ry (y_mov rfl rfl) rfl rfl ?_
  refine ry (y_mov rfl rfl) rfl rfl ?_
  refine ry (y_mov rfl rfl) rfl rfl ?_
  refine reg_op (op_call (land_any a h 1000 L A n cap _ ha hh (by decide) (hr.below H3.base) hl) rfl kflaw42_2 ⟨rfl, rfl, rfl, rfl, trivial⟩) rfl rfl ?_
  rintro _ w5 ⟨rfl, e4⟩
  have H6 := H3.ext e4
  refine ry (y_mov rfl rfl) rfl rfl ?_
  refine ry (y_ext rfl rfl rfl) rfl rfl ?_
  refine ry (y_ext rfl rfl rfl) rfl rfl ?_
  refine reg_op (op_alloc H6 rfl kflaw42_3) rfl rfl ?_
  rintro _ w8 ⟨b7, rfl, H9⟩
  refine reg_op (op_st (i := 0) (vs := [.int _ _, .int _ _, .slice _ _ _]) H9 rfl rfl rfl rfl rfl kflaw42_4 rfl rfl rfl) rfl rfl ?_
  rintro _ w10 H11
  refine ry (y_asg rfl rfl) rfl rfl ?_
  refine reg_nil ?_
  refine fn_next ?_
  refine cw_seq ?_
  refine cw_seq ?_
  refine cw_reg ?_
  refine ry (y_mov rfl rfl) rfl rfl ?_
  refine ry (y_notd rfl rfl) rfl rfl ?_
  refine reg_nil ?_
  refine fn_next ?_
  refine cw_condd rfl (fun h12 => ?_) (fun h12 => ?_)
  · skip
    refine cw_seq ?_
    refine cw_reg ?_
    refine ry (y_asg rfl rfl) rfl rfl ?_
    refine reg_nil ?_
    refine fn_next ?_
    refine cw_ret ?_
    refine fn_then_ret ?_
    refine fn_ret1 rfl rfl ?_
    exact ⟨rfl, H11.base⟩
  · exact absurd (Classical.not_not.1 h12) hp

set_option maxRecDepth 100000 in
set_option maxHeartbeats 2000000 in
theorem turnTurns_0 (a h : Nat) (L : List Int) (A : Option Addr) (cap : Nat) (n : Int) (w : World) (h1 : 1 ≤ a) (h2 : a ≤ 1000) (h3 : 1 ≤ h) (h4 : h ≤ 1000) (h5 : a * h ≤ 1000) (hr : Rd w A (vi .i64 L)) (hl : L.length = a * h) (hb : AllB L) (hn : n % 4 = 0) (ht : n.tmod 4 = 0) :
    Ret Try.prog 10 [.int .i64 (a : Int), .int .i64 (h : Int), .slice A (a * h) cap, .int .i64 n] w (fun z w' => z = .bool true ∧ Below w.heap.size w w') := by
  have s : SzG a h := ⟨h1, by omega, h3, by omega⟩
  refine ret_enter Try.func10 rfl rfl rfl ?_
  have H0 := HS.start w
  refine cw_seq ?_
  refine cw_reg ?_
  refine ry (y_asg rfl rfl) rfl rfl ?_
  refine reg_nil ?_
  refine fn_next ?_
  refine cw_seq ?_
  refine cw_seq ?_
  refine cw_reg ?_
  refine reg_op (op_call (turnAwake _) rfl kflaw42_1 trivial) rfl rfl ?_
  rintro _ w2 ⟨rfl, e1⟩
  have H3 := H0.ext e1
  refine ry (y_not rfl rfl) rfl rfl ?_
  refine reg_nil ?_
  refine fn_next ?_
  refine cw_condf rfl ?_
  refine cw_skip ?_
  refine fn_next ?_
  refine cw_seq ?_
  refine cw_reg ?_
  refine ry (y_mov rfl rfl) rfl rfl ?_
  refine ry (y_mov rfl rfl) rfl rfl ?_
  refine ry (y_mov rfl rfl) rfl rfl ?_
  refine reg_op (op_call (land_ok a h 1000 L A (a * h) cap _ h1 h2 h3 h4 h5 rfl hl hb (by decide) (hr.below H3.base)) rfl kflaw42_2 ⟨rfl, rfl, rfl, rfl, trivial⟩) rfl rfl ?_
  rintro _ w5 ⟨rfl, e4⟩
  have H6 := H3.ext e4
  refine ry (y_mov rfl rfl) rfl rfl ?_
  refine ry (y_ext rfl rfl rfl) rfl rfl ?_
  refine ry (y_ext rfl rfl rfl) rfl rfl ?_
  refine reg_op (op_alloc H6 rfl kflaw42_3) rfl rfl ?_
  rintro _ w8 ⟨b7, rfl, H9⟩
  refine reg_op (op_st (i := 0) (vs := [.int _ _, .int _ _, .slice _ _ _]) H9 rfl rfl rfl rfl rfl kflaw42_4 rfl rfl rfl) rfl rfl ?_
  rintro _ w10 H11
  refine ry (y_asg rfl rfl) rfl rfl ?_
  refine reg_nil ?_
  refine fn_next ?_
  refine cw_seq ?_
  refine cw_seq ?_
  refine cw_reg ?_
  refine ry (y_mov rfl rfl) rfl rfl ?_
  refine ry (y_not rfl rfl) rfl rfl ?_
  refine reg_nil ?_
  refine fn_next ?_
  refine cw_condf rfl ?_
  refine cw_skip ?_
  refine fn_next ?_
  refine cw_seq ?_
  refine cw_reg ?_
  refine ry (y_mov rfl rfl) rfl rfl ?_
  refine ry (y_mov rfl rfl) rfl rfl ?_
  refine ry (y_mov rfl rfl) rfl rfl ?_
  refine reg_op (op_call (made_ok a h L A (a * h) cap _ s hl rfl hb (hr.below H11.base)) rfl kflaw42_5 ⟨rfl, rfl, rfl, trivial⟩) rfl rfl ?_
  rintro _ w13 ⟨g15, bl16, rfl, k12⟩
  have H14 := H11.call k12
  refine ry (y_mov rfl rfl) rfl rfl ?_
  refine ry (y_ext rfl rfl rfl) rfl rfl ?_
  refine ry (y_ext rfl rfl rfl) rfl rfl ?_
  refine ry (y_asg rfl rfl) rfl rfl ?_
  refine ry (y_asg rfl rfl) rfl rfl ?_
  refine reg_nil ?_
  refine fn_next ?_
  refine cw_seq ?_
  refine cw_reg ?_
  refine ry (y_mov rfl rfl) rfl rfl ?_
  refine ry (y_mov rfl rfl) rfl rfl ?_
  refine reg_op (op_call (gQuarter0 g15 a h (L) n _ (H14.rdg (i := 0) rfl) hn) rfl kflaw42_6 ⟨rfl, rfl, trivial⟩) rfl rfl ?_
  rintro _ w18 ⟨g20, bl21, rfl, k17⟩
  have H19 := H14.call k17
  refine ry (y_mov rfl rfl) rfl rfl ?_
  refine ry (y_ext rfl rfl rfl) rfl rfl ?_
  refine ry (y_ext rfl rfl rfl) rfl rfl ?_
  refine ry (y_asg rfl rfl) rfl rfl ?_
  refine ry (y_asg rfl rfl) rfl rfl ?_
  refine reg_nil ?_
  refine fn_next ?_
  refine cw_seq ?_
  refine cw_reg ?_
  refine ry (y_mov rfl rfl) rfl rfl ?_
  refine reg_op (op_call (gMirror g15 a h (L) _ (H19.rdg (i := 1) rfl)) rfl kflaw42_7 ⟨rfl, trivial⟩) rfl rfl ?_
  rintro _ w23 ⟨g25, bl26, rfl, k22⟩
  have H24 := H19.call k22
  refine ry (y_mov rfl rfl) rfl rfl ?_
  refine ry (y_ext rfl rfl rfl) rfl rfl ?_
  refine ry (y_ext rfl rfl rfl) rfl rfl ?_
  refine ry (y_asg rfl rfl) rfl rfl ?_
  refine ry (y_asg rfl rfl) rfl rfl ?_
  refine reg_nil ?_
  refine fn_next ?_
  refine cw_seq ?_
  refine cw_reg ?_
  refine ry (y_mov rfl rfl) rfl rfl ?_
  refine reg_op (op_call (gSwap g15 a h (L) _ (H24.rdg (i := 2) rfl)) rfl kflaw42_8 ⟨rfl, trivial⟩) rfl rfl ?_
  rintro _ w28 ⟨g30, bl31, rfl, k27⟩
  have H29 := H24.call k27
  refine ry (y_mov rfl rfl) rfl rfl ?_
  refine ry (y_ext rfl rfl rfl) rfl rfl ?_
  refine ry (y_ext rfl rfl rfl) rfl rfl ?_
  refine ry (y_asg rfl rfl) rfl rfl ?_
  refine ry (y_asg rfl rfl) rfl rfl ?_
  refine reg_nil ?_
  refine fn_next ?_
  refine cw_seq ?_
  refine cw_seq ?_
  refine cw_reg ?_
  refine ry (y_mov rfl rfl) rfl rfl ?_
  refine ry (y_not rfl rfl) rfl rfl ?_
  refine ry (y_mov rfl rfl) rfl rfl ?_
  refine rgy (y_mov rfl rfl) rfl rfl rfl rfl ?_
  refine rgy (y_neq rfl rfl rfl) rfl rfl rfl rfl ?_
  refine ry (y_pick rfl rfl rfl) rfl rfl ?_
  refine ry (y_mov rfl rfl) rfl rfl ?_
  refine rgy (y_mov rfl rfl) rfl rfl rfl rfl ?_
  refine rgy (y_neq rfl rfl rfl) rfl rfl rfl rfl ?_
  refine ry (y_pick rfl rfl rfl) rfl rfl ?_
  refine ry (y_mov rfl rfl) rfl rfl ?_
  refine rgy (y_mov rfl rfl) rfl rfl rfl rfl ?_
  refine rgy (y_neq rfl rfl rfl) rfl rfl rfl rfl ?_
  refine ry (y_pick rfl rfl rfl) rfl rfl ?_
  refine reg_nil ?_
  refine fn_next ?_
  refine cw_condf rfl ?_
  refine cw_skip ?_
  refine fn_next ?_
  refine cw_seq ?_
  refine cw_reg ?_
  refine ry (y_mov rfl rfl) rfl rfl ?_
  refine ry (y_rem rfl rfl rfl (by decide) (ht)) rfl rfl ?_
  refine ry (y_asg rfl rfl) rfl rfl ?_
  refine reg_nil ?_
  refine fn_next ?_
  refine cw_seq ?_
  refine cw_seq ?_
  refine cw_reg ?_
  refine ry (y_mov rfl rfl) rfl rfl ?_
  refine ry (y_lss rfl rfl rfl) rfl rfl ?_
  refine reg_nil ?_
  refine fn_next ?_
  refine cw_condf rfl ?_
  refine cw_skip ?_
  refine fn_next ?_
  refine cw_seq ?_
  refine cw_seq ?_
  refine cw_reg ?_
  refine ry (y_mov rfl rfl) rfl rfl ?_
  refine ry (y_ldb (i := 4) (cs := [_, _, _]) H29 rfl rfl kflaw42_9 rfl rfl) rfl rfl ?_
  refine ry (y_mov rfl rfl) rfl rfl ?_
  refine reg_op (op_call (mQuarter0 a h A cap L _ s (hr.below H29.base) hl) rfl kflaw42_10 ⟨rfl, rfl, trivial⟩) rfl rfl ?_
  rintro _ w33 ⟨rfl, e32⟩
  have H34 := H29.ext e32
  refine reg_op (op_call (lIs g20 a h (L) _ _ _ (H34.rdg (i := 2) rfl) ((hr.below H34.base))) rfl kflaw42_11 ⟨rfl, rfl, trivial⟩) rfl rfl ?_
  rintro _ w36 ⟨rfl, e35⟩
  have H37 := H34.ext e35
  refine ry (y_not rfl rfl) rfl rfl ?_
  refine ry (y_mov rfl rfl) rfl rfl ?_
  refine rgy (y_mov rfl rfl) rfl rfl rfl rfl ?_
  refine rgy (y_ldb (i := 4) (cs := [_, _, _]) H37 rfl rfl kflaw42_9 rfl rfl) rfl rfl rfl rfl ?_
  refine rg_on rfl rfl rfl (op_call (mMirror a h A cap L _ s (hr.below H37.base) hl) rfl kflaw42_12 ⟨rfl, trivial⟩) rfl ?_
  rintro _ w39 ⟨A41, c42, rfl, k38⟩
  have H40 := H37.call k38
  refine rg_on rfl rfl rfl (op_call (lIs g25 a h (miV (L) a h) _ _ _ (H40.rdg (i := 2) rfl) (H40.rd (i := 0) rfl)) rfl kflaw42_11 ⟨rfl, rfl, trivial⟩) rfl ?_
  rintro _ w44 ⟨rfl, e43⟩
  have H45 := H40.ext e43
  refine rgy (y_not rfl rfl) rfl rfl rfl rfl ?_
  refine ry (y_pick rfl rfl rfl) rfl rfl ?_
  refine ry (y_mov rfl rfl) rfl rfl ?_
  refine rgy (y_mov rfl rfl) rfl rfl rfl rfl ?_
  refine rgy (y_ldb (i := 5) (cs := [_, _, _]) H45 rfl rfl kflaw42_9 rfl rfl) rfl rfl rfl rfl ?_
  refine rg_on rfl rfl rfl (op_call (mSwap a h A cap L _ s (hr.below H45.base) hl) rfl kflaw42_13 ⟨rfl, trivial⟩) rfl ?_
  rintro _ w47 ⟨A49, c50, rfl, k46⟩
  have H48 := H45.call k46
  refine rg_on rfl rfl rfl (op_call (lIs g30 h a (swV (L) a h) _ _ _ (H48.rdg (i := 2) rfl) (H48.rd (i := 0) rfl)) rfl kflaw42_11 ⟨rfl, rfl, trivial⟩) rfl ?_
  rintro _ w52 ⟨rfl, e51⟩
  have H53 := H48.ext e51
  refine rgy (y_not rfl rfl) rfl rfl rfl rfl ?_
  refine ry (y_pick rfl rfl rfl) rfl rfl ?_
  refine ry (y_mov rfl rfl) rfl rfl ?_
  refine rgy (y_mov rfl rfl) rfl rfl rfl rfl ?_
  refine rgy (y_ldb (i := 6) (cs := [_, _, _]) H53 rfl rfl kflaw42_9 rfl rfl) rfl rfl rfl rfl ?_
  refine rg_on rfl rfl rfl (op_call (lIs g15 a h (L) _ _ _ (H53.rdg (i := 5) rfl) ((hr.below H53.base))) rfl kflaw42_11 ⟨rfl, rfl, trivial⟩) rfl ?_
  rintro _ w55 ⟨rfl, e54⟩
  have H56 := H53.ext e54
  refine rgy (y_not rfl rfl) rfl rfl rfl rfl ?_
  refine ry (y_pick rfl rfl rfl) rfl rfl ?_
  refine reg_nil ?_
  refine fn_next ?_
  refine cw_condf rfl ?_
  refine cw_skip ?_
  refine fn_next ?_
  refine cw_seq ?_
  refine cw_reg ?_
  refine ry (y_mov rfl rfl) rfl rfl ?_
  refine ry (y_mov rfl rfl) rfl rfl ?_
  refine ry (y_sub rfl rfl rfl (show _ = (4 : Int) from by decide)) rfl rfl ?_
  refine reg_op (op_call (gQuarter0 g20 a h (L) 4 _ (H56.rdg (i := 4) rfl) (by decide)) rfl kflaw42_6 ⟨rfl, rfl, trivial⟩) rfl rfl ?_
  rintro _ w58 ⟨g60, bl61, rfl, k57⟩
  have H59 := H56.call k57
  refine ry (y_mov rfl rfl) rfl rfl ?_
  refine ry (y_ext rfl rfl rfl) rfl rfl ?_
  refine ry (y_ext rfl rfl rfl) rfl rfl ?_
  refine ry (y_asg rfl rfl) rfl rfl ?_
  refine ry (y_asg rfl rfl) rfl rfl ?_
  refine reg_nil ?_
  refine fn_next ?_
  refine cw_seq ?_
  refine cw_reg ?_
  refine ry (y_mov rfl rfl) rfl rfl ?_
  refine reg_op (op_call (gMirror g25 a h (miV (L) a h) _ (H59.rdg (i := 4) rfl)) rfl kflaw42_7 ⟨rfl, trivial⟩) rfl rfl ?_
  rintro _ w63 ⟨g65, bl66, rfl, k62⟩
  have H64 := H59.call k62
  refine ry (y_mov rfl rfl) rfl rfl ?_
  refine ry (y_ext rfl rfl rfl) rfl rfl ?_
  refine ry (y_ext rfl rfl rfl) rfl rfl ?_
  refine ry (y_asg rfl rfl) rfl rfl ?_
  refine ry (y_asg rfl rfl) rfl rfl ?_
  refine reg_nil ?_
  refine fn_next ?_
  refine cw_seq ?_
  refine cw_reg ?_
  refine ry (y_mov rfl rfl) rfl rfl ?_
  refine reg_op (op_call (gSwap g30 h a (swV (L) a h) _ (H64.rdg (i := 4) rfl)) rfl kflaw42_8 ⟨rfl, trivial⟩) rfl rfl ?_
  rintro _ w68 ⟨g70, bl71, rfl, k67⟩
  have H69 := H64.call k67
  refine ry (y_mov rfl rfl) rfl rfl ?_
  refine ry (y_ext rfl rfl rfl) rfl rfl ?_
  refine ry (y_ext rfl rfl rfl) rfl rfl ?_
  refine ry (y_asg rfl rfl) rfl rfl ?_
  refine ry (y_asg rfl rfl) rfl rfl ?_
  refine reg_nil ?_
  refine fn_next ?_
  refine cw_seq ?_
  refine cw_reg ?_
  refine ry (y_mov rfl rfl) rfl rfl ?_
  refine reg_op (op_call (gMirror g30 h a (swV (L) a h) _ (H69.rdg (i := 5) rfl)) rfl kflaw42_7 ⟨rfl, trivial⟩) rfl rfl ?_
  rintro _ w73 ⟨g75, bl76, rfl, k72⟩
  have H74 := H69.call k72
  refine ry (y_mov rfl rfl) rfl rfl ?_
  refine ry (y_ext rfl rfl rfl) rfl rfl ?_
  refine ry (y_ext rfl rfl rfl) rfl rfl ?_
  refine ry (y_asg rfl rfl) rfl rfl ?_
  refine ry (y_asg rfl rfl) rfl rfl ?_
  refine reg_nil ?_
  refine fn_next ?_
  refine cw_seq ?_
  refine cw_reg ?_
  refine ry (y_mov rfl rfl) rfl rfl ?_
  refine reg_op (op_call (gQuarter1 g15 a h (L) 1 _ (H74.rdg (i := 9) rfl) (by decide)) rfl kflaw42_6 ⟨rfl, rfl, trivial⟩) rfl rfl ?_
  rintro _ w78 ⟨g80, bl81, rfl, k77⟩
  have H79 := H74.call k77
  refine ry (y_mov rfl rfl) rfl rfl ?_
  refine ry (y_ext rfl rfl rfl) rfl rfl ?_
  refine ry (y_ext rfl rfl rfl) rfl rfl ?_
  refine ry (y_asg rfl rfl) rfl rfl ?_
  refine ry (y_asg rfl rfl) rfl rfl ?_
  refine reg_nil ?_
  refine fn_next ?_
  refine cw_seq ?_
  refine cw_reg ?_
  refine ry (y_mov rfl rfl) rfl rfl ?_
  refine ry (y_eql rfl rfl rfl) rfl rfl ?_
  refine ry (y_mov rfl rfl) rfl rfl ?_
  refine rgy (y_mov rfl rfl) rfl rfl rfl rfl ?_
  refine rgy (y_eql rfl rfl rfl) rfl rfl rfl rfl ?_
  refine ry (y_pick rfl rfl rfl) rfl rfl ?_
  refine ry (y_mov rfl rfl) rfl rfl ?_
  refine rgy (y_mov rfl rfl) rfl rfl rfl rfl ?_
  refine rgy (y_eql rfl rfl rfl) rfl rfl rfl rfl ?_
  refine ry (y_pick rfl rfl rfl) rfl rfl ?_
  refine ry (y_mov rfl rfl) rfl rfl ?_
  refine rgy (y_mov rfl rfl) rfl rfl rfl rfl ?_
  refine rgy (y_eql rfl rfl rfl) rfl rfl rfl rfl ?_
  refine ry (y_pick rfl rfl rfl) rfl rfl ?_
  refine ry (y_mov rfl rfl) rfl rfl ?_
  refine rgy (y_mov rfl rfl) rfl rfl rfl rfl ?_
  refine rgy (y_eql rfl rfl rfl) rfl rfl rfl rfl ?_
  refine ry (y_pick rfl rfl rfl) rfl rfl ?_
  refine ry (y_mov rfl rfl) rfl rfl ?_
  refine rgy (y_mov rfl rfl) rfl rfl rfl rfl ?_
  refine rgy (y_mov rfl rfl) rfl rfl rfl rfl ?_
  refine rg_on rfl rfl rfl (op_call (ret_v (v := .bool true) (gSame g60 a h (L) g15 a h (L) _ (H79.rdg (i := 4) rfl) (H79.rdg (i := 10) rfl)) (by rw [decide_eq_true (show _ ∧ _ ∧ _ from ⟨rfl, rfl, rfl⟩)])) rfl kflaw42_14 ⟨rfl, rfl, trivial⟩) rfl ?_
  rintro _ w83 ⟨rfl, e82⟩
  have H84 := H79.ext e82
  refine ry (y_pick rfl rfl rfl) rfl rfl ?_
  refine ry (y_mov rfl rfl) rfl rfl ?_
  refine rgy (y_mov rfl rfl) rfl rfl rfl rfl ?_
  refine rgy (y_mov rfl rfl) rfl rfl rfl rfl ?_
  refine rg_on rfl rfl rfl (op_call (ret_v (v := .bool true) (gSame g65 a h (miV (miV (L) a h) a h) g15 a h (L) _ (H84.rdg (i := 3) rfl) (H84.rdg (i := 10) rfl)) (by rw [decide_eq_true (show _ ∧ _ ∧ _ from ⟨rfl, rfl, mi_mi hl⟩)])) rfl kflaw42_14 ⟨rfl, rfl, trivial⟩) rfl ?_
  rintro _ w86 ⟨rfl, e85⟩
  have H87 := H84.ext e85
  refine ry (y_pick rfl rfl rfl) rfl rfl ?_
  refine ry (y_mov rfl rfl) rfl rfl ?_
  refine rgy (y_mov rfl rfl) rfl rfl rfl rfl ?_
  refine rgy (y_mov rfl rfl) rfl rfl rfl rfl ?_
  refine rg_on rfl rfl rfl (op_call (ret_v (v := .bool true) (gSame g70 a h (swV (swV (L) a h) h a) g15 a h (L) _ (H87.rdg (i := 2) rfl) (H87.rdg (i := 10) rfl)) (by rw [decide_eq_true (show _ ∧ _ ∧ _ from ⟨rfl, rfl, sw_sw hl⟩)])) rfl kflaw42_14 ⟨rfl, rfl, trivial⟩) rfl ?_
  rintro _ w89 ⟨rfl, e88⟩
  have H90 := H87.ext e88
  refine ry (y_pick rfl rfl rfl) rfl rfl ?_
  refine ry (y_mov rfl rfl) rfl rfl ?_
  refine rgy (y_mov rfl rfl) rfl rfl rfl rfl ?_
  refine rgy (y_mov rfl rfl) rfl rfl rfl rfl ?_
  refine rg_on rfl rfl rfl (op_call (ret_v (v := .bool true) (gSame g75 h a (miV (swV (L) a h) h a) g80 h a (q1V (L) a h) _ (H90.rdg (i := 1) rfl) (H90.rdg (i := 0) rfl)) (by rw [decide_eq_true (show _ ∧ _ ∧ _ from ⟨rfl, rfl, mi_sw⟩)])) rfl kflaw42_14 ⟨rfl, rfl, trivial⟩) rfl ?_
  rintro _ w92 ⟨rfl, e91⟩
  have H93 := H90.ext e91
  refine ry (y_pick rfl rfl rfl) rfl rfl ?_
  refine ry (y_asg rfl rfl) rfl rfl ?_
  refine reg_nil ?_
  refine fn_next ?_
  refine cw_ret ?_
  refine fn_ret1 rfl rfl ?_
  exact ⟨rfl, H93.base⟩

set_option maxRecDepth 100000 in
set_option maxHeartbeats 2000000 in
theorem turnTurns_1 (a h : Nat) (L : List Int) (A : Option Addr) (cap : Nat) (n : Int) (w : World) (h1 : 1 ≤ a) (h2 : a ≤ 1000) (h3 : 1 ≤ h) (h4 : h ≤ 1000) (h5 : a * h ≤ 1000) (hr : Rd w A (vi .i64 L)) (hl : L.length = a * h) (hb : AllB L) (hn : n % 4 = 1) (ht : n.tmod 4 = 1) :
    Ret Try.prog 10 [.int .i64 (a : Int), .int .i64 (h : Int), .slice A (a * h) cap, .int .i64 n] w (fun z w' => z = .bool true ∧ Below w.heap.size w w') := by
  have s : SzG a h := ⟨h1, by omega, h3, by omega⟩
  refine ret_enter Try.func10 rfl rfl rfl ?_
  have H0 := HS.start w
  refine cw_seq ?_
  refine cw_reg ?_
  refine ry (y_asg rfl rfl) rfl rfl ?_
  refine reg_nil ?_
  refine fn_next ?_
  refine cw_seq ?_
  refine cw_seq ?_
  refine cw_reg ?_
  refine reg_op (op_call (turnAwake _) rfl kflaw42_1 trivial) rfl rfl ?_
  rintro _ w2 ⟨rfl, e1⟩
  have H3 := H0.ext e1
  refine ry (y_not rfl rfl) rfl rfl ?_
  refine reg_nil ?_
  refine fn_next ?_
  refine cw_condf rfl ?_
  refine cw_skip ?_
  refine fn_next ?_
  refine cw_seq ?_
  refine cw_reg ?_
  refine ry (y_mov rfl rfl) rfl rfl ?_
  refine ry (y_mov rfl rfl) rfl rfl ?_
  refine ry (y_mov rfl rfl) rfl rfl ?_
  refine reg_op (op_call (land_ok a h 1000 L A (a * h) cap _ h1 h2 h3 h4 h5 rfl hl hb (by decide) (hr.below H3.base)) rfl kflaw42_2 ⟨rfl, rfl, rfl, rfl, trivial⟩) rfl rfl ?_
  rintro _ w5 ⟨rfl, e4⟩
  have H6 := H3.ext e4
  refine ry (y_mov rfl rfl) rfl rfl ?_
  refine ry (y_ext rfl rfl rfl) rfl rfl ?_
  refine ry (y_ext rfl rfl rfl) rfl rfl ?_
  refine reg_op (op_alloc H6 rfl kflaw42_3) rfl rfl ?_
  rintro _ w8 ⟨b7, rfl, H9⟩
  refine reg_op (op_st (i := 0) (vs := [.int _ _, .int _ _, .slice _ _ _]) H9 rfl rfl rfl rfl rfl kflaw42_4 rfl rfl rfl) rfl rfl ?_
  rintro _ w10 H11
  refine ry (y_asg rfl rfl) rfl rfl ?_
  refine reg_nil ?_
  refine fn_next ?_
  refine cw_seq ?_
  refine cw_seq ?_
  refine cw_reg ?_
  refine ry (y_mov rfl rfl) rfl rfl ?_
  refine ry (y_not rfl rfl) rfl rfl ?_
  refine reg_nil ?_
  refine fn_next ?_
  refine cw_condf rfl ?_
  refine cw_skip ?_
  refine fn_next ?_
  refine cw_seq ?_
  refine cw_reg ?_
  refine ry (y_mov rfl rfl) rfl rfl ?_
  refine ry (y_mov rfl rfl) rfl rfl ?_
  refine ry (y_mov rfl rfl) rfl rfl ?_
  refine reg_op (op_call (made_ok a h L A (a * h) cap _ s hl rfl hb (hr.below H11.base)) rfl kflaw42_5 ⟨rfl, rfl, rfl, trivial⟩) rfl rfl ?_
  rintro _ w13 ⟨g15, bl16, rfl, k12⟩
  have H14 := H11.call k12
  refine ry (y_mov rfl rfl) rfl rfl ?_
  refine ry (y_ext rfl rfl rfl) rfl rfl ?_
  refine ry (y_ext rfl rfl rfl) rfl rfl ?_
  refine ry (y_asg rfl rfl) rfl rfl ?_
  refine ry (y_asg rfl rfl) rfl rfl ?_
  refine reg_nil ?_
  refine fn_next ?_
  refine cw_seq ?_
  refine cw_reg ?_
  refine ry (y_mov rfl rfl) rfl rfl ?_
  refine ry (y_mov rfl rfl) rfl rfl ?_
  refine reg_op (op_call (gQuarter1 g15 a h (L) n _ (H14.rdg (i := 0) rfl) hn) rfl kflaw42_6 ⟨rfl, rfl, trivial⟩) rfl rfl ?_
  rintro _ w18 ⟨g20, bl21, rfl, k17⟩
  have H19 := H14.call k17
  refine ry (y_mov rfl rfl) rfl rfl ?_
  refine ry (y_ext rfl rfl rfl) rfl rfl ?_
  refine ry (y_ext rfl rfl rfl) rfl rfl ?_
  refine ry (y_asg rfl rfl) rfl rfl ?_
  refine ry (y_asg rfl rfl) rfl rfl ?_
  refine reg_nil ?_
  refine fn_next ?_
  refine cw_seq ?_
  refine cw_reg ?_
  refine ry (y_mov rfl rfl) rfl rfl ?_
  refine reg_op (op_call (gMirror g15 a h (L) _ (H19.rdg (i := 1) rfl)) rfl kflaw42_7 ⟨rfl, trivial⟩) rfl rfl ?_
  rintro _ w23 ⟨g25, bl26, rfl, k22⟩
  have H24 := H19.call k22
  refine ry (y_mov rfl rfl) rfl rfl ?_
  refine ry (y_ext rfl rfl rfl) rfl rfl ?_
  refine ry (y_ext rfl rfl rfl) rfl rfl ?_
  refine ry (y_asg rfl rfl) rfl rfl ?_
  refine ry (y_asg rfl rfl) rfl rfl ?_
  refine reg_nil ?_
  refine fn_next ?_
  refine cw_seq ?_
  refine cw_reg ?_
  refine ry (y_mov rfl rfl) rfl rfl ?_
  refine reg_op (op_call (gSwap g15 a h (L) _ (H24.rdg (i := 2) rfl)) rfl kflaw42_8 ⟨rfl, trivial⟩) rfl rfl ?_
  rintro _ w28 ⟨g30, bl31, rfl, k27⟩
  have H29 := H24.call k27
  refine ry (y_mov rfl rfl) rfl rfl ?_
  refine ry (y_ext rfl rfl rfl) rfl rfl ?_
  refine ry (y_ext rfl rfl rfl) rfl rfl ?_
  refine ry (y_asg rfl rfl) rfl rfl ?_
  refine ry (y_asg rfl rfl) rfl rfl ?_
  refine reg_nil ?_
  refine fn_next ?_
  refine cw_seq ?_
  refine cw_seq ?_
  refine cw_reg ?_
  refine ry (y_mov rfl rfl) rfl rfl ?_
  refine ry (y_not rfl rfl) rfl rfl ?_
  refine ry (y_mov rfl rfl) rfl rfl ?_
  refine rgy (y_mov rfl rfl) rfl rfl rfl rfl ?_
  refine rgy (y_neq rfl rfl rfl) rfl rfl rfl rfl ?_
  refine ry (y_pick rfl rfl rfl) rfl rfl ?_
  refine ry (y_mov rfl rfl) rfl rfl ?_
  refine rgy (y_mov rfl rfl) rfl rfl rfl rfl ?_
  refine rgy (y_neq rfl rfl rfl) rfl rfl rfl rfl ?_
  refine ry (y_pick rfl rfl rfl) rfl rfl ?_
  refine ry (y_mov rfl rfl) rfl rfl ?_
  refine rgy (y_mov rfl rfl) rfl rfl rfl rfl ?_
  refine rgy (y_neq rfl rfl rfl) rfl rfl rfl rfl ?_
  refine ry (y_pick rfl rfl rfl) rfl rfl ?_
  refine reg_nil ?_
  refine fn_next ?_
  refine cw_condf rfl ?_
  refine cw_skip ?_
  refine fn_next ?_
  refine cw_seq ?_
  refine cw_reg ?_
  refine ry (y_mov rfl rfl) rfl rfl ?_
  refine ry (y_rem rfl rfl rfl (by decide) (ht)) rfl rfl ?_
  refine ry (y_asg rfl rfl) rfl rfl ?_
  refine reg_nil ?_
  refine fn_next ?_
  refine cw_seq ?_
  refine cw_seq ?_
  refine cw_reg ?_
  refine ry (y_mov rfl rfl) rfl rfl ?_
  refine ry (y_lss rfl rfl rfl) rfl rfl ?_
  refine reg_nil ?_
  refine fn_next ?_
  refine cw_condf rfl ?_
  refine cw_skip ?_
  refine fn_next ?_
  refine cw_seq ?_
  refine cw_seq ?_
  refine cw_reg ?_
  refine ry (y_mov rfl rfl) rfl rfl ?_
  refine ry (y_ldb (i := 4) (cs := [_, _, _]) H29 rfl rfl kflaw42_9 rfl rfl) rfl rfl ?_
  refine ry (y_mov rfl rfl) rfl rfl ?_
  refine reg_op (op_call (mQuarter1 a h A cap L _ s (hr.below H29.base) hl) rfl kflaw42_10 ⟨rfl, rfl, trivial⟩) rfl rfl ?_
  rintro _ w33 ⟨A35, c36, rfl, k32⟩
  have H34 := H29.call k32
  refine reg_op (op_call (lIs g20 h a (q1V (L) a h) _ _ _ (H34.rdg (i := 3) rfl) (H34.rd (i := 0) rfl)) rfl kflaw42_11 ⟨rfl, rfl, trivial⟩) rfl rfl ?_
  rintro _ w38 ⟨rfl, e37⟩
  have H39 := H34.ext e37
  refine ry (y_not rfl rfl) rfl rfl ?_
  refine ry (y_mov rfl rfl) rfl rfl ?_
  refine rgy (y_mov rfl rfl) rfl rfl rfl rfl ?_
  refine rgy (y_ldb (i := 5) (cs := [_, _, _]) H39 rfl rfl kflaw42_9 rfl rfl) rfl rfl rfl rfl ?_
  refine rg_on rfl rfl rfl (op_call (mMirror a h A cap L _ s (hr.below H39.base) hl) rfl kflaw42_12 ⟨rfl, trivial⟩) rfl ?_
  rintro _ w41 ⟨A43, c44, rfl, k40⟩
  have H42 := H39.call k40
  refine rg_on rfl rfl rfl (op_call (lIs g25 a h (miV (L) a h) _ _ _ (H42.rdg (i := 3) rfl) (H42.rd (i := 0) rfl)) rfl kflaw42_11 ⟨rfl, rfl, trivial⟩) rfl ?_
  rintro _ w46 ⟨rfl, e45⟩
  have H47 := H42.ext e45
  refine rgy (y_not rfl rfl) rfl rfl rfl rfl ?_
  refine ry (y_pick rfl rfl rfl) rfl rfl ?_
  refine ry (y_mov rfl rfl) rfl rfl ?_
  refine rgy (y_mov rfl rfl) rfl rfl rfl rfl ?_
  refine rgy (y_ldb (i := 6) (cs := [_, _, _]) H47 rfl rfl kflaw42_9 rfl rfl) rfl rfl rfl rfl ?_
  refine rg_on rfl rfl rfl (op_call (mSwap a h A cap L _ s (hr.below H47.base) hl) rfl kflaw42_13 ⟨rfl, trivial⟩) rfl ?_
  rintro _ w49 ⟨A51, c52, rfl, k48⟩
  have H50 := H47.call k48
  refine rg_on rfl rfl rfl (op_call (lIs g30 h a (swV (L) a h) _ _ _ (H50.rdg (i := 3) rfl) (H50.rd (i := 0) rfl)) rfl kflaw42_11 ⟨rfl, rfl, trivial⟩) rfl ?_
  rintro _ w54 ⟨rfl, e53⟩
  have H55 := H50.ext e53
  refine rgy (y_not rfl rfl) rfl rfl rfl rfl ?_
  refine ry (y_pick rfl rfl rfl) rfl rfl ?_
  refine ry (y_mov rfl rfl) rfl rfl ?_
  refine rgy (y_mov rfl rfl) rfl rfl rfl rfl ?_
  refine rgy (y_ldb (i := 7) (cs := [_, _, _]) H55 rfl rfl kflaw42_9 rfl rfl) rfl rfl rfl rfl ?_
  refine rg_on rfl rfl rfl (op_call (lIs g15 a h (L) _ _ _ (H55.rdg (i := 6) rfl) ((hr.below H55.base))) rfl kflaw42_11 ⟨rfl, rfl, trivial⟩) rfl ?_
  rintro _ w57 ⟨rfl, e56⟩
  have H58 := H55.ext e56
  refine rgy (y_not rfl rfl) rfl rfl rfl rfl ?_
  refine ry (y_pick rfl rfl rfl) rfl rfl ?_
  refine reg_nil ?_
  refine fn_next ?_
  refine cw_condf rfl ?_
  refine cw_skip ?_
  refine fn_next ?_
  refine cw_seq ?_
  refine cw_reg ?_
  refine ry (y_mov rfl rfl) rfl rfl ?_
  refine ry (y_mov rfl rfl) rfl rfl ?_
  refine ry (y_sub rfl rfl rfl (show _ = (3 : Int) from by decide)) rfl rfl ?_
  refine reg_op (op_call (gQuarter3 g20 h a (q1V (L) a h) 3 _ (H58.rdg (i := 5) rfl) (by decide)) rfl kflaw42_6 ⟨rfl, rfl, trivial⟩) rfl rfl ?_
  rintro _ w60 ⟨g62, bl63, rfl, k59⟩
  have H61 := H58.call k59
  refine ry (y_mov rfl rfl) rfl rfl ?_
  refine ry (y_ext rfl rfl rfl) rfl rfl ?_
  refine ry (y_ext rfl rfl rfl) rfl rfl ?_
  refine ry (y_asg rfl rfl) rfl rfl ?_
  refine ry (y_asg rfl rfl) rfl rfl ?_
  refine reg_nil ?_
  refine fn_next ?_
  refine cw_seq ?_
  refine cw_reg ?_
  refine ry (y_mov rfl rfl) rfl rfl ?_
  refine reg_op (op_call (gMirror g25 a h (miV (L) a h) _ (H61.rdg (i := 5) rfl)) rfl kflaw42_7 ⟨rfl, trivial⟩) rfl rfl ?_
  rintro _ w65 ⟨g67, bl68, rfl, k64⟩
  have H66 := H61.call k64
  refine ry (y_mov rfl rfl) rfl rfl ?_
  refine ry (y_ext rfl rfl rfl) rfl rfl ?_
  refine ry (y_ext rfl rfl rfl) rfl rfl ?_
  refine ry (y_asg rfl rfl) rfl rfl ?_
  refine ry (y_asg rfl rfl) rfl rfl ?_
  refine reg_nil ?_
  refine fn_next ?_
  refine cw_seq ?_
  refine cw_reg ?_
  refine ry (y_mov rfl rfl) rfl rfl ?_
  refine reg_op (op_call (gSwap g30 h a (swV (L) a h) _ (H66.rdg (i := 5) rfl)) rfl kflaw42_8 ⟨rfl, trivial⟩) rfl rfl ?_
  rintro _ w70 ⟨g72, bl73, rfl, k69⟩
  have H71 := H66.call k69
  refine ry (y_mov rfl rfl) rfl rfl ?_
  refine ry (y_ext rfl rfl rfl) rfl rfl ?_
  refine ry (y_ext rfl rfl rfl) rfl rfl ?_
  refine ry (y_asg rfl rfl) rfl rfl ?_
  refine ry (y_asg rfl rfl) rfl rfl ?_
  refine reg_nil ?_
  refine fn_next ?_
  refine cw_seq ?_
  refine cw_reg ?_
  refine ry (y_mov rfl rfl) rfl rfl ?_
  refine reg_op (op_call (gMirror g30 h a (swV (L) a h) _ (H71.rdg (i := 6) rfl)) rfl kflaw42_7 ⟨rfl, trivial⟩) rfl rfl ?_
  rintro _ w75 ⟨g77, bl78, rfl, k74⟩
  have H76 := H71.call k74
  refine ry (y_mov rfl rfl) rfl rfl ?_
  refine ry (y_ext rfl rfl rfl) rfl rfl ?_
  refine ry (y_ext rfl rfl rfl) rfl rfl ?_
  refine ry (y_asg rfl rfl) rfl rfl ?_
  refine ry (y_asg rfl rfl) rfl rfl ?_
  refine reg_nil ?_
  refine fn_next ?_
  refine cw_seq ?_
  refine cw_reg ?_
  refine ry (y_mov rfl rfl) rfl rfl ?_
  refine reg_op (op_call (gQuarter1 g15 a h (L) 1 _ (H76.rdg (i := 10) rfl) (by decide)) rfl kflaw42_6 ⟨rfl, rfl, trivial⟩) rfl rfl ?_
  rintro _ w80 ⟨g82, bl83, rfl, k79⟩
  have H81 := H76.call k79
  refine ry (y_mov rfl rfl) rfl rfl ?_
  refine ry (y_ext rfl rfl rfl) rfl rfl ?_
  refine ry (y_ext rfl rfl rfl) rfl rfl ?_
  refine ry (y_asg rfl rfl) rfl rfl ?_
  refine ry (y_asg rfl rfl) rfl rfl ?_
  refine reg_nil ?_
  refine fn_next ?_
  refine cw_seq ?_
  refine cw_reg ?_
  refine ry (y_mov rfl rfl) rfl rfl ?_
  refine ry (y_eql rfl rfl rfl) rfl rfl ?_
  refine ry (y_mov rfl rfl) rfl rfl ?_
  refine rgy (y_mov rfl rfl) rfl rfl rfl rfl ?_
  refine rgy (y_eql rfl rfl rfl) rfl rfl rfl rfl ?_
  refine ry (y_pick rfl rfl rfl) rfl rfl ?_
  refine ry (y_mov rfl rfl) rfl rfl ?_
  refine rgy (y_mov rfl rfl) rfl rfl rfl rfl ?_
  refine rgy (y_eql rfl rfl rfl) rfl rfl rfl rfl ?_
  refine ry (y_pick rfl rfl rfl) rfl rfl ?_
  refine ry (y_mov rfl rfl) rfl rfl ?_
  refine rgy (y_mov rfl rfl) rfl rfl rfl rfl ?_
  refine rgy (y_eql rfl rfl rfl) rfl rfl rfl rfl ?_
  refine ry (y_pick rfl rfl rfl) rfl rfl ?_
  refine ry (y_mov rfl rfl) rfl rfl ?_
  refine rgy (y_mov rfl rfl) rfl rfl rfl rfl ?_
  refine rgy (y_eql rfl rfl rfl) rfl rfl rfl rfl ?_
  refine ry (y_pick rfl rfl rfl) rfl rfl ?_
  refine ry (y_mov rfl rfl) rfl rfl ?_
  refine rgy (y_mov rfl rfl) rfl rfl rfl rfl ?_
  refine rgy (y_mov rfl rfl) rfl rfl rfl rfl ?_
  refine rg_on rfl rfl rfl (op_call (ret_v (v := .bool true) (gSame g62 a h (q3V (q1V (L) a h) h a) g15 a h (L) _ (H81.rdg (i := 4) rfl) (H81.rdg (i := 11) rfl)) (by rw [decide_eq_true (show _ ∧ _ ∧ _ from ⟨rfl, rfl, q3_q1 hl⟩)])) rfl kflaw42_14 ⟨rfl, rfl, trivial⟩) rfl ?_
  rintro _ w85 ⟨rfl, e84⟩
  have H86 := H81.ext e84
  refine ry (y_pick rfl rfl rfl) rfl rfl ?_
  refine ry (y_mov rfl rfl) rfl rfl ?_
  refine rgy (y_mov rfl rfl) rfl rfl rfl rfl ?_
  refine rgy (y_mov rfl rfl) rfl rfl rfl rfl ?_
  refine rg_on rfl rfl rfl (op_call (ret_v (v := .bool true) (gSame g67 a h (miV (miV (L) a h) a h) g15 a h (L) _ (H86.rdg (i := 3) rfl) (H86.rdg (i := 11) rfl)) (by rw [decide_eq_true (show _ ∧ _ ∧ _ from ⟨rfl, rfl, mi_mi hl⟩)])) rfl kflaw42_14 ⟨rfl, rfl, trivial⟩) rfl ?_
  rintro _ w88 ⟨rfl, e87⟩
  have H89 := H86.ext e87
  refine ry (y_pick rfl rfl rfl) rfl rfl ?_
  refine ry (y_mov rfl rfl) rfl rfl ?_
  refine rgy (y_mov rfl rfl) rfl rfl rfl rfl ?_
  refine rgy (y_mov rfl rfl) rfl rfl rfl rfl ?_
  refine rg_on rfl rfl rfl (op_call (ret_v (v := .bool true) (gSame g72 a h (swV (swV (L) a h) h a) g15 a h (L) _ (H89.rdg (i := 2) rfl) (H89.rdg (i := 11) rfl)) (by rw [decide_eq_true (show _ ∧ _ ∧ _ from ⟨rfl, rfl, sw_sw hl⟩)])) rfl kflaw42_14 ⟨rfl, rfl, trivial⟩) rfl ?_
  rintro _ w91 ⟨rfl, e90⟩
  have H92 := H89.ext e90
  refine ry (y_pick rfl rfl rfl) rfl rfl ?_
  refine ry (y_mov rfl rfl) rfl rfl ?_
  refine rgy (y_mov rfl rfl) rfl rfl rfl rfl ?_
  refine rgy (y_mov rfl rfl) rfl rfl rfl rfl ?_
  refine rg_on rfl rfl rfl (op_call (ret_v (v := .bool true) (gSame g77 h a (miV (swV (L) a h) h a) g82 h a (q1V (L) a h) _ (H92.rdg (i := 1) rfl) (H92.rdg (i := 0) rfl)) (by rw [decide_eq_true (show _ ∧ _ ∧ _ from ⟨rfl, rfl, mi_sw⟩)])) rfl kflaw42_14 ⟨rfl, rfl, trivial⟩) rfl ?_
  rintro _ w94 ⟨rfl, e93⟩
  have H95 := H92.ext e93
  refine ry (y_pick rfl rfl rfl) rfl rfl ?_
  refine ry (y_asg rfl rfl) rfl rfl ?_
  refine reg_nil ?_
  refine fn_next ?_
  refine cw_ret ?_
  refine fn_ret1 rfl rfl ?_
  exact ⟨rfl, H95.base⟩

set_option maxRecDepth 100000 in
set_option maxHeartbeats 2000000 in
theorem turnTurns_2 (a h : Nat) (L : List Int) (A : Option Addr) (cap : Nat) (n : Int) (w : World) (h1 : 1 ≤ a) (h2 : a ≤ 1000) (h3 : 1 ≤ h) (h4 : h ≤ 1000) (h5 : a * h ≤ 1000) (hr : Rd w A (vi .i64 L)) (hl : L.length = a * h) (hb : AllB L) (hn : n % 4 = 2) (ht : n.tmod 4 = 2) :
    Ret Try.prog 10 [.int .i64 (a : Int), .int .i64 (h : Int), .slice A (a * h) cap, .int .i64 n] w (fun z w' => z = .bool true ∧ Below w.heap.size w w') := by
  have s : SzG a h := ⟨h1, by omega, h3, by omega⟩
  refine ret_enter Try.func10 rfl rfl rfl ?_
  have H0 := HS.start w
  refine cw_seq ?_
  refine cw_reg ?_
  refine ry (y_asg rfl rfl) rfl rfl ?_
  refine reg_nil ?_
  refine fn_next ?_
  refine cw_seq ?_
  refine cw_seq ?_
  refine cw_reg ?_
  refine reg_op (op_call (turnAwake _) rfl kflaw42_1 trivial) rfl rfl ?_
  rintro _ w2 ⟨rfl, e1⟩
  have H3 := H0.ext e1
  refine ry (y_not rfl rfl) rfl rfl ?_
  refine reg_nil ?_
  refine fn_next ?_
  refine cw_condf rfl ?_
  refine cw_skip ?_
  refine fn_next ?_
  refine cw_seq ?_
  refine cw_reg ?_
  refine ry (y_mov rfl rfl) rfl rfl ?_
  refine ry (y_mov rfl rfl) rfl rfl ?_
  refine ry (y_mov rfl rfl) rfl rfl ?_
  refine reg_op (op_call (land_ok a h 1000 L A (a * h) cap _ h1 h2 h3 h4 h5 rfl hl hb (by decide) (hr.below H3.base)) rfl kflaw42_2 ⟨rfl, rfl, rfl, rfl, trivial⟩) rfl rfl ?_
  rintro _ w5 ⟨rfl, e4⟩
  have H6 := H3.ext e4
  refine ry (y_mov rfl rfl) rfl rfl ?_
  refine ry (y_ext rfl rfl rfl) rfl rfl ?_
  refine ry (y_ext rfl rfl rfl) rfl rfl ?_
  refine reg_op (op_alloc H6 rfl kflaw42_3) rfl rfl ?_
  rintro _ w8 ⟨b7, rfl, H9⟩
  refine reg_op (op_st (i := 0) (vs := [.int _ _, .int _ _, .slice _ _ _]) H9 rfl rfl rfl rfl rfl kflaw42_4 rfl rfl rfl) rfl rfl ?_
  rintro _ w10 H11
  refine ry (y_asg rfl rfl) rfl rfl ?_
  refine reg_nil ?_
  refine fn_next ?_
  refine cw_seq ?_
  refine cw_seq ?_
  refine cw_reg ?_
  refine ry (y_mov rfl rfl) rfl rfl ?_
  refine ry (y_not rfl rfl) rfl rfl ?_
  refine reg_nil ?_
  refine fn_next ?_
  refine cw_condf rfl ?_
  refine cw_skip ?_
  refine fn_next ?_
  refine cw_seq ?_
  refine cw_reg ?_
  refine ry (y_mov rfl rfl) rfl rfl ?_
  refine ry (y_mov rfl rfl) rfl rfl ?_
  refine ry (y_mov rfl rfl) rfl rfl ?_
  refine reg_op (op_call (made_ok a h L A (a * h) cap _ s hl rfl hb (hr.below H11.base)) rfl kflaw42_5 ⟨rfl, rfl, rfl, trivial⟩) rfl rfl ?_
  rintro _ w13 ⟨g15, bl16, rfl, k12⟩
  have H14 := H11.call k12
  refine ry (y_mov rfl rfl) rfl rfl ?_
  refine ry (y_ext rfl rfl rfl) rfl rfl ?_
  refine ry (y_ext rfl rfl rfl) rfl rfl ?_
  refine ry (y_asg rfl rfl) rfl rfl ?_
  refine ry (y_asg rfl rfl) rfl rfl ?_
  refine reg_nil ?_
  refine fn_next ?_
  refine cw_seq ?_
  refine cw_reg ?_
  refine ry (y_mov rfl rfl) rfl rfl ?_
  refine ry (y_mov rfl rfl) rfl rfl ?_
  refine reg_op (op_call (gQuarter2 g15 a h (L) n _ (H14.rdg (i := 0) rfl) hn) rfl kflaw42_6 ⟨rfl, rfl, trivial⟩) rfl rfl ?_
  rintro _ w18 ⟨g20, bl21, rfl, k17⟩
  have H19 := H14.call k17
  refine ry (y_mov rfl rfl) rfl rfl ?_
  refine ry (y_ext rfl rfl rfl) rfl rfl ?_
  refine ry (y_ext rfl rfl rfl) rfl rfl ?_
  refine ry (y_asg rfl rfl) rfl rfl ?_
  refine ry (y_asg rfl rfl) rfl rfl ?_
  refine reg_nil ?_
  refine fn_next ?_
  refine cw_seq ?_
  refine cw_reg ?_
  refine ry (y_mov rfl rfl) rfl rfl ?_
  refine reg_op (op_call (gMirror g15 a h (L) _ (H19.rdg (i := 1) rfl)) rfl kflaw42_7 ⟨rfl, trivial⟩) rfl rfl ?_
  rintro _ w23 ⟨g25, bl26, rfl, k22⟩
  have H24 := H19.call k22
  refine ry (y_mov rfl rfl) rfl rfl ?_
  refine ry (y_ext rfl rfl rfl) rfl rfl ?_
  refine ry (y_ext rfl rfl rfl) rfl rfl ?_
  refine ry (y_asg rfl rfl) rfl rfl ?_
  refine ry (y_asg rfl rfl) rfl rfl ?_
  refine reg_nil ?_
  refine fn_next ?_
  refine cw_seq ?_
  refine cw_reg ?_
  refine ry (y_mov rfl rfl) rfl rfl ?_
  refine reg_op (op_call (gSwap g15 a h (L) _ (H24.rdg (i := 2) rfl)) rfl kflaw42_8 ⟨rfl, trivial⟩) rfl rfl ?_
  rintro _ w28 ⟨g30, bl31, rfl, k27⟩
  have H29 := H24.call k27
  refine ry (y_mov rfl rfl) rfl rfl ?_
  refine ry (y_ext rfl rfl rfl) rfl rfl ?_
  refine ry (y_ext rfl rfl rfl) rfl rfl ?_
  refine ry (y_asg rfl rfl) rfl rfl ?_
  refine ry (y_asg rfl rfl) rfl rfl ?_
  refine reg_nil ?_
  refine fn_next ?_
  refine cw_seq ?_
  refine cw_seq ?_
  refine cw_reg ?_
  refine ry (y_mov rfl rfl) rfl rfl ?_
  refine ry (y_not rfl rfl) rfl rfl ?_
  refine ry (y_mov rfl rfl) rfl rfl ?_
  refine rgy (y_mov rfl rfl) rfl rfl rfl rfl ?_
  refine rgy (y_neq rfl rfl rfl) rfl rfl rfl rfl ?_
  refine ry (y_pick rfl rfl rfl) rfl rfl ?_
  refine ry (y_mov rfl rfl) rfl rfl ?_
  refine rgy (y_mov rfl rfl) rfl rfl rfl rfl ?_
  refine rgy (y_neq rfl rfl rfl) rfl rfl rfl rfl ?_
  refine ry (y_pick rfl rfl rfl) rfl rfl ?_
  refine ry (y_mov rfl rfl) rfl rfl ?_
  refine rgy (y_mov rfl rfl) rfl rfl rfl rfl ?_
  refine rgy (y_neq rfl rfl rfl) rfl rfl rfl rfl ?_
  refine ry (y_pick rfl rfl rfl) rfl rfl ?_
  refine reg_nil ?_
  refine fn_next ?_
  refine cw_condf rfl ?_
  refine cw_skip ?_
  refine fn_next ?_
  refine cw_seq ?_
  refine cw_reg ?_
  refine ry (y_mov rfl rfl) rfl rfl ?_
  refine ry (y_rem rfl rfl rfl (by decide) (ht)) rfl rfl ?_
  refine ry (y_asg rfl rfl) rfl rfl ?_
  refine reg_nil ?_
  refine fn_next ?_
  refine cw_seq ?_
  refine cw_seq ?_
  refine cw_reg ?_
  refine ry (y_mov rfl rfl) rfl rfl ?_
  refine ry (y_lss rfl rfl rfl) rfl rfl ?_
  refine reg_nil ?_
  refine fn_next ?_
  refine cw_condf rfl ?_
  refine cw_skip ?_
  refine fn_next ?_
  refine cw_seq ?_
  refine cw_seq ?_
  refine cw_reg ?_
  refine ry (y_mov rfl rfl) rfl rfl ?_
  refine ry (y_ldb (i := 4) (cs := [_, _, _]) H29 rfl rfl kflaw42_9 rfl rfl) rfl rfl ?_
  refine ry (y_mov rfl rfl) rfl rfl ?_
  refine reg_op (op_call (mQuarter2 a h A cap L _ s (hr.below H29.base) hl) rfl kflaw42_10 ⟨rfl, rfl, trivial⟩) rfl rfl ?_
  rintro _ w33 ⟨A35, c36, rfl, k32⟩
  have H34 := H29.call k32
  rw [q1_q1] at H34
  refine reg_op (op_call (lIs g20 a h (q2V (L) a h) _ _ _ (H34.rdg (i := 3) rfl) (H34.rd (i := 0) rfl)) rfl kflaw42_11 ⟨rfl, rfl, trivial⟩) rfl rfl ?_
  rintro _ w38 ⟨rfl, e37⟩
  have H39 := H34.ext e37
  refine ry (y_not rfl rfl) rfl rfl ?_
  refine ry (y_mov rfl rfl) rfl rfl ?_
  refine rgy (y_mov rfl rfl) rfl rfl rfl rfl ?_
  refine rgy (y_ldb (i := 5) (cs := [_, _, _]) H39 rfl rfl kflaw42_9 rfl rfl) rfl rfl rfl rfl ?_
  refine rg_on rfl rfl rfl (op_call (mMirror a h A cap L _ s (hr.below H39.base) hl) rfl kflaw42_12 ⟨rfl, trivial⟩) rfl ?_
  rintro _ w41 ⟨A43, c44, rfl, k40⟩
  have H42 := H39.call k40
  refine rg_on rfl rfl rfl (op_call (lIs g25 a h (miV (L) a h) _ _ _ (H42.rdg (i := 3) rfl) (H42.rd (i := 0) rfl)) rfl kflaw42_11 ⟨rfl, rfl, trivial⟩) rfl ?_
  rintro _ w46 ⟨rfl, e45⟩
  have H47 := H42.ext e45
  refine rgy (y_not rfl rfl) rfl rfl rfl rfl ?_
  refine ry (y_pick rfl rfl rfl) rfl rfl ?_
  refine ry (y_mov rfl rfl) rfl rfl ?_
  refine rgy (y_mov rfl rfl) rfl rfl rfl rfl ?_
  refine rgy (y_ldb (i := 6) (cs := [_, _, _]) H47 rfl rfl kflaw42_9 rfl rfl) rfl rfl rfl rfl ?_
  refine rg_on rfl rfl rfl (op_call (mSwap a h A cap L _ s (hr.below H47.base) hl) rfl kflaw42_13 ⟨rfl, trivial⟩) rfl ?_
  rintro _ w49 ⟨A51, c52, rfl, k48⟩
  have H50 := H47.call k48
  refine rg_on rfl rfl rfl (op_call (lIs g30 h a (swV (L) a h) _ _ _ (H50.rdg (i := 3) rfl) (H50.rd (i := 0) rfl)) rfl kflaw42_11 ⟨rfl, rfl, trivial⟩) rfl ?_
  rintro _ w54 ⟨rfl, e53⟩
  have H55 := H50.ext e53
  refine rgy (y_not rfl rfl) rfl rfl rfl rfl ?_
  refine ry (y_pick rfl rfl rfl) rfl rfl ?_
  refine ry (y_mov rfl rfl) rfl rfl ?_
  refine rgy (y_mov rfl rfl) rfl rfl rfl rfl ?_
  refine rgy (y_ldb (i := 7) (cs := [_, _, _]) H55 rfl rfl kflaw42_9 rfl rfl) rfl rfl rfl rfl ?_
  refine rg_on rfl rfl rfl (op_call (lIs g15 a h (L) _ _ _ (H55.rdg (i := 6) rfl) ((hr.below H55.base))) rfl kflaw42_11 ⟨rfl, rfl, trivial⟩) rfl ?_
  rintro _ w57 ⟨rfl, e56⟩
  have H58 := H55.ext e56
  refine rgy (y_not rfl rfl) rfl rfl rfl rfl ?_
  refine ry (y_pick rfl rfl rfl) rfl rfl ?_
  refine reg_nil ?_
  refine fn_next ?_
  refine cw_condf rfl ?_
  refine cw_skip ?_
  refine fn_next ?_
  refine cw_seq ?_
  refine cw_reg ?_
  refine ry (y_mov rfl rfl) rfl rfl ?_
  refine ry (y_mov rfl rfl) rfl rfl ?_
  refine ry (y_sub rfl rfl rfl (show _ = (2 : Int) from by decide)) rfl rfl ?_
  refine reg_op (op_call (gQuarter2 g20 a h (q2V (L) a h) 2 _ (H58.rdg (i := 5) rfl) (by decide)) rfl kflaw42_6 ⟨rfl, rfl, trivial⟩) rfl rfl ?_
  rintro _ w60 ⟨g62, bl63, rfl, k59⟩
  have H61 := H58.call k59
  refine ry (y_mov rfl rfl) rfl rfl ?_
  refine ry (y_ext rfl rfl rfl) rfl rfl ?_
  refine ry (y_ext rfl rfl rfl) rfl rfl ?_
  refine ry (y_asg rfl rfl) rfl rfl ?_
  refine ry (y_asg rfl rfl) rfl rfl ?_
  refine reg_nil ?_
  refine fn_next ?_
  refine cw_seq ?_
  refine cw_reg ?_
  refine ry (y_mov rfl rfl) rfl rfl ?_
  refine reg_op (op_call (gMirror g25 a h (miV (L) a h) _ (H61.rdg (i := 5) rfl)) rfl kflaw42_7 ⟨rfl, trivial⟩) rfl rfl ?_
  rintro _ w65 ⟨g67, bl68, rfl, k64⟩
  have H66 := H61.call k64
  refine ry (y_mov rfl rfl) rfl rfl ?_
  refine ry (y_ext rfl rfl rfl) rfl rfl ?_
  refine ry (y_ext rfl rfl rfl) rfl rfl ?_
  refine ry (y_asg rfl rfl) rfl rfl ?_
  refine ry (y_asg rfl rfl) rfl rfl ?_
  refine reg_nil ?_
  refine fn_next ?_
  refine cw_seq ?_
  refine cw_reg ?_
  refine ry (y_mov rfl rfl) rfl rfl ?_
  refine reg_op (op_call (gSwap g30 h a (swV (L) a h) _ (H66.rdg (i := 5) rfl)) rfl kflaw42_8 ⟨rfl, trivial⟩) rfl rfl ?_
  rintro _ w70 ⟨g72, bl73, rfl, k69⟩
  have H71 := H66.call k69
  refine ry (y_mov rfl rfl) rfl rfl ?_
  refine ry (y_ext rfl rfl rfl) rfl rfl ?_
  refine ry (y_ext rfl rfl rfl) rfl rfl ?_
  refine ry (y_asg rfl rfl) rfl rfl ?_
  refine ry (y_asg rfl rfl) rfl rfl ?_
  refine reg_nil ?_
  refine fn_next ?_
  refine cw_seq ?_
  refine cw_reg ?_
  refine ry (y_mov rfl rfl) rfl rfl ?_
  refine reg_op (op_call (gMirror g30 h a (swV (L) a h) _ (H71.rdg (i := 6) rfl)) rfl kflaw42_7 ⟨rfl, trivial⟩) rfl rfl ?_
  rintro _ w75 ⟨g77, bl78, rfl, k74⟩
  have H76 := H71.call k74
  refine ry (y_mov rfl rfl) rfl rfl ?_
  refine ry (y_ext rfl rfl rfl) rfl rfl ?_
  refine ry (y_ext rfl rfl rfl) rfl rfl ?_
  refine ry (y_asg rfl rfl) rfl rfl ?_
  refine ry (y_asg rfl rfl) rfl rfl ?_
  refine reg_nil ?_
  refine fn_next ?_
  refine cw_seq ?_
  refine cw_reg ?_
  refine ry (y_mov rfl rfl) rfl rfl ?_
  refine reg_op (op_call (gQuarter1 g15 a h (L) 1 _ (H76.rdg (i := 10) rfl) (by decide)) rfl kflaw42_6 ⟨rfl, rfl, trivial⟩) rfl rfl ?_
  rintro _ w80 ⟨g82, bl83, rfl, k79⟩
  have H81 := H76.call k79
  refine ry (y_mov rfl rfl) rfl rfl ?_
  refine ry (y_ext rfl rfl rfl) rfl rfl ?_
  refine ry (y_ext rfl rfl rfl) rfl rfl ?_
  refine ry (y_asg rfl rfl) rfl rfl ?_
  refine ry (y_asg rfl rfl) rfl rfl ?_
  refine reg_nil ?_
  refine fn_next ?_
  refine cw_seq ?_
  refine cw_reg ?_
  refine ry (y_mov rfl rfl) rfl rfl ?_
  refine ry (y_eql rfl rfl rfl) rfl rfl ?_
  refine ry (y_mov rfl rfl) rfl rfl ?_
  refine rgy (y_mov rfl rfl) rfl rfl rfl rfl ?_
  refine rgy (y_eql rfl rfl rfl) rfl rfl rfl rfl ?_
  refine ry (y_pick rfl rfl rfl) rfl rfl ?_
  refine ry (y_mov rfl rfl) rfl rfl ?_
  refine rgy (y_mov rfl rfl) rfl rfl rfl rfl ?_
  refine rgy (y_eql rfl rfl rfl) rfl rfl rfl rfl ?_
  refine ry (y_pick rfl rfl rfl) rfl rfl ?_
  refine ry (y_mov rfl rfl) rfl rfl ?_
  refine rgy (y_mov rfl rfl) rfl rfl rfl rfl ?_
  refine rgy (y_eql rfl rfl rfl) rfl rfl rfl rfl ?_
  refine ry (y_pick rfl rfl rfl) rfl rfl ?_
  refine ry (y_mov rfl rfl) rfl rfl ?_
  refine rgy (y_mov rfl rfl) rfl rfl rfl rfl ?_
  refine rgy (y_eql rfl rfl rfl) rfl rfl rfl rfl ?_
  refine ry (y_pick rfl rfl rfl) rfl rfl ?_
  refine ry (y_mov rfl rfl) rfl rfl ?_
  refine rgy (y_mov rfl rfl) rfl rfl rfl rfl ?_
  refine rgy (y_mov rfl rfl) rfl rfl rfl rfl ?_
  refine rg_on rfl rfl rfl (op_call (ret_v (v := .bool true) (gSame g62 a h (q2V (q2V (L) a h) a h) g15 a h (L) _ (H81.rdg (i := 4) rfl) (H81.rdg (i := 11) rfl)) (by rw [decide_eq_true (show _ ∧ _ ∧ _ from ⟨rfl, rfl, q2_q2 hl⟩)])) rfl kflaw42_14 ⟨rfl, rfl, trivial⟩) rfl ?_
  rintro _ w85 ⟨rfl, e84⟩
  have H86 := H81.ext e84
  refine ry (y_pick rfl rfl rfl) rfl rfl ?_
  refine ry (y_mov rfl rfl) rfl rfl ?_
  refine rgy (y_mov rfl rfl) rfl rfl rfl rfl ?_
  refine rgy (y_mov rfl rfl) rfl rfl rfl rfl ?_
  refine rg_on rfl rfl rfl (op_call (ret_v (v := .bool true) (gSame g67 a h (miV (miV (L) a h) a h) g15 a h (L) _ (H86.rdg (i := 3) rfl) (H86.rdg (i := 11) rfl)) (by rw [decide_eq_true (show _ ∧ _ ∧ _ from ⟨rfl, rfl, mi_mi hl⟩)])) rfl kflaw42_14 ⟨rfl, rfl, trivial⟩) rfl ?_
  rintro _ w88 ⟨rfl, e87⟩
  have H89 := H86.ext e87
  refine ry (y_pick rfl rfl rfl) rfl rfl ?_
  refine ry (y_mov rfl rfl) rfl rfl ?_
  refine rgy (y_mov rfl rfl) rfl rfl rfl rfl ?_
  refine rgy (y_mov rfl rfl) rfl rfl rfl rfl ?_
  refine rg_on rfl rfl rfl (op_call (ret_v (v := .bool true) (gSame g72 a h (swV (swV (L) a h) h a) g15 a h (L) _ (H89.rdg (i := 2) rfl) (H89.rdg (i := 11) rfl)) (by rw [decide_eq_true (show _ ∧ _ ∧ _ from ⟨rfl, rfl, sw_sw hl⟩)])) rfl kflaw42_14 ⟨rfl, rfl, trivial⟩) rfl ?_
  rintro _ w91 ⟨rfl, e90⟩
  have H92 := H89.ext e90
  refine ry (y_pick rfl rfl rfl) rfl rfl ?_
  refine ry (y_mov rfl rfl) rfl rfl ?_
  refine rgy (y_mov rfl rfl) rfl rfl rfl rfl ?_
  refine rgy (y_mov rfl rfl) rfl rfl rfl rfl ?_
  refine rg_on rfl rfl rfl (op_call (ret_v (v := .bool true) (gSame g77 h a (miV (swV (L) a h) h a) g82 h a (q1V (L) a h) _ (H92.rdg (i := 1) rfl) (H92.rdg (i := 0) rfl)) (by rw [decide_eq_true (show _ ∧ _ ∧ _ from ⟨rfl, rfl, mi_sw⟩)])) rfl kflaw42_14 ⟨rfl, rfl, trivial⟩) rfl ?_
  rintro _ w94 ⟨rfl, e93⟩
  have H95 := H92.ext e93
  refine ry (y_pick rfl rfl rfl) rfl rfl ?_
  refine ry (y_asg rfl rfl) rfl rfl ?_
  refine reg_nil ?_
  refine fn_next ?_
  refine cw_ret ?_
  refine fn_ret1 rfl rfl ?_
  exact ⟨rfl, H95.base⟩

set_option maxRecDepth 100000 in
set_option maxHeartbeats 2000000 in
theorem turnTurns_3 (a h : Nat) (L : List Int) (A : Option Addr) (cap : Nat) (n : Int) (w : World) (h1 : 1 ≤ a) (h2 : a ≤ 1000) (h3 : 1 ≤ h) (h4 : h ≤ 1000) (h5 : a * h ≤ 1000) (hr : Rd w A (vi .i64 L)) (hl : L.length = a * h) (hb : AllB L) (hn : n % 4 = 3) (ht : n.tmod 4 = 3) :
    Ret Try.prog 10 [.int .i64 (a : Int), .int .i64 (h : Int), .slice A (a * h) cap, .int .i64 n] w (fun z w' => z = .bool true ∧ Below w.heap.size w w') := by
  have s : SzG a h := ⟨h1, by omega, h3, by omega⟩
  refine ret_enter Try.func10 rfl rfl rfl ?_
  have H0 := HS.start w
  refine cw_seq ?_
  refine cw_reg ?_
  refine ry (y_asg rfl rfl) rfl rfl ?_
  refine reg_nil ?_
  refine fn_next ?_
  refine cw_seq ?_
  refine cw_seq ?_
  refine cw_reg ?_
  refine reg_op (op_call (turnAwake _) rfl kflaw42_1 trivial) rfl rfl ?_
  rintro _ w2 ⟨rfl, e1⟩
  have H3 := H0.ext e1
  refine ry (y_not rfl rfl) rfl rfl ?_
  refine reg_nil ?_
  refine fn_next ?_
  refine cw_condf rfl ?_
  refine cw_skip ?_
  refine fn_next ?_
  refine cw_seq ?_
  refine cw_reg ?_
  refine ry (y_mov rfl rfl) rfl rfl ?_
  refine ry (y_mov rfl rfl) rfl rfl ?_
  refine ry (y_mov rfl rfl) rfl rfl ?_
  refine reg_op (op_call (land_ok a h 1000 L A (a * h) cap _ h1 h2 h3 h4 h5 rfl hl hb (by decide) (hr.below H3.base)) rfl kflaw42_2 ⟨rfl, rfl, rfl, rfl, trivial⟩) rfl rfl ?_
  rintro _ w5 ⟨rfl, e4⟩
  have H6 := H3.ext e4
  refine ry (y_mov rfl rfl) rfl rfl ?_
  refine ry (y_ext rfl rfl rfl) rfl rfl ?_
  refine ry (y_ext rfl rfl rfl) rfl rfl ?_
  refine reg_op (op_alloc H6 rfl kflaw42_3) rfl rfl ?_
  rintro _ w8 ⟨b7, rfl, H9⟩
  refine reg_op (op_st (i := 0) (vs := [.int _ _, .int _ _, .slice _ _ _]) H9 rfl rfl rfl rfl rfl kflaw42_4 rfl rfl rfl) rfl rfl ?_
  rintro _ w10 H11
  refine ry (y_asg rfl rfl) rfl rfl ?_
  refine reg_nil ?_
  refine fn_next ?_
  refine cw_seq ?_
  refine cw_seq ?_
  refine cw_reg ?_
  refine ry (y_mov rfl rfl) rfl rfl ?_
  refine ry (y_not rfl rfl) rfl rfl ?_
  refine reg_nil ?_
  refine fn_next ?_
  refine cw_condf rfl ?_
  refine cw_skip ?_
  refine fn_next ?_
  refine cw_seq ?_
  refine cw_reg ?_
  refine ry (y_mov rfl rfl) rfl rfl ?_
  refine ry (y_mov rfl rfl) rfl rfl ?_
  refine ry (y_mov rfl rfl) rfl rfl ?_
  refine reg_op (op_call (made_ok a h L A (a * h) cap _ s hl rfl hb (hr.below H11.base)) rfl kflaw42_5 ⟨rfl, rfl, rfl, trivial⟩) rfl rfl ?_
  rintro _ w13 ⟨g15, bl16, rfl, k12⟩
  have H14 := H11.call k12
  refine ry (y_mov rfl rfl) rfl rfl ?_
  refine ry (y_ext rfl rfl rfl) rfl rfl ?_
  refine ry (y_ext rfl rfl rfl) rfl rfl ?_
  refine ry (y_asg rfl rfl) rfl rfl ?_
  refine ry (y_asg rfl rfl) rfl rfl ?_
  refine reg_nil ?_
  refine fn_next ?_
  refine cw_seq ?_
  refine cw_reg ?_
  refine ry (y_mov rfl rfl) rfl rfl ?_
  refine ry (y_mov rfl rfl) rfl rfl ?_
  refine reg_op (op_call (gQuarter3 g15 a h (L) n _ (H14.rdg (i := 0) rfl) hn) rfl kflaw42_6 ⟨rfl, rfl, trivial⟩) rfl rfl ?_
  rintro _ w18 ⟨g20, bl21, rfl, k17⟩
  have H19 := H14.call k17
  refine ry (y_mov rfl rfl) rfl rfl ?_
  refine ry (y_ext rfl rfl rfl) rfl rfl ?_
  refine ry (y_ext rfl rfl rfl) rfl rfl ?_
  refine ry (y_asg rfl rfl) rfl rfl ?_
  refine ry (y_asg rfl rfl) rfl rfl ?_
  refine reg_nil ?_
  refine fn_next ?_
  refine cw_seq ?_
  refine cw_reg ?_
  refine ry (y_mov rfl rfl) rfl rfl ?_
  refine reg_op (op_call (gMirror g15 a h (L) _ (H19.rdg (i := 1) rfl)) rfl kflaw42_7 ⟨rfl, trivial⟩) rfl rfl ?_
  rintro _ w23 ⟨g25, bl26, rfl, k22⟩
  have H24 := H19.call k22
  refine ry (y_mov rfl rfl) rfl rfl ?_
  refine ry (y_ext rfl rfl rfl) rfl rfl ?_
  refine ry (y_ext rfl rfl rfl) rfl rfl ?_
  refine ry (y_asg rfl rfl) rfl rfl ?_
  refine ry (y_asg rfl rfl) rfl rfl ?_
  refine reg_nil ?_
  refine fn_next ?_
  refine cw_seq ?_
  refine cw_reg ?_
  refine ry (y_mov rfl rfl) rfl rfl ?_
  refine reg_op (op_call (gSwap g15 a h (L) _ (H24.rdg (i := 2) rfl)) rfl kflaw42_8 ⟨rfl, trivial⟩) rfl rfl ?_
  rintro _ w28 ⟨g30, bl31, rfl, k27⟩
  have H29 := H24.call k27
  refine ry (y_mov rfl rfl) rfl rfl ?_
  refine ry (y_ext rfl rfl rfl) rfl rfl ?_
  refine ry (y_ext rfl rfl rfl) rfl rfl ?_
  refine ry (y_asg rfl rfl) rfl rfl ?_
  refine ry (y_asg rfl rfl) rfl rfl ?_
  refine reg_nil ?_
  refine fn_next ?_
  refine cw_seq ?_
  refine cw_seq ?_
  refine cw_reg ?_
  refine ry (y_mov rfl rfl) rfl rfl ?_
  refine ry (y_not rfl rfl) rfl rfl ?_
  refine ry (y_mov rfl rfl) rfl rfl ?_
  refine rgy (y_mov rfl rfl) rfl rfl rfl rfl ?_
  refine rgy (y_neq rfl rfl rfl) rfl rfl rfl rfl ?_
  refine ry (y_pick rfl rfl rfl) rfl rfl ?_
  refine ry (y_mov rfl rfl) rfl rfl ?_
  refine rgy (y_mov rfl rfl) rfl rfl rfl rfl ?_
  refine rgy (y_neq rfl rfl rfl) rfl rfl rfl rfl ?_
  refine ry (y_pick rfl rfl rfl) rfl rfl ?_
  refine ry (y_mov rfl rfl) rfl rfl ?_
  refine rgy (y_mov rfl rfl) rfl rfl rfl rfl ?_
  refine rgy (y_neq rfl rfl rfl) rfl rfl rfl rfl ?_
  refine ry (y_pick rfl rfl rfl) rfl rfl ?_
  refine reg_nil ?_
  refine fn_next ?_
  refine cw_condf rfl ?_
  refine cw_skip ?_
  refine fn_next ?_
  refine cw_seq ?_
  refine cw_reg ?_
  refine ry (y_mov rfl rfl) rfl rfl ?_
  refine ry (y_rem rfl rfl rfl (by decide) (ht)) rfl rfl ?_
  refine ry (y_asg rfl rfl) rfl rfl ?_
  refine reg_nil ?_
  refine fn_next ?_
  refine cw_seq ?_
  refine cw_seq ?_
  refine cw_reg ?_
  refine ry (y_mov rfl rfl) rfl rfl ?_
  refine ry (y_lss rfl rfl rfl) rfl rfl ?_
  refine reg_nil ?_
  refine fn_next ?_
  refine cw_condf rfl ?_
  refine cw_skip ?_
  refine fn_next ?_
  refine cw_seq ?_
  refine cw_seq ?_
  refine cw_reg ?_
  refine ry (y_mov rfl rfl) rfl rfl ?_
  refine ry (y_ldb (i := 4) (cs := [_, _, _]) H29 rfl rfl kflaw42_9 rfl rfl) rfl rfl ?_
  refine ry (y_mov rfl rfl) rfl rfl ?_
  refine reg_op (op_call (mQuarter3 a h A cap L _ s (hr.below H29.base) hl) rfl kflaw42_10 ⟨rfl, rfl, trivial⟩) rfl rfl ?_
  rintro _ w33 ⟨A35, c36, rfl, k32⟩
  have H34 := H29.call k32
  rw [q1_q1 (V := L) (a := a) (h := h), q1_q2] at H34
  refine reg_op (op_call (lIs g20 h a (q3V (L) a h) _ _ _ (H34.rdg (i := 3) rfl) (H34.rd (i := 0) rfl)) rfl kflaw42_11 ⟨rfl, rfl, trivial⟩) rfl rfl ?_
  rintro _ w38 ⟨rfl, e37⟩
  have H39 := H34.ext e37
  refine ry (y_not rfl rfl) rfl rfl ?_
  refine ry (y_mov rfl rfl) rfl rfl ?_
  refine rgy (y_mov rfl rfl) rfl rfl rfl rfl ?_
  refine rgy (y_ldb (i := 5) (cs := [_, _, _]) H39 rfl rfl kflaw42_9 rfl rfl) rfl rfl rfl rfl ?_
  refine rg_on rfl rfl rfl (op_call (mMirror a h A cap L _ s (hr.below H39.base) hl) rfl kflaw42_12 ⟨rfl, trivial⟩) rfl ?_
  rintro _ w41 ⟨A43, c44, rfl, k40⟩
  have H42 := H39.call k40
  refine rg_on rfl rfl rfl (op_call (lIs g25 a h (miV (L) a h) _ _ _ (H42.rdg (i := 3) rfl) (H42.rd (i := 0) rfl)) rfl kflaw42_11 ⟨rfl, rfl, trivial⟩) rfl ?_
  rintro _ w46 ⟨rfl, e45⟩
  have H47 := H42.ext e45
  refine rgy (y_not rfl rfl) rfl rfl rfl rfl ?_
  refine ry (y_pick rfl rfl rfl) rfl rfl ?_
  refine ry (y_mov rfl rfl) rfl rfl ?_
  refine rgy (y_mov rfl rfl) rfl rfl rfl rfl ?_
  refine rgy (y_ldb (i := 6) (cs := [_, _, _]) H47 rfl rfl kflaw42_9 rfl rfl) rfl rfl rfl rfl ?_
  refine rg_on rfl rfl rfl (op_call (mSwap a h A cap L _ s (hr.below H47.base) hl) rfl kflaw42_13 ⟨rfl, trivial⟩) rfl ?_
  rintro _ w49 ⟨A51, c52, rfl, k48⟩
  have H50 := H47.call k48
  refine rg_on rfl rfl rfl (op_call (lIs g30 h a (swV (L) a h) _ _ _ (H50.rdg (i := 3) rfl) (H50.rd (i := 0) rfl)) rfl kflaw42_11 ⟨rfl, rfl, trivial⟩) rfl ?_
  rintro _ w54 ⟨rfl, e53⟩
  have H55 := H50.ext e53
  refine rgy (y_not rfl rfl) rfl rfl rfl rfl ?_
  refine ry (y_pick rfl rfl rfl) rfl rfl ?_
  refine ry (y_mov rfl rfl) rfl rfl ?_
  refine rgy (y_mov rfl rfl) rfl rfl rfl rfl ?_
  refine rgy (y_ldb (i := 7) (cs := [_, _, _]) H55 rfl rfl kflaw42_9 rfl rfl) rfl rfl rfl rfl ?_
  refine rg_on rfl rfl rfl (op_call (lIs g15 a h (L) _ _ _ (H55.rdg (i := 6) rfl) ((hr.below H55.base))) rfl kflaw42_11 ⟨rfl, rfl, trivial⟩) rfl ?_
  rintro _ w57 ⟨rfl, e56⟩
  have H58 := H55.ext e56
  refine rgy (y_not rfl rfl) rfl rfl rfl rfl ?_
  refine ry (y_pick rfl rfl rfl) rfl rfl ?_
  refine reg_nil ?_
  refine fn_next ?_
  refine cw_condf rfl ?_
  refine cw_skip ?_
  refine fn_next ?_
  refine cw_seq ?_
  refine cw_reg ?_
  refine ry (y_mov rfl rfl) rfl rfl ?_
  refine ry (y_mov rfl rfl) rfl rfl ?_
  refine ry (y_sub rfl rfl rfl (show _ = (1 : Int) from by decide)) rfl rfl ?_
  refine reg_op (op_call (gQuarter1 g20 h a (q3V (L) a h) 1 _ (H58.rdg (i := 5) rfl) (by decide)) rfl kflaw42_6 ⟨rfl, rfl, trivial⟩) rfl rfl ?_
  rintro _ w60 ⟨g62, bl63, rfl, k59⟩
  have H61 := H58.call k59
  refine ry (y_mov rfl rfl) rfl rfl ?_
  refine ry (y_ext rfl rfl rfl) rfl rfl ?_
  refine ry (y_ext rfl rfl rfl) rfl rfl ?_
  refine ry (y_asg rfl rfl) rfl rfl ?_
  refine ry (y_asg rfl rfl) rfl rfl ?_
  refine reg_nil ?_
  refine fn_next ?_
  refine cw_seq ?_
  refine cw_reg ?_
  refine ry (y_mov rfl rfl) rfl rfl ?_
  refine reg_op (op_call (gMirror g25 a h (miV (L) a h) _ (H61.rdg (i := 5) rfl)) rfl kflaw42_7 ⟨rfl, trivial⟩) rfl rfl ?_
  rintro _ w65 ⟨g67, bl68, rfl, k64⟩
  have H66 := H61.call k64
  refine ry (y_mov rfl rfl) rfl rfl ?_
  refine ry (y_ext rfl rfl rfl) rfl rfl ?_
  refine ry (y_ext rfl rfl rfl) rfl rfl ?_
  refine ry (y_asg rfl rfl) rfl rfl ?_
  refine ry (y_asg rfl rfl) rfl rfl ?_
  refine reg_nil ?_
  refine fn_next ?_
  refine cw_seq ?_
  refine cw_reg ?_
  refine ry (y_mov rfl rfl) rfl rfl ?_
  refine reg_op (op_call (gSwap g30 h a (swV (L) a h) _ (H66.rdg (i := 5) rfl)) rfl kflaw42_8 ⟨rfl, trivial⟩) rfl rfl ?_
  rintro _ w70 ⟨g72, bl73, rfl, k69⟩
  have H71 := H66.call k69
  refine ry (y_mov rfl rfl) rfl rfl ?_
  refine ry (y_ext rfl rfl rfl) rfl rfl ?_
  refine ry (y_ext rfl rfl rfl) rfl rfl ?_
  refine ry (y_asg rfl rfl) rfl rfl ?_
  refine ry (y_asg rfl rfl) rfl rfl ?_
  refine reg_nil ?_
  refine fn_next ?_
  refine cw_seq ?_
  refine cw_reg ?_
  refine ry (y_mov rfl rfl) rfl rfl ?_
  refine reg_op (op_call (gMirror g30 h a (swV (L) a h) _ (H71.rdg (i := 6) rfl)) rfl kflaw42_7 ⟨rfl, trivial⟩) rfl rfl ?_
  rintro _ w75 ⟨g77, bl78, rfl, k74⟩
  have H76 := H71.call k74
  refine ry (y_mov rfl rfl) rfl rfl ?_
  refine ry (y_ext rfl rfl rfl) rfl rfl ?_
  refine ry (y_ext rfl rfl rfl) rfl rfl ?_
  refine ry (y_asg rfl rfl) rfl rfl ?_
  refine ry (y_asg rfl rfl) rfl rfl ?_
  refine reg_nil ?_
  refine fn_next ?_
  refine cw_seq ?_
  refine cw_reg ?_
  refine ry (y_mov rfl rfl) rfl rfl ?_
  refine reg_op (op_call (gQuarter1 g15 a h (L) 1 _ (H76.rdg (i := 10) rfl) (by decide)) rfl kflaw42_6 ⟨rfl, rfl, trivial⟩) rfl rfl ?_
  rintro _ w80 ⟨g82, bl83, rfl, k79⟩
  have H81 := H76.call k79
  refine ry (y_mov rfl rfl) rfl rfl ?_
  refine ry (y_ext rfl rfl rfl) rfl rfl ?_
  refine ry (y_ext rfl rfl rfl) rfl rfl ?_
  refine ry (y_asg rfl rfl) rfl rfl ?_
  refine ry (y_asg rfl rfl) rfl rfl ?_
  refine reg_nil ?_
  refine fn_next ?_
  refine cw_seq ?_
  refine cw_reg ?_
  refine ry (y_mov rfl rfl) rfl rfl ?_
  refine ry (y_eql rfl rfl rfl) rfl rfl ?_
  refine ry (y_mov rfl rfl) rfl rfl ?_
  refine rgy (y_mov rfl rfl) rfl rfl rfl rfl ?_
  refine rgy (y_eql rfl rfl rfl) rfl rfl rfl rfl ?_
  refine ry (y_pick rfl rfl rfl) rfl rfl ?_
  refine ry (y_mov rfl rfl) rfl rfl ?_
  refine rgy (y_mov rfl rfl) rfl rfl rfl rfl ?_
  refine rgy (y_eql rfl rfl rfl) rfl rfl rfl rfl ?_
  refine ry (y_pick rfl rfl rfl) rfl rfl ?_
  refine ry (y_mov rfl rfl) rfl rfl ?_
  refine rgy (y_mov rfl rfl) rfl rfl rfl rfl ?_
  refine rgy (y_eql rfl rfl rfl) rfl rfl rfl rfl ?_
  refine ry (y_pick rfl rfl rfl) rfl rfl ?_
  refine ry (y_mov rfl rfl) rfl rfl ?_
  refine rgy (y_mov rfl rfl) rfl rfl rfl rfl ?_
  refine rgy (y_eql rfl rfl rfl) rfl rfl rfl rfl ?_
  refine ry (y_pick rfl rfl rfl) rfl rfl ?_
  refine ry (y_mov rfl rfl) rfl rfl ?_
  refine rgy (y_mov rfl rfl) rfl rfl rfl rfl ?_
  refine rgy (y_mov rfl rfl) rfl rfl rfl rfl ?_
  refine rg_on rfl rfl rfl (op_call (ret_v (v := .bool true) (gSame g62 a h (q1V (q3V (L) a h) h a) g15 a h (L) _ (H81.rdg (i := 4) rfl) (H81.rdg (i := 11) rfl)) (by rw [decide_eq_true (show _ ∧ _ ∧ _ from ⟨rfl, rfl, q1_q3 hl⟩)])) rfl kflaw42_14 ⟨rfl, rfl, trivial⟩) rfl ?_
  rintro _ w85 ⟨rfl, e84⟩
  have H86 := H81.ext e84
  refine ry (y_pick rfl rfl rfl) rfl rfl ?_
  refine ry (y_mov rfl rfl) rfl rfl ?_
  refine rgy (y_mov rfl rfl) rfl rfl rfl rfl ?_
  refine rgy (y_mov rfl rfl) rfl rfl rfl rfl ?_
  refine rg_on rfl rfl rfl (op_call (ret_v (v := .bool true) (gSame g67 a h (miV (miV (L) a h) a h) g15 a h (L) _ (H86.rdg (i := 3) rfl) (H86.rdg (i := 11) rfl)) (by rw [decide_eq_true (show _ ∧ _ ∧ _ from ⟨rfl, rfl, mi_mi hl⟩)])) rfl kflaw42_14 ⟨rfl, rfl, trivial⟩) rfl ?_
  rintro _ w88 ⟨rfl, e87⟩
  have H89 := H86.ext e87
  refine ry (y_pick rfl rfl rfl) rfl rfl ?_
  refine ry (y_mov rfl rfl) rfl rfl ?_
  refine rgy (y_mov rfl rfl) rfl rfl rfl rfl ?_
  refine rgy (y_mov rfl rfl) rfl rfl rfl rfl ?_
  refine rg_on rfl rfl rfl (op_call (ret_v (v := .bool true) (gSame g72 a h (swV (swV (L) a h) h a) g15 a h (L) _ (H89.rdg (i := 2) rfl) (H89.rdg (i := 11) rfl)) (by rw [decide_eq_true (show _ ∧ _ ∧ _ from ⟨rfl, rfl, sw_sw hl⟩)])) rfl kflaw42_14 ⟨rfl, rfl, trivial⟩) rfl ?_
  rintro _ w91 ⟨rfl, e90⟩
  have H92 := H89.ext e90
  refine ry (y_pick rfl rfl rfl) rfl rfl ?_
  refine ry (y_mov rfl rfl) rfl rfl ?_
  refine rgy (y_mov rfl rfl) rfl rfl rfl rfl ?_
  refine rgy (y_mov rfl rfl) rfl rfl rfl rfl ?_
  refine rg_on rfl rfl rfl (op_call (ret_v (v := .bool true) (gSame g77 h a (miV (swV (L) a h) h a) g82 h a (q1V (L) a h) _ (H92.rdg (i := 1) rfl) (H92.rdg (i := 0) rfl)) (by rw [decide_eq_true (show _ ∧ _ ∧ _ from ⟨rfl, rfl, mi_sw⟩)])) rfl kflaw42_14 ⟨rfl, rfl, trivial⟩) rfl ?_
  rintro _ w94 ⟨rfl, e93⟩
  have H95 := H92.ext e93
  refine ry (y_pick rfl rfl rfl) rfl rfl ?_
  refine ry (y_asg rfl rfl) rfl rfl ?_
  refine reg_nil ?_
  refine fn_next ?_
  refine cw_ret ?_
  refine fn_ret1 rfl rfl ?_
  exact ⟨rfl, H95.base⟩

set_option maxRecDepth 100000 in
set_option maxHeartbeats 2000000 in
theorem turnTurns_m1 (a h : Nat) (L : List Int) (A : Option Addr) (cap : Nat) (n : Int) (w : World) (h1 : 1 ≤ a) (h2 : a ≤ 1000) (h3 : 1 ≤ h) (h4 : h ≤ 1000) (h5 : a * h ≤ 1000) (hr : Rd w A (vi .i64 L)) (hl : L.length = a * h) (hb : AllB L) (hn : n % 4 = 3) (ht : n.tmod 4 = -1) :
    Ret Try.prog 10 [.int .i64 (a : Int), .int .i64 (h : Int), .slice A (a * h) cap, .int .i64 n] w (fun z w' => z = .bool true ∧ Below w.heap.size w w') := by
  have s : SzG a h := ⟨h1, by omega, h3, by omega⟩
  refine ret_enter Try.func10 rfl rfl rfl ?_
  have H0 := HS.start w
  refine cw_seq ?_
  refine cw_reg ?_
  refine ry (y_asg rfl rfl) rfl rfl ?_
  refine reg_nil ?_
  refine fn_next ?_
  refine cw_seq ?_
  refine cw_seq ?_
  refine cw_reg ?_
  refine reg_op (op_call (turnAwake _) rfl kflaw42_1 trivial) rfl rfl ?_
  rintro _ w2 ⟨rfl, e1⟩
  have H3 := H0.ext e1
  refine ry (y_not rfl rfl) rfl rfl ?_
  refine reg_nil ?_
  refine fn_next ?_
  refine cw_condf rfl ?_
  refine cw_skip ?_
  refine fn_next ?_
  refine cw_seq ?_
  refine cw_reg ?_
  refine ry (y_mov rfl rfl) rfl rfl ?_
  refine ry (y_mov rfl rfl) rfl rfl ?_
  refine ry (y_mov rfl rfl) rfl rfl ?_
  refine reg_op (op_call (land_ok a h 1000 L A (a * h) cap _ h1 h2 h3 h4 h5 rfl hl hb (by decide) (hr.below H3.base)) rfl kflaw42_2 ⟨rfl, rfl, rfl, rfl, trivial⟩) rfl rfl ?_
  rintro _ w5 ⟨rfl, e4⟩
  have H6 := H3.ext e4
  refine ry (y_mov rfl rfl) rfl rfl ?_
  refine ry (y_ext rfl rfl rfl) rfl rfl ?_
  refine ry (y_ext rfl rfl rfl) rfl rfl ?_
  refine reg_op (op_alloc H6 rfl kflaw42_3) rfl rfl ?_
  rintro _ w8 ⟨b7, rfl, H9⟩
  refine reg_op (op_st (i := 0) (vs := [.int _ _, .int _ _, .slice _ _ _]) H9 rfl rfl rfl rfl rfl kflaw42_4 rfl rfl rfl) rfl rfl ?_
  rintro _ w10 H11
  refine ry (y_asg rfl rfl) rfl rfl ?_
  refine reg_nil ?_
  refine fn_next ?_
  refine cw_seq ?_
  refine cw_seq ?_
  refine cw_reg ?_
  refine ry (y_mov rfl rfl) rfl rfl ?_
  refine ry (y_not rfl rfl) rfl rfl ?_
  refine reg_nil ?_
  refine fn_next ?_
  refine cw_condf rfl ?_
  refine cw_skip ?_
  refine fn_next ?_
  refine cw_seq ?_
  refine cw_reg ?_
  refine ry (y_mov rfl rfl) rfl rfl ?_
  refine ry (y_mov rfl rfl) rfl rfl ?_
  refine ry (y_mov rfl rfl) rfl rfl ?_
  refine reg_op (op_call (made_ok a h L A (a * h) cap _ s hl rfl hb (hr.below H11.base)) rfl kflaw42_5 ⟨rfl, rfl, rfl, trivial⟩) rfl rfl ?_
  rintro _ w13 ⟨g15, bl16, rfl, k12⟩
  have H14 := H11.call k12
  refine ry (y_mov rfl rfl) rfl rfl ?_
  refine ry (y_ext rfl rfl rfl) rfl rfl ?_
  refine ry (y_ext rfl rfl rfl) rfl rfl ?_
  refine ry (y_asg rfl rfl) rfl rfl ?_
  refine ry (y_asg rfl rfl) rfl rfl ?_
  refine reg_nil ?_
  refine fn_next ?_
  refine cw_seq ?_
  refine cw_reg ?_
  refine ry (y_mov rfl rfl) rfl rfl ?_
  refine ry (y_mov rfl rfl) rfl rfl ?_
  refine reg_op (op_call (gQuarter3 g15 a h (L) n _ (H14.rdg (i := 0) rfl) hn) rfl kflaw42_6 ⟨rfl, rfl, trivial⟩) rfl rfl ?_
  rintro _ w18 ⟨g20, bl21, rfl, k17⟩
  have H19 := H14.call k17
  refine ry (y_mov rfl rfl) rfl rfl ?_
  refine ry (y_ext rfl rfl rfl) rfl rfl ?_
  refine ry (y_ext rfl rfl rfl) rfl rfl ?_
  refine ry (y_asg rfl rfl) rfl rfl ?_
  refine ry (y_asg rfl rfl) rfl rfl ?_
  refine reg_nil ?_
  refine fn_next ?_
  refine cw_seq ?_
  refine cw_reg ?_
  refine ry (y_mov rfl rfl) rfl rfl ?_
  refine reg_op (op_call (gMirror g15 a h (L) _ (H19.rdg (i := 1) rfl)) rfl kflaw42_7 ⟨rfl, trivial⟩) rfl rfl ?_
  rintro _ w23 ⟨g25, bl26, rfl, k22⟩
  have H24 := H19.call k22
  refine ry (y_mov rfl rfl) rfl rfl ?_
  refine ry (y_ext rfl rfl rfl) rfl rfl ?_
  refine ry (y_ext rfl rfl rfl) rfl rfl ?_
  refine ry (y_asg rfl rfl) rfl rfl ?_
  refine ry (y_asg rfl rfl) rfl rfl ?_
  refine reg_nil ?_
  refine fn_next ?_
  refine cw_seq ?_
  refine cw_reg ?_
  refine ry (y_mov rfl rfl) rfl rfl ?_
  refine reg_op (op_call (gSwap g15 a h (L) _ (H24.rdg (i := 2) rfl)) rfl kflaw42_8 ⟨rfl, trivial⟩) rfl rfl ?_
  rintro _ w28 ⟨g30, bl31, rfl, k27⟩
  have H29 := H24.call k27
  refine ry (y_mov rfl rfl) rfl rfl ?_
  refine ry (y_ext rfl rfl rfl) rfl rfl ?_
  refine ry (y_ext rfl rfl rfl) rfl rfl ?_
  refine ry (y_asg rfl rfl) rfl rfl ?_
  refine ry (y_asg rfl rfl) rfl rfl ?_
  refine reg_nil ?_
  refine fn_next ?_
  refine cw_seq ?_
  refine cw_seq ?_
  refine cw_reg ?_
  refine ry (y_mov rfl rfl) rfl rfl ?_
  refine ry (y_not rfl rfl) rfl rfl ?_
  refine ry (y_mov rfl rfl) rfl rfl ?_
  refine rgy (y_mov rfl rfl) rfl rfl rfl rfl ?_
  refine rgy (y_neq rfl rfl rfl) rfl rfl rfl rfl ?_
  refine ry (y_pick rfl rfl rfl) rfl rfl ?_
  refine ry (y_mov rfl rfl) rfl rfl ?_
  refine rgy (y_mov rfl rfl) rfl rfl rfl rfl ?_
  refine rgy (y_neq rfl rfl rfl) rfl rfl rfl rfl ?_
  refine ry (y_pick rfl rfl rfl) rfl rfl ?_
  refine ry (y_mov rfl rfl) rfl rfl ?_
  refine rgy (y_mov rfl rfl) rfl rfl rfl rfl ?_
  refine rgy (y_neq rfl rfl rfl) rfl rfl rfl rfl ?_
  refine ry (y_pick rfl rfl rfl) rfl rfl ?_
  refine reg_nil ?_
  refine fn_next ?_
  refine cw_condf rfl ?_
  refine cw_skip ?_
  refine fn_next ?_
  refine cw_seq ?_
  refine cw_reg ?_
  refine ry (y_mov rfl rfl) rfl rfl ?_
  refine ry (y_rem rfl rfl rfl (by decide) (ht)) rfl rfl ?_
  refine ry (y_asg rfl rfl) rfl rfl ?_
  refine reg_nil ?_
  refine fn_next ?_
  refine cw_seq ?_
  refine cw_seq ?_
  refine cw_reg ?_
  refine ry (y_mov rfl rfl) rfl rfl ?_
  refine ry (y_lss rfl rfl rfl) rfl rfl ?_
  refine reg_nil ?_
  refine fn_next ?_
  refine cw_condt rfl ?_
  refine cw_reg ?_
  refine ry (y_mov rfl rfl) rfl rfl ?_
  refine ry (y_add rfl rfl rfl (show _ = (3 : Int) from by decide)) rfl rfl ?_
  refine ry (y_asg rfl rfl) rfl rfl ?_
  refine reg_nil ?_
  refine fn_next ?_
  refine cw_seq ?_
  refine cw_seq ?_
  refine cw_reg ?_
  refine ry (y_mov rfl rfl) rfl rfl ?_
  refine ry (y_ldb (i := 4) (cs := [_, _, _]) H29 rfl rfl kflaw42_9 rfl rfl) rfl rfl ?_
  refine ry (y_mov rfl rfl) rfl rfl ?_
  refine reg_op (op_call (mQuarter3 a h A cap L _ s (hr.below H29.base) hl) rfl kflaw42_10 ⟨rfl, rfl, trivial⟩) rfl rfl ?_
  rintro _ w33 ⟨A35, c36, rfl, k32⟩
  have H34 := H29.call k32
  rw [q1_q1 (V := L) (a := a) (h := h), q1_q2] at H34
  refine reg_op (op_call (lIs g20 h a (q3V (L) a h) _ _ _ (H34.rdg (i := 3) rfl) (H34.rd (i := 0) rfl)) rfl kflaw42_11 ⟨rfl, rfl, trivial⟩) rfl rfl ?_
  rintro _ w38 ⟨rfl, e37⟩
  have H39 := H34.ext e37
  refine ry (y_not rfl rfl) rfl rfl ?_
  refine ry (y_mov rfl rfl) rfl rfl ?_
  refine rgy (y_mov rfl rfl) rfl rfl rfl rfl ?_
  refine rgy (y_ldb (i := 5) (cs := [_, _, _]) H39 rfl rfl kflaw42_9 rfl rfl) rfl rfl rfl rfl ?_
  refine rg_on rfl rfl rfl (op_call (mMirror a h A cap L _ s (hr.below H39.base) hl) rfl kflaw42_12 ⟨rfl, trivial⟩) rfl ?_
  rintro _ w41 ⟨A43, c44, rfl, k40⟩
  have H42 := H39.call k40
  refine rg_on rfl rfl rfl (op_call (lIs g25 a h (miV (L) a h) _ _ _ (H42.rdg (i := 3) rfl) (H42.rd (i := 0) rfl)) rfl kflaw42_11 ⟨rfl, rfl, trivial⟩) rfl ?_
  rintro _ w46 ⟨rfl, e45⟩
  have H47 := H42.ext e45
  refine rgy (y_not rfl rfl) rfl rfl rfl rfl ?_
  refine ry (y_pick rfl rfl rfl) rfl rfl ?_
  refine ry (y_mov rfl rfl) rfl rfl ?_
  refine rgy (y_mov rfl rfl) rfl rfl rfl rfl ?_
  refine rgy (y_ldb (i := 6) (cs := [_, _, _]) H47 rfl rfl kflaw42_9 rfl rfl) rfl rfl rfl rfl ?_
  refine rg_on rfl rfl rfl (op_call (mSwap a h A cap L _ s (hr.below H47.base) hl) rfl kflaw42_13 ⟨rfl, trivial⟩) rfl ?_
  rintro _ w49 ⟨A51, c52, rfl, k48⟩
  have H50 := H47.call k48
  refine rg_on rfl rfl rfl (op_call (lIs g30 h a (swV (L) a h) _ _ _ (H50.rdg (i := 3) rfl) (H50.rd (i := 0) rfl)) rfl kflaw42_11 ⟨rfl, rfl, trivial⟩) rfl ?_
  rintro _ w54 ⟨rfl, e53⟩
  have H55 := H50.ext e53
  refine rgy (y_not rfl rfl) rfl rfl rfl rfl ?_
  refine ry (y_pick rfl rfl rfl) rfl rfl ?_
  refine ry (y_mov rfl rfl) rfl rfl ?_
  refine rgy (y_mov rfl rfl) rfl rfl rfl rfl ?_
  refine rgy (y_ldb (i := 7) (cs := [_, _, _]) H55 rfl rfl kflaw42_9 rfl rfl) rfl rfl rfl rfl ?_
  refine rg_on rfl rfl rfl (op_call (lIs g15 a h (L) _ _ _ (H55.rdg (i := 6) rfl) ((hr.below H55.base))) rfl kflaw42_11 ⟨rfl, rfl, trivial⟩) rfl ?_
  rintro _ w57 ⟨rfl, e56⟩
  have H58 := H55.ext e56
  refine rgy (y_not rfl rfl) rfl rfl rfl rfl ?_
  refine ry (y_pick rfl rfl rfl) rfl rfl ?_
  refine reg_nil ?_
  refine fn_next ?_
  refine cw_condf rfl ?_
  refine cw_skip ?_
  refine fn_next ?_
  refine cw_seq ?_
  refine cw_reg ?_
  refine ry (y_mov rfl rfl) rfl rfl ?_
  refine ry (y_mov rfl rfl) rfl rfl ?_
  refine ry (y_sub rfl rfl rfl (show _ = (1 : Int) from by decide)) rfl rfl ?_
  refine reg_op (op_call (gQuarter1 g20 h a (q3V (L) a h) 1 _ (H58.rdg (i := 5) rfl) (by decide)) rfl kflaw42_6 ⟨rfl, rfl, trivial⟩) rfl rfl ?_
  rintro _ w60 ⟨g62, bl63, rfl, k59⟩
  have H61 := H58.call k59
  refine ry (y_mov rfl rfl) rfl rfl ?_
  refine ry (y_ext rfl rfl rfl) rfl rfl ?_
  refine ry (y_ext rfl rfl rfl) rfl rfl ?_
  refine ry (y_asg rfl rfl) rfl rfl ?_
  refine ry (y_asg rfl rfl) rfl rfl ?_
  refine reg_nil ?_
  refine fn_next ?_
  refine cw_seq ?_
  refine cw_reg ?_
  refine ry (y_mov rfl rfl) rfl rfl ?_
  refine reg_op (op_call (gMirror g25 a h (miV (L) a h) _ (H61.rdg (i := 5) rfl)) rfl kflaw42_7 ⟨rfl, trivial⟩) rfl rfl ?_
  rintro _ w65 ⟨g67, bl68, rfl, k64⟩
  have H66 := H61.call k64
  refine ry (y_mov rfl rfl) rfl rfl ?_
  refine ry (y_ext rfl rfl rfl) rfl rfl ?_
  refine ry (y_ext rfl rfl rfl) rfl rfl ?_
  refine ry (y_asg rfl rfl) rfl rfl ?_
  refine ry (y_asg rfl rfl) rfl rfl ?_
  refine reg_nil ?_
  refine fn_next ?_
  refine cw_seq ?_
  refine cw_reg ?_
  refine ry (y_mov rfl rfl) rfl rfl ?_
  refine reg_op (op_call (gSwap g30 h a (swV (L) a h) _ (H66.rdg (i := 5) rfl)) rfl kflaw42_8 ⟨rfl, trivial⟩) rfl rfl ?_
  rintro _ w70 ⟨g72, bl73, rfl, k69⟩
  have H71 := H66.call k69
  refine ry (y_mov rfl rfl) rfl rfl ?_
  refine ry (y_ext rfl rfl rfl) rfl rfl ?_
  refine ry (y_ext rfl rfl rfl) rfl rfl ?_
  refine ry (y_asg rfl rfl) rfl rfl ?_
  refine ry (y_asg rfl rfl) rfl rfl ?_
  refine reg_nil ?_
  refine fn_next ?_
  refine cw_seq ?_
  refine cw_reg ?_
  refine ry (y_mov rfl rfl) rfl rfl ?_
  refine reg_op (op_call (gMirror g30 h a (swV (L) a h) _ (H71.rdg (i := 6) rfl)) rfl kflaw42_7 ⟨rfl, trivial⟩) rfl rfl ?_
  rintro _ w75 ⟨g77, bl78, rfl, k74⟩
  have H76 := H71.call k74
  refine ry (y_mov rfl rfl) rfl rfl ?_
  refine ry (y_ext rfl rfl rfl) rfl rfl ?_
  refine ry (y_ext rfl rfl rfl) rfl rfl ?_
  refine ry (y_asg rfl rfl) rfl rfl ?_
  refine ry (y_asg rfl rfl) rfl rfl ?_
  refine reg_nil ?_
  refine fn_next ?_
  refine cw_seq ?_
  refine cw_reg ?_
  refine ry (y_mov rfl rfl) rfl rfl ?_
  refine reg_op (op_call (gQuarter1 g15 a h (L) 1 _ (H76.rdg (i := 10) rfl) (by decide)) rfl kflaw42_6 ⟨rfl, rfl, trivial⟩) rfl rfl ?_
  rintro _ w80 ⟨g82, bl83, rfl, k79⟩
  have H81 := H76.call k79
  refine ry (y_mov rfl rfl) rfl rfl ?_
  refine ry (y_ext rfl rfl rfl) rfl rfl ?_
  refine ry (y_ext rfl rfl rfl) rfl rfl ?_
  refine ry (y_asg rfl rfl) rfl rfl ?_
  refine ry (y_asg rfl rfl) rfl rfl ?_
  refine reg_nil ?_
  refine fn_next ?_
  refine cw_seq ?_
  refine cw_reg ?_
  refine ry (y_mov rfl rfl) rfl rfl ?_
  refine ry (y_eql rfl rfl rfl) rfl rfl ?_
  refine ry (y_mov rfl rfl) rfl rfl ?_
  refine rgy (y_mov rfl rfl) rfl rfl rfl rfl ?_
  refine rgy (y_eql rfl rfl rfl) rfl rfl rfl rfl ?_
  refine ry (y_pick rfl rfl rfl) rfl rfl ?_
  refine ry (y_mov rfl rfl) rfl rfl ?_
  refine rgy (y_mov rfl rfl) rfl rfl rfl rfl ?_
  refine rgy (y_eql rfl rfl rfl) rfl rfl rfl rfl ?_
  refine ry (y_pick rfl rfl rfl) rfl rfl ?_
  refine ry (y_mov rfl rfl) rfl rfl ?_
  refine rgy (y_mov rfl rfl) rfl rfl rfl rfl ?_
  refine rgy (y_eql rfl rfl rfl) rfl rfl rfl rfl ?_
  refine ry (y_pick rfl rfl rfl) rfl rfl ?_
  refine ry (y_mov rfl rfl) rfl rfl ?_
  refine rgy (y_mov rfl rfl) rfl rfl rfl rfl ?_
  refine rgy (y_eql rfl rfl rfl) rfl rfl rfl rfl ?_
  refine ry (y_pick rfl rfl rfl) rfl rfl ?_
  refine ry (y_mov rfl rfl) rfl rfl ?_
  refine rgy (y_mov rfl rfl) rfl rfl rfl rfl ?_
  refine rgy (y_mov rfl rfl) rfl rfl rfl rfl ?_
  refine rg_on rfl rfl rfl (op_call (ret_v (v := .bool true) (gSame g62 a h (q1V (q3V (L) a h) h a) g15 a h (L) _ (H81.rdg (i := 4) rfl) (H81.rdg (i := 11) rfl)) (by rw [decide_eq_true (show _ ∧ _ ∧ _ from ⟨rfl, rfl, q1_q3 hl⟩)])) rfl kflaw42_14 ⟨rfl, rfl, trivial⟩) rfl ?_
  rintro _ w85 ⟨rfl, e84⟩
  have H86 := H81.ext e84
  refine ry (y_pick rfl rfl rfl) rfl rfl ?_
  refine ry (y_mov rfl rfl) rfl rfl ?_
  refine rgy (y_mov rfl rfl) rfl rfl rfl rfl ?_
  refine rgy (y_mov rfl rfl) rfl rfl rfl rfl ?_
  refine rg_on rfl rfl rfl (op_call (ret_v (v := .bool true) (gSame g67 a h (miV (miV (L) a h) a h) g15 a h (L) _ (H86.rdg (i := 3) rfl) (H86.rdg (i := 11) rfl)) (by rw [decide_eq_true (show _ ∧ _ ∧ _ from ⟨rfl, rfl, mi_mi hl⟩)])) rfl kflaw42_14 ⟨rfl, rfl, trivial⟩) rfl ?_
  rintro _ w88 ⟨rfl, e87⟩
  have H89 := H86.ext e87
  refine ry (y_pick rfl rfl rfl) rfl rfl ?_
  refine ry (y_mov rfl rfl) rfl rfl ?_
  refine rgy (y_mov rfl rfl) rfl rfl rfl rfl ?_
  refine rgy (y_mov rfl rfl) rfl rfl rfl rfl ?_
  refine rg_on rfl rfl rfl (op_call (ret_v (v := .bool true) (gSame g72 a h (swV (swV (L) a h) h a) g15 a h (L) _ (H89.rdg (i := 2) rfl) (H89.rdg (i := 11) rfl)) (by rw [decide_eq_true (show _ ∧ _ ∧ _ from ⟨rfl, rfl, sw_sw hl⟩)])) rfl kflaw42_14 ⟨rfl, rfl, trivial⟩) rfl ?_
  rintro _ w91 ⟨rfl, e90⟩
  have H92 := H89.ext e90
  refine ry (y_pick rfl rfl rfl) rfl rfl ?_
  refine ry (y_mov rfl rfl) rfl rfl ?_
  refine rgy (y_mov rfl rfl) rfl rfl rfl rfl ?_
  refine rgy (y_mov rfl rfl) rfl rfl rfl rfl ?_
  refine rg_on rfl rfl rfl (op_call (ret_v (v := .bool true) (gSame g77 h a (miV (swV (L) a h) h a) g82 h a (q1V (L) a h) _ (H92.rdg (i := 1) rfl) (H92.rdg (i := 0) rfl)) (by rw [decide_eq_true (show _ ∧ _ ∧ _ from ⟨rfl, rfl, mi_sw⟩)])) rfl kflaw42_14 ⟨rfl, rfl, trivial⟩) rfl ?_
  rintro _ w94 ⟨rfl, e93⟩
  have H95 := H92.ext e93
  refine ry (y_pick rfl rfl rfl) rfl rfl ?_
  refine ry (y_asg rfl rfl) rfl rfl ?_
  refine reg_nil ?_
  refine fn_next ?_
  refine cw_ret ?_
  refine fn_ret1 rfl rfl ?_
  exact ⟨rfl, H95.base⟩

set_option maxRecDepth 100000 in
set_option maxHeartbeats 2000000 in
theorem turnTurns_m2 (a h : Nat) (L : List Int) (A : Option Addr) (cap : Nat) (n : Int) (w : World) (h1 : 1 ≤ a) (h2 : a ≤ 1000) (h3 : 1 ≤ h) (h4 : h ≤ 1000) (h5 : a * h ≤ 1000) (hr : Rd w A (vi .i64 L)) (hl : L.length = a * h) (hb : AllB L) (hn : n % 4 = 2) (ht : n.tmod 4 = -2) :
    Ret Try.prog 10 [.int .i64 (a : Int), .int .i64 (h : Int), .slice A (a * h) cap, .int .i64 n] w (fun z w' => z = .bool true ∧ Below w.heap.size w w') := by
  have s : SzG a h := ⟨h1, by omega, h3, by omega⟩
  refine ret_enter Try.func10 rfl rfl rfl ?_
  have H0 := HS.start w
  refine cw_seq ?_
  refine cw_reg ?_
  refine ry (y_asg rfl rfl) rfl rfl ?_
  refine reg_nil ?_
  refine fn_next ?_
  refine cw_seq ?_
  refine cw_seq ?_
  refine cw_reg ?_
  refine reg_op (op_call (turnAwake _) rfl kflaw42_1 trivial) rfl rfl ?_
  rintro _ w2 ⟨rfl, e1⟩
  have H3 := H0.ext e1
  refine ry (y_not rfl rfl) rfl rfl ?_
  refine reg_nil ?_
  refine fn_next ?_
  refine cw_condf rfl ?_
  refine cw_skip ?_
  refine fn_next ?_
  refine cw_seq ?_
  refine cw_reg ?_
  refine ry (y_mov rfl rfl) rfl rfl ?_
  refine ry (y_mov rfl rfl) rfl rfl ?_
  refine ry (y_mov rfl rfl) rfl rfl ?_
  refine reg_op (op_call (land_ok a h 1000 L A (a * h) cap _ h1 h2 h3 h4 h5 rfl hl hb (by decide) (hr.below H3.base)) rfl kflaw42_2 ⟨rfl, rfl, rfl, rfl, trivial⟩) rfl rfl ?_
  rintro _ w5 ⟨rfl, e4⟩
  have H6 := H3.ext e4
  refine ry (y_mov rfl rfl) rfl rfl ?_
  refine ry (y_ext rfl rfl rfl) rfl rfl ?_
  refine ry (y_ext rfl rfl rfl) rfl rfl ?_
  refine reg_op (op_alloc H6 rfl kflaw42_3) rfl rfl ?_
  rintro _ w8 ⟨b7, rfl, H9⟩
  refine reg_op (op_st (i := 0) (vs := [.int _ _, .int _ _, .slice _ _ _]) H9 rfl rfl rfl rfl rfl kflaw42_4 rfl rfl rfl) rfl rfl ?_
  rintro _ w10 H11
  refine ry (y_asg rfl rfl) rfl rfl ?_
  refine reg_nil ?_
  refine fn_next ?_
  refine cw_seq ?_
  refine cw_seq ?_
  refine cw_reg ?_
  refine ry (y_mov rfl rfl) rfl rfl ?_
  refine ry (y_not rfl rfl) rfl rfl ?_
  refine reg_nil ?_
  refine fn_next ?_
  refine cw_condf rfl ?_
  refine cw_skip ?_
  refine fn_next ?_
  refine cw_seq ?_
  refine cw_reg ?_
  refine ry (y_mov rfl rfl) rfl rfl ?_
  refine ry (y_mov rfl rfl) rfl rfl ?_
  refine ry (y_mov rfl rfl) rfl rfl ?_
  refine reg_op (op_call (made_ok a h L A (a * h) cap _ s hl rfl hb (hr.below H11.base)) rfl kflaw42_5 ⟨rfl, rfl, rfl, trivial⟩) rfl rfl ?_
  rintro _ w13 ⟨g15, bl16, rfl, k12⟩
  have H14 := H11.call k12
  refine ry (y_mov rfl rfl) rfl rfl ?_
  refine ry (y_ext rfl rfl rfl) rfl rfl ?_
  refine ry (y_ext rfl rfl rfl) rfl rfl ?_
  refine ry (y_asg rfl rfl) rfl rfl ?_
  refine ry (y_asg rfl rfl) rfl rfl ?_
  refine reg_nil ?_
  refine fn_next ?_
  refine cw_seq ?_
  refine cw_reg ?_
  refine ry (y_mov rfl rfl) rfl rfl ?_
  refine ry (y_mov rfl rfl) rfl rfl ?_
  refine reg_op (op_call (gQuarter2 g15 a h (L) n _ (H14.rdg (i := 0) rfl) hn) rfl kflaw42_6 ⟨rfl, rfl, trivial⟩) rfl rfl ?_
  rintro _ w18 ⟨g20, bl21, rfl, k17⟩
  have H19 := H14.call k17
  refine ry (y_mov rfl rfl) rfl rfl ?_
  refine ry (y_ext rfl rfl rfl) rfl rfl ?_
  refine ry (y_ext rfl rfl rfl) rfl rfl ?_
  refine ry (y_asg rfl rfl) rfl rfl ?_
  refine ry (y_asg rfl rfl) rfl rfl ?_
  refine reg_nil ?_
  refine fn_next ?_
  refine cw_seq ?_
  refine cw_reg ?_
  refine ry (y_mov rfl rfl) rfl rfl ?_
  refine reg_op (op_call (gMirror g15 a h (L) _ (H19.rdg (i := 1) rfl)) rfl kflaw42_7 ⟨rfl, trivial⟩) rfl rfl ?_
  rintro _ w23 ⟨g25, bl26, rfl, k22⟩
  have H24 := H19.call k22
  refine ry (y_mov rfl rfl) rfl rfl ?_
  refine ry (y_ext rfl rfl rfl) rfl rfl ?_
  refine ry (y_ext rfl rfl rfl) rfl rfl ?_
  refine ry (y_asg rfl rfl) rfl rfl ?_
  refine ry (y_asg rfl rfl) rfl rfl ?_
  refine reg_nil ?_
  refine fn_next ?_
  refine cw_seq ?_
  refine cw_reg ?_
  refine ry (y_mov rfl rfl) rfl rfl ?_
  refine reg_op (op_call (gSwap g15 a h (L) _ (H24.rdg (i := 2) rfl)) rfl kflaw42_8 ⟨rfl, trivial⟩) rfl rfl ?_
  rintro _ w28 ⟨g30, bl31, rfl, k27⟩
  have H29 := H24.call k27
  refine ry (y_mov rfl rfl) rfl rfl ?_
  refine ry (y_ext rfl rfl rfl) rfl rfl ?_
  refine ry (y_ext rfl rfl rfl) rfl rfl ?_
  refine ry (y_asg rfl rfl) rfl rfl ?_
  refine ry (y_asg rfl rfl) rfl rfl ?_
  refine reg_nil ?_
  refine fn_next ?_
  refine cw_seq ?_
  refine cw_seq ?_
  refine cw_reg ?_
  refine ry (y_mov rfl rfl) rfl rfl ?_
  refine ry (y_not rfl rfl) rfl rfl ?_
  refine ry (y_mov rfl rfl) rfl rfl ?_
  refine rgy (y_mov rfl rfl) rfl rfl rfl rfl ?_
  refine rgy (y_neq rfl rfl rfl) rfl rfl rfl rfl ?_
  refine ry (y_pick rfl rfl rfl) rfl rfl ?_
  refine ry (y_mov rfl rfl) rfl rfl ?_
  refine rgy (y_mov rfl rfl) rfl rfl rfl rfl ?_
  refine rgy (y_neq rfl rfl rfl) rfl rfl rfl rfl ?_
  refine ry (y_pick rfl rfl rfl) rfl rfl ?_
  refine ry (y_mov rfl rfl) rfl rfl ?_
  refine rgy (y_mov rfl rfl) rfl rfl rfl rfl ?_
  refine rgy (y_neq rfl rfl rfl) rfl rfl rfl rfl ?_
  refine ry (y_pick rfl rfl rfl) rfl rfl ?_
  refine reg_nil ?_
  refine fn_next ?_
  refine cw_condf rfl ?_
  refine cw_skip ?_
  refine fn_next ?_
  refine cw_seq ?_
  refine cw_reg ?_
  refine ry (y_mov rfl rfl) rfl rfl ?_
  refine ry (y_rem rfl rfl rfl (by decide) (ht)) rfl rfl ?_
  refine ry (y_asg rfl rfl) rfl rfl ?_
  refine reg_nil ?_
  refine fn_next ?_
  refine cw_seq ?_
  refine cw_seq ?_
  refine cw_reg ?_
  refine ry (y_mov rfl rfl) rfl rfl ?_
  refine ry (y_lss rfl rfl rfl) rfl rfl ?_
  refine reg_nil ?_
  refine fn_next ?_
  refine cw_condt rfl ?_
  refine cw_reg ?_
  refine ry (y_mov rfl rfl) rfl rfl ?_
  refine ry (y_add rfl rfl rfl (show _ = (2 : Int) from by decide)) rfl rfl ?_
  refine ry (y_asg rfl rfl) rfl rfl ?_
  refine reg_nil ?_
  refine fn_next ?_
  refine cw_seq ?_
  refine cw_seq ?_
  refine cw_reg ?_
  refine ry (y_mov rfl rfl) rfl rfl ?_
  refine ry (y_ldb (i := 4) (cs := [_, _, _]) H29 rfl rfl kflaw42_9 rfl rfl) rfl rfl ?_
  refine ry (y_mov rfl rfl) rfl rfl ?_
  refine reg_op (op_call (mQuarter2 a h A cap L _ s (hr.below H29.base) hl) rfl kflaw42_10 ⟨rfl, rfl, trivial⟩) rfl rfl ?_
  rintro _ w33 ⟨A35, c36, rfl, k32⟩
  have H34 := H29.call k32
  rw [q1_q1] at H34
  refine reg_op (op_call (lIs g20 a h (q2V (L) a h) _ _ _ (H34.rdg (i := 3) rfl) (H34.rd (i := 0) rfl)) rfl kflaw42_11 ⟨rfl, rfl, trivial⟩) rfl rfl ?_
  rintro _ w38 ⟨rfl, e37⟩
  have H39 := H34.ext e37
  refine ry (y_not rfl rfl) rfl rfl ?_
  refine ry (y_mov rfl rfl) rfl rfl ?_
  refine rgy (y_mov rfl rfl) rfl rfl rfl rfl ?_
  refine rgy (y_ldb (i := 5) (cs := [_, _, _]) H39 rfl rfl kflaw42_9 rfl rfl) rfl rfl rfl rfl ?_
  refine rg_on rfl rfl rfl (op_call (mMirror a h A cap L _ s (hr.below H39.base) hl) rfl kflaw42_12 ⟨rfl, trivial⟩) rfl ?_
  rintro _ w41 ⟨A43, c44, rfl, k40⟩
  have H42 := H39.call k40
  refine rg_on rfl rfl rfl (op_call (lIs g25 a h (miV (L) a h) _ _ _ (H42.rdg (i := 3) rfl) (H42.rd (i := 0) rfl)) rfl kflaw42_11 ⟨rfl, rfl, trivial⟩) rfl ?_
  rintro _ w46 ⟨rfl, e45⟩
  have H47 := H42.ext e45
  refine rgy (y_not rfl rfl) rfl rfl rfl rfl ?_
  refine ry (y_pick rfl rfl rfl) rfl rfl ?_
  refine ry (y_mov rfl rfl) rfl rfl ?_
  refine rgy (y_mov rfl rfl) rfl rfl rfl rfl ?_
  refine rgy (y_ldb (i := 6) (cs := [_, _, _]) H47 rfl rfl kflaw42_9 rfl rfl) rfl rfl rfl rfl ?_
  refine rg_on rfl rfl rfl (op_call (mSwap a h A cap L _ s (hr.below H47.base) hl) rfl kflaw42_13 ⟨rfl, trivial⟩) rfl ?_
  rintro _ w49 ⟨A51, c52, rfl, k48⟩
  have H50 := H47.call k48
  refine rg_on rfl rfl rfl (op_call (lIs g30 h a (swV (L) a h) _ _ _ (H50.rdg (i := 3) rfl) (H50.rd (i := 0) rfl)) rfl kflaw42_11 ⟨rfl, rfl, trivial⟩) rfl ?_
  rintro _ w54 ⟨rfl, e53⟩
  have H55 := H50.ext e53
  refine rgy (y_not rfl rfl) rfl rfl rfl rfl ?_
  refine ry (y_pick rfl rfl rfl) rfl rfl ?_
  refine ry (y_mov rfl rfl) rfl rfl ?_
  refine rgy (y_mov rfl rfl) rfl rfl rfl rfl ?_
  refine rgy (y_ldb (i := 7) (cs := [_, _, _]) H55 rfl rfl kflaw42_9 rfl rfl) rfl rfl rfl rfl ?_
  refine rg_on rfl rfl rfl (op_call (lIs g15 a h (L) _ _ _ (H55.rdg (i := 6) rfl) ((hr.below H55.base))) rfl kflaw42_11 ⟨rfl, rfl, trivial⟩) rfl ?_
  rintro _ w57 ⟨rfl, e56⟩
  have H58 := H55.ext e56
  refine rgy (y_not rfl rfl) rfl rfl rfl rfl ?_
  refine ry (y_pick rfl rfl rfl) rfl rfl ?_
  refine reg_nil ?_
  refine fn_next ?_
  refine cw_condf rfl ?_
  refine cw_skip ?_
  refine fn_next ?_
  refine cw_seq ?_
  refine cw_reg ?_
  refine ry (y_mov rfl rfl) rfl rfl ?_
  refine ry (y_mov rfl rfl) rfl rfl ?_
  refine ry (y_sub rfl rfl rfl (show _ = (2 : Int) from by decide)) rfl rfl ?_
  refine reg_op (op_call (gQuarter2 g20 a h (q2V (L) a h) 2 _ (H58.rdg (i := 5) rfl) (by decide)) rfl kflaw42_6 ⟨rfl, rfl, trivial⟩) rfl rfl ?_
  rintro _ w60 ⟨g62, bl63, rfl, k59⟩
  have H61 := H58.call k59
  refine ry (y_mov rfl rfl) rfl rfl ?_
  refine ry (y_ext rfl rfl rfl) rfl rfl ?_
  refine ry (y_ext rfl rfl rfl) rfl rfl ?_
  refine ry (y_asg rfl rfl) rfl rfl ?_
  refine ry (y_asg rfl rfl) rfl rfl ?_
  refine reg_nil ?_
  refine fn_next ?_
  refine cw_seq ?_
  refine cw_reg ?_
  refine ry (y_mov rfl rfl) rfl rfl ?_
  refine reg_op (op_call (gMirror g25 a h (miV (L) a h) _ (H61.rdg (i := 5) rfl)) rfl kflaw42_7 ⟨rfl, trivial⟩) rfl rfl ?_
  rintro _ w65 ⟨g67, bl68, rfl, k64⟩
  have H66 := H61.call k64
  refine ry (y_mov rfl rfl) rfl rfl ?_
  refine ry (y_ext rfl rfl rfl) rfl rfl ?_
  refine ry (y_ext rfl rfl rfl) rfl rfl ?_
  refine ry (y_asg rfl rfl) rfl rfl ?_
  refine ry (y_asg rfl rfl) rfl rfl ?_
  refine reg_nil ?_
  refine fn_next ?_
  refine cw_seq ?_
  refine cw_reg ?_
  refine ry (y_mov rfl rfl) rfl rfl ?_
  refine reg_op (op_call (gSwap g30 h a (swV (L) a h) _ (H66.rdg (i := 5) rfl)) rfl kflaw42_8 ⟨rfl, trivial⟩) rfl rfl ?_
  rintro _ w70 ⟨g72, bl73, rfl, k69⟩
  have H71 := H66.call k69
  refine ry (y_mov rfl rfl) rfl rfl ?_
  refine ry (y_ext rfl rfl rfl) rfl rfl ?_
  refine ry (y_ext rfl rfl rfl) rfl rfl ?_
  refine ry (y_asg rfl rfl) rfl rfl ?_
  refine ry (y_asg rfl rfl) rfl rfl ?_
  refine reg_nil ?_
  refine fn_next ?_
  refine cw_seq ?_
  refine cw_reg ?_
  refine ry (y_mov rfl rfl) rfl rfl ?_
  refine reg_op (op_call (gMirror g30 h a (swV (L) a h) _ (H71.rdg (i := 6) rfl)) rfl kflaw42_7 ⟨rfl, trivial⟩) rfl rfl ?_
  rintro _ w75 ⟨g77, bl78, rfl, k74⟩
  have H76 := H71.call k74
  refine ry (y_mov rfl rfl) rfl rfl ?_
  refine ry (y_ext rfl rfl rfl) rfl rfl ?_
  refine ry (y_ext rfl rfl rfl) rfl rfl ?_
  refine ry (y_asg rfl rfl) rfl rfl ?_
  refine ry (y_asg rfl rfl) rfl rfl ?_
  refine reg_nil ?_
  refine fn_next ?_
  refine cw_seq ?_
  refine cw_reg ?_
  refine ry (y_mov rfl rfl) rfl rfl ?_
  refine reg_op (op_call (gQuarter1 g15 a h (L) 1 _ (H76.rdg (i := 10) rfl) (by decide)) rfl kflaw42_6 ⟨rfl, rfl, trivial⟩) rfl rfl ?_
  rintro _ w80 ⟨g82, bl83, rfl, k79⟩
  have H81 := H76.call k79
  refine ry (y_mov rfl rfl) rfl rfl ?_
  refine ry (y_ext rfl rfl rfl) rfl rfl ?_
  refine ry (y_ext rfl rfl rfl) rfl rfl ?_
  refine ry (y_asg rfl rfl) rfl rfl ?_
  refine ry (y_asg rfl rfl) rfl rfl ?_
  refine reg_nil ?_
  refine fn_next ?_
  refine cw_seq ?_
  refine cw_reg ?_
  refine ry (y_mov rfl rfl) rfl rfl ?_
  refine ry (y_eql rfl rfl rfl) rfl rfl ?_
  refine ry (y_mov rfl rfl) rfl rfl ?_
  refine rgy (y_mov rfl rfl) rfl rfl rfl rfl ?_
  refine rgy (y_eql rfl rfl rfl) rfl rfl rfl rfl ?_
  refine ry (y_pick rfl rfl rfl) rfl rfl ?_
  refine ry (y_mov rfl rfl) rfl rfl ?_
  refine rgy (y_mov rfl rfl) rfl rfl rfl rfl ?_
  refine rgy (y_eql rfl rfl rfl) rfl rfl rfl rfl ?_
  refine ry (y_pick rfl rfl rfl) rfl rfl ?_
  refine ry (y_mov rfl rfl) rfl rfl ?_
  refine rgy (y_mov rfl rfl) rfl rfl rfl rfl ?_
  refine rgy (y_eql rfl rfl rfl) rfl rfl rfl rfl ?_
  refine ry (y_pick rfl rfl rfl) rfl rfl ?_
  refine ry (y_mov rfl rfl) rfl rfl ?_
  refine rgy (y_mov rfl rfl) rfl rfl rfl rfl ?_
  refine rgy (y_eql rfl rfl rfl) rfl rfl rfl rfl ?_
  refine ry (y_pick rfl rfl rfl) rfl rfl ?_
  refine ry (y_mov rfl rfl) rfl rfl ?_
  refine rgy (y_mov rfl rfl) rfl rfl rfl rfl ?_
  refine rgy (y_mov rfl rfl) rfl rfl rfl rfl ?_
  refine rg_on rfl rfl rfl (op_call (ret_v (v := .bool true) (gSame g62 a h (q2V (q2V (L) a h) a h) g15 a h (L) _ (H81.rdg (i := 4) rfl) (H81.rdg (i := 11) rfl)) (by rw [decide_eq_true (show _ ∧ _ ∧ _ from ⟨rfl, rfl, q2_q2 hl⟩)])) rfl kflaw42_14 ⟨rfl, rfl, trivial⟩) rfl ?_
  rintro _ w85 ⟨rfl, e84⟩
  have H86 := H81.ext e84
  refine ry (y_pick rfl rfl rfl) rfl rfl ?_
  refine ry (y_mov rfl rfl) rfl rfl ?_
  refine rgy (y_mov rfl rfl) rfl rfl rfl rfl ?_
  refine rgy (y_mov rfl rfl) rfl rfl rfl rfl ?_
  refine rg_on rfl rfl rfl (op_call (ret_v (v := .bool true) (gSame g67 a h (miV (miV (L) a h) a h) g15 a h (L) _ (H86.rdg (i := 3) rfl) (H86.rdg (i := 11) rfl)) (by rw [decide_eq_true (show _ ∧ _ ∧ _ from ⟨rfl, rfl, mi_mi hl⟩)])) rfl kflaw42_14 ⟨rfl, rfl, trivial⟩) rfl ?_
  rintro _ w88 ⟨rfl, e87⟩
  have H89 := H86.ext e87
  refine ry (y_pick rfl rfl rfl) rfl rfl ?_
  refine ry (y_mov rfl rfl) rfl rfl ?_
  refine rgy (y_mov rfl rfl) rfl rfl rfl rfl ?_
  refine rgy (y_mov rfl rfl) rfl rfl rfl rfl ?_
  refine rg_on rfl rfl rfl (op_call (ret_v (v := .bool true) (gSame g72 a h (swV (swV (L) a h) h a) g15 a h (L) _ (H89.rdg (i := 2) rfl) (H89.rdg (i := 11) rfl)) (by rw [decide_eq_true (show _ ∧ _ ∧ _ from ⟨rfl, rfl, sw_sw hl⟩)])) rfl kflaw42_14 ⟨rfl, rfl, trivial⟩) rfl ?_
  rintro _ w91 ⟨rfl, e90⟩
  have H92 := H89.ext e90
  refine ry (y_pick rfl rfl rfl) rfl rfl ?_
  refine ry (y_mov rfl rfl) rfl rfl ?_
  refine rgy (y_mov rfl rfl) rfl rfl rfl rfl ?_
  refine rgy (y_mov rfl rfl) rfl rfl rfl rfl ?_
  refine rg_on rfl rfl rfl (op_call (ret_v (v := .bool true) (gSame g77 h a (miV (swV (L) a h) h a) g82 h a (q1V (L) a h) _ (H92.rdg (i := 1) rfl) (H92.rdg (i := 0) rfl)) (by rw [decide_eq_true (show _ ∧ _ ∧ _ from ⟨rfl, rfl, mi_sw⟩)])) rfl kflaw42_14 ⟨rfl, rfl, trivial⟩) rfl ?_
  rintro _ w94 ⟨rfl, e93⟩
  have H95 := H92.ext e93
  refine ry (y_pick rfl rfl rfl) rfl rfl ?_
  refine ry (y_asg rfl rfl) rfl rfl ?_
  refine reg_nil ?_
  refine fn_next ?_
  refine cw_ret ?_
  refine fn_ret1 rfl rfl ?_
  exact ⟨rfl, H95.base⟩

set_option maxRecDepth 100000 in
set_option maxHeartbeats 2000000 in
theorem turnTurns_m3 (a h : Nat) (L : List Int) (A : Option Addr) (cap : Nat) (n : Int) (w : World) (h1 : 1 ≤ a) (h2 : a ≤ 1000) (h3 : 1 ≤ h) (h4 : h ≤ 1000) (h5 : a * h ≤ 1000) (hr : Rd w A (vi .i64 L)) (hl : L.length = a * h) (hb : AllB L) (hn : n % 4 = 1) (ht : n.tmod 4 = -3) :
    Ret Try.prog 10 [.int .i64 (a : Int), .int .i64 (h : Int), .slice A (a * h) cap, .int .i64 n] w (fun z w' => z = .bool true ∧ Below w.heap.size w w') := by
  have s : SzG a h := ⟨h1, by omega, h3, by omega⟩
  refine ret_enter Try.func10 rfl rfl rfl ?_
  have H0 := HS.start w
  refine cw_seq ?_
  refine cw_reg ?_
  refine ry (y_asg rfl rfl) rfl rfl ?_
  refine reg_nil ?_
  refine fn_next ?_
  refine cw_seq ?_
  refine cw_seq ?_
  refine cw_reg ?_
  refine reg_op (op_call (turnAwake _) rfl kflaw42_1 trivial) rfl rfl ?_
  rintro _ w2 ⟨rfl, e1⟩
  have H3 := H0.ext e1
  refine ry (y_not rfl rfl) rfl rfl ?_
  refine reg_nil ?_
  refine fn_next ?_
  refine cw_condf rfl ?_
  refine cw_skip ?_
  refine fn_next ?_
  refine cw_seq ?_
  refine cw_reg ?_
  refine ry (y_mov rfl rfl) rfl rfl ?_
  refine ry (y_mov rfl rfl) rfl rfl ?_
  refine ry (y_mov rfl rfl) rfl rfl ?_
  refine reg_op (op_call (land_ok a h 1000 L A (a * h) cap _ h1 h2 h3 h4 h5 rfl hl hb (by decide) (hr.below H3.base)) rfl kflaw42_2 ⟨rfl, rfl, rfl, rfl, trivial⟩) rfl rfl ?_
  rintro _ w5 ⟨rfl, e4⟩
  have H6 := H3.ext e4
  refine ry (y_mov rfl rfl) rfl rfl ?_
  refine ry (y_ext rfl rfl rfl) rfl rfl ?_
  refine ry (y_ext rfl rfl rfl) rfl rfl ?_
  refine reg_op (op_alloc H6 rfl kflaw42_3) rfl rfl ?_
  rintro _ w8 ⟨b7, rfl, H9⟩
  refine reg_op (op_st (i := 0) (vs := [.int _ _, .int _ _, .slice _ _ _]) H9 rfl rfl rfl rfl rfl kflaw42_4 rfl rfl rfl) rfl rfl ?_
  rintro _ w10 H11
  refine ry (y_asg rfl rfl) rfl rfl ?_
  refine reg_nil ?_
  refine fn_next ?_
  refine cw_seq ?_
  refine cw_seq ?_
  refine cw_reg ?_
  refine ry (y_mov rfl rfl) rfl rfl ?_
  refine ry (y_not rfl rfl) rfl rfl ?_
  refine reg_nil ?_
  refine fn_next ?_
  refine cw_condf rfl ?_
  refine cw_skip ?_
  refine fn_next ?_
  refine cw_seq ?_
  refine cw_reg ?_
  refine ry (y_mov rfl rfl) rfl rfl ?_
  refine ry (y_mov rfl rfl) rfl rfl ?_
  refine ry (y_mov rfl rfl) rfl rfl ?_
  refine reg_op (op_call (made_ok a h L A (a * h) cap _ s hl rfl hb (hr.below H11.base)) rfl kflaw42_5 ⟨rfl, rfl, rfl, trivial⟩) rfl rfl ?_
  rintro _ w13 ⟨g15, bl16, rfl, k12⟩
  have H14 := H11.call k12
  refine ry (y_mov rfl rfl) rfl rfl ?_
  refine ry (y_ext rfl rfl rfl) rfl rfl ?_
  refine ry (y_ext rfl rfl rfl) rfl rfl ?_
  refine ry (y_asg rfl rfl) rfl rfl ?_
  refine ry (y_asg rfl rfl) rfl rfl ?_
  refine reg_nil ?_
  refine fn_next ?_
  refine cw_seq ?_
  refine cw_reg ?_
  refine ry (y_mov rfl rfl) rfl rfl ?_
  refine ry (y_mov rfl rfl) rfl rfl ?_
  refine reg_op (op_call (gQuarter1 g15 a h (L) n _ (H14.rdg (i := 0) rfl) hn) rfl kflaw42_6 ⟨rfl, rfl, trivial⟩) rfl rfl ?_
  rintro _ w18 ⟨g20, bl21, rfl, k17⟩
  have H19 := H14.call k17
  refine ry (y_mov rfl rfl) rfl rfl ?_
  refine ry (y_ext rfl rfl rfl) rfl rfl ?_
  refine ry (y_ext rfl rfl rfl) rfl rfl ?_
  refine ry (y_asg rfl rfl) rfl rfl ?_
  refine ry (y_asg rfl rfl) rfl rfl ?_
  refine reg_nil ?_
  refine fn_next ?_
  refine cw_seq ?_
  refine cw_reg ?_
  refine ry (y_mov rfl rfl) rfl rfl ?_
  refine reg_op (op_call (gMirror g15 a h (L) _ (H19.rdg (i := 1) rfl)) rfl kflaw42_7 ⟨rfl, trivial⟩) rfl rfl ?_
  rintro _ w23 ⟨g25, bl26, rfl, k22⟩
  have H24 := H19.call k22
  refine ry (y_mov rfl rfl) rfl rfl ?_
  refine ry (y_ext rfl rfl rfl) rfl rfl ?_
  refine ry (y_ext rfl rfl rfl) rfl rfl ?_
  refine ry (y_asg rfl rfl) rfl rfl ?_
  refine ry (y_asg rfl rfl) rfl rfl ?_
  refine reg_nil ?_
  refine fn_next ?_
  refine cw_seq ?_
  refine cw_reg ?_
  refine ry (y_mov rfl rfl) rfl rfl ?_
  refine reg_op (op_call (gSwap g15 a h (L) _ (H24.rdg (i := 2) rfl)) rfl kflaw42_8 ⟨rfl, trivial⟩) rfl rfl ?_
  rintro _ w28 ⟨g30, bl31, rfl, k27⟩
  have H29 := H24.call k27
  refine ry (y_mov rfl rfl) rfl rfl ?_
  refine ry (y_ext rfl rfl rfl) rfl rfl ?_
  refine ry (y_ext rfl rfl rfl) rfl rfl ?_
  refine ry (y_asg rfl rfl) rfl rfl ?_
  refine ry (y_asg rfl rfl) rfl rfl ?_
  refine reg_nil ?_
  refine fn_next ?_
  refine cw_seq ?_
  refine cw_seq ?_
  refine cw_reg ?_
  refine ry (y_mov rfl rfl) rfl rfl ?_
  refine ry (y_not rfl rfl) rfl rfl ?_
  refine ry (y_mov rfl rfl) rfl rfl ?_
  refine rgy (y_mov rfl rfl) rfl rfl rfl rfl ?_
  refine rgy (y_neq rfl rfl rfl) rfl rfl rfl rfl ?_
  refine ry (y_pick rfl rfl rfl) rfl rfl ?_
  refine ry (y_mov rfl rfl) rfl rfl ?_
  refine rgy (y_mov rfl rfl) rfl rfl rfl rfl ?_
  refine rgy (y_neq rfl rfl rfl) rfl rfl rfl rfl ?_
  refine ry (y_pick rfl rfl rfl) rfl rfl ?_
  refine ry (y_mov rfl rfl) rfl rfl ?_
  refine rgy (y_mov rfl rfl) rfl rfl rfl rfl ?_
  refine rgy (y_neq rfl rfl rfl) rfl rfl rfl rfl ?_
  refine ry (y_pick rfl rfl rfl) rfl rfl ?_
  refine reg_nil ?_
  refine fn_next ?_
  refine cw_condf rfl ?_
  refine cw_skip ?_
  refine fn_next ?_
  refine cw_seq ?_
  refine cw_reg ?_
  refine ry (y_mov rfl rfl) rfl rfl ?_
  refine ry (y_rem rfl rfl rfl (by decide) (ht)) rfl rfl ?_
  refine ry (y_asg rfl rfl) rfl rfl ?_
  refine reg_nil ?_
  refine fn_next ?_
  refine cw_seq ?_
  refine cw_seq ?_
  refine cw_reg ?_
  refine ry (y_mov rfl rfl) rfl rfl ?_
  refine ry (y_lss rfl rfl rfl) rfl rfl ?_
  refine reg_nil ?_
  refine fn_next ?_
  refine cw_condt rfl ?_
  refine cw_reg ?_
  refine ry (y_mov rfl rfl) rfl rfl ?_
  refine ry (y_add rfl rfl rfl (show _ = (1 : Int) from by decide)) rfl rfl ?_
  refine ry (y_asg rfl rfl) rfl rfl ?_
  refine reg_nil ?_
  refine fn_next ?_
  refine cw_seq ?_
  refine cw_seq ?_
  refine cw_reg ?_
  refine ry (y_mov rfl rfl) rfl rfl ?_
  refine ry (y_ldb (i := 4) (cs := [_, _, _]) H29 rfl rfl kflaw42_9 rfl rfl) rfl rfl ?_
  refine ry (y_mov rfl rfl) rfl rfl ?_
  refine reg_op (op_call (mQuarter1 a h A cap L _ s (hr.below H29.base) hl) rfl kflaw42_10 ⟨rfl, rfl, trivial⟩) rfl rfl ?_
  rintro _ w33 ⟨A35, c36, rfl, k32⟩
  have H34 := H29.call k32
  refine reg_op (op_call (lIs g20 h a (q1V (L) a h) _ _ _ (H34.rdg (i := 3) rfl) (H34.rd (i := 0) rfl)) rfl kflaw42_11 ⟨rfl, rfl, trivial⟩) rfl rfl ?_
  rintro _ w38 ⟨rfl, e37⟩
  have H39 := H34.ext e37
  refine ry (y_not rfl rfl) rfl rfl ?_
  refine ry (y_mov rfl rfl) rfl rfl ?_
  refine rgy (y_mov rfl rfl) rfl rfl rfl rfl ?_
  refine rgy (y_ldb (i := 5) (cs := [_, _, _]) H39 rfl rfl kflaw42_9 rfl rfl) rfl rfl rfl rfl ?_
  refine rg_on rfl rfl rfl (op_call (mMirror a h A cap L _ s (hr.below H39.base) hl) rfl kflaw42_12 ⟨rfl, trivial⟩) rfl ?_
  rintro _ w41 ⟨A43, c44, rfl, k40⟩
  have H42 := H39.call k40
  refine rg_on rfl rfl rfl (op_call (lIs g25 a h (miV (L) a h) _ _ _ (H42.rdg (i := 3) rfl) (H42.rd (i := 0) rfl)) rfl kflaw42_11 ⟨rfl, rfl, trivial⟩) rfl ?_
  rintro _ w46 ⟨rfl, e45⟩
  have H47 := H42.ext e45
  refine rgy (y_not rfl rfl) rfl rfl rfl rfl ?_
  refine ry (y_pick rfl rfl rfl) rfl rfl ?_
  refine ry (y_mov rfl rfl) rfl rfl ?_
  refine rgy (y_mov rfl rfl) rfl rfl rfl rfl ?_
  refine rgy (y_ldb (i := 6) (cs := [_, _, _]) H47 rfl rfl kflaw42_9 rfl rfl) rfl rfl rfl rfl ?_
  refine rg_on rfl rfl rfl (op_call (mSwap a h A cap L _ s (hr.below H47.base) hl) rfl kflaw42_13 ⟨rfl, trivial⟩) rfl ?_
  rintro _ w49 ⟨A51, c52, rfl, k48⟩
  have H50 := H47.call k48
  refine rg_on rfl rfl rfl (op_call (lIs g30 h a (swV (L) a h) _ _ _ (H50.rdg (i := 3) rfl) (H50.rd (i := 0) rfl)) rfl kflaw42_11 ⟨rfl, rfl, trivial⟩) rfl ?_
  rintro _ w54 ⟨rfl, e53⟩
  have H55 := H50.ext e53
  refine rgy (y_not rfl rfl) rfl rfl rfl rfl ?_
  refine ry (y_pick rfl rfl rfl) rfl rfl ?_
  refine ry (y_mov rfl rfl) rfl rfl ?_
  refine rgy (y_mov rfl rfl) rfl rfl rfl rfl ?_
  refine rgy (y_ldb (i := 7) (cs := [_, _, _]) H55 rfl rfl kflaw42_9 rfl rfl) rfl rfl rfl rfl ?_
  refine rg_on rfl rfl rfl (op_call (lIs g15 a h (L) _ _ _ (H55.rdg (i := 6) rfl) ((hr.below H55.base))) rfl kflaw42_11 ⟨rfl, rfl, trivial⟩) rfl ?_
  rintro _ w57 ⟨rfl, e56⟩
  have H58 := H55.ext e56
  refine rgy (y_not rfl rfl) rfl rfl rfl rfl ?_
  refine ry (y_pick rfl rfl rfl) rfl rfl ?_
  refine reg_nil ?_
  refine fn_next ?_
  refine cw_condf rfl ?_
  refine cw_skip ?_
  refine fn_next ?_
  refine cw_seq ?_
  refine cw_reg ?_
  refine ry (y_mov rfl rfl) rfl rfl ?_
  refine ry (y_mov rfl rfl) rfl rfl ?_
  refine ry (y_sub rfl rfl rfl (show _ = (3 : Int) from by decide)) rfl rfl ?_
  refine reg_op (op_call (gQuarter3 g20 h a (q1V (L) a h) 3 _ (H58.rdg (i := 5) rfl) (by decide)) rfl kflaw42_6 ⟨rfl, rfl, trivial⟩) rfl rfl ?_
  rintro _ w60 ⟨g62, bl63, rfl, k59⟩
  have H61 := H58.call k59
  refine ry (y_mov rfl rfl) rfl rfl ?_
  refine ry (y_ext rfl rfl rfl) rfl rfl ?_
  refine ry (y_ext rfl rfl rfl) rfl rfl ?_
  refine ry (y_asg rfl rfl) rfl rfl ?_
  refine ry (y_asg rfl rfl) rfl rfl ?_
  refine reg_nil ?_
  refine fn_next ?_
  refine cw_seq ?_
  refine cw_reg ?_
  refine ry (y_mov rfl rfl) rfl rfl ?_
  refine reg_op (op_call (gMirror g25 a h (miV (L) a h) _ (H61.rdg (i := 5) rfl)) rfl kflaw42_7 ⟨rfl, trivial⟩) rfl rfl ?_
  rintro _ w65 ⟨g67, bl68, rfl, k64⟩
  have H66 := H61.call k64
  refine ry (y_mov rfl rfl) rfl rfl ?_
  refine ry (y_ext rfl rfl rfl) rfl rfl ?_
  refine ry (y_ext rfl rfl rfl) rfl rfl ?_
  refine ry (y_asg rfl rfl) rfl rfl ?_
  refine ry (y_asg rfl rfl) rfl rfl ?_
  refine reg_nil ?_
  refine fn_next ?_
  refine cw_seq ?_
  refine cw_reg ?_
  refine ry (y_mov rfl rfl) rfl rfl ?_
  refine reg_op (op_call (gSwap g30 h a (swV (L) a h) _ (H66.rdg (i := 5) rfl)) rfl kflaw42_8 ⟨rfl, trivial⟩) rfl rfl ?_
  rintro _ w70 ⟨g72, bl73, rfl, k69⟩
  have H71 := H66.call k69
  refine ry (y_mov rfl rfl) rfl rfl ?_
  refine ry (y_ext rfl rfl rfl) rfl rfl ?_
  refine ry (y_ext rfl rfl rfl) rfl rfl ?_
  refine ry (y_asg rfl rfl) rfl rfl ?_
  refine ry (y_asg rfl rfl) rfl rfl ?_
  refine reg_nil ?_
  refine fn_next ?_
  refine cw_seq ?_
  refine cw_reg ?_
  refine ry (y_mov rfl rfl) rfl rfl ?_
  refine reg_op (op_call (gMirror g30 h a (swV (L) a h) _ (H71.rdg (i := 6) rfl)) rfl kflaw42_7 ⟨rfl, trivial⟩) rfl rfl ?_
  rintro _ w75 ⟨g77, bl78, rfl, k74⟩
  have H76 := H71.call k74
  refine ry (y_mov rfl rfl) rfl rfl ?_
  refine ry (y_ext rfl rfl rfl) rfl rfl ?_
  refine ry (y_ext rfl rfl rfl) rfl rfl ?_
  refine ry (y_asg rfl rfl) rfl rfl ?_
  refine ry (y_asg rfl rfl) rfl rfl ?_
  refine reg_nil ?_
  refine fn_next ?_
  refine cw_seq ?_
  refine cw_reg ?_
  refine ry (y_mov rfl rfl) rfl rfl ?_
  refine reg_op (op_call (gQuarter1 g15 a h (L) 1 _ (H76.rdg (i := 10) rfl) (by decide)) rfl kflaw42_6 ⟨rfl, rfl, trivial⟩) rfl rfl ?_
  rintro _ w80 ⟨g82, bl83, rfl, k79⟩
  have H81 := H76.call k79
  refine ry (y_mov rfl rfl) rfl rfl ?_
  refine ry (y_ext rfl rfl rfl) rfl rfl ?_
  refine ry (y_ext rfl rfl rfl) rfl rfl ?_
  refine ry (y_asg rfl rfl) rfl rfl ?_
  refine ry (y_asg rfl rfl) rfl rfl ?_
  refine reg_nil ?_
  refine fn_next ?_
  refine cw_seq ?_
  refine cw_reg ?_
  refine ry (y_mov rfl rfl) rfl rfl ?_
  refine ry (y_eql rfl rfl rfl) rfl rfl ?_
  refine ry (y_mov rfl rfl) rfl rfl ?_
  refine rgy (y_mov rfl rfl) rfl rfl rfl rfl ?_
  refine rgy (y_eql rfl rfl rfl) rfl rfl rfl rfl ?_
  refine ry (y_pick rfl rfl rfl) rfl rfl ?_
  refine ry (y_mov rfl rfl) rfl rfl ?_
  refine rgy (y_mov rfl rfl) rfl rfl rfl rfl ?_
  refine rgy (y_eql rfl rfl rfl) rfl rfl rfl rfl ?_
  refine ry (y_pick rfl rfl rfl) rfl rfl ?_
  refine ry (y_mov rfl rfl) rfl rfl ?_
  refine rgy (y_mov rfl rfl) rfl rfl rfl rfl ?_
  refine rgy (y_eql rfl rfl rfl) rfl rfl rfl rfl ?_
  refine ry (y_pick rfl rfl rfl) rfl rfl ?_
  refine ry (y_mov rfl rfl) rfl rfl ?_
  refine rgy (y_mov rfl rfl) rfl rfl rfl rfl ?_
  refine rgy (y_eql rfl rfl rfl) rfl rfl rfl rfl ?_
  refine ry (y_pick rfl rfl rfl) rfl rfl ?_
  refine ry (y_mov rfl rfl) rfl rfl ?_
  refine rgy (y_mov rfl rfl) rfl rfl rfl rfl ?_
  refine rgy (y_mov rfl rfl) rfl rfl rfl rfl ?_
  refine rg_on rfl rfl rfl (op_call (ret_v (v := .bool true) (gSame g62 a h (q3V (q1V (L) a h) h a) g15 a h (L) _ (H81.rdg (i := 4) rfl) (H81.rdg (i := 11) rfl)) (by rw [decide_eq_true (show _ ∧ _ ∧ _ from ⟨rfl, rfl, q3_q1 hl⟩)])) rfl kflaw42_14 ⟨rfl, rfl, trivial⟩) rfl ?_
  rintro _ w85 ⟨rfl, e84⟩
  have H86 := H81.ext e84
  refine ry (y_pick rfl rfl rfl) rfl rfl ?_
  refine ry (y_mov rfl rfl) rfl rfl ?_
  refine rgy (y_mov rfl rfl) rfl rfl rfl rfl ?_
  refine rgy (y_mov rfl rfl) rfl rfl rfl rfl ?_
  refine rg_on rfl rfl rfl (op_call (ret_v (v := .bool true) (gSame g67 a h (miV (miV (L) a h) a h) g15 a h (L) _ (H86.rdg (i := 3) rfl) (H86.rdg (i := 11) rfl)) (by rw [decide_eq_true (show _ ∧ _ ∧ _ from ⟨rfl, rfl, mi_mi hl⟩)])) rfl kflaw42_14 ⟨rfl, rfl, trivial⟩) rfl ?_
  rintro _ w88 ⟨rfl, e87⟩
  have H89 := H86.ext e87
  refine ry (y_pick rfl rfl rfl) rfl rfl ?_
  refine ry (y_mov rfl rfl) rfl rfl ?_
  refine rgy (y_mov rfl rfl) rfl rfl rfl rfl ?_
  refine rgy (y_mov rfl rfl) rfl rfl rfl rfl ?_
  refine rg_on rfl rfl rfl (op_call (ret_v (v := .bool true) (gSame g72 a h (swV (swV (L) a h) h a) g15 a h (L) _ (H89.rdg (i := 2) rfl) (H89.rdg (i := 11) rfl)) (by rw [decide_eq_true (show _ ∧ _ ∧ _ from ⟨rfl, rfl, sw_sw hl⟩)])) rfl kflaw42_14 ⟨rfl, rfl, trivial⟩) rfl ?_
  rintro _ w91 ⟨rfl, e90⟩
  have H92 := H89.ext e90
  refine ry (y_pick rfl rfl rfl) rfl rfl ?_
  refine ry (y_mov rfl rfl) rfl rfl ?_
  refine rgy (y_mov rfl rfl) rfl rfl rfl rfl ?_
  refine rgy (y_mov rfl rfl) rfl rfl rfl rfl ?_
  refine rg_on rfl rfl rfl (op_call (ret_v (v := .bool true) (gSame g77 h a (miV (swV (L) a h) h a) g82 h a (q1V (L) a h) _ (H92.rdg (i := 1) rfl) (H92.rdg (i := 0) rfl)) (by rw [decide_eq_true (show _ ∧ _ ∧ _ from ⟨rfl, rfl, mi_sw⟩)])) rfl kflaw42_14 ⟨rfl, rfl, trivial⟩) rfl ?_
  rintro _ w94 ⟨rfl, e93⟩
  have H95 := H92.ext e93
  refine ry (y_pick rfl rfl rfl) rfl rfl ?_
  refine ry (y_asg rfl rfl) rfl rfl ?_
  refine reg_nil ?_
  refine fn_next ?_
  refine cw_ret ?_
  refine fn_ret1 rfl rfl ?_
  exact ⟨rfl, H95.base⟩

theorem tm4 (n : Int) : n.tmod 4 = n % 4 ∨ (n.tmod 4 = n % 4 - 4 ∧ n % 4 ≠ 0) := by
  rcases Int.lt_or_le n 0 with h | h
  · have h1 := Int.tmod_def n 4
    have h2 : n.tdiv 4 = -((-n) / 4) := by
      have : n = -(-n) := by omega
      rw [this, Int.neg_tdiv, Int.tdiv_eq_ediv_of_nonneg (by omega), Int.neg_neg]
    omega
  · left; exact Int.tmod_eq_emod_of_nonneg h
theorem turnTurns_all (a h : Int) (L : List Int) (A : Option Addr) (m cap : Nat) (n : Int) (w : World) (ha : I6 a) (hh : I6 h) (hr : Rd w A (vi .i64 L)) (hl : L.length = m) : Ret Try.prog 10 [.int .i64 a, .int .i64 h, .slice A m cap, .int .i64 n] w (fun z w' => z = .bool true ∧ Below w.heap.size w w') := by
  by_cases hp : LandP a h (1000 : Nat) L
  · obtain ⟨a, h, rfl, rfl, h1, h2, h3, h4, h5, h6, h7⟩ := LandP.nat hp
    obtain rfl : m = a * h := by omega
    have hk : n % 4 = 0 ∨ n % 4 = 1 ∨ n % 4 = 2 ∨ n % 4 = 3 := by omega
    rcases tm4 n with ht | ⟨ht, hz⟩
    · rcases hk with e | e | e | e
      · exact turnTurns_0 a h L A cap n w h1 h2 h3 h4 h5 hr hl h7 e (by omega)
      · exact turnTurns_1 a h L A cap n w h1 h2 h3 h4 h5 hr hl h7 e (by omega)
      · exact turnTurns_2 a h L A cap n w h1 h2 h3 h4 h5 hr hl h7 e (by omega)
      · exact turnTurns_3 a h L A cap n w h1 h2 h3 h4 h5 hr hl h7 e (by omega)
    · rcases hk with e | e | e | e
      · exact absurd e hz
      · exact turnTurns_m3 a h L A cap n w h1 h2 h3 h4 h5 hr hl h7 e (by omega)
      · exact turnTurns_m2 a h L A cap n w h1 h2 h3 h4 h5 hr hl h7 e (by omega)
      · exact turnTurns_m1 a h L A cap n w h1 h2 h3 h4 h5 hr hl h7 e (by omega)
  · exact turnTurns_no a h L A m cap n w ha hh hr hl hp

theorem turnTurns_law (a : Int) (h : Int) (zs : List Int) (A2 : Option Addr) (n2 c2 : Nat) (n : Int) (W : World) (ba : I6 a) (bh : I6 h) (hzs : Ints .i64 W A2 n2 zs) (le2 : n2 ≤ c2) (mx2 : c2 ≤ maxLen) (wzs : ∀ z ∈ zs, I6 z) (bn : I6 n) :
    Calls Try.prog 10 #[.int .i64 a, .int .i64 h, .slice A2 n2 c2, .int .i64 n] W fun e w' => e = .returned (.bool true) ∧ Below W.heap.size W w' := lawOf (turnTurns_all a h zs A2 n2 c2 n W ba bh (Rd.of_ints hzs) hzs.len)

end Go.Proofs.Ytbhmkpnihgjlnaa
