/- Layer 48: how high it rises. -/
import Derived.Test.YtgkkbeomhkggjaaDoorRef48
set_option linter.unusedVariables false
set_option linter.unusedSimpArgs false
namespace Go.Proofs.YtgkkbeomhkggjaaDoor
open Go Go.RowKit
theorem kflaw48b_1 : callB Tryd.prog 8 = true := by kernel_rfl
theorem kflaw48b_2 : callB Tryd.prog 9 = true := by kernel_rfl
theorem kflaw48b_3 : (Tryd.prog.info? 27).bind (fun i => i.zero.map Value.cells) = some (List.toArray [(.int .i64 0), (.int .i64 0), (.slice none 0 0)]) := by kernel_rfl
theorem kflaw48b_4 : szB Tryd.prog 27 3 = true := by kernel_rfl
theorem kflaw48b_5 : callB Tryd.prog 10 = true := by kernel_rfl
theorem kflaw48b_6 : aggB Tryd.prog 24 2 = true := by kernel_rfl
theorem kflaw48b_7 : callB Tryd.prog 11 = true := by kernel_rfl
theorem kflaw48b_8 : (Tryd.prog.info? 34).bind (fun i => i.zero.map Value.cells) = some (List.toArray [(.int .i64 0), (.int .i64 0)]) := by kernel_rfl
theorem kflaw48b_9 : (Tryd.prog.info? 24).bind (fun i => i.zero.map Value.cells) = some (List.toArray [(.int .i64 0), (.int .i64 0)]) := by kernel_rfl
theorem kflaw48b_10 : szB Tryd.prog 34 2 = true := by kernel_rfl
theorem kflaw48b_11 : szB Tryd.prog 24 2 = true := by kernel_rfl
theorem kflaw48b_12 : aggB Tryd.prog 27 3 = true := by kernel_rfl
theorem kflaw48b_13 : callB Tryd.prog 12 = true := by kernel_rfl
theorem kflaw48b_14 : aggB Tryd.prog 34 2 = true := by kernel_rfl
theorem kflaw48b_15 : seqB Tryd.prog 34 2 = true := by kernel_rfl
theorem kflaw48b_16 : seqB Tryd.prog 24 2 = true := by kernel_rfl
theorem kflaw48b_17 : callB Tryd.prog 13 = true := by kernel_rfl
theorem kflaw48b_18 : (Tryd.prog.info? 40).bind (fun i => i.zero.map Value.cells) = some (List.toArray [(.int .i64 0), (.int .i64 0), (.int .i64 0), (.int .i64 0)]) := by kernel_rfl
theorem kflaw48b_19 : szB Tryd.prog 40 4 = true := by kernel_rfl
theorem kflaw48b_20 : fldB Tryd.prog 40 0 0 = true := by kernel_rfl
theorem kflaw48b_21 : oneB Tryd.prog 2 = true := by kernel_rfl
theorem kflaw48b_22 : fldB Tryd.prog 40 1 1 = true := by kernel_rfl
theorem kflaw48b_23 : fldB Tryd.prog 40 2 2 = true := by kernel_rfl

set_option maxRecDepth 100000 in
theorem horSteep_no (a h : Int) (L : List Int) (A : Option Addr) (n cap : Nat) (cx cy high dir : Int) (w : World) (ha : I6 a) (hh : I6 h) (hr : Rd w A (vi .i64 L)) (hl : L.length = n) (hG : Rd w (some ⟨0, 0, none⟩) (vi .i64 (pr dX dY 8))) (hp : ¬ LandP a h (1000 : Nat) L) :
    Ret Tryd.prog 3 [.int .i64 a, .int .i64 h, .slice A n cap, .agg #[.int .i64 cx, .int .i64 cy], .int .i64 high, .int .i64 dir] w (fun z w' => z = .bool true ∧ Below w.heap.size w w') := by
 refine ret_enter Tryd.func3 rfl rfl rfl ?_
 have H0 := HS.start w
 refine cw_seq ?_
 refine cw_reg ?_
 refine reg_op (op_box (cs := [.int _ _, .int _ _]) H0 rfl rfl rfl) rfl rfl ?_
 rintro _ w2 ⟨b1, rfl, H3⟩
 refine ry (y_asg rfl rfl) rfl rfl ?_
 refine reg_nil ?_
 refine fn_next ?_
 refine cw_seq ?_
 refine cw_seq ?_
 refine cw_reg ?_
 refine reg_op (op_call (horAwake _ (hG.below H3.base)) rfl kflaw48b_1 trivial) rfl rfl ?_
 rintro _ w5 ⟨rfl, e4⟩
 have H6 := H3.ext e4
 refine ry (y_not rfl rfl) rfl rfl ?_
 refine reg_nil ?_
 refine fn_next ?_
 refine cw_condf rfl ?_
 refine cw_skip ?_
 refine fn_next ?_
 refine cw_seq ?_
 refine cw_reg ?_
 refine ry (y_mov rfl rfl) rfl rfl ?_
 refine ry (y_mov rfl rfl) rfl rfl ?_
 refine ry (y_mov rfl rfl) rfl rfl ?_
 refine reg_op (op_call (land_any a h 1000 L A n cap _ ha hh (by decide) (hr.below H6.base) hl) rfl kflaw48b_2 ⟨rfl, rfl, rfl, rfl, trivial⟩) rfl rfl ?_
 rintro _ w8 ⟨rfl, e7⟩
 have H9 := H6.ext e7
 refine ry (y_mov rfl rfl) rfl rfl ?_
 refine ry (y_ext rfl rfl rfl) rfl rfl ?_
 refine ry (y_ext rfl rfl rfl) rfl rfl ?_
 refine reg_op (op_alloc H9 rfl kflaw48b_3) rfl rfl ?_
 rintro _ w11 ⟨b10, rfl, H12⟩
 refine reg_op (op_st (i := 0) (vs := [.int _ _, .int _ _, .slice _ _ _]) H12 rfl rfl rfl rfl rfl kflaw48b_4 rfl rfl rfl) rfl rfl ?_
 rintro _ w13 H14
 refine ry (y_asg rfl rfl) rfl rfl ?_
 refine reg_nil ?_
 refine fn_next ?_
 refine cw_seq ?_
 refine cw_seq ?_
 refine cw_reg ?_
 refine ry (y_mov rfl rfl) rfl rfl ?_
 refine ry (y_notd rfl rfl) rfl rfl ?_
 refine reg_nil ?_
 refine fn_next ?_
 refine cw_condd rfl (fun h15 => ?_) (fun h15 => ?_)
 ·skip
  refine cw_seq ?_
  refine cw_reg ?_
  refine ry (y_asg rfl rfl) rfl rfl ?_
  refine reg_nil ?_
  refine fn_next ?_
  refine cw_ret ?_
  refine fn_then_ret ?_
  refine fn_ret1 rfl rfl ?_
  exact ⟨rfl, H14.base⟩
 · exact absurd (Classical.not_not.1 h15) hp

set_option maxRecDepth 100000 in
theorem horSteep_n0 (a h : Nat) (L : List Int) (A : Option Addr) (cap : Nat) (cx cy high dir : Int) (w : World) (h1 : 1 ≤ a) (h2 : a ≤ 1000) (h3 : 1 ≤ h) (h4 : h ≤ 1000) (h5 : a * h ≤ 1000) (hr : Rd w A (vi .i64 L)) (hl : L.length = a * h) (hb : AllB L) (hG : Rd w (some ⟨0, 0, none⟩) (vi .i64 (pr dX dY 8))) (hc : ¬ hC a h cx cy high = 0) :
    Ret Tryd.prog 3 [.int .i64 (a : Int), .int .i64 (h : Int), .slice A (a * h) cap, .agg #[.int .i64 cx, .int .i64 cy], .int .i64 high, .int .i64 dir] w (fun z w' => z = .bool true ∧ Below w.heap.size w w') := by
 have s : SzG a h := ⟨h1, by omega, h3, by omega⟩
 refine ret_enter Tryd.func3 rfl rfl rfl ?_
 have H0 := HS.start w
 refine cw_seq ?_
 refine cw_reg ?_
 refine reg_op (op_box (cs := [.int _ _, .int _ _]) H0 rfl rfl rfl) rfl rfl ?_
 rintro _ w2 ⟨b1, rfl, H3⟩
 refine ry (y_asg rfl rfl) rfl rfl ?_
 refine reg_nil ?_
 refine fn_next ?_
 refine cw_seq ?_
 refine cw_seq ?_
 refine cw_reg ?_
 refine reg_op (op_call (horAwake _ (hG.below H3.base)) rfl kflaw48b_1 trivial) rfl rfl ?_
 rintro _ w5 ⟨rfl, e4⟩
 have H6 := H3.ext e4
 refine ry (y_not rfl rfl) rfl rfl ?_
 refine reg_nil ?_
 refine fn_next ?_
 refine cw_condf rfl ?_
 refine cw_skip ?_
 refine fn_next ?_
 refine cw_seq ?_
 refine cw_reg ?_
 refine ry (y_mov rfl rfl) rfl rfl ?_
 refine ry (y_mov rfl rfl) rfl rfl ?_
 refine ry (y_mov rfl rfl) rfl rfl ?_
 refine reg_op (op_call (land_ok a h 1000 L A (a * h) cap _ h1 h2 h3 h4 h5 rfl hl hb (by decide) (hr.below H6.base)) rfl kflaw48b_2 ⟨rfl, rfl, rfl, rfl, trivial⟩) rfl rfl ?_
 rintro _ w8 ⟨rfl, e7⟩
 have H9 := H6.ext e7
 refine ry (y_mov rfl rfl) rfl rfl ?_
 refine ry (y_ext rfl rfl rfl) rfl rfl ?_
 refine ry (y_ext rfl rfl rfl) rfl rfl ?_
 refine reg_op (op_alloc H9 rfl kflaw48b_3) rfl rfl ?_
 rintro _ w11 ⟨b10, rfl, H12⟩
 refine reg_op (op_st (i := 0) (vs := [.int _ _, .int _ _, .slice _ _ _]) H12 rfl rfl rfl rfl rfl kflaw48b_4 rfl rfl rfl) rfl rfl ?_
 rintro _ w13 H14
 refine ry (y_asg rfl rfl) rfl rfl ?_
 refine reg_nil ?_
 refine fn_next ?_
 refine cw_seq ?_
 refine cw_seq ?_
 refine cw_reg ?_
 refine ry (y_mov rfl rfl) rfl rfl ?_
 refine ry (y_not rfl rfl) rfl rfl ?_
 refine reg_nil ?_
 refine fn_next ?_
 refine cw_condf rfl ?_
 refine cw_skip ?_
 refine fn_next ?_
 refine cw_seq ?_
 refine cw_reg ?_
 refine ry (y_mov rfl rfl) rfl rfl ?_
 refine ry (y_mov rfl rfl) rfl rfl ?_
 refine ry (y_mov rfl rfl) rfl rfl ?_
 refine reg_op (op_call (made_ok a h L A (a * h) cap _ s hl rfl hb (hr.below H14.base)) rfl kflaw48b_5 ⟨rfl, rfl, rfl, trivial⟩) rfl rfl ?_
 rintro _ w16 ⟨g18, bl19, rfl, k15⟩
 have H17 := H14.call k15
 refine ry (y_mov rfl rfl) rfl rfl ?_
 refine ry (y_ext rfl rfl rfl) rfl rfl ?_
 refine ry (y_ext rfl rfl rfl) rfl rfl ?_
 refine ry (y_asg rfl rfl) rfl rfl ?_
 refine ry (y_asg rfl rfl) rfl rfl ?_
 refine reg_nil ?_
 refine fn_next ?_
 refine cw_seq ?_
 refine cw_seq ?_
 refine cw_reg ?_
 refine ry (y_mov rfl rfl) rfl rfl ?_
 refine ry (y_not rfl rfl) rfl rfl ?_
 refine reg_nil ?_
 refine fn_next ?_
 refine cw_condf rfl ?_
 refine cw_skip ?_
 refine fn_next ?_
 refine cw_seq ?_
 refine cw_reg ?_
 refine ry (y_mov rfl rfl) rfl rfl ?_
 refine ry (y_ldb (i := 2) (cs := [_, _]) H17 rfl rfl kflaw48b_6 rfl rfl) rfl rfl ?_
 refine ry (y_mov rfl rfl) rfl rfl ?_
 refine ry (y_mov rfl rfl) rfl rfl ?_
 refine reg_op (op_call (hStp_no0 g18 a h L cx cy high dir _ (H17.rdg (i := 0) rfl) hc) rfl kflaw48b_7 ⟨rfl, rfl, rfl, rfl, trivial⟩) rfl rfl ?_
 rintro _ w21 ⟨rfl, e20⟩
 have H22 := H17.ext e20
 refine ry (y_mov rfl rfl) rfl rfl ?_
 refine ry (y_ext rfl rfl rfl) rfl rfl ?_
 refine ry (y_ext rfl rfl rfl) rfl rfl ?_
 refine ry (y_ext rfl rfl rfl) rfl rfl ?_
 refine ry (y_ext rfl rfl rfl) rfl rfl ?_
 refine reg_op (op_alloc H22 rfl kflaw48b_8) rfl rfl ?_
 rintro _ w24 ⟨b23, rfl, H25⟩
 refine reg_op (op_alloc H25 rfl kflaw48b_9) rfl rfl ?_
 rintro _ w27 ⟨b26, rfl, H28⟩
 refine reg_op (op_st (i := 1) (vs := [.int _ _, .int _ _]) H28 rfl rfl rfl rfl rfl kflaw48b_10 rfl rfl rfl) rfl rfl ?_
 rintro _ w29 H30
 refine reg_op (op_st (i := 0) (vs := [.int _ _, .int _ _]) H30 rfl rfl rfl rfl rfl kflaw48b_11 rfl rfl rfl) rfl rfl ?_
 rintro _ w31 H32
 refine ry (y_asg rfl rfl) rfl rfl ?_
 refine ry (y_asg rfl rfl) rfl rfl ?_
 refine reg_nil ?_
 refine fn_next ?_
 refine cw_seq ?_
 refine cw_reg ?_
 refine ry (y_ldb (i := 3) (cs := [_, _, _]) H32 rfl rfl kflaw48b_12 rfl rfl) rfl rfl ?_
 refine ry (y_ldb (i := 4) (cs := [_, _]) H32 rfl rfl kflaw48b_6 rfl rfl) rfl rfl ?_
 refine ry (y_mov rfl rfl) rfl rfl ?_
 refine ry (y_ldb (i := 4) (cs := [_, _]) H32 rfl rfl kflaw48b_6 rfl rfl) rfl rfl ?_
 refine reg_op (op_call (refMay a h A cap L cx cy high _ s (hr.below H32.base) hl) rfl kflaw48b_13 ⟨rfl, rfl, rfl, rfl, rfl, trivial⟩) rfl rfl ?_
 rintro _ w34 ⟨rfl, e33⟩
 have H35 := H32.ext e33
 refine ry (y_asg rfl rfl) rfl rfl ?_
 refine reg_nil ?_
 refine fn_next ?_
 refine cw_seq ?_
 refine cw_seq ?_
 refine cw_reg ?_
 refine ry (y_mov rfl rfl) rfl rfl ?_
 refine ry (y_eql rfl rfl rfl) rfl rfl ?_
 refine ry (y_mov rfl rfl) rfl rfl ?_
 refine rg_splitd (d := 59) rfl (fun h36 => ?_) (fun h36 => ?_)
 · exact absurd h36 hc
 ·skip
  refine rg_off rfl rfl rfl rfl rfl ?_
  refine rg_off rfl rfl rfl rfl rfl ?_
  refine rg_off rfl rfl rfl rfl rfl ?_
  refine rg_offu rfl rfl rfl rfl ?_
  refine rg_offu rfl rfl rfl rfl ?_
  refine rg_off rfl rfl rfl rfl rfl ?_
  refine ry (y_pick rfl rfl rfl) rfl rfl ?_
  refine reg_nil ?_
  refine fn_next ?_
  refine cw_condf rfl ?_
  refine cw_skip ?_
  refine fn_next ?_
  refine cw_seq ?_
  refine cw_seq ?_
  refine cw_reg ?_
  refine ry (y_mov rfl rfl) rfl rfl ?_
  refine ry (y_neq rfl rfl rfl) rfl rfl ?_
  refine reg_nil ?_
  refine fn_next ?_
  refine cw_condd rfl (fun h37 => ?_) (fun h37 => ?_)
  ·skip
   refine cw_seq ?_
   refine cw_reg ?_
   refine ry (y_ldb (i := 1) (cs := [_, _]) H35 rfl rfl kflaw48b_14 rfl rfl) rfl rfl ?_
   refine ry (y_build (places := [(0, 1), (1, 1)]) (parts := []) (vs := []) (cs := [.int _ _, .int _ _]) rfl Tryd.underlying34 (by kernel_rfl) kflaw48b_8 rfl trivial rfl) rfl rfl ?_
   refine ry (yv (congrArg Value.bool (decide_eq_true (rfl))) (y_seq (ks := [.i64, .i64]) (a := [0, 0]) (b := [0, 0]) rfl (.inl ⟨rfl, rfl⟩) kflaw48b_15 rfl rfl rfl rfl rfl rfl rfl)) rfl rfl ?_
   refine ry (y_mov rfl rfl) rfl rfl ?_
   refine rgy (y_ldb (i := 0) (cs := [_, _]) H35 rfl rfl kflaw48b_6 rfl rfl) rfl rfl rfl rfl ?_
   refine rgy (y_build (places := [(0, 1), (1, 1)]) (parts := []) (vs := []) (cs := [.int _ _, .int _ _]) rfl Tryd.underlying24 (by kernel_rfl) kflaw48b_9 rfl trivial rfl) rfl rfl rfl rfl ?_
   refine rgy (yv (congrArg Value.bool (decide_eq_true (rfl))) (y_seq (ks := [.i64, .i64]) (a := [0, 0]) (b := [0, 0]) rfl (.inl ⟨rfl, rfl⟩) kflaw48b_16 rfl rfl rfl rfl rfl rfl rfl)) rfl rfl rfl rfl ?_
   refine ry (y_pick rfl rfl rfl) rfl rfl ?_
   refine ry (y_mov rfl rfl) rfl rfl ?_
   refine rgy (y_mov rfl rfl) rfl rfl rfl rfl ?_
   refine rgy (y_not rfl rfl) rfl rfl rfl rfl ?_
   refine ry (y_pick rfl rfl rfl) rfl rfl ?_
   refine ry (y_mov rfl rfl) rfl rfl ?_
   refine rgy (y_mov rfl rfl) rfl rfl rfl rfl ?_
   refine rgy (y_mov rfl rfl) rfl rfl rfl rfl ?_
   refine rgy (yv (congrArg Value.bool (decide_eq_true (rfl))) (y_eql rfl rfl rfl)) rfl rfl rfl rfl ?_
   refine ry (y_pick rfl rfl rfl) rfl rfl ?_
   refine ry (y_asg rfl rfl) rfl rfl ?_
   refine reg_nil ?_
   refine fn_next ?_
   refine cw_ret ?_
   refine fn_then_ret ?_
   refine fn_ret1 rfl rfl ?_
   exact ⟨rfl, H35.base⟩
  · exact absurd (Classical.not_not.1 h37) hc

set_option maxRecDepth 100000 in
theorem horSteep_n1 (a h : Nat) (L : List Int) (A : Option Addr) (cap : Nat) (cx cy high dir : Int) (w : World) (h1 : 1 ≤ a) (h2 : a ≤ 1000) (h3 : 1 ≤ h) (h4 : h ≤ 1000) (h5 : a * h ≤ 1000) (hr : Rd w A (vi .i64 L)) (hl : L.length = a * h) (hb : AllB L) (hG : Rd w (some ⟨0, 0, none⟩) (vi .i64 (pr dX dY 8))) (hc : hC a h cx cy high = 0) (hd : dir < 0 ∨ dir ≥ 8) :
    Ret Tryd.prog 3 [.int .i64 (a : Int), .int .i64 (h : Int), .slice A (a * h) cap, .agg #[.int .i64 cx, .int .i64 cy], .int .i64 high, .int .i64 dir] w (fun z w' => z = .bool true ∧ Below w.heap.size w w') := by
 have s : SzG a h := ⟨h1, by omega, h3, by omega⟩
 refine ret_enter Tryd.func3 rfl rfl rfl ?_
 have H0 := HS.start w
 refine cw_seq ?_
 refine cw_reg ?_
 refine reg_op (op_box (cs := [.int _ _, .int _ _]) H0 rfl rfl rfl) rfl rfl ?_
 rintro _ w2 ⟨b1, rfl, H3⟩
 refine ry (y_asg rfl rfl) rfl rfl ?_
 refine reg_nil ?_
 refine fn_next ?_
 refine cw_seq ?_
 refine cw_seq ?_
 refine cw_reg ?_
 refine reg_op (op_call (horAwake _ (hG.below H3.base)) rfl kflaw48b_1 trivial) rfl rfl ?_
 rintro _ w5 ⟨rfl, e4⟩
 have H6 := H3.ext e4
 refine ry (y_not rfl rfl) rfl rfl ?_
 refine reg_nil ?_
 refine fn_next ?_
 refine cw_condf rfl ?_
 refine cw_skip ?_
 refine fn_next ?_
 refine cw_seq ?_
 refine cw_reg ?_
 refine ry (y_mov rfl rfl) rfl rfl ?_
 refine ry (y_mov rfl rfl) rfl rfl ?_
 refine ry (y_mov rfl rfl) rfl rfl ?_
 refine reg_op (op_call (land_ok a h 1000 L A (a * h) cap _ h1 h2 h3 h4 h5 rfl hl hb (by decide) (hr.below H6.base)) rfl kflaw48b_2 ⟨rfl, rfl, rfl, rfl, trivial⟩) rfl rfl ?_
 rintro _ w8 ⟨rfl, e7⟩
 have H9 := H6.ext e7
 refine ry (y_mov rfl rfl) rfl rfl ?_
 refine ry (y_ext rfl rfl rfl) rfl rfl ?_
 refine ry (y_ext rfl rfl rfl) rfl rfl ?_
 refine reg_op (op_alloc H9 rfl kflaw48b_3) rfl rfl ?_
 rintro _ w11 ⟨b10, rfl, H12⟩
 refine reg_op (op_st (i := 0) (vs := [.int _ _, .int _ _, .slice _ _ _]) H12 rfl rfl rfl rfl rfl kflaw48b_4 rfl rfl rfl) rfl rfl ?_
 rintro _ w13 H14
 refine ry (y_asg rfl rfl) rfl rfl ?_
 refine reg_nil ?_
 refine fn_next ?_
 refine cw_seq ?_
 refine cw_seq ?_
 refine cw_reg ?_
 refine ry (y_mov rfl rfl) rfl rfl ?_
 refine ry (y_not rfl rfl) rfl rfl ?_
 refine reg_nil ?_
 refine fn_next ?_
 refine cw_condf rfl ?_
 refine cw_skip ?_
 refine fn_next ?_
 refine cw_seq ?_
 refine cw_reg ?_
 refine ry (y_mov rfl rfl) rfl rfl ?_
 refine ry (y_mov rfl rfl) rfl rfl ?_
 refine ry (y_mov rfl rfl) rfl rfl ?_
 refine reg_op (op_call (made_ok a h L A (a * h) cap _ s hl rfl hb (hr.below H14.base)) rfl kflaw48b_5 ⟨rfl, rfl, rfl, trivial⟩) rfl rfl ?_
 rintro _ w16 ⟨g18, bl19, rfl, k15⟩
 have H17 := H14.call k15
 refine ry (y_mov rfl rfl) rfl rfl ?_
 refine ry (y_ext rfl rfl rfl) rfl rfl ?_
 refine ry (y_ext rfl rfl rfl) rfl rfl ?_
 refine ry (y_asg rfl rfl) rfl rfl ?_
 refine ry (y_asg rfl rfl) rfl rfl ?_
 refine reg_nil ?_
 refine fn_next ?_
 refine cw_seq ?_
 refine cw_seq ?_
 refine cw_reg ?_
 refine ry (y_mov rfl rfl) rfl rfl ?_
 refine ry (y_not rfl rfl) rfl rfl ?_
 refine reg_nil ?_
 refine fn_next ?_
 refine cw_condf rfl ?_
 refine cw_skip ?_
 refine fn_next ?_
 refine cw_seq ?_
 refine cw_reg ?_
 refine ry (y_mov rfl rfl) rfl rfl ?_
 refine ry (y_ldb (i := 2) (cs := [_, _]) H17 rfl rfl kflaw48b_6 rfl rfl) rfl rfl ?_
 refine ry (y_mov rfl rfl) rfl rfl ?_
 refine ry (y_mov rfl rfl) rfl rfl ?_
 refine reg_op (op_call (hStp_no1 g18 a h L cx cy high dir _ (H17.rdg (i := 0) rfl) hc hd) rfl kflaw48b_7 ⟨rfl, rfl, rfl, rfl, trivial⟩) rfl rfl ?_
 rintro _ w21 ⟨rfl, e20⟩
 have H22 := H17.ext e20
 refine ry (y_mov rfl rfl) rfl rfl ?_
 refine ry (y_ext rfl rfl rfl) rfl rfl ?_
 refine ry (y_ext rfl rfl rfl) rfl rfl ?_
 refine ry (y_ext rfl rfl rfl) rfl rfl ?_
 refine ry (y_ext rfl rfl rfl) rfl rfl ?_
 refine reg_op (op_alloc H22 rfl kflaw48b_8) rfl rfl ?_
 rintro _ w24 ⟨b23, rfl, H25⟩
 refine reg_op (op_alloc H25 rfl kflaw48b_9) rfl rfl ?_
 rintro _ w27 ⟨b26, rfl, H28⟩
 refine reg_op (op_st (i := 1) (vs := [.int _ _, .int _ _]) H28 rfl rfl rfl rfl rfl kflaw48b_10 rfl rfl rfl) rfl rfl ?_
 rintro _ w29 H30
 refine reg_op (op_st (i := 0) (vs := [.int _ _, .int _ _]) H30 rfl rfl rfl rfl rfl kflaw48b_11 rfl rfl rfl) rfl rfl ?_
 rintro _ w31 H32
 refine ry (y_asg rfl rfl) rfl rfl ?_
 refine ry (y_asg rfl rfl) rfl rfl ?_
 refine reg_nil ?_
 refine fn_next ?_
 refine cw_seq ?_
 refine cw_reg ?_
 refine ry (y_ldb (i := 3) (cs := [_, _, _]) H32 rfl rfl kflaw48b_12 rfl rfl) rfl rfl ?_
 refine ry (y_ldb (i := 4) (cs := [_, _]) H32 rfl rfl kflaw48b_6 rfl rfl) rfl rfl ?_
 refine ry (y_mov rfl rfl) rfl rfl ?_
 refine ry (y_ldb (i := 4) (cs := [_, _]) H32 rfl rfl kflaw48b_6 rfl rfl) rfl rfl ?_
 refine reg_op (op_call (ret_v (v := .int .i64 0) (refMay a h A cap L cx cy high _ s (hr.below H32.base) hl) (by rw [hc])) rfl kflaw48b_13 ⟨rfl, rfl, rfl, rfl, rfl, trivial⟩) rfl rfl ?_
 rintro _ w34 ⟨rfl, e33⟩
 have H35 := H32.ext e33
 refine ry (y_asg rfl rfl) rfl rfl ?_
 refine reg_nil ?_
 refine fn_next ?_
 refine cw_seq ?_
 refine cw_seq ?_
 refine cw_reg ?_
 refine ry (y_mov rfl rfl) rfl rfl ?_
 refine ry (y_eql rfl rfl rfl) rfl rfl ?_
 refine ry (y_mov rfl rfl) rfl rfl ?_
 refine rgy (y_mov rfl rfl) rfl rfl rfl rfl ?_
 refine rgy (y_lss rfl rfl rfl) rfl rfl rfl rfl ?_
 refine rgy (y_mov rfl rfl) rfl rfl rfl rfl ?_
 refine rg_splitd (d := 62) rfl (fun h36 => ?_) (fun h36 => ?_)
 ·skip
  refine rg_off rfl rfl rfl rfl rfl ?_
  refine rg_off rfl rfl rfl rfl rfl ?_
  refine rgy (y_pick rfl rfl rfl) rfl rfl rfl rfl ?_
  refine ry (y_pick rfl rfl rfl) rfl rfl ?_
  refine reg_nil ?_
  refine fn_next ?_
  refine cw_condt rfl ?_
  refine cw_reg ?_
  refine ry (y_asg rfl rfl) rfl rfl ?_
  refine reg_nil ?_
  refine fn_next ?_
  refine cw_seq ?_
  refine cw_seq ?_
  refine cw_reg ?_
  refine ry (y_mov rfl rfl) rfl rfl ?_
  refine ry (y_neq rfl rfl rfl) rfl rfl ?_
  refine reg_nil ?_
  refine fn_next ?_
  refine cw_condt rfl ?_
  refine cw_seq ?_
  refine cw_reg ?_
  refine ry (y_ldb (i := 1) (cs := [_, _]) H35 rfl rfl kflaw48b_14 rfl rfl) rfl rfl ?_
  refine ry (y_build (places := [(0, 1), (1, 1)]) (parts := []) (vs := []) (cs := [.int _ _, .int _ _]) rfl Tryd.underlying34 (by kernel_rfl) kflaw48b_8 rfl trivial rfl) rfl rfl ?_
  refine ry (yv (congrArg Value.bool (decide_eq_true (rfl))) (y_seq (ks := [.i64, .i64]) (a := [0, 0]) (b := [0, 0]) rfl (.inl ⟨rfl, rfl⟩) kflaw48b_15 rfl rfl rfl rfl rfl rfl rfl)) rfl rfl ?_
  refine ry (y_mov rfl rfl) rfl rfl ?_
  refine rgy (y_ldb (i := 0) (cs := [_, _]) H35 rfl rfl kflaw48b_6 rfl rfl) rfl rfl rfl rfl ?_
  refine rgy (y_build (places := [(0, 1), (1, 1)]) (parts := []) (vs := []) (cs := [.int _ _, .int _ _]) rfl Tryd.underlying24 (by kernel_rfl) kflaw48b_9 rfl trivial rfl) rfl rfl rfl rfl ?_
  refine rgy (yv (congrArg Value.bool (decide_eq_true (rfl))) (y_seq (ks := [.i64, .i64]) (a := [0, 0]) (b := [0, 0]) rfl (.inl ⟨rfl, rfl⟩) kflaw48b_16 rfl rfl rfl rfl rfl rfl rfl)) rfl rfl rfl rfl ?_
  refine ry (y_pick rfl rfl rfl) rfl rfl ?_
  refine ry (y_mov rfl rfl) rfl rfl ?_
  refine rgy (y_mov rfl rfl) rfl rfl rfl rfl ?_
  refine rgy (y_not rfl rfl) rfl rfl rfl rfl ?_
  refine ry (y_pick rfl rfl rfl) rfl rfl ?_
  refine ry (y_mov rfl rfl) rfl rfl ?_
  refine rgy (y_mov rfl rfl) rfl rfl rfl rfl ?_
  refine rgy (y_mov rfl rfl) rfl rfl rfl rfl ?_
  refine rgy (yv (congrArg Value.bool (decide_eq_true (rfl))) (y_eql rfl rfl rfl)) rfl rfl rfl rfl ?_
  refine ry (y_pick rfl rfl rfl) rfl rfl ?_
  refine ry (y_asg rfl rfl) rfl rfl ?_
  refine reg_nil ?_
  refine fn_next ?_
  refine cw_ret ?_
  refine fn_then_ret ?_
  refine fn_ret1 rfl rfl ?_
  exact ⟨rfl, H35.base⟩
 ·skip
  refine rgy (y_mov rfl rfl) rfl rfl rfl rfl ?_
  refine rgy (y_gtr rfl rfl rfl) rfl rfl rfl rfl ?_
  refine rgy (y_pick rfl rfl rfl) rfl rfl rfl rfl ?_
  refine ry (y_pick rfl rfl rfl) rfl rfl ?_
  refine reg_nil ?_
  refine fn_next ?_
  refine cw_condd rfl (fun h37 => ?_) (fun h37 => ?_)
  ·skip
   refine cw_reg ?_
   refine ry (y_asg rfl rfl) rfl rfl ?_
   refine reg_nil ?_
   refine fn_next ?_
   refine cw_seq ?_
   refine cw_seq ?_
   refine cw_reg ?_
   refine ry (y_mov rfl rfl) rfl rfl ?_
   refine ry (y_neq rfl rfl rfl) rfl rfl ?_
   refine reg_nil ?_
   refine fn_next ?_
   refine cw_condt rfl ?_
   refine cw_seq ?_
   refine cw_reg ?_
   refine ry (y_ldb (i := 1) (cs := [_, _]) H35 rfl rfl kflaw48b_14 rfl rfl) rfl rfl ?_
   refine ry (y_build (places := [(0, 1), (1, 1)]) (parts := []) (vs := []) (cs := [.int _ _, .int _ _]) rfl Tryd.underlying34 (by kernel_rfl) kflaw48b_8 rfl trivial rfl) rfl rfl ?_
   refine ry (yv (congrArg Value.bool (decide_eq_true (rfl))) (y_seq (ks := [.i64, .i64]) (a := [0, 0]) (b := [0, 0]) rfl (.inl ⟨rfl, rfl⟩) kflaw48b_15 rfl rfl rfl rfl rfl rfl rfl)) rfl rfl ?_
   refine ry (y_mov rfl rfl) rfl rfl ?_
   refine rgy (y_ldb (i := 0) (cs := [_, _]) H35 rfl rfl kflaw48b_6 rfl rfl) rfl rfl rfl rfl ?_
   refine rgy (y_build (places := [(0, 1), (1, 1)]) (parts := []) (vs := []) (cs := [.int _ _, .int _ _]) rfl Tryd.underlying24 (by kernel_rfl) kflaw48b_9 rfl trivial rfl) rfl rfl rfl rfl ?_
   refine rgy (yv (congrArg Value.bool (decide_eq_true (rfl))) (y_seq (ks := [.i64, .i64]) (a := [0, 0]) (b := [0, 0]) rfl (.inl ⟨rfl, rfl⟩) kflaw48b_16 rfl rfl rfl rfl rfl rfl rfl)) rfl rfl rfl rfl ?_
   refine ry (y_pick rfl rfl rfl) rfl rfl ?_
   refine ry (y_mov rfl rfl) rfl rfl ?_
   refine rgy (y_mov rfl rfl) rfl rfl rfl rfl ?_
   refine rgy (y_not rfl rfl) rfl rfl rfl rfl ?_
   refine ry (y_pick rfl rfl rfl) rfl rfl ?_
   refine ry (y_mov rfl rfl) rfl rfl ?_
   refine rgy (y_mov rfl rfl) rfl rfl rfl rfl ?_
   refine rgy (y_mov rfl rfl) rfl rfl rfl rfl ?_
   refine rgy (yv (congrArg Value.bool (decide_eq_true (rfl))) (y_eql rfl rfl rfl)) rfl rfl rfl rfl ?_
   refine ry (y_pick rfl rfl rfl) rfl rfl ?_
   refine ry (y_asg rfl rfl) rfl rfl ?_
   refine reg_nil ?_
   refine fn_next ?_
   refine cw_ret ?_
   refine fn_then_ret ?_
   refine fn_ret1 rfl rfl ?_
   exact ⟨rfl, H35.base⟩
  · exfalso; omega

set_option maxRecDepth 100000 in
theorem horSteep_ok (a h : Nat) (L : List Int) (A : Option Addr) (cap : Nat) (cx cy high : Int) (d : Nat) (w : World) (h1 : 1 ≤ a) (h2 : a ≤ 1000) (h3 : 1 ≤ h) (h4 : h ≤ 1000) (h5 : a * h ≤ 1000) (hr : Rd w A (vi .i64 L)) (hl : L.length = a * h) (hb : AllB L) (hG : Rd w (some ⟨0, 0, none⟩) (vi .i64 (pr dX dY 8))) (hc : hC a h cx cy high = 0) (hd : d < 8) :
    Ret Tryd.prog 3 [.int .i64 (a : Int), .int .i64 (h : Int), .slice A (a * h) cap, .agg #[.int .i64 cx, .int .i64 cy], .int .i64 high, .int .i64 (d : Int)] w (fun z w' => z = .bool true ∧ Below w.heap.size w w') := by
 have s : SzG a h := ⟨h1, by omega, h3, by omega⟩
 refine ret_enter Tryd.func3 rfl rfl rfl ?_
 have H0 := HS.start w
 refine cw_seq ?_
 refine cw_reg ?_
 refine reg_op (op_box (cs := [.int _ _, .int _ _]) H0 rfl rfl rfl) rfl rfl ?_
 rintro _ w2 ⟨b1, rfl, H3⟩
 refine ry (y_asg rfl rfl) rfl rfl ?_
 refine reg_nil ?_
 refine fn_next ?_
 refine cw_seq ?_
 refine cw_seq ?_
 refine cw_reg ?_
 refine reg_op (op_call (horAwake _ (hG.below H3.base)) rfl kflaw48b_1 trivial) rfl rfl ?_
 rintro _ w5 ⟨rfl, e4⟩
 have H6 := H3.ext e4
 refine ry (y_not rfl rfl) rfl rfl ?_
 refine reg_nil ?_
 refine fn_next ?_
 refine cw_condf rfl ?_
 refine cw_skip ?_
 refine fn_next ?_
 refine cw_seq ?_
 refine cw_reg ?_
 refine ry (y_mov rfl rfl) rfl rfl ?_
 refine ry (y_mov rfl rfl) rfl rfl ?_
 refine ry (y_mov rfl rfl) rfl rfl ?_
 refine reg_op (op_call (land_ok a h 1000 L A (a * h) cap _ h1 h2 h3 h4 h5 rfl hl hb (by decide) (hr.below H6.base)) rfl kflaw48b_2 ⟨rfl, rfl, rfl, rfl, trivial⟩) rfl rfl ?_
 rintro _ w8 ⟨rfl, e7⟩
 have H9 := H6.ext e7
 refine ry (y_mov rfl rfl) rfl rfl ?_
 refine ry (y_ext rfl rfl rfl) rfl rfl ?_
 refine ry (y_ext rfl rfl rfl) rfl rfl ?_
 refine reg_op (op_alloc H9 rfl kflaw48b_3) rfl rfl ?_
 rintro _ w11 ⟨b10, rfl, H12⟩
 refine reg_op (op_st (i := 0) (vs := [.int _ _, .int _ _, .slice _ _ _]) H12 rfl rfl rfl rfl rfl kflaw48b_4 rfl rfl rfl) rfl rfl ?_
 rintro _ w13 H14
 refine ry (y_asg rfl rfl) rfl rfl ?_
 refine reg_nil ?_
 refine fn_next ?_
 refine cw_seq ?_
 refine cw_seq ?_
 refine cw_reg ?_
 refine ry (y_mov rfl rfl) rfl rfl ?_
 refine ry (y_not rfl rfl) rfl rfl ?_
 refine reg_nil ?_
 refine fn_next ?_
 refine cw_condf rfl ?_
 refine cw_skip ?_
 refine fn_next ?_
 refine cw_seq ?_
 refine cw_reg ?_
 refine ry (y_mov rfl rfl) rfl rfl ?_
 refine ry (y_mov rfl rfl) rfl rfl ?_
 refine ry (y_mov rfl rfl) rfl rfl ?_
 refine reg_op (op_call (made_ok a h L A (a * h) cap _ s hl rfl hb (hr.below H14.base)) rfl kflaw48b_5 ⟨rfl, rfl, rfl, trivial⟩) rfl rfl ?_
 rintro _ w16 ⟨g18, bl19, rfl, k15⟩
 have H17 := H14.call k15
 refine ry (y_mov rfl rfl) rfl rfl ?_
 refine ry (y_ext rfl rfl rfl) rfl rfl ?_
 refine ry (y_ext rfl rfl rfl) rfl rfl ?_
 refine ry (y_asg rfl rfl) rfl rfl ?_
 refine ry (y_asg rfl rfl) rfl rfl ?_
 refine reg_nil ?_
 refine fn_next ?_
 refine cw_seq ?_
 refine cw_seq ?_
 refine cw_reg ?_
 refine ry (y_mov rfl rfl) rfl rfl ?_
 refine ry (y_not rfl rfl) rfl rfl ?_
 refine reg_nil ?_
 refine fn_next ?_
 refine cw_condf rfl ?_
 refine cw_skip ?_
 refine fn_next ?_
 refine cw_seq ?_
 refine cw_reg ?_
 refine ry (y_mov rfl rfl) rfl rfl ?_
 refine ry (y_ldb (i := 2) (cs := [_, _]) H17 rfl rfl kflaw48b_6 rfl rfl) rfl rfl ?_
 refine ry (y_mov rfl rfl) rfl rfl ?_
 refine ry (y_mov rfl rfl) rfl rfl ?_
 refine reg_op (op_call (hSteep g18 a h L cx cy high d _ (H17.rdg (i := 0) rfl) (hG.below H17.base) hc hd) rfl kflaw48b_7 ⟨rfl, rfl, rfl, rfl, trivial⟩) rfl rfl ?_
 rintro _ w21 ⟨rfl, e20⟩
 have H22 := H17.ext e20
 refine ry (y_mov rfl rfl) rfl rfl ?_
 refine ry (y_ext rfl rfl rfl) rfl rfl ?_
 refine ry (y_ext rfl rfl rfl) rfl rfl ?_
 refine ry (y_ext rfl rfl rfl) rfl rfl ?_
 refine ry (y_ext rfl rfl rfl) rfl rfl ?_
 refine reg_op (op_alloc H22 rfl kflaw48b_8) rfl rfl ?_
 rintro _ w24 ⟨b23, rfl, H25⟩
 refine reg_op (op_alloc H25 rfl kflaw48b_9) rfl rfl ?_
 rintro _ w27 ⟨b26, rfl, H28⟩
 refine reg_op (op_st (i := 1) (vs := [.int _ _, .int _ _]) H28 rfl rfl rfl rfl rfl kflaw48b_10 rfl rfl rfl) rfl rfl ?_
 rintro _ w29 H30
 refine reg_op (op_st (i := 0) (vs := [.int _ _, .int _ _]) H30 rfl rfl rfl rfl rfl kflaw48b_11 rfl rfl rfl) rfl rfl ?_
 rintro _ w31 H32
 refine ry (y_asg rfl rfl) rfl rfl ?_
 refine ry (y_asg rfl rfl) rfl rfl ?_
 refine reg_nil ?_
 refine fn_next ?_
 refine cw_seq ?_
 refine cw_reg ?_
 refine ry (y_ldb (i := 3) (cs := [_, _, _]) H32 rfl rfl kflaw48b_12 rfl rfl) rfl rfl ?_
 refine ry (y_ldb (i := 4) (cs := [_, _]) H32 rfl rfl kflaw48b_6 rfl rfl) rfl rfl ?_
 refine ry (y_mov rfl rfl) rfl rfl ?_
 refine ry (y_ldb (i := 4) (cs := [_, _]) H32 rfl rfl kflaw48b_6 rfl rfl) rfl rfl ?_
 refine reg_op (op_call (ret_v (v := .int .i64 0) (refMay a h A cap L cx cy high _ s (hr.below H32.base) hl) (by rw [hc])) rfl kflaw48b_13 ⟨rfl, rfl, rfl, rfl, rfl, trivial⟩) rfl rfl ?_
 rintro _ w34 ⟨rfl, e33⟩
 have H35 := H32.ext e33
 refine ry (y_asg rfl rfl) rfl rfl ?_
 refine reg_nil ?_
 refine fn_next ?_
 refine cw_seq ?_
 refine cw_seq ?_
 refine cw_reg ?_
 refine ry (y_mov rfl rfl) rfl rfl ?_
 refine ry (y_eql rfl rfl rfl) rfl rfl ?_
 refine ry (y_mov rfl rfl) rfl rfl ?_
 refine rgy (y_mov rfl rfl) rfl rfl rfl rfl ?_
 refine rgy (y_lss rfl rfl rfl) rfl rfl rfl rfl ?_
 refine rgy (y_mov rfl rfl) rfl rfl rfl rfl ?_
 refine rg_splitd (d := 62) rfl (fun h36 => ?_) (fun h36 => ?_)
 · exfalso; omega
 ·skip
  refine rgy (y_mov rfl rfl) rfl rfl rfl rfl ?_
  refine rgy (y_gtr rfl rfl rfl) rfl rfl rfl rfl ?_
  refine rgy (y_pick rfl rfl rfl) rfl rfl rfl rfl ?_
  refine ry (y_pick rfl rfl rfl) rfl rfl ?_
  refine reg_nil ?_
  refine fn_next ?_
  refine cw_condd rfl (fun h37 => ?_) (fun h37 => ?_)
  · exfalso; omega
  ·skip
   refine cw_skip ?_
   refine fn_next ?_
   refine cw_seq ?_
   refine cw_seq ?_
   refine cw_reg ?_
   refine ry (y_mov rfl rfl) rfl rfl ?_
   refine ry (y_neq rfl rfl rfl) rfl rfl ?_
   refine reg_nil ?_
   refine fn_next ?_
   refine cw_condf rfl ?_
   refine cw_skip ?_
   refine fn_next ?_
   refine cw_seq ?_
   refine cw_reg ?_
   refine ry (y_ldb (i := 3) (cs := [_, _, _]) H35 rfl rfl kflaw48b_12 rfl rfl) rfl rfl ?_
   refine ry (y_ldb (i := 4) (cs := [_, _]) H35 rfl rfl kflaw48b_6 rfl rfl) rfl rfl ?_
   refine ry (y_mov rfl rfl) rfl rfl ?_
   refine ry (y_mov rfl rfl) rfl rfl ?_
   refine reg_op (op_call (mSteep a h A cap L cx cy high d _ s (hr.below H35.base) hl hb hc hd) rfl kflaw48b_17 ⟨rfl, rfl, rfl, rfl, trivial⟩) rfl rfl ?_
   rintro _ w39 ⟨rfl, e38⟩
   have H40 := H35.ext e38
   refine reg_op (op_alloc H40 rfl kflaw48b_18) rfl rfl ?_
   rintro _ w42 ⟨b41, rfl, H43⟩
   refine reg_op (op_st (i := 0) (vs := [.int _ _, .int _ _, .int _ _, .int _ _]) H43 rfl rfl rfl rfl rfl kflaw48b_19 rfl rfl rfl) rfl rfl ?_
   rintro _ w44 H45
   refine reg_nil ?_
   refine fn_next ?_
   refine cw_seq ?_
   refine cw_reg ?_
   refine ry (y_mov rfl rfl) rfl rfl ?_
   refine ry (y_eql rfl rfl rfl) rfl rfl ?_
   refine ry (y_mov rfl rfl) rfl rfl ?_
   refine rgy (y_ldb (i := 2) (cs := [_, _]) H45 rfl rfl kflaw48b_14 rfl rfl) rfl rfl rfl rfl ?_
   refine rgy (y_fa rfl rfl kflaw48b_20 rfl) rfl rfl rfl rfl ?_
   refine rgy (y_ld rfl rfl kflaw48b_21 (H45.cell (i := 0) rfl rfl)) rfl rfl rfl rfl ?_
   refine rgy (y_fa rfl rfl kflaw48b_22 rfl) rfl rfl rfl rfl ?_
   refine rgy (y_ld rfl rfl kflaw48b_21 (H45.cell (i := 0) rfl rfl)) rfl rfl rfl rfl ?_
   refine rgy (y_build (places := [(0, 1), (1, 1)]) (parts := [(0, _), (1, _)]) (vs := [(0, _), (1, _)]) (cs := [.int _ _, .int _ _]) rfl Tryd.underlying34 (by kernel_rfl) kflaw48b_8 rfl ⟨rfl, rfl, trivial⟩ rfl) rfl rfl rfl rfl ?_
   refine rgy (yv (congrArg Value.bool (decide_eq_true (rfl))) (y_seq (ks := [.i64, .i64]) (a := [(hS L a h cx cy high d).1, (hS L a h cx cy high d).2.1]) (b := [(hS L a h cx cy high d).1, (hS L a h cx cy high d).2.1]) rfl (.inl ⟨rfl, rfl⟩) kflaw48b_15 rfl rfl rfl rfl rfl rfl rfl)) rfl rfl rfl rfl ?_
   refine ry (y_pick rfl rfl rfl) rfl rfl ?_
   refine ry (y_mov rfl rfl) rfl rfl ?_
   refine rgy (y_ldb (i := 1) (cs := [_, _]) H45 rfl rfl kflaw48b_6 rfl rfl) rfl rfl rfl rfl ?_
   refine rgy (y_fa rfl rfl kflaw48b_23 rfl) rfl rfl rfl rfl ?_
   refine rgy (y_lda (cs := [_, _]) rfl rfl kflaw48b_6 rfl (fun j v hv => H45.cell (i := 0) rfl (lst_part (a := 2) (m := 2) hv))) rfl rfl rfl rfl ?_
   refine rgy (yv (congrArg Value.bool (decide_eq_true (rfl))) (y_seq (ks := [.i64, .i64]) (a := [(hS L a h cx cy high d).2.2.1, (hS L a h cx cy high d).2.2.2.1]) (b := [(hS L a h cx cy high d).2.2.1, (hS L a h cx cy high d).2.2.2.1]) rfl (.inl ⟨rfl, rfl⟩) kflaw48b_16 rfl rfl rfl rfl rfl rfl rfl)) rfl rfl rfl rfl ?_
   refine ry (y_pick rfl rfl rfl) rfl rfl ?_
   refine ry (y_mov rfl rfl) rfl rfl ?_
   refine rgy (y_mov rfl rfl) rfl rfl rfl rfl ?_
   refine rgy (y_fa rfl rfl kflaw48b_22 rfl) rfl rfl rfl rfl ?_
   refine rgy (y_ld rfl rfl kflaw48b_21 (H45.cell (i := 0) rfl rfl)) rfl rfl rfl rfl ?_
   refine rgy (y_gtr rfl rfl rfl) rfl rfl rfl rfl ?_
   refine rgy (yv (v := .bool true) (by rw [hS_is]; simp) (y_beql rfl Tryd.underlying4 rfl rfl)) rfl rfl rfl rfl ?_
   refine ry (y_pick rfl rfl rfl) rfl rfl ?_
   refine ry (y_asg rfl rfl) rfl rfl ?_
   refine reg_nil ?_
   refine fn_next ?_
   refine cw_ret ?_
   refine fn_ret1 rfl rfl ?_
   exact ⟨rfl, H45.base⟩

theorem horSteep_all (a h : Int) (L : List Int) (A : Option Addr) (n cap : Nat) (cx cy high dir : Int) (w : World) (ha : I6 a) (hh : I6 h) (hr : Rd w A (vi .i64 L)) (hl : L.length = n) (hG : Rd w (some ⟨0, 0, none⟩) (vi .i64 (pr dX dY 8))) : Ret Tryd.prog 3 [.int .i64 a, .int .i64 h, .slice A n cap, .agg #[.int .i64 cx, .int .i64 cy], .int .i64 high, .int .i64 dir] w (fun z w' => z = .bool true ∧ Below w.heap.size w w') := by
  by_cases hp : LandP a h (1000 : Nat) L
  · obtain ⟨a, h, rfl, rfl, h1, h2, h3, h4, h5, h6, h7⟩ := LandP.nat hp
    obtain rfl : n = a * h := by omega
    have s : SzG a h := ⟨h1, by omega, h3, by omega⟩
    by_cases hc : hC a h cx cy high = 0
    · by_cases hd : dir < 0 ∨ dir ≥ 8
      · exact horSteep_n1 a h L A cap cx cy high dir w h1 h2 h3 h4 h5 hr hl h7 hG hc hd
      · obtain ⟨d, rfl⟩ : ∃ d : Nat, dir = d := ⟨dir.toNat, by omega⟩
        exact horSteep_ok a h L A cap cx cy high d w h1 h2 h3 h4 h5 hr hl h7 hG hc (by omega)
    · exact horSteep_n0 a h L A cap cx cy high dir w h1 h2 h3 h4 h5 hr hl h7 hG hc
  · exact horSteep_no a h L A n cap cx cy high dir w ha hh hr hl hG hp

theorem horSteep_law (a : Int) (h : Int) (zs : List Int) (A2 : Option Addr) (n2 c2 : Nat) (cx cy : Int) (high : Int) (dir : Int) (W : World) (hG : Rd W (some ⟨0, 0, none⟩) (vi .i64 (pr dX dY 8))) (ba : I6 a) (bh : I6 h) (hzs : Ints .i64 W A2 n2 zs) (le2 : n2 ≤ c2) (mx2 : c2 ≤ maxLen) (wzs : ∀ z ∈ zs, I6 z) (bcx : I6 cx) (bcy : I6 cy) (bhigh : I6 high) (bdir : I6 dir) :
    Calls Tryd.prog 3 #[.int .i64 a, .int .i64 h, .slice A2 n2 c2, .agg #[.int .i64 cx, .int .i64 cy], .int .i64 high, .int .i64 dir] W fun e w' => e = .returned (.bool true) ∧ Below W.heap.size W w' := lawOf (horSteep_all a h zs A2 n2 c2 cx cy high dir W ba bh (Rd.of_ints hzs) hzs.len hG)

end Go.Proofs.YtgkkbeomhkggjaaDoor
