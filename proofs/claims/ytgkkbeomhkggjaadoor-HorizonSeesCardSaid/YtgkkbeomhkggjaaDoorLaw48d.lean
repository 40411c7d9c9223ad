/- Layer 48: the steepest is seen. -/
import Derived.Test.YtgkkbeomhkggjaaDoorSees2
set_option linter.unusedVariables false
set_option linter.unusedSimpArgs false
namespace Go.Proofs.YtgkkbeomhkggjaaDoor
open Go Go.RowKit
theorem kflaw48d_1 : callB Tryd.prog 8 = true := by kernel_rfl
theorem kflaw48d_2 : callB Tryd.prog 9 = true := by kernel_rfl
theorem kflaw48d_3 : (Tryd.prog.info? 27).bind (fun i => i.zero.map Value.cells) = some (List.toArray [(.int .i64 0), (.int .i64 0), (.slice none 0 0)]) := by kernel_rfl
theorem kflaw48d_4 : szB Tryd.prog 27 3 = true := by kernel_rfl
theorem kflaw48d_5 : callB Tryd.prog 10 = true := by kernel_rfl
theorem kflaw48d_6 : aggB Tryd.prog 24 2 = true := by kernel_rfl
theorem kflaw48d_7 : callB Tryd.prog 11 = true := by kernel_rfl
theorem kflaw48d_8 : (Tryd.prog.info? 34).bind (fun i => i.zero.map Value.cells) = some (List.toArray [(.int .i64 0), (.int .i64 0)]) := by kernel_rfl
theorem kflaw48d_9 : (Tryd.prog.info? 24).bind (fun i => i.zero.map Value.cells) = some (List.toArray [(.int .i64 0), (.int .i64 0)]) := by kernel_rfl
theorem kflaw48d_10 : szB Tryd.prog 34 2 = true := by kernel_rfl
theorem kflaw48d_11 : szB Tryd.prog 24 2 = true := by kernel_rfl
theorem kflaw48d_12 : seqB Tryd.prog 24 2 = true := by kernel_rfl
theorem kflaw48d_13 : callB Tryd.prog 16 = true := by kernel_rfl

set_option maxRecDepth 100000 in
theorem horSees_no (a h : Int) (L : List Int) (A : Option Addr) (n cap : Nat) (cx cy high dir : Int) (w : World) (ha : I6 a) (hh : I6 h) (hr : Rd w A (vi .i64 L)) (hl : L.length = n) (hG : Rd w (some ⟨0, 0, none⟩) (vi .i64 (pr dX dY 8))) (hp : ¬ LandP a h (1000 : Nat) L) :
    Ret Tryd.prog 6 [.int .i64 a, .int .i64 h, .slice A n cap, .agg #[.int .i64 cx, .int .i64 cy], .int .i64 high, .int .i64 dir] w (fun z w' => z = .bool true ∧ Below w.heap.size w w') := by
 refine ret_enter Tryd.func6 rfl rfl rfl ?_
 have H0 := HS.start w
 refine cw_seq ?_
 refine cw_reg ?_
 refine reg_op (op_box (cs := [.int _ _, .int _ _]) H0 rfl rfl rfl) rfl rfl ?_
 rintro _ w2 ⟨b1, rfl, H3⟩
 refine ry (y_asg rfl rfl) rfl rfl ?_
 refine reg_nil ?_
 refine fn_next ?_
 refine cw_seq ?_
 refine cw_seq ?_
 refine cw_reg ?_
 refine reg_op (op_call (horAwake _ (hG.below H3.base)) rfl kflaw48d_1 trivial) rfl rfl ?_
 rintro _ w5 ⟨rfl, e4⟩
 have H6 := H3.ext e4
 refine ry (y_not rfl rfl) rfl rfl ?_
 refine reg_nil ?_
 refine fn_next ?_
 refine cw_condf rfl ?_
 refine cw_skip ?_
 refine fn_next ?_
 refine cw_seq ?_
 refine cw_reg ?_
 refine ry (y_mov rfl rfl) rfl rfl ?_
 refine ry (y_mov rfl rfl) rfl rfl ?_
 refine ry (y_mov rfl rfl) rfl rfl ?_
 refine reg_op (op_call (land_any a h 1000 L A n cap _ ha hh (by decide) (hr.below H6.base) hl) rfl kflaw48d_2 ⟨rfl, rfl, rfl, rfl, trivial⟩) rfl rfl ?_
 rintro _ w8 ⟨rfl, e7⟩
 have H9 := H6.ext e7
 refine ry (y_mov rfl rfl) rfl rfl ?_
 refine ry (y_ext rfl rfl rfl) rfl rfl ?_
 refine ry (y_ext rfl rfl rfl) rfl rfl ?_
 refine reg_op (op_alloc H9 rfl kflaw48d_3) rfl rfl ?_
 rintro _ w11 ⟨b10, rfl, H12⟩
 refine reg_op (op_st (i := 0) (vs := [.int _ _, .int _ _, .slice _ _ _]) H12 rfl rfl rfl rfl rfl kflaw48d_4 rfl rfl rfl) rfl rfl ?_
 rintro _ w13 H14
 refine ry (y_asg rfl rfl) rfl rfl ?_
 refine reg_nil ?_
 refine fn_next ?_
 refine cw_seq ?_
 refine cw_seq ?_
 refine cw_reg ?_
 refine ry (y_mov rfl rfl) rfl rfl ?_
 refine ry (y_notd rfl rfl) rfl rfl ?_
 refine reg_nil ?_
 refine fn_next ?_
 refine cw_condd rfl (fun h15 => ?_) (fun h15 => ?_)
 ·skip
  refine cw_seq ?_
  refine cw_reg ?_
  refine ry (y_asg rfl rfl) rfl rfl ?_
  refine reg_nil ?_
  refine fn_next ?_
  refine cw_ret ?_
  refine fn_then_ret ?_
  refine fn_ret1 rfl rfl ?_
  exact ⟨rfl, H14.base⟩
 · exact absurd (Classical.not_not.1 h15) hp

set_option maxRecDepth 100000 in
theorem horSees_n (a h : Nat) (L : List Int) (A : Option Addr) (cap : Nat) (cx cy high dir : Int) (w : World) (h1 : 1 ≤ a) (h2 : a ≤ 1000) (h3 : 1 ≤ h) (h4 : h ≤ 1000) (h5 : a * h ≤ 1000) (hr : Rd w A (vi .i64 L)) (hl : L.length = a * h) (hb : AllB L) (hG : Rd w (some ⟨0, 0, none⟩) (vi .i64 (pr dX dY 8))) (he : ¬ hE a h cx cy high dir = 0) :
    Ret Tryd.prog 6 [.int .i64 (a : Int), .int .i64 (h : Int), .slice A (a * h) cap, .agg #[.int .i64 cx, .int .i64 cy], .int .i64 high, .int .i64 dir] w (fun z w' => z = .bool true ∧ Below w.heap.size w w') := by
 have s : SzG a h := ⟨h1, by omega, h3, by omega⟩
 refine ret_enter Tryd.func6 rfl rfl rfl ?_
 have H0 := HS.start w
 refine cw_seq ?_
 refine cw_reg ?_
 refine reg_op (op_box (cs := [.int _ _, .int _ _]) H0 rfl rfl rfl) rfl rfl ?_
 rintro _ w2 ⟨b1, rfl, H3⟩
 refine ry (y_asg rfl rfl) rfl rfl ?_
 refine reg_nil ?_
 refine fn_next ?_
 refine cw_seq ?_
 refine cw_seq ?_
 refine cw_reg ?_
 refine reg_op (op_call (horAwake _ (hG.below H3.base)) rfl kflaw48d_1 trivial) rfl rfl ?_
 rintro _ w5 ⟨rfl, e4⟩
 have H6 := H3.ext e4
 refine ry (y_not rfl rfl) rfl rfl ?_
 refine reg_nil ?_
 refine fn_next ?_
 refine cw_condf rfl ?_
 refine cw_skip ?_
 refine fn_next ?_
 refine cw_seq ?_
 refine cw_reg ?_
 refine ry (y_mov rfl rfl) rfl rfl ?_
 refine ry (y_mov rfl rfl) rfl rfl ?_
 refine ry (y_mov rfl rfl) rfl rfl ?_
 refine reg_op (op_call (land_ok a h 1000 L A (a * h) cap _ h1 h2 h3 h4 h5 rfl hl hb (by decide) (hr.below H6.base)) rfl kflaw48d_2 ⟨rfl, rfl, rfl, rfl, trivial⟩) rfl rfl ?_
 rintro _ w8 ⟨rfl, e7⟩
 have H9 := H6.ext e7
 refine ry (y_mov rfl rfl) rfl rfl ?_
 refine ry (y_ext rfl rfl rfl) rfl rfl ?_
 refine ry (y_ext rfl rfl rfl) rfl rfl ?_
 refine reg_op (op_alloc H9 rfl kflaw48d_3) rfl rfl ?_
 rintro _ w11 ⟨b10, rfl, H12⟩
 refine reg_op (op_st (i := 0) (vs := [.int _ _, .int _ _, .slice _ _ _]) H12 rfl rfl rfl rfl rfl kflaw48d_4 rfl rfl rfl) rfl rfl ?_
 rintro _ w13 H14
 refine ry (y_asg rfl rfl) rfl rfl ?_
 refine reg_nil ?_
 refine fn_next ?_
 refine cw_seq ?_
 refine cw_seq ?_
 refine cw_reg ?_
 refine ry (y_mov rfl rfl) rfl rfl ?_
 refine ry (y_not rfl rfl) rfl rfl ?_
 refine reg_nil ?_
 refine fn_next ?_
 refine cw_condf rfl ?_
 refine cw_skip ?_
 refine fn_next ?_
 refine cw_seq ?_
 refine cw_reg ?_
 refine ry (y_mov rfl rfl) rfl rfl ?_
 refine ry (y_mov rfl rfl) rfl rfl ?_
 refine ry (y_mov rfl rfl) rfl rfl ?_
 refine reg_op (op_call (made_ok a h L A (a * h) cap _ s hl rfl hb (hr.below H14.base)) rfl kflaw48d_5 ⟨rfl, rfl, rfl, trivial⟩) rfl rfl ?_
 rintro _ w16 ⟨g18, bl19, rfl, k15⟩
 have H17 := H14.call k15
 refine ry (y_mov rfl rfl) rfl rfl ?_
 refine ry (y_ext rfl rfl rfl) rfl rfl ?_
 refine ry (y_ext rfl rfl rfl) rfl rfl ?_
 refine ry (y_asg rfl rfl) rfl rfl ?_
 refine ry (y_asg rfl rfl) rfl rfl ?_
 refine reg_nil ?_
 refine fn_next ?_
 refine cw_seq ?_
 refine cw_seq ?_
 refine cw_reg ?_
 refine ry (y_mov rfl rfl) rfl rfl ?_
 refine ry (y_not rfl rfl) rfl rfl ?_
 refine reg_nil ?_
 refine fn_next ?_
 refine cw_condf rfl ?_
 refine cw_skip ?_
 refine fn_next ?_
 refine cw_seq ?_
 refine cw_reg ?_
 refine ry (y_mov rfl rfl) rfl rfl ?_
 refine ry (y_ldb (i := 2) (cs := [_, _]) H17 rfl rfl kflaw48d_6 rfl rfl) rfl rfl ?_
 refine ry (y_mov rfl rfl) rfl rfl ?_
 refine ry (y_mov rfl rfl) rfl rfl ?_
 refine reg_op (op_call (hStp_no g18 a h L cx cy high dir _ (H17.rdg (i := 0) rfl) he) rfl kflaw48d_7 ⟨rfl, rfl, rfl, rfl, trivial⟩) rfl rfl ?_
 rintro _ w21 ⟨rfl, e20⟩
 have H22 := H17.ext e20
 refine ry (y_mov rfl rfl) rfl rfl ?_
 refine ry (y_ext rfl rfl rfl) rfl rfl ?_
 refine ry (y_ext rfl rfl rfl) rfl rfl ?_
 refine ry (y_ext rfl rfl rfl) rfl rfl ?_
 refine ry (y_ext rfl rfl rfl) rfl rfl ?_
 refine reg_op (op_alloc H22 rfl kflaw48d_8) rfl rfl ?_
 rintro _ w24 ⟨b23, rfl, H25⟩
 refine reg_op (op_alloc H25 rfl kflaw48d_9) rfl rfl ?_
 rintro _ w27 ⟨b26, rfl, H28⟩
 refine reg_op (op_st (i := 1) (vs := [.int _ _, .int _ _]) H28 rfl rfl rfl rfl rfl kflaw48d_10 rfl rfl rfl) rfl rfl ?_
 rintro _ w29 H30
 refine reg_op (op_st (i := 0) (vs := [.int _ _, .int _ _]) H30 rfl rfl rfl rfl rfl kflaw48d_11 rfl rfl rfl) rfl rfl ?_
 rintro _ w31 H32
 refine ry (y_asg rfl rfl) rfl rfl ?_
 refine ry (y_asg rfl rfl) rfl rfl ?_
 refine reg_nil ?_
 refine fn_next ?_
 refine cw_seq ?_
 refine cw_seq ?_
 refine cw_reg ?_
 refine ry (y_mov rfl rfl) rfl rfl ?_
 refine ry (y_neq rfl rfl rfl) rfl rfl ?_
 refine ry (y_mov rfl rfl) rfl rfl ?_
 refine rg_splitd (d := 55) rfl (fun h33 => ?_) (fun h33 => ?_)
 ·skip
  refine rg_off rfl rfl rfl rfl rfl ?_
  refine rg_off rfl rfl rfl rfl rfl ?_
  refine ry (y_pick rfl rfl rfl) rfl rfl ?_
  refine reg_nil ?_
  refine fn_next ?_
  refine cw_condt rfl ?_
  refine cw_seq ?_
  refine cw_reg ?_
  refine ry (y_ldb (i := 0) (cs := [_, _]) H32 rfl rfl kflaw48d_6 rfl rfl) rfl rfl ?_
  refine ry (y_build (places := [(0, 1), (1, 1)]) (parts := []) (vs := []) (cs := [.int _ _, .int _ _]) rfl Tryd.underlying24 (by kernel_rfl) kflaw48d_9 rfl trivial rfl) rfl rfl ?_
  refine ry (yv (congrArg Value.bool (decide_eq_true (rfl))) (y_seq (ks := [.i64, .i64]) (a := [0, 0]) (b := [0, 0]) rfl (.inl ⟨rfl, rfl⟩) kflaw48d_12 rfl rfl rfl rfl rfl rfl rfl)) rfl rfl ?_
  refine ry (y_asg rfl rfl) rfl rfl ?_
  refine reg_nil ?_
  refine fn_next ?_
  refine cw_ret ?_
  refine fn_then_ret ?_
  refine fn_ret1 rfl rfl ?_
  exact ⟨rfl, H32.base⟩
 · exact absurd (Classical.not_not.1 h33) he

set_option maxRecDepth 100000 in
theorem horSees_0 (a h : Nat) (L : List Int) (A : Option Addr) (cap : Nat) (cx cy high : Int) (d : Nat) (w : World) (h1 : 1 ≤ a) (h2 : a ≤ 1000) (h3 : 1 ≤ h) (h4 : h ≤ 1000) (h5 : a * h ≤ 1000) (hr : Rd w A (vi .i64 L)) (hl : L.length = a * h) (hb : AllB L) (hG : Rd w (some ⟨0, 0, none⟩) (vi .i64 (pr dX dY 8))) (hc : hC a h cx cy high = 0) (hd : d < 8) (hm : (ms a h cx cy (dX d) (dY d)) = 0) :
    Ret Tryd.prog 6 [.int .i64 (a : Int), .int .i64 (h : Int), .slice A (a * h) cap, .agg #[.int .i64 cx, .int .i64 cy], .int .i64 high, .int .i64 (d : Int)] w (fun z w' => z = .bool true ∧ Below w.heap.size w w') := by
 have s : SzG a h := ⟨h1, by omega, h3, by omega⟩
 refine ret_enter Tryd.func6 rfl rfl rfl ?_
 have H0 := HS.start w
 refine cw_seq ?_
 refine cw_reg ?_
 refine reg_op (op_box (cs := [.int _ _, .int _ _]) H0 rfl rfl rfl) rfl rfl ?_
 rintro _ w2 ⟨b1, rfl, H3⟩
 refine ry (y_asg rfl rfl) rfl rfl ?_
 refine reg_nil ?_
 refine fn_next ?_
 refine cw_seq ?_
 refine cw_seq ?_
 refine cw_reg ?_
 refine reg_op (op_call (horAwake _ (hG.below H3.base)) rfl kflaw48d_1 trivial) rfl rfl ?_
 rintro _ w5 ⟨rfl, e4⟩
 have H6 := H3.ext e4
 refine ry (y_not rfl rfl) rfl rfl ?_
 refine reg_nil ?_
 refine fn_next ?_
 refine cw_condf rfl ?_
 refine cw_skip ?_
 refine fn_next ?_
 refine cw_seq ?_
 refine cw_reg ?_
 refine ry (y_mov rfl rfl) rfl rfl ?_
 refine ry (y_mov rfl rfl) rfl rfl ?_
 refine ry (y_mov rfl rfl) rfl rfl ?_
 refine reg_op (op_call (land_ok a h 1000 L A (a * h) cap _ h1 h2 h3 h4 h5 rfl hl hb (by decide) (hr.below H6.base)) rfl kflaw48d_2 ⟨rfl, rfl, rfl, rfl, trivial⟩) rfl rfl ?_
 rintro _ w8 ⟨rfl, e7⟩
 have H9 := H6.ext e7
 refine ry (y_mov rfl rfl) rfl rfl ?_
 refine ry (y_ext rfl rfl rfl) rfl rfl ?_
 refine ry (y_ext rfl rfl rfl) rfl rfl ?_
 refine reg_op (op_alloc H9 rfl kflaw48d_3) rfl rfl ?_
 rintro _ w11 ⟨b10, rfl, H12⟩
 refine reg_op (op_st (i := 0) (vs := [.int _ _, .int _ _, .slice _ _ _]) H12 rfl rfl rfl rfl rfl kflaw48d_4 rfl rfl rfl) rfl rfl ?_
 rintro _ w13 H14
 refine ry (y_asg rfl rfl) rfl rfl ?_
 refine reg_nil ?_
 refine fn_next ?_
 refine cw_seq ?_
 refine cw_seq ?_
 refine cw_reg ?_
 refine ry (y_mov rfl rfl) rfl rfl ?_
 refine ry (y_not rfl rfl) rfl rfl ?_
 refine reg_nil ?_
 refine fn_next ?_
 refine cw_condf rfl ?_
 refine cw_skip ?_
 refine fn_next ?_
 refine cw_seq ?_
 refine cw_reg ?_
 refine ry (y_mov rfl rfl) rfl rfl ?_
 refine ry (y_mov rfl rfl) rfl rfl ?_
 refine ry (y_mov rfl rfl) rfl rfl ?_
 refine reg_op (op_call (made_ok a h L A (a * h) cap _ s hl rfl hb (hr.below H14.base)) rfl kflaw48d_5 ⟨rfl, rfl, rfl, trivial⟩) rfl rfl ?_
 rintro _ w16 ⟨g18, bl19, rfl, k15⟩
 have H17 := H14.call k15
 refine ry (y_mov rfl rfl) rfl rfl ?_
 refine ry (y_ext rfl rfl rfl) rfl rfl ?_
 refine ry (y_ext rfl rfl rfl) rfl rfl ?_
 refine ry (y_asg rfl rfl) rfl rfl ?_
 refine ry (y_asg rfl rfl) rfl rfl ?_
 refine reg_nil ?_
 refine fn_next ?_
 refine cw_seq ?_
 refine cw_seq ?_
 refine cw_reg ?_
 refine ry (y_mov rfl rfl) rfl rfl ?_
 refine ry (y_not rfl rfl) rfl rfl ?_
 refine reg_nil ?_
 refine fn_next ?_
 refine cw_condf rfl ?_
 refine cw_skip ?_
 refine fn_next ?_
 refine cw_seq ?_
 refine cw_reg ?_
 refine ry (y_mov rfl rfl) rfl rfl ?_
 refine ry (y_ldb (i := 2) (cs := [_, _]) H17 rfl rfl kflaw48d_6 rfl rfl) rfl rfl ?_
 refine ry (y_mov rfl rfl) rfl rfl ?_
 refine ry (y_mov rfl rfl) rfl rfl ?_
 refine reg_op (op_call (hStp_ok0 g18 a h L cx cy high d _ (H17.rdg (i := 0) rfl) (hG.below H17.base) hc hd hm) rfl kflaw48d_7 ⟨rfl, rfl, rfl, rfl, trivial⟩) rfl rfl ?_
 rintro _ w21 ⟨rfl, e20⟩
 have H22 := H17.ext e20
 refine ry (y_mov rfl rfl) rfl rfl ?_
 refine ry (y_ext rfl rfl rfl) rfl rfl ?_
 refine ry (y_ext rfl rfl rfl) rfl rfl ?_
 refine ry (y_ext rfl rfl rfl) rfl rfl ?_
 refine ry (y_ext rfl rfl rfl) rfl rfl ?_
 refine reg_op (op_alloc H22 rfl kflaw48d_8) rfl rfl ?_
 rintro _ w24 ⟨b23, rfl, H25⟩
 refine reg_op (op_alloc H25 rfl kflaw48d_9) rfl rfl ?_
 rintro _ w27 ⟨b26, rfl, H28⟩
 refine reg_op (op_st (i := 1) (vs := [.int _ _, .int _ _]) H28 rfl rfl rfl rfl rfl kflaw48d_10 rfl rfl rfl) rfl rfl ?_
 rintro _ w29 H30
 refine reg_op (op_st (i := 0) (vs := [.int _ _, .int _ _]) H30 rfl rfl rfl rfl rfl kflaw48d_11 rfl rfl rfl) rfl rfl ?_
 rintro _ w31 H32
 refine ry (y_asg rfl rfl) rfl rfl ?_
 refine ry (y_asg rfl rfl) rfl rfl ?_
 refine reg_nil ?_
 refine fn_next ?_
 refine cw_seq ?_
 refine cw_seq ?_
 refine cw_reg ?_
 refine ry (y_mov rfl rfl) rfl rfl ?_
 refine ry (y_neq rfl rfl rfl) rfl rfl ?_
 refine ry (y_mov rfl rfl) rfl rfl ?_
 refine rgy (y_mov rfl rfl) rfl rfl rfl rfl ?_
 refine rgy (y_not rfl rfl) rfl rfl rfl rfl ?_
 refine ry (y_pick rfl rfl rfl) rfl rfl ?_
 refine reg_nil ?_
 refine fn_next ?_
 refine cw_condt rfl ?_
 refine cw_seq ?_
 refine cw_reg ?_
 refine ry (y_ldb (i := 0) (cs := [_, _]) H32 rfl rfl kflaw48d_6 rfl rfl) rfl rfl ?_
 refine ry (y_build (places := [(0, 1), (1, 1)]) (parts := []) (vs := []) (cs := [.int _ _, .int _ _]) rfl Tryd.underlying24 (by kernel_rfl) kflaw48d_9 rfl trivial rfl) rfl rfl ?_
 refine ry (yv (congrArg Value.bool (decide_eq_true (rfl))) (y_seq (ks := [.i64, .i64]) (a := [0, 0]) (b := [0, 0]) rfl (.inl ⟨rfl, rfl⟩) kflaw48d_12 rfl rfl rfl rfl rfl rfl rfl)) rfl rfl ?_
 refine ry (y_asg rfl rfl) rfl rfl ?_
 refine reg_nil ?_
 refine fn_next ?_
 refine cw_ret ?_
 refine fn_then_ret ?_
 refine fn_ret1 rfl rfl ?_
 exact ⟨rfl, H32.base⟩

set_option maxRecDepth 100000 in
set_option maxHeartbeats 1000000 in
theorem horSees_1 (a h : Nat) (L : List Int) (A : Option Addr) (cap : Nat) (cx cy high : Int) (d : Nat) (w : World) (h1 : 1 ≤ a) (h2 : a ≤ 1000) (h3 : 1 ≤ h) (h4 : h ≤ 1000) (h5 : a * h ≤ 1000) (hr : Rd w A (vi .i64 L)) (hl : L.length = a * h) (hb : AllB L) (hG : Rd w (some ⟨0, 0, none⟩) (vi .i64 (pr dX dY 8))) (hc : hC a h cx cy high = 0) (hd : d < 8) (hm : 0 < (ms a h cx cy (dX d) (dY d))) :
    Ret Tryd.prog 6 [.int .i64 (a : Int), .int .i64 (h : Int), .slice A (a * h) cap, .agg #[.int .i64 cx, .int .i64 cy], .int .i64 high, .int .i64 (d : Int)] w (fun z w' => z = .bool true ∧ Below w.heap.size w w') := by
 have s : SzG a h := ⟨h1, by omega, h3, by omega⟩
 have hd1 := okD hd
 have hi := (inB_w (x := cx) (y := cy) s).2 (hC_w hc)
 have hh := hC_h hc
 have hms := ms_spec s hd1 hi
 have hmb := hms.2.2
 have hbl := bst_lt (U := (hU L a h cx cy (dX d) (dY d) (gatV L a h cx cy + high))) hm
 have hin := hms.1 ((bst (hU L a h cx cy (dX d) (dY d) (gatV L a h cx cy + high)) (ms a h cx cy (dX d) (dY d))) + 1) (by omega)
 have wc := hC_w hc
 have wb := (inB_w s).1 hin
 have hcb : 0 ≤ cx ∧ cx < 1024 ∧ 0 ≤ cy ∧ cy < 1024 := by have := inB_bd hi; omega
 have hbb : 0 ≤ hX cx (dX d) (bst (hU L a h cx cy (dX d) (dY d) (gatV L a h cx cy + high)) (ms a h cx cy (dX d) (dY d))) ∧ hX cx (dX d) (bst (hU L a h cx cy (dX d) (dY d) (gatV L a h cx cy + high)) (ms a h cx cy (dX d) (dY d))) < 1024 ∧ 0 ≤ hX cy (dY d) (bst (hU L a h cx cy (dX d) (dY d) (gatV L a h cx cy + high)) (ms a h cx cy (dX d) (dY d))) ∧ hX cy (dY d) (bst (hU L a h cx cy (dX d) (dY d) (gatV L a h cx cy + high)) (ms a h cx cy (dX d) (dY d))) < 1024 := by have := inB_bd hin; unfold hX; omega
 have hbst : BestS (hU L a h cx cy (dX d) (dY d) (gatV L a h cx cy + high)) hO (bst (hU L a h cx cy (dX d) (dY d) (gatV L a h cx cy + high)) (ms a h cx cy (dX d) (dY d))) (ms a h cx cy (dX d) (dY d)) := by obtain ⟨q, hq⟩ : ∃ q, (ms a h cx cy (dX d) (dY d)) = q + 1 := ⟨(ms a h cx cy (dX d) (dY d)) - 1, by omega⟩; rw [hq]; exact bst_best _ q
 have hbest : ∀ k : Nat, k + 1 < (bst (hU L a h cx cy (dX d) (dY d) (gatV L a h cx cy + high)) (ms a h cx cy (dX d) (dY d))) + 1 → ¬ ((gatV L a h (sX cx (dX d) ((bst (hU L a h cx cy (dX d) (dY d) (gatV L a h cx cy + high)) (ms a h cx cy (dX d) (dY d))) + 1)) (sX cy (dY d) ((bst (hU L a h cx cy (dX d) (dY d) (gatV L a h cx cy + high)) (ms a h cx cy (dX d) (dY d))) + 1)) - (gatV L a h cx cy + high)) * ((k : Int) + 1) < (gatV L a h (sX cx (dX d) (k + 1)) (sX cy (dY d) (k + 1)) - (gatV L a h cx cy + high)) * (((bst (hU L a h cx cy (dX d) (dY d) (gatV L a h cx cy + high)) (ms a h cx cy (dX d) (dY d))) + 1 : Nat) : Int)) := fun k hk => Int.not_lt.2 (hbst k (by omega)).1
 refine ret_enter Tryd.func6 rfl rfl rfl ?_
 have H0 := HS.start w
 refine cw_seq ?_
 refine cw_reg ?_
 refine reg_op (op_box (cs := [.int _ _, .int _ _]) H0 rfl rfl rfl) rfl rfl ?_
 rintro _ w2 ⟨b1, rfl, H3⟩
 refine ry (y_asg rfl rfl) rfl rfl ?_
 refine reg_nil ?_
 refine fn_next ?_
 refine cw_seq ?_
 refine cw_seq ?_
 refine cw_reg ?_
 refine reg_op (op_call (horAwake _ (hG.below H3.base)) rfl kflaw48d_1 trivial) rfl rfl ?_
 rintro _ w5 ⟨rfl, e4⟩
 have H6 := H3.ext e4
 refine ry (y_not rfl rfl) rfl rfl ?_
 refine reg_nil ?_
 refine fn_next ?_
 refine cw_condf rfl ?_
 refine cw_skip ?_
 refine fn_next ?_
 refine cw_seq ?_
 refine cw_reg ?_
 refine ry (y_mov rfl rfl) rfl rfl ?_
 refine ry (y_mov rfl rfl) rfl rfl ?_
 refine ry (y_mov rfl rfl) rfl rfl ?_
 refine reg_op (op_call (land_ok a h 1000 L A (a * h) cap _ h1 h2 h3 h4 h5 rfl hl hb (by decide) (hr.below H6.base)) rfl kflaw48d_2 ⟨rfl, rfl, rfl, rfl, trivial⟩) rfl rfl ?_
 rintro _ w8 ⟨rfl, e7⟩
 have H9 := H6.ext e7
 refine ry (y_mov rfl rfl) rfl rfl ?_
 refine ry (y_ext rfl rfl rfl) rfl rfl ?_
 refine ry (y_ext rfl rfl rfl) rfl rfl ?_
 refine reg_op (op_alloc H9 rfl kflaw48d_3) rfl rfl ?_
 rintro _ w11 ⟨b10, rfl, H12⟩
 refine reg_op (op_st (i := 0) (vs := [.int _ _, .int _ _, .slice _ _ _]) H12 rfl rfl rfl rfl rfl kflaw48d_4 rfl rfl rfl) rfl rfl ?_
 rintro _ w13 H14
 refine ry (y_asg rfl rfl) rfl rfl ?_
 refine reg_nil ?_
 refine fn_next ?_
 refine cw_seq ?_
 refine cw_seq ?_
 refine cw_reg ?_
 refine ry (y_mov rfl rfl) rfl rfl ?_
 refine ry (y_not rfl rfl) rfl rfl ?_
 refine reg_nil ?_
 refine fn_next ?_
 refine cw_condf rfl ?_
 refine cw_skip ?_
 refine fn_next ?_
 refine cw_seq ?_
 refine cw_reg ?_
 refine ry (y_mov rfl rfl) rfl rfl ?_
 refine ry (y_mov rfl rfl) rfl rfl ?_
 refine ry (y_mov rfl rfl) rfl rfl ?_
 refine reg_op (op_call (made_ok a h L A (a * h) cap _ s hl rfl hb (hr.below H14.base)) rfl kflaw48d_5 ⟨rfl, rfl, rfl, trivial⟩) rfl rfl ?_
 rintro _ w16 ⟨g18, bl19, rfl, k15⟩
 have H17 := H14.call k15
 refine ry (y_mov rfl rfl) rfl rfl ?_
 refine ry (y_ext rfl rfl rfl) rfl rfl ?_
 refine ry (y_ext rfl rfl rfl) rfl rfl ?_
 refine ry (y_asg rfl rfl) rfl rfl ?_
 refine ry (y_asg rfl rfl) rfl rfl ?_
 refine reg_nil ?_
 refine fn_next ?_
 refine cw_seq ?_
 refine cw_seq ?_
 refine cw_reg ?_
 refine ry (y_mov rfl rfl) rfl rfl ?_
 refine ry (y_not rfl rfl) rfl rfl ?_
 refine reg_nil ?_
 refine fn_next ?_
 refine cw_condf rfl ?_
 refine cw_skip ?_
 refine fn_next ?_
 refine cw_seq ?_
 refine cw_reg ?_
 refine ry (y_mov rfl rfl) rfl rfl ?_
 refine ry (y_ldb (i := 2) (cs := [_, _]) H17 rfl rfl kflaw48d_6 rfl rfl) rfl rfl ?_
 refine ry (y_mov rfl rfl) rfl rfl ?_
 refine ry (y_mov rfl rfl) rfl rfl ?_
 refine reg_op (op_call (hStp_ok1 g18 a h L cx cy high d _ (H17.rdg (i := 0) rfl) (hG.below H17.base) hc hd hm) rfl kflaw48d_7 ⟨rfl, rfl, rfl, rfl, trivial⟩) rfl rfl ?_
 rintro _ w21 ⟨rfl, e20⟩
 have H22 := H17.ext e20
 refine ry (y_mov rfl rfl) rfl rfl ?_
 refine ry (y_ext rfl rfl rfl) rfl rfl ?_
 refine ry (y_ext rfl rfl rfl) rfl rfl ?_
 refine ry (y_ext rfl rfl rfl) rfl rfl ?_
 refine ry (y_ext rfl rfl rfl) rfl rfl ?_
 refine reg_op (op_alloc H22 rfl kflaw48d_8) rfl rfl ?_
 rintro _ w24 ⟨b23, rfl, H25⟩
 refine reg_op (op_alloc H25 rfl kflaw48d_9) rfl rfl ?_
 rintro _ w27 ⟨b26, rfl, H28⟩
 refine reg_op (op_st (i := 1) (vs := [.int _ _, .int _ _]) H28 rfl rfl rfl rfl rfl kflaw48d_10 rfl rfl rfl) rfl rfl ?_
 rintro _ w29 H30
 refine reg_op (op_st (i := 0) (vs := [.int _ _, .int _ _]) H30 rfl rfl rfl rfl rfl kflaw48d_11 rfl rfl rfl) rfl rfl ?_
 rintro _ w31 H32
 refine ry (y_asg rfl rfl) rfl rfl ?_
 refine ry (y_asg rfl rfl) rfl rfl ?_
 refine reg_nil ?_
 refine fn_next ?_
 refine cw_seq ?_
 refine cw_seq ?_
 refine cw_reg ?_
 refine ry (y_mov rfl rfl) rfl rfl ?_
 refine ry (y_neq rfl rfl rfl) rfl rfl ?_
 refine ry (y_mov rfl rfl) rfl rfl ?_
 refine rgy (y_mov rfl rfl) rfl rfl rfl rfl ?_
 refine rgy (y_not rfl rfl) rfl rfl rfl rfl ?_
 refine ry (y_pick rfl rfl rfl) rfl rfl ?_
 refine reg_nil ?_
 refine fn_next ?_
 refine cw_condf rfl ?_
 refine cw_skip ?_
 refine fn_next ?_
 refine cw_seq ?_
 refine cw_reg ?_
 refine ry (y_mov rfl rfl) rfl rfl ?_
 refine ry (y_ldb (i := 4) (cs := [_, _]) H32 rfl rfl kflaw48d_6 rfl rfl) rfl rfl ?_
 refine ry (y_mov rfl rfl) rfl rfl ?_
 refine ry (y_ldb (i := 0) (cs := [_, _]) H32 rfl rfl kflaw48d_6 rfl rfl) rfl rfl ?_
 refine reg_op (op_call (zClear g18 a h L cx cy (hX cx (dX d) (bst (hU L a h cx cy (dX d) (dY d) (gatV L a h cx cy + high)) (ms a h cx cy (dX d) (dY d)))) (hX cy (dY d) (bst (hU L a h cx cy (dX d) (dY d) (gatV L a h cx cy + high)) (ms a h cx cy (dX d) (dY d)))) (dX d) (dY d) ((bst (hU L a h cx cy (dX d) (dY d) (gatV L a h cx cy + high)) (ms a h cx cy (dX d) (dY d))) + 1) high _ (H32.rdg (i := 2) rfl) (str_of hd1.x1 hd1.x2) (str_of hd1.y1 hd1.y2) hd1 (by omega) (by omega) hcb hbb wc wb hh hbest) rfl kflaw48d_13 ⟨rfl, rfl, rfl, rfl, rfl, trivial⟩) rfl rfl ?_
 rintro _ w34 ⟨rfl, e33⟩
 have H35 := H32.ext e33
 refine ry (y_mov rfl rfl) rfl rfl ?_
 refine ry (y_ext rfl rfl rfl) rfl rfl ?_
 refine ry (y_ext rfl rfl rfl) rfl rfl ?_
 refine ry (y_ext rfl rfl rfl) rfl rfl ?_
 refine reg_op (op_alloc H35 rfl kflaw48d_9) rfl rfl ?_
 rintro _ w37 ⟨b36, rfl, H38⟩
 refine ry (y_asg rfl rfl) rfl rfl ?_
 refine reg_op (op_st (i := 0) (vs := [.int _ _, .int _ _]) H38 rfl rfl rfl rfl rfl kflaw48d_11 rfl rfl rfl) rfl rfl ?_
 rintro _ w39 H40
 refine ry (y_asg rfl rfl) rfl rfl ?_
 refine reg_nil ?_
 refine fn_next ?_
 refine cw_seq ?_
 refine cw_reg ?_
 refine ry (y_mov rfl rfl) rfl rfl ?_
 refine ry (y_eql rfl rfl rfl) rfl rfl ?_
 refine ry (y_mov rfl rfl) rfl rfl ?_
 refine rgy (y_mov rfl rfl) rfl rfl rfl rfl ?_
 refine ry (y_pick rfl rfl rfl) rfl rfl ?_
 refine ry (y_asg rfl rfl) rfl rfl ?_
 refine reg_nil ?_
 refine fn_next ?_
 refine cw_ret ?_
 refine fn_ret1 rfl rfl ?_
 exact ⟨rfl, H40.base⟩

theorem horSees_all (a h : Int) (L : List Int) (A : Option Addr) (n cap : Nat) (cx cy high dir : Int) (w : World) (ha : I6 a) (hh : I6 h) (hr : Rd w A (vi .i64 L)) (hl : L.length = n) (hG : Rd w (some ⟨0, 0, none⟩) (vi .i64 (pr dX dY 8))) : Ret Tryd.prog 6 [.int .i64 a, .int .i64 h, .slice A n cap, .agg #[.int .i64 cx, .int .i64 cy], .int .i64 high, .int .i64 dir] w (fun z w' => z = .bool true ∧ Below w.heap.size w w') := by
  by_cases hp : LandP a h (1000 : Nat) L
  · obtain ⟨a, h, rfl, rfl, h1, h2, h3, h4, h5, h6, h7⟩ := LandP.nat hp
    obtain rfl : n = a * h := by omega
    have s : SzG a h := ⟨h1, by omega, h3, by omega⟩
    by_cases he : hE a h cx cy high dir = 0
    · have hc : hC a h cx cy high = 0 := by
        unfold hE at he
        by_cases q : hC a h cx cy high = 0
        · exact q
        · rw [if_neg q] at he; exact he
      have hd : ¬ (dir < 0 ∨ dir ≥ 8) := fun q => by
        unfold hE at he
        rw [if_pos hc, if_pos q] at he
        exact absurd he (by decide)
      obtain ⟨d, rfl⟩ : ∃ d : Nat, dir = d := ⟨dir.toNat, by omega⟩
      rcases Nat.eq_zero_or_pos (ms a h cx cy (dX d) (dY d)) with hm | hm
      · exact horSees_0 a h L A cap cx cy high d w h1 h2 h3 h4 h5 hr hl h7 hG hc (by omega) hm
      · exact horSees_1 a h L A cap cx cy high d w h1 h2 h3 h4 h5 hr hl h7 hG hc (by omega) hm
    · exact horSees_n a h L A cap cx cy high dir w h1 h2 h3 h4 h5 hr hl h7 hG he
  · exact horSees_no a h L A n cap cx cy high dir w ha hh hr hl hG hp

theorem horSees_law (a : Int) (h : Int) (zs : List Int) (A2 : Option Addr) (n2 c2 : Nat) (cx cy : Int) (high : Int) (dir : Int) (W : World) (hG : Rd W (some ⟨0, 0, none⟩) (vi .i64 (pr dX dY 8))) (ba : I6 a) (bh : I6 h) (hzs : Ints .i64 W A2 n2 zs) (le2 : n2 ≤ c2) (mx2 : c2 ≤ maxLen) (wzs : ∀ z ∈ zs, I6 z) (bcx : I6 cx) (bcy : I6 cy) (bhigh : I6 high) (bdir : I6 dir) :
    Calls Tryd.prog 6 #[.int .i64 a, .int .i64 h, .slice A2 n2 c2, .agg #[.int .i64 cx, .int .i64 cy], .int .i64 high, .int .i64 dir] W fun e w' => e = .returned (.bool true) ∧ Below W.heap.size W w' := lawOf (horSees_all a h zs A2 n2 c2 cx cy high dir W ba bh (Rd.of_ints hzs) hzs.len hG)

end Go.Proofs.YtgkkbeomhkggjaaDoor
