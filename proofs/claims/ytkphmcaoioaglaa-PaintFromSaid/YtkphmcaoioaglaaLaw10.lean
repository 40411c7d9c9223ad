/- Layer 10: PaintFrom, PaintNil. -/
import Derived.Test.YtkphmcaoioaglaaRef10
import Derived.Test.YtkphmcaoioaglaaLaw9a
set_option linter.unusedVariables false
set_option linter.unusedSimpArgs false
namespace Go.Proofs.Ytkphmcaoioaglaa
open Go Go.RowKit
theorem kflaw10_1 : (Try.prog.info? 2).map (fun i => (i.size, i.zero.map Value.cells)) = some (1, some (List.toArray [(.int .i64 0)])) := by kernel_rfl
theorem kflaw10_2 : callB Try.prog 57 = true := by kernel_rfl
theorem kflaw10_3 : (Try.prog.info? 24).bind (fun i => i.zero.map Value.cells) = some (List.toArray [(.int .i64 0), (.int .i64 0), (.int .i64 0), (.int .i64 0)]) := by kernel_rfl
theorem kflaw10_4 : (Try.prog.info? 26).bind (fun i => i.zero.map Value.cells) = some (List.toArray [(.int .i64 0), (.int .i64 0)]) := by kernel_rfl
theorem kflaw10_5 : callB Try.prog 62 = true := by kernel_rfl
theorem kflaw10_6 : callB Try.prog 51 = true := by kernel_rfl
theorem kflaw10_7 : callB Try.prog 46 = true := by kernel_rfl
theorem kflaw10_8 : callB Try.prog 31 = true := by kernel_rfl
theorem kflaw10_9 : callB Try.prog 56 = true := by kernel_rfl
theorem kflaw10_10 : aggB Try.prog 24 4 = true := by kernel_rfl
theorem kflaw10_11 : callB Try.prog 59 = true := by kernel_rfl
theorem kflaw10_12 : callB Try.prog 60 = true := by kernel_rfl
theorem kflaw10_13 : callB Try.prog 61 = true := by kernel_rfl
theorem kflaw10_14 : aggB Try.prog 26 2 = true := by kernel_rfl
theorem kflaw10_15 : callB Try.prog 58 = true := by kernel_rfl
theorem kflaw10_16 : (Try.prog.info? 34).bind (fun i => i.zero.map Value.cells) = some (List.toArray [(.int .i64 0), (.int .i64 0), (.slice none 0 0)]) := by kernel_rfl
theorem kflaw10_17 : szB Try.prog 34 3 = true := by kernel_rfl
theorem kflaw10_18 : aggB Try.prog 34 3 = true := by kernel_rfl
theorem kflaw10_19 : callB Try.prog 50 = true := by kernel_rfl
theorem aw10 : layV [1, 2, 3] 3 ((1 : Nat) : Int) ((0 : Nat) : Int) ((1 + 1 - 0 : Nat) : Int) ((0 + 0 - 0 : Nat) : Int) (gvalV [1, 2, 3] 3 1 ((0 : Nat) : Int) ((0 : Nat) : Int) ((1 : Nat) : Int) ((0 : Nat) : Int)) = [1, 1, 2] ∧ fromC ((3 : Nat) : Int) ((1 : Nat) : Int) [1, 2, 3] = 0 ∧ AllB (gvalV [1, 2, 3] 3 1 ((0 : Nat) : Int) ((0 : Nat) : Int) ((1 : Nat) : Int) ((0 : Nat) : Int)) := by decide +kernel

set_option maxRecDepth 100000 in
theorem paintAwake  (w : World) :
    Ret Try.prog 56 [] w (fun v w' => v = .bool true ∧ Below w.heap.size w w') := by
  obtain ⟨e1, e2, e3⟩ := aw10
  refine ret_enter Try.func56 rfl rfl rfl ?_
  have H0 := HS.start w
  refine cw_seq ?_
  refine cw_reg ?_
  refine ry (y_asg rfl rfl) rfl rfl ?_
  refine reg_nil ?_
  refine fn_next ?_
  refine cw_seq ?_
  refine cw_reg ?_
  refine reg_op (op_lit (parts := [(0, _), (1, _), (2, _)]) (vs := [(0, _), (1, _), (2, _)]) (cs := [.int _ _, .int _ _, .int _ _]) H0 rfl Try.underlying32 kflaw10_1 rfl ⟨rfl, rfl, rfl, trivial⟩ rfl rfl) rfl rfl ?_
  rintro _ w2 ⟨b1, rfl, H3⟩
  have H4 := H3.asrow (m := 3) (size := 1) rfl (by decide)
  refine reg_op (op_call (gFrom_ok 3 1 [1, 2, 3] _ 3 _ _ (H4.rd (i := 0) rfl) rfl (by decide) ⟨by decide, by decide, by decide, by decide⟩ e2) rfl kflaw10_2 ⟨rfl, rfl, rfl, trivial⟩) rfl rfl ?_
  rintro _ w6 ⟨g8, bl9, rfl, k5⟩
  have H7 := H4.call k5
  refine ry (y_mov rfl rfl) rfl rfl ?_
  refine ry (y_ext rfl rfl rfl) rfl rfl ?_
  refine ry (y_ext rfl rfl rfl) rfl rfl ?_
  refine ry (y_asg rfl rfl) rfl rfl ?_
  refine ry (y_asg rfl rfl) rfl rfl ?_
  refine reg_nil ?_
  refine fn_next ?_
  refine cw_seq ?_
  refine cw_reg ?_
  refine ry (y_mov rfl rfl) rfl rfl ?_
  refine ry (y_build (places := [(0, 1), (1, 1), (2, 1), (3, 1)]) (parts := [(2, _)]) (vs := [(2, _)]) (cs := [.int _ _, .int _ _, .int _ _, .int _ _]) rfl Try.underlying24 (by kernel_rfl) kflaw10_3 rfl ⟨rfl, trivial⟩ rfl) rfl rfl ?_
  refine ry (y_build (places := [(0, 1), (1, 1)]) (parts := [(0, _)]) (vs := [(0, _)]) (cs := [.int _ _, .int _ _]) rfl Try.underlying26 (by kernel_rfl) kflaw10_4 rfl ⟨rfl, trivial⟩ rfl) rfl rfl ?_
  refine reg_op (op_call (gStamp_ok w _ g8 3 1 [1, 2, 3] bl9 0 0 1 0 1 0 _ (by decide) (by decide) (by decide) (by decide) (by decide) (by decide) e3 H7) rfl kflaw10_5 ⟨rfl, rfl, rfl, trivial⟩) rfl rfl ?_
  rintro _ w11 ⟨bl12, rfl, H10⟩
  rw [e1] at H10
  refine ry (y_asg rfl rfl) rfl rfl ?_
  refine reg_nil ?_
  refine fn_next ?_
  refine cw_seq ?_
  refine cw_reg ?_
  refine ry (y_mov rfl rfl) rfl rfl ?_
  refine ry (y_mov rfl rfl) rfl rfl ?_
  refine reg_op (op_call (gAll g8 3 1 ([1, 1, 2])  _ (H10.rdg (i := 0) rfl)) rfl kflaw10_6 ⟨rfl, trivial⟩) rfl rfl ?_
  rintro _ w14 ⟨rfl, e13⟩
  have H15 := H10.ext e13
  refine reg_op (op_call (gValuesAll g8 3 1 ([1, 1, 2]) _ (H15.rdg (i := 0) rfl)) rfl kflaw10_7 ⟨rfl, rfl, trivial⟩) rfl rfl ?_
  rintro _ w17 ⟨A19, c20, rfl, k16⟩
  have H18 := H15.call k16
  refine ry (y_mov rfl rfl) rfl rfl ?_
  refine ry (y_ext rfl rfl rfl) rfl rfl ?_
  refine ry (y_ext rfl rfl rfl) rfl rfl ?_
  refine ry (y_asg rfl rfl) rfl rfl ?_
  refine ry (y_asg rfl rfl) rfl rfl ?_
  refine reg_nil ?_
  refine fn_next ?_
  refine cw_seq ?_
  refine cw_reg ?_
  refine ry (y_mov rfl rfl) rfl rfl ?_
  refine ry (y_eql rfl rfl rfl) rfl rfl ?_
  refine ry (y_mov rfl rfl) rfl rfl ?_
  refine rg_splitd (d := 24) rfl (fun h21 => ?_) (fun h21 => ?_)
  · skip
    refine rgy (y_mov rfl rfl) rfl rfl rfl rfl ?_
    refine rgy (y_eql rfl rfl rfl) rfl rfl rfl rfl ?_
    refine ry (y_pick rfl rfl rfl) rfl rfl ?_
    refine ry (y_mov rfl rfl) rfl rfl ?_
    refine rg_splitd (d := 28) rfl (fun h22 => ?_) (fun h22 => ?_)
    · skip
      refine rgy (y_mov rfl rfl) rfl rfl rfl rfl ?_
      refine rgy (y_eql rfl rfl rfl) rfl rfl rfl rfl ?_
      refine ry (y_pick rfl rfl rfl) rfl rfl ?_
      refine ry (y_mov rfl rfl) rfl rfl ?_
      refine rg_splitd (d := 32) rfl (fun h23 => ?_) (fun h23 => ?_)
      · skip
        refine rgy (y_mov rfl rfl) rfl rfl rfl rfl ?_
        refine rg_on rfl rfl rfl (op_lit (parts := [(0, _), (1, _), (2, _)]) (vs := [(0, _), (1, _), (2, _)]) (cs := [.int _ _, .int _ _, .int _ _]) H18 rfl Try.underlying32 kflaw10_1 rfl ⟨rfl, rfl, rfl, trivial⟩ rfl rfl) rfl ?_
        rintro _ w25 ⟨b24, rfl, H26⟩
        have H27 := H26.asrow (m := 3) (size := 1) rfl (by decide)
        refine rg_on rfl rfl rfl (op_call (ret_v (v := .bool true) (refSame_any _ 3 _ [1, 1, 2] _ 3 _ [1, 1, 2] _ (H27.rd (i := 1) rfl) rfl (H27.rd (i := 0) rfl) rfl (by decide)) rfl) rfl kflaw10_8 ⟨rfl, rfl, trivial⟩) rfl ?_
        rintro _ w29 ⟨rfl, e28⟩
        have H30 := H27.ext e28
        refine ry (y_pick rfl rfl rfl) rfl rfl ?_
        refine ry (y_asg rfl rfl) rfl rfl ?_
        refine reg_nil ?_
        refine fn_next ?_
        refine cw_ret ?_
        refine fn_ret1 rfl rfl ?_
        exact ⟨rfl, H30.base⟩
      · exact absurd rfl h23
    · exact absurd rfl h22
  · exact absurd rfl h21

set_option maxRecDepth 100000 in
theorem paintNil_all (x0 y0 x1 y1 : Int) (A : Option Addr) (n cap : Nat) (d x y : Int) (w : World) :
    Ret Try.prog 10 [.agg #[.int .i64 x0, .int .i64 y0, .int .i64 x1, .int .i64 y1], .slice A n cap, .int .i64 d, .agg #[.int .i64 x, .int .i64 y]] w (fun z w' => z = .bool true ∧ Below w.heap.size w w') := by
  refine ret_enter Try.func10 rfl rfl rfl ?_
  have H0 := HS.start w
  refine cw_seq ?_
  refine cw_reg ?_
  refine reg_op (op_box (cs := [.int _ _, .int _ _, .int _ _, .int _ _]) H0 rfl rfl rfl) rfl rfl ?_
  rintro _ w2 ⟨b1, rfl, H3⟩
  refine reg_op (op_box (cs := [.int _ _, .int _ _]) H3 rfl rfl rfl) rfl rfl ?_
  rintro _ w5 ⟨b4, rfl, H6⟩
  refine ry (y_asg rfl rfl) rfl rfl ?_
  refine reg_nil ?_
  refine fn_next ?_
  refine cw_seq ?_
  refine cw_seq ?_
  refine cw_reg ?_
  refine reg_op (op_call (paintAwake _) rfl kflaw10_9 trivial) rfl rfl ?_
  rintro _ w8 ⟨rfl, e7⟩
  have H9 := H6.ext e7
  refine ry (y_not rfl rfl) rfl rfl ?_
  refine reg_nil ?_
  refine fn_next ?_
  refine cw_condf rfl ?_
  refine cw_skip ?_
  refine fn_next ?_
  refine cw_seq ?_
  refine cw_seq ?_
  refine cw_reg ?_
  refine ry (y_mov rfl rfl) rfl rfl ?_
  refine ry (y_len rfl Try.underlying32 rfl) rfl rfl ?_
  refine ry (y_gtr rfl rfl rfl) rfl rfl ?_
  refine reg_nil ?_
  refine fn_next ?_
  refine cw_condd rfl (fun h10 => ?_) (fun h10 => ?_)
  · skip
    refine cw_seq ?_
    refine cw_reg ?_
    refine ry (y_asg rfl rfl) rfl rfl ?_
    refine reg_nil ?_
    refine fn_next ?_
    refine cw_ret ?_
    refine fn_then_ret ?_
    refine fn_ret1 rfl rfl ?_
    exact ⟨rfl, H9.base⟩
  · skip
    refine cw_skip ?_
    refine fn_next ?_
    refine cw_seq ?_
    refine cw_reg ?_
    refine ry (y_asg rfl rfl) rfl rfl ?_
    refine reg_nil ?_
    refine fn_next ?_
    refine cw_seq ?_
    refine cw_reg ?_
    refine ry (y_mov rfl rfl) rfl rfl ?_
    refine ry (y_ldb (i := 1) (cs := [_, _, _, _]) H9 rfl rfl kflaw10_10 rfl rfl) rfl rfl ?_
    refine ry (y_mov rfl rfl) rfl rfl ?_
    refine reg_op (op_call (gNil_Paste _ _ _ _ _ _ _ _) rfl kflaw10_11 ⟨rfl, rfl, rfl, trivial⟩) rfl rfl ?_
    rintro _ w12 ⟨rfl, e11⟩
    have H13 := H9.ext e11
    refine ry (y_eql rfl rfl rfl) rfl rfl ?_
    refine ry (y_mov rfl rfl) rfl rfl ?_
    refine rg_splitd (d := 20) rfl (fun h14 => ?_) (fun h14 => ?_)
    · skip
      refine rgy (y_mov rfl rfl) rfl rfl rfl rfl ?_
      refine rgy (y_ldb (i := 1) (cs := [_, _, _, _]) H13 rfl rfl kflaw10_10 rfl rfl) rfl rfl rfl rfl ?_
      refine rgy (y_mov rfl rfl) rfl rfl rfl rfl ?_
      refine rg_on rfl rfl rfl (op_call (gNil_Add _ _ _ _ _ _) rfl kflaw10_12 ⟨rfl, rfl, rfl, trivial⟩) rfl ?_
      rintro _ w16 ⟨rfl, e15⟩
      have H17 := H13.ext e15
      refine rgy (y_eql rfl rfl rfl) rfl rfl rfl rfl ?_
      refine ry (y_pick rfl rfl rfl) rfl rfl ?_
      refine ry (y_mov rfl rfl) rfl rfl ?_
      refine rg_splitd (d := 27) rfl (fun h18 => ?_) (fun h18 => ?_)
      · skip
        refine rgy (y_mov rfl rfl) rfl rfl rfl rfl ?_
        refine rgy (y_ldb (i := 1) (cs := [_, _, _, _]) H17 rfl rfl kflaw10_10 rfl rfl) rfl rfl rfl rfl ?_
        refine rgy (y_mov rfl rfl) rfl rfl rfl rfl ?_
        refine rgy (y_mov rfl rfl) rfl rfl rfl rfl ?_
        refine rg_on rfl rfl rfl (op_call (gNil_Clamp _ _ _ _ _ _ _) rfl kflaw10_13 ⟨rfl, rfl, rfl, rfl, trivial⟩) rfl ?_
        rintro _ w20 ⟨rfl, e19⟩
        have H21 := H17.ext e19
        refine rgy (y_eql rfl rfl rfl) rfl rfl rfl rfl ?_
        refine ry (y_pick rfl rfl rfl) rfl rfl ?_
        refine ry (y_mov rfl rfl) rfl rfl ?_
        refine rg_splitd (d := 35) rfl (fun h22 => ?_) (fun h22 => ?_)
        · skip
          refine rgy (y_mov rfl rfl) rfl rfl rfl rfl ?_
          refine rgy (y_ldb (i := 1) (cs := [_, _, _, _]) H21 rfl rfl kflaw10_10 rfl rfl) rfl rfl rfl rfl ?_
          refine rgy (y_ldb (i := 0) (cs := [_, _]) H21 rfl rfl kflaw10_14 rfl rfl) rfl rfl rfl rfl ?_
          refine rg_on rfl rfl rfl (op_call (gNil_Stamp _ _ _ _ _ _ _) rfl kflaw10_5 ⟨rfl, rfl, rfl, trivial⟩) rfl ?_
          rintro _ w24 ⟨rfl, e23⟩
          have H25 := H21.ext e23
          refine rgy (y_eql rfl rfl rfl) rfl rfl rfl rfl ?_
          refine ry (y_pick rfl rfl rfl) rfl rfl ?_
          refine ry (y_asg rfl rfl) rfl rfl ?_
          refine reg_nil ?_
          refine fn_next ?_
          refine cw_ret ?_
          refine fn_ret1 rfl rfl ?_
          exact ⟨rfl, H25.base⟩
        · exact absurd rfl h22
      · exact absurd rfl h18
    · exact absurd rfl h14

theorem paintNil_law (rx0 ry0 rx1 ry1 : Int) (zs : List Int) (A1 : Option Addr) (n1 c1 : Nat) (d : Int) (cx cy : Int) (W : World) (brx0 : I6 rx0) (bry0 : I6 ry0) (brx1 : I6 rx1) (bry1 : I6 ry1) (hzs : Ints .i64 W A1 n1 zs) (le1 : n1 ≤ c1) (mx1 : c1 ≤ maxLen) (wzs : ∀ z ∈ zs, I6 z) (bd : I6 d) (bcx : I6 cx) (bcy : I6 cy) :
    Calls Try.prog 10 #[.agg #[.int .i64 rx0, .int .i64 ry0, .int .i64 rx1, .int .i64 ry1], .slice A1 n1 c1, .int .i64 d, .agg #[.int .i64 cx, .int .i64 cy]] W fun e w' => e = .returned (.bool true) ∧ Below W.heap.size W w' := lawOf (paintNil_all rx0 ry0 rx1 ry1 A1 n1 c1 d cx cy W)

set_option maxRecDepth 100000 in
theorem paintFrom_bad (a h : Int) (L : List Int) (A : Option Addr) (n cap : Nat) (w : World) (hr : Rd w A (vi .i64 L)) (hl : L.length = n) (ha : I6 a) (hh : I6 h) (hc : ¬ fromC a h L = 0) :
    Ret Try.prog 9 [.int .i64 a, .int .i64 h, .slice A n cap] w (fun z w' => z = .bool true ∧ Below w.heap.size w w') := by
  refine ret_enter Try.func9 rfl rfl rfl ?_
  have H0 := HS.start w
  refine cw_seq ?_
  refine cw_reg ?_
  refine ry (y_asg rfl rfl) rfl rfl ?_
  refine reg_nil ?_
  refine fn_next ?_
  refine cw_seq ?_
  refine cw_seq ?_
  refine cw_reg ?_
  refine reg_op (op_call (paintAwake _) rfl kflaw10_9 trivial) rfl rfl ?_
  rintro _ w2 ⟨rfl, e1⟩
  have H3 := H0.ext e1
  refine ry (y_not rfl rfl) rfl rfl ?_
  refine reg_nil ?_
  refine fn_next ?_
  refine cw_condf rfl ?_
  refine cw_skip ?_
  refine fn_next ?_
  refine cw_seq ?_
  refine cw_seq ?_
  refine cw_reg ?_
  refine ry (y_mov rfl rfl) rfl rfl ?_
  refine ry (y_len rfl Try.underlying32 rfl) rfl rfl ?_
  refine ry (y_gtr rfl rfl rfl) rfl rfl ?_
  refine ry (y_mov rfl rfl) rfl rfl ?_
  refine rg_splitd (d := 16) rfl (fun h4 => ?_) (fun h4 => ?_)
  · skip
    refine rg_off rfl rfl rfl rfl rfl ?_
    refine rg_off rfl rfl rfl rfl rfl ?_
    refine rg_off rfl rfl rfl rfl rfl ?_
    refine rg_offu rfl rfl rfl rfl ?_
    refine rg_offu rfl rfl rfl rfl ?_
    refine rg_off rfl rfl rfl rfl rfl ?_
    refine rg_off rfl rfl rfl rfl rfl ?_
    refine rg_offu rfl rfl rfl rfl ?_
    refine rg_offu rfl rfl rfl rfl ?_
    refine rg_off rfl rfl rfl rfl rfl ?_
    refine rg_off rfl rfl rfl rfl rfl ?_
    refine rg_offu rfl rfl rfl rfl ?_
    refine rg_offu rfl rfl rfl rfl ?_
    refine rg_off rfl rfl rfl rfl rfl ?_
    refine rg_off rfl rfl rfl rfl rfl ?_
    refine rg_offu rfl rfl rfl rfl ?_
    refine rg_offu rfl rfl rfl rfl ?_
    refine rg_offu rfl rfl rfl rfl ?_
    refine rg_offu rfl rfl rfl rfl ?_
    refine rg_off rfl rfl rfl rfl rfl ?_
    refine ry (y_pick rfl rfl rfl) rfl rfl ?_
    refine reg_nil ?_
    refine fn_next ?_
    refine cw_condt rfl ?_
    refine cw_seq ?_
    refine cw_reg ?_
    refine ry (y_asg rfl rfl) rfl rfl ?_
    refine reg_nil ?_
    refine fn_next ?_
    refine cw_ret ?_
    refine fn_then_ret ?_
    refine fn_ret1 rfl rfl ?_
    exact ⟨rfl, H3.base⟩
  · skip
    refine rgy (y_mov rfl rfl) rfl rfl rfl rfl ?_
    refine rgy (y_gtr rfl rfl rfl) rfl rfl rfl rfl ?_
    refine rgy (y_mov rfl rfl) rfl rfl rfl rfl ?_
    refine rg_splitd (d := 19) rfl (fun h5 => ?_) (fun h5 => ?_)
    · skip
      refine rgy (y_mov rfl rfl) rfl rfl rfl rfl ?_
      refine rgy (y_gtr rfl rfl rfl) rfl rfl rfl rfl ?_
      refine rgy (y_pick rfl rfl rfl) rfl rfl rfl rfl ?_
      refine rgy (y_mov rfl rfl) rfl rfl rfl rfl ?_
      refine rg_splitd (d := 23) rfl (fun h6 => ?_) (fun h6 => ?_)
      · skip
        refine rgy (y_mov rfl rfl) rfl rfl rfl rfl ?_
        refine rgy (y_leq rfl rfl rfl) rfl rfl rfl rfl ?_
        refine rgy (y_pick rfl rfl rfl) rfl rfl rfl rfl ?_
        refine rgy (y_mov rfl rfl) rfl rfl rfl rfl ?_
        refine rg_splitd (d := 27) rfl (fun h7 => ?_) (fun h7 => ?_)
        · skip
          refine rgy (y_mov rfl rfl) rfl rfl rfl rfl ?_
          refine rgy (y_leq rfl rfl rfl) rfl rfl rfl rfl ?_
          refine rgy (y_pick rfl rfl rfl) rfl rfl rfl rfl ?_
          refine rgy (y_mov rfl rfl) rfl rfl rfl rfl ?_
          refine rg_splitd (d := 31) rfl (fun h8 => ?_) (fun h8 => ?_)
          · skip
            refine rgy (y_mov rfl rfl) rfl rfl rfl rfl ?_
            refine rgy (y_mov rfl rfl) rfl rfl rfl rfl ?_
            have hmb := area_bd (a := a) (b := h) (by omega) (by omega) (by omega) (by omega)
            refine rgy (y_mul rfl rfl rfl (wi (by omega))) rfl rfl rfl rfl ?_
            refine rgy (y_gtr rfl rfl rfl) rfl rfl rfl rfl ?_
            refine rgy (y_pick rfl rfl rfl) rfl rfl rfl rfl ?_
            refine ry (y_pick rfl rfl rfl) rfl rfl ?_
            refine reg_nil ?_
            refine fn_next ?_
            refine cw_condd rfl (fun h9 => ?_) (fun h9 => ?_)
            · skip
              refine cw_seq ?_
              refine cw_reg ?_
              refine ry (y_asg rfl rfl) rfl rfl ?_
              refine reg_nil ?_
              refine fn_next ?_
              refine cw_ret ?_
              refine fn_then_ret ?_
              refine fn_ret1 rfl rfl ?_
              exact ⟨rfl, H3.base⟩
            · skip
              refine cw_skip ?_
              refine fn_next ?_
              refine cw_seq ?_
              refine cw_reg ?_
              refine ry (y_mov rfl rfl) rfl rfl ?_
              refine ry (y_mov rfl rfl) rfl rfl ?_
              refine ry (y_mov rfl rfl) rfl rfl ?_
              refine reg_op (op_call (gFrom_no a h L A n cap _ ha hh (hr.below H3.base) hl (by omega) hc) rfl kflaw10_2 ⟨rfl, rfl, rfl, trivial⟩) rfl rfl ?_
              rintro _ w11 ⟨rfl, e10⟩
              have H12 := H3.ext e10
              refine ry (y_mov rfl rfl) rfl rfl ?_
              refine ry (y_ext rfl rfl rfl) rfl rfl ?_
              refine ry (y_ext rfl rfl rfl) rfl rfl ?_
              refine ry (y_asg rfl rfl) rfl rfl ?_
              refine ry (y_asg rfl rfl) rfl rfl ?_
              refine reg_nil ?_
              refine fn_next ?_
              refine cw_seq ?_
              refine cw_reg ?_
              refine ry (y_mov rfl rfl) rfl rfl ?_
              refine ry (y_mov rfl rfl) rfl rfl ?_
              refine ry (y_mov rfl rfl) rfl rfl ?_
              refine reg_op (op_call (mFrom_no a h L A n cap _ (hr.below H12.base) hl (by omega) hc) rfl kflaw10_15 ⟨rfl, rfl, rfl, trivial⟩) rfl rfl ?_
              rintro _ w14 ⟨rfl, e13⟩
              have H15 := H12.ext e13
              refine ry (y_mov rfl rfl) rfl rfl ?_
              refine ry (y_ext rfl rfl rfl) rfl rfl ?_
              refine ry (y_ext rfl rfl rfl) rfl rfl ?_
              refine reg_op (op_alloc H15 rfl kflaw10_16) rfl rfl ?_
              rintro _ w17 ⟨b16, rfl, H18⟩
              refine reg_op (op_st (i := 0) (vs := [.int _ _, .int _ _, .slice _ _ _]) H18 rfl rfl rfl rfl rfl kflaw10_17 rfl rfl rfl) rfl rfl ?_
              rintro _ w19 H20
              refine ry (y_asg rfl rfl) rfl rfl ?_
              refine reg_nil ?_
              refine fn_next ?_
              refine cw_seq ?_
              refine cw_seq ?_
              refine cw_reg ?_
              refine ry (y_mov rfl rfl) rfl rfl ?_
              refine ry (y_mov rfl rfl) rfl rfl ?_
              refine ry (y_neq rfl rfl rfl) rfl rfl ?_
              refine ry (y_mov rfl rfl) rfl rfl ?_
              refine rg_splitd (d := 55) rfl (fun h21 => ?_) (fun h21 => ?_)
              · exact absurd rfl h21
              · skip
                refine rgy (y_mov rfl rfl) rfl rfl rfl rfl ?_
                refine rgy (y_peqlnil rfl Try.underlying74 rfl rfl) rfl rfl rfl rfl ?_
                refine rgy (y_mov rfl rfl) rfl rfl rfl rfl ?_
                refine rgy (y_neq rfl rfl rfl) rfl rfl rfl rfl ?_
                refine rgy (y_bneq rfl Try.underlying4 rfl rfl) rfl rfl rfl rfl ?_
                refine ry (y_pick rfl rfl rfl) rfl rfl ?_
                refine reg_nil ?_
                refine fn_next ?_
                refine cw_cond rfl (fun h22 => ?_) (fun h22 => ?_)
                · skip
                  first | exact absurd rfl h22 | cases h22 | (simp only [decide_eq_true hc] at h22; cases h22)
                · skip
                  refine cw_skip ?_
                  refine fn_next ?_
                  refine cw_seq ?_
                  refine cw_reg ?_
                  refine ry (y_mov rfl rfl) rfl rfl ?_
                  refine ry (y_neq rfl rfl rfl) rfl rfl ?_
                  refine ry (y_mov rfl rfl) rfl rfl ?_
                  refine rg_splitd (d := 64) rfl (fun h23 => ?_) (fun h23 => ?_)
                  · skip
                    refine rg_off rfl rfl rfl rfl rfl ?_
                    refine rg_off rfl rfl rfl rfl rfl ?_
                    refine rg_off rfl rfl rfl rfl rfl ?_
                    refine ry (y_pick rfl rfl rfl) rfl rfl ?_
                    refine ry (y_asg rfl rfl) rfl rfl ?_
                    refine reg_nil ?_
                    refine fn_next ?_
                    refine cw_ret ?_
                    refine fn_ret1 rfl rfl ?_
                    exact ⟨rfl, H20.base⟩
                  · exact absurd (Classical.not_not.1 h23) hc
          · skip
            refine rg_off rfl rfl rfl rfl rfl ?_
            refine rg_off rfl rfl rfl rfl rfl ?_
            refine rg_off rfl rfl rfl rfl rfl ?_
            refine rg_off rfl rfl rfl rfl rfl ?_
            refine rgy (y_pick rfl rfl rfl) rfl rfl rfl rfl ?_
            refine ry (y_pick rfl rfl rfl) rfl rfl ?_
            refine reg_nil ?_
            refine fn_next ?_
            refine cw_condf rfl ?_
            refine cw_skip ?_
            refine fn_next ?_
            refine cw_seq ?_
            refine cw_reg ?_
            refine ry (y_mov rfl rfl) rfl rfl ?_
            refine ry (y_mov rfl rfl) rfl rfl ?_
            refine ry (y_mov rfl rfl) rfl rfl ?_
            refine reg_op (op_call (gFrom_no a h L A n cap _ ha hh (hr.below H3.base) hl (by omega) hc) rfl kflaw10_2 ⟨rfl, rfl, rfl, trivial⟩) rfl rfl ?_
            rintro _ w25 ⟨rfl, e24⟩
            have H26 := H3.ext e24
            refine ry (y_mov rfl rfl) rfl rfl ?_
            refine ry (y_ext rfl rfl rfl) rfl rfl ?_
            refine ry (y_ext rfl rfl rfl) rfl rfl ?_
            refine ry (y_asg rfl rfl) rfl rfl ?_
            refine ry (y_asg rfl rfl) rfl rfl ?_
            refine reg_nil ?_
            refine fn_next ?_
            refine cw_seq ?_
            refine cw_reg ?_
            refine ry (y_mov rfl rfl) rfl rfl ?_
            refine ry (y_mov rfl rfl) rfl rfl ?_
            refine ry (y_mov rfl rfl) rfl rfl ?_
            refine reg_op (op_call (mFrom_no a h L A n cap _ (hr.below H26.base) hl (by omega) hc) rfl kflaw10_15 ⟨rfl, rfl, rfl, trivial⟩) rfl rfl ?_
            rintro _ w28 ⟨rfl, e27⟩
            have H29 := H26.ext e27
            refine ry (y_mov rfl rfl) rfl rfl ?_
            refine ry (y_ext rfl rfl rfl) rfl rfl ?_
            refine ry (y_ext rfl rfl rfl) rfl rfl ?_
            refine reg_op (op_alloc H29 rfl kflaw10_16) rfl rfl ?_
            rintro _ w31 ⟨b30, rfl, H32⟩
            refine reg_op (op_st (i := 0) (vs := [.int _ _, .int _ _, .slice _ _ _]) H32 rfl rfl rfl rfl rfl kflaw10_17 rfl rfl rfl) rfl rfl ?_
            rintro _ w33 H34
            refine ry (y_asg rfl rfl) rfl rfl ?_
            refine reg_nil ?_
            refine fn_next ?_
            refine cw_seq ?_
            refine cw_seq ?_
            refine cw_reg ?_
            refine ry (y_mov rfl rfl) rfl rfl ?_
            refine ry (y_mov rfl rfl) rfl rfl ?_
            refine ry (y_neq rfl rfl rfl) rfl rfl ?_
            refine ry (y_mov rfl rfl) rfl rfl ?_
            refine rg_splitd (d := 55) rfl (fun h35 => ?_) (fun h35 => ?_)
            · exact absurd rfl h35
            · skip
              refine rgy (y_mov rfl rfl) rfl rfl rfl rfl ?_
              refine rgy (y_peqlnil rfl Try.underlying74 rfl rfl) rfl rfl rfl rfl ?_
              refine rgy (y_mov rfl rfl) rfl rfl rfl rfl ?_
              refine rgy (y_neq rfl rfl rfl) rfl rfl rfl rfl ?_
              refine rgy (y_bneq rfl Try.underlying4 rfl rfl) rfl rfl rfl rfl ?_
              refine ry (y_pick rfl rfl rfl) rfl rfl ?_
              refine reg_nil ?_
              refine fn_next ?_
              refine cw_cond rfl (fun h36 => ?_) (fun h36 => ?_)
              · skip
                first | exact absurd rfl h36 | cases h36 | (simp only [decide_eq_true hc] at h36; cases h36)
              · skip
                refine cw_skip ?_
                refine fn_next ?_
                refine cw_seq ?_
                refine cw_reg ?_
                refine ry (y_mov rfl rfl) rfl rfl ?_
                refine ry (y_neq rfl rfl rfl) rfl rfl ?_
                refine ry (y_mov rfl rfl) rfl rfl ?_
                refine rg_splitd (d := 64) rfl (fun h37 => ?_) (fun h37 => ?_)
                · skip
                  refine rg_off rfl rfl rfl rfl rfl ?_
                  refine rg_off rfl rfl rfl rfl rfl ?_
                  refine rg_off rfl rfl rfl rfl rfl ?_
                  refine ry (y_pick rfl rfl rfl) rfl rfl ?_
                  refine ry (y_asg rfl rfl) rfl rfl ?_
                  refine reg_nil ?_
                  refine fn_next ?_
                  refine cw_ret ?_
                  refine fn_ret1 rfl rfl ?_
                  exact ⟨rfl, H34.base⟩
                · exact absurd (Classical.not_not.1 h37) hc
        · skip
          refine rg_off rfl rfl rfl rfl rfl ?_
          refine rg_off rfl rfl rfl rfl rfl ?_
          refine rgy (y_pick rfl rfl rfl) rfl rfl rfl rfl ?_
          refine rgy (y_mov rfl rfl) rfl rfl rfl rfl ?_
          refine rg_off rfl rfl rfl rfl rfl ?_
          refine rg_off rfl rfl rfl rfl rfl ?_
          refine rg_off rfl rfl rfl rfl rfl ?_
          refine rg_off rfl rfl rfl rfl rfl ?_
          refine rgy (y_pick rfl rfl rfl) rfl rfl rfl rfl ?_
          refine ry (y_pick rfl rfl rfl) rfl rfl ?_
          refine reg_nil ?_
          refine fn_next ?_
          refine cw_condf rfl ?_
          refine cw_skip ?_
          refine fn_next ?_
          refine cw_seq ?_
          refine cw_reg ?_
          refine ry (y_mov rfl rfl) rfl rfl ?_
          refine ry (y_mov rfl rfl) rfl rfl ?_
          refine ry (y_mov rfl rfl) rfl rfl ?_
          refine reg_op (op_call (gFrom_no a h L A n cap _ ha hh (hr.below H3.base) hl (by omega) hc) rfl kflaw10_2 ⟨rfl, rfl, rfl, trivial⟩) rfl rfl ?_
          rintro _ w39 ⟨rfl, e38⟩
          have H40 := H3.ext e38
          refine ry (y_mov rfl rfl) rfl rfl ?_
          refine ry (y_ext rfl rfl rfl) rfl rfl ?_
          refine ry (y_ext rfl rfl rfl) rfl rfl ?_
          refine ry (y_asg rfl rfl) rfl rfl ?_
          refine ry (y_asg rfl rfl) rfl rfl ?_
          refine reg_nil ?_
          refine fn_next ?_
          refine cw_seq ?_
          refine cw_reg ?_
          refine ry (y_mov rfl rfl) rfl rfl ?_
          refine ry (y_mov rfl rfl) rfl rfl ?_
          refine ry (y_mov rfl rfl) rfl rfl ?_
          refine reg_op (op_call (mFrom_no a h L A n cap _ (hr.below H40.base) hl (by omega) hc) rfl kflaw10_15 ⟨rfl, rfl, rfl, trivial⟩) rfl rfl ?_
          rintro _ w42 ⟨rfl, e41⟩
          have H43 := H40.ext e41
          refine ry (y_mov rfl rfl) rfl rfl ?_
          refine ry (y_ext rfl rfl rfl) rfl rfl ?_
          refine ry (y_ext rfl rfl rfl) rfl rfl ?_
          refine reg_op (op_alloc H43 rfl kflaw10_16) rfl rfl ?_
          rintro _ w45 ⟨b44, rfl, H46⟩
          refine reg_op (op_st (i := 0) (vs := [.int _ _, .int _ _, .slice _ _ _]) H46 rfl rfl rfl rfl rfl kflaw10_17 rfl rfl rfl) rfl rfl ?_
          rintro _ w47 H48
          refine ry (y_asg rfl rfl) rfl rfl ?_
          refine reg_nil ?_
          refine fn_next ?_
          refine cw_seq ?_
          refine cw_seq ?_
          refine cw_reg ?_
          refine ry (y_mov rfl rfl) rfl rfl ?_
          refine ry (y_mov rfl rfl) rfl rfl ?_
          refine ry (y_neq rfl rfl rfl) rfl rfl ?_
          refine ry (y_mov rfl rfl) rfl rfl ?_
          refine rg_splitd (d := 55) rfl (fun h49 => ?_) (fun h49 => ?_)
          · exact absurd rfl h49
          · skip
            refine rgy (y_mov rfl rfl) rfl rfl rfl rfl ?_
            refine rgy (y_peqlnil rfl Try.underlying74 rfl rfl) rfl rfl rfl rfl ?_
            refine rgy (y_mov rfl rfl) rfl rfl rfl rfl ?_
            refine rgy (y_neq rfl rfl rfl) rfl rfl rfl rfl ?_
            refine rgy (y_bneq rfl Try.underlying4 rfl rfl) rfl rfl rfl rfl ?_
            refine ry (y_pick rfl rfl rfl) rfl rfl ?_
            refine reg_nil ?_
            refine fn_next ?_
            refine cw_cond rfl (fun h50 => ?_) (fun h50 => ?_)
            · skip
              first | exact absurd rfl h50 | cases h50 | (simp only [decide_eq_true hc] at h50; cases h50)
            · skip
              refine cw_skip ?_
              refine fn_next ?_
              refine cw_seq ?_
              refine cw_reg ?_
              refine ry (y_mov rfl rfl) rfl rfl ?_
              refine ry (y_neq rfl rfl rfl) rfl rfl ?_
              refine ry (y_mov rfl rfl) rfl rfl ?_
              refine rg_splitd (d := 64) rfl (fun h51 => ?_) (fun h51 => ?_)
              · skip
                refine rg_off rfl rfl rfl rfl rfl ?_
                refine rg_off rfl rfl rfl rfl rfl ?_
                refine rg_off rfl rfl rfl rfl rfl ?_
                refine ry (y_pick rfl rfl rfl) rfl rfl ?_
                refine ry (y_asg rfl rfl) rfl rfl ?_
                refine reg_nil ?_
                refine fn_next ?_
                refine cw_ret ?_
                refine fn_ret1 rfl rfl ?_
                exact ⟨rfl, H48.base⟩
              · exact absurd (Classical.not_not.1 h51) hc
      · skip
        refine rg_off rfl rfl rfl rfl rfl ?_
        refine rg_off rfl rfl rfl rfl rfl ?_
        refine rgy (y_pick rfl rfl rfl) rfl rfl rfl rfl ?_
        refine rgy (y_mov rfl rfl) rfl rfl rfl rfl ?_
        refine rg_off rfl rfl rfl rfl rfl ?_
        refine rg_off rfl rfl rfl rfl rfl ?_
        refine rgy (y_pick rfl rfl rfl) rfl rfl rfl rfl ?_
        refine rgy (y_mov rfl rfl) rfl rfl rfl rfl ?_
        refine rg_off rfl rfl rfl rfl rfl ?_
        refine rg_off rfl rfl rfl rfl rfl ?_
        refine rg_off rfl rfl rfl rfl rfl ?_
        refine rg_off rfl rfl rfl rfl rfl ?_
        refine rgy (y_pick rfl rfl rfl) rfl rfl rfl rfl ?_
        refine ry (y_pick rfl rfl rfl) rfl rfl ?_
        refine reg_nil ?_
        refine fn_next ?_
        refine cw_condf rfl ?_
        refine cw_skip ?_
        refine fn_next ?_
        refine cw_seq ?_
        refine cw_reg ?_
        refine ry (y_mov rfl rfl) rfl rfl ?_
        refine ry (y_mov rfl rfl) rfl rfl ?_
        refine ry (y_mov rfl rfl) rfl rfl ?_
        refine reg_op (op_call (gFrom_no a h L A n cap _ ha hh (hr.below H3.base) hl (by omega) hc) rfl kflaw10_2 ⟨rfl, rfl, rfl, trivial⟩) rfl rfl ?_
        rintro _ w53 ⟨rfl, e52⟩
        have H54 := H3.ext e52
        refine ry (y_mov rfl rfl) rfl rfl ?_
        refine ry (y_ext rfl rfl rfl) rfl rfl ?_
        refine ry (y_ext rfl rfl rfl) rfl rfl ?_
        refine ry (y_asg rfl rfl) rfl rfl ?_
        refine ry (y_asg rfl rfl) rfl rfl ?_
        refine reg_nil ?_
        refine fn_next ?_
        refine cw_seq ?_
        refine cw_reg ?_
        refine ry (y_mov rfl rfl) rfl rfl ?_
        refine ry (y_mov rfl rfl) rfl rfl ?_
        refine ry (y_mov rfl rfl) rfl rfl ?_
        refine reg_op (op_call (mFrom_no a h L A n cap _ (hr.below H54.base) hl (by omega) hc) rfl kflaw10_15 ⟨rfl, rfl, rfl, trivial⟩) rfl rfl ?_
        rintro _ w56 ⟨rfl, e55⟩
        have H57 := H54.ext e55
        refine ry (y_mov rfl rfl) rfl rfl ?_
        refine ry (y_ext rfl rfl rfl) rfl rfl ?_
        refine ry (y_ext rfl rfl rfl) rfl rfl ?_
        refine reg_op (op_alloc H57 rfl kflaw10_16) rfl rfl ?_
        rintro _ w59 ⟨b58, rfl, H60⟩
        refine reg_op (op_st (i := 0) (vs := [.int _ _, .int _ _, .slice _ _ _]) H60 rfl rfl rfl rfl rfl kflaw10_17 rfl rfl rfl) rfl rfl ?_
        rintro _ w61 H62
        refine ry (y_asg rfl rfl) rfl rfl ?_
        refine reg_nil ?_
        refine fn_next ?_
        refine cw_seq ?_
        refine cw_seq ?_
        refine cw_reg ?_
        refine ry (y_mov rfl rfl) rfl rfl ?_
        refine ry (y_mov rfl rfl) rfl rfl ?_
        refine ry (y_neq rfl rfl rfl) rfl rfl ?_
        refine ry (y_mov rfl rfl) rfl rfl ?_
        refine rg_splitd (d := 55) rfl (fun h63 => ?_) (fun h63 => ?_)
        · exact absurd rfl h63
        · skip
          refine rgy (y_mov rfl rfl) rfl rfl rfl rfl ?_
          refine rgy (y_peqlnil rfl Try.underlying74 rfl rfl) rfl rfl rfl rfl ?_
          refine rgy (y_mov rfl rfl) rfl rfl rfl rfl ?_
          refine rgy (y_neq rfl rfl rfl) rfl rfl rfl rfl ?_
          refine rgy (y_bneq rfl Try.underlying4 rfl rfl) rfl rfl rfl rfl ?_
          refine ry (y_pick rfl rfl rfl) rfl rfl ?_
          refine reg_nil ?_
          refine fn_next ?_
          refine cw_cond rfl (fun h64 => ?_) (fun h64 => ?_)
          · skip
            first | exact absurd rfl h64 | cases h64 | (simp only [decide_eq_true hc] at h64; cases h64)
          · skip
            refine cw_skip ?_
            refine fn_next ?_
            refine cw_seq ?_
            refine cw_reg ?_
            refine ry (y_mov rfl rfl) rfl rfl ?_
            refine ry (y_neq rfl rfl rfl) rfl rfl ?_
            refine ry (y_mov rfl rfl) rfl rfl ?_
            refine rg_splitd (d := 64) rfl (fun h65 => ?_) (fun h65 => ?_)
            · skip
              refine rg_off rfl rfl rfl rfl rfl ?_
              refine rg_off rfl rfl rfl rfl rfl ?_
              refine rg_off rfl rfl rfl rfl rfl ?_
              refine ry (y_pick rfl rfl rfl) rfl rfl ?_
              refine ry (y_asg rfl rfl) rfl rfl ?_
              refine reg_nil ?_
              refine fn_next ?_
              refine cw_ret ?_
              refine fn_ret1 rfl rfl ?_
              exact ⟨rfl, H62.base⟩
            · exact absurd (Classical.not_not.1 h65) hc
    · skip
      refine rg_off rfl rfl rfl rfl rfl ?_
      refine rg_off rfl rfl rfl rfl rfl ?_
      refine rgy (y_pick rfl rfl rfl) rfl rfl rfl rfl ?_
      refine rgy (y_mov rfl rfl) rfl rfl rfl rfl ?_
      refine rg_off rfl rfl rfl rfl rfl ?_
      refine rg_off rfl rfl rfl rfl rfl ?_
      refine rgy (y_pick rfl rfl rfl) rfl rfl rfl rfl ?_
      refine rgy (y_mov rfl rfl) rfl rfl rfl rfl ?_
      refine rg_off rfl rfl rfl rfl rfl ?_
      refine rg_off rfl rfl rfl rfl rfl ?_
      refine rgy (y_pick rfl rfl rfl) rfl rfl rfl rfl ?_
      refine rgy (y_mov rfl rfl) rfl rfl rfl rfl ?_
      refine rg_off rfl rfl rfl rfl rfl ?_
      refine rg_off rfl rfl rfl rfl rfl ?_
      refine rg_off rfl rfl rfl rfl rfl ?_
      refine rg_off rfl rfl rfl rfl rfl ?_
      refine rgy (y_pick rfl rfl rfl) rfl rfl rfl rfl ?_
      refine ry (y_pick rfl rfl rfl) rfl rfl ?_
      refine reg_nil ?_
      refine fn_next ?_
      refine cw_condf rfl ?_
      refine cw_skip ?_
      refine fn_next ?_
      refine cw_seq ?_
      refine cw_reg ?_
      refine ry (y_mov rfl rfl) rfl rfl ?_
      refine ry (y_mov rfl rfl) rfl rfl ?_
      refine ry (y_mov rfl rfl) rfl rfl ?_
      refine reg_op (op_call (gFrom_no a h L A n cap _ ha hh (hr.below H3.base) hl (by omega) hc) rfl kflaw10_2 ⟨rfl, rfl, rfl, trivial⟩) rfl rfl ?_
      rintro _ w67 ⟨rfl, e66⟩
      have H68 := H3.ext e66
      refine ry (y_mov rfl rfl) rfl rfl ?_
      refine ry (y_ext rfl rfl rfl) rfl rfl ?_
      refine ry (y_ext rfl rfl rfl) rfl rfl ?_
      refine ry (y_asg rfl rfl) rfl rfl ?_
      refine ry (y_asg rfl rfl) rfl rfl ?_
      refine reg_nil ?_
      refine fn_next ?_
      refine cw_seq ?_
      refine cw_reg ?_
      refine ry (y_mov rfl rfl) rfl rfl ?_
      refine ry (y_mov rfl rfl) rfl rfl ?_
      refine ry (y_mov rfl rfl) rfl rfl ?_
      refine reg_op (op_call (mFrom_no a h L A n cap _ (hr.below H68.base) hl (by omega) hc) rfl kflaw10_15 ⟨rfl, rfl, rfl, trivial⟩) rfl rfl ?_
      rintro _ w70 ⟨rfl, e69⟩
      have H71 := H68.ext e69
      refine ry (y_mov rfl rfl) rfl rfl ?_
      refine ry (y_ext rfl rfl rfl) rfl rfl ?_
      refine ry (y_ext rfl rfl rfl) rfl rfl ?_
      refine reg_op (op_alloc H71 rfl kflaw10_16) rfl rfl ?_
      rintro _ w73 ⟨b72, rfl, H74⟩
      refine reg_op (op_st (i := 0) (vs := [.int _ _, .int _ _, .slice _ _ _]) H74 rfl rfl rfl rfl rfl kflaw10_17 rfl rfl rfl) rfl rfl ?_
      rintro _ w75 H76
      refine ry (y_asg rfl rfl) rfl rfl ?_
      refine reg_nil ?_
      refine fn_next ?_
      refine cw_seq ?_
      refine cw_seq ?_
      refine cw_reg ?_
      refine ry (y_mov rfl rfl) rfl rfl ?_
      refine ry (y_mov rfl rfl) rfl rfl ?_
      refine ry (y_neq rfl rfl rfl) rfl rfl ?_
      refine ry (y_mov rfl rfl) rfl rfl ?_
      refine rg_splitd (d := 55) rfl (fun h77 => ?_) (fun h77 => ?_)
      · exact absurd rfl h77
      · skip
        refine rgy (y_mov rfl rfl) rfl rfl rfl rfl ?_
        refine rgy (y_peqlnil rfl Try.underlying74 rfl rfl) rfl rfl rfl rfl ?_
        refine rgy (y_mov rfl rfl) rfl rfl rfl rfl ?_
        refine rgy (y_neq rfl rfl rfl) rfl rfl rfl rfl ?_
        refine rgy (y_bneq rfl Try.underlying4 rfl rfl) rfl rfl rfl rfl ?_
        refine ry (y_pick rfl rfl rfl) rfl rfl ?_
        refine reg_nil ?_
        refine fn_next ?_
        refine cw_cond rfl (fun h78 => ?_) (fun h78 => ?_)
        · skip
          first | exact absurd rfl h78 | cases h78 | (simp only [decide_eq_true hc] at h78; cases h78)
        · skip
          refine cw_skip ?_
          refine fn_next ?_
          refine cw_seq ?_
          refine cw_reg ?_
          refine ry (y_mov rfl rfl) rfl rfl ?_
          refine ry (y_neq rfl rfl rfl) rfl rfl ?_
          refine ry (y_mov rfl rfl) rfl rfl ?_
          refine rg_splitd (d := 64) rfl (fun h79 => ?_) (fun h79 => ?_)
          · skip
            refine rg_off rfl rfl rfl rfl rfl ?_
            refine rg_off rfl rfl rfl rfl rfl ?_
            refine rg_off rfl rfl rfl rfl rfl ?_
            refine ry (y_pick rfl rfl rfl) rfl rfl ?_
            refine ry (y_asg rfl rfl) rfl rfl ?_
            refine reg_nil ?_
            refine fn_next ?_
            refine cw_ret ?_
            refine fn_ret1 rfl rfl ?_
            exact ⟨rfl, H76.base⟩
          · exact absurd (Classical.not_not.1 h79) hc

set_option maxRecDepth 100000 in
theorem paintFrom_ok (a h : Nat) (L : List Int) (A : Option Addr) (n cap : Nat) (w : World) (hr : Rd w A (vi .i64 L)) (hl : L.length = n) (p : SzG a h) (hc : fromC a h L = 0) :
    Ret Try.prog 9 [.int .i64 (a : Int), .int .i64 (h : Int), .slice A n cap] w (fun z w' => z = .bool true ∧ Below w.heap.size w w') := by
  have hm' := p.mul
  obtain ⟨s1, s2, s3, s4⟩ := id p
  refine ret_enter Try.func9 rfl rfl rfl ?_
  have H0 := HS.start w
  refine cw_seq ?_
  refine cw_reg ?_
  refine ry (y_asg rfl rfl) rfl rfl ?_
  refine reg_nil ?_
  refine fn_next ?_
  refine cw_seq ?_
  refine cw_seq ?_
  refine cw_reg ?_
  refine reg_op (op_call (paintAwake _) rfl kflaw10_9 trivial) rfl rfl ?_
  rintro _ w2 ⟨rfl, e1⟩
  have H3 := H0.ext e1
  refine ry (y_not rfl rfl) rfl rfl ?_
  refine reg_nil ?_
  refine fn_next ?_
  refine cw_condf rfl ?_
  refine cw_skip ?_
  refine fn_next ?_
  refine cw_seq ?_
  refine cw_seq ?_
  refine cw_reg ?_
  refine ry (y_mov rfl rfl) rfl rfl ?_
  refine ry (y_len rfl Try.underlying32 rfl) rfl rfl ?_
  refine ry (y_gtr rfl rfl rfl) rfl rfl ?_
  refine ry (y_mov rfl rfl) rfl rfl ?_
  refine rg_splitd (d := 16) rfl (fun h4 => ?_) (fun h4 => ?_)
  · skip
    refine rg_off rfl rfl rfl rfl rfl ?_
    refine rg_off rfl rfl rfl rfl rfl ?_
    refine rg_off rfl rfl rfl rfl rfl ?_
    refine rg_offu rfl rfl rfl rfl ?_
    refine rg_offu rfl rfl rfl rfl ?_
    refine rg_off rfl rfl rfl rfl rfl ?_
    refine rg_off rfl rfl rfl rfl rfl ?_
    refine rg_offu rfl rfl rfl rfl ?_
    refine rg_offu rfl rfl rfl rfl ?_
    refine rg_off rfl rfl rfl rfl rfl ?_
    refine rg_off rfl rfl rfl rfl rfl ?_
    refine rg_offu rfl rfl rfl rfl ?_
    refine rg_offu rfl rfl rfl rfl ?_
    refine rg_off rfl rfl rfl rfl rfl ?_
    refine rg_off rfl rfl rfl rfl rfl ?_
    refine rg_offu rfl rfl rfl rfl ?_
    refine rg_offu rfl rfl rfl rfl ?_
    refine rg_offu rfl rfl rfl rfl ?_
    refine rg_offu rfl rfl rfl rfl ?_
    refine rg_off rfl rfl rfl rfl rfl ?_
    refine ry (y_pick rfl rfl rfl) rfl rfl ?_
    refine reg_nil ?_
    refine fn_next ?_
    refine cw_condt rfl ?_
    refine cw_seq ?_
    refine cw_reg ?_
    refine ry (y_asg rfl rfl) rfl rfl ?_
    refine reg_nil ?_
    refine fn_next ?_
    refine cw_ret ?_
    refine fn_then_ret ?_
    refine fn_ret1 rfl rfl ?_
    exact ⟨rfl, H3.base⟩
  · skip
    refine rgy (y_mov rfl rfl) rfl rfl rfl rfl ?_
    refine rgy (y_gtr rfl rfl rfl) rfl rfl rfl rfl ?_
    refine rgy (y_mov rfl rfl) rfl rfl rfl rfl ?_
    refine rg_splitd (d := 19) rfl (fun h5 => ?_) (fun h5 => ?_)
    · skip
      refine rgy (y_mov rfl rfl) rfl rfl rfl rfl ?_
      refine rgy (y_gtr rfl rfl rfl) rfl rfl rfl rfl ?_
      refine rgy (y_pick rfl rfl rfl) rfl rfl rfl rfl ?_
      refine rgy (y_mov rfl rfl) rfl rfl rfl rfl ?_
      refine rg_splitd (d := 23) rfl (fun h6 => ?_) (fun h6 => ?_)
      · skip
        refine rgy (y_mov rfl rfl) rfl rfl rfl rfl ?_
        refine rgy (y_leq rfl rfl rfl) rfl rfl rfl rfl ?_
        refine rgy (y_pick rfl rfl rfl) rfl rfl rfl rfl ?_
        refine rgy (y_mov rfl rfl) rfl rfl rfl rfl ?_
        refine rg_splitd (d := 27) rfl (fun h7 => ?_) (fun h7 => ?_)
        · skip
          refine rgy (y_mov rfl rfl) rfl rfl rfl rfl ?_
          refine rgy (y_leq rfl rfl rfl) rfl rfl rfl rfl ?_
          refine rgy (y_pick rfl rfl rfl) rfl rfl rfl rfl ?_
          refine rgy (y_mov rfl rfl) rfl rfl rfl rfl ?_
          refine rg_splitd (d := 31) rfl (fun h8 => ?_) (fun h8 => ?_)
          · skip
            refine rgy (y_mov rfl rfl) rfl rfl rfl rfl ?_
            refine rgy (y_mov rfl rfl) rfl rfl rfl rfl ?_
            refine rgy (y_mul rfl rfl rfl (show _ = ((a * h : Nat) : Int) from by rw [← Int.natCast_mul]; exact wi (by omega))) rfl rfl rfl rfl ?_
            refine rgy (y_gtr rfl rfl rfl) rfl rfl rfl rfl ?_
            refine rgy (y_pick rfl rfl rfl) rfl rfl rfl rfl ?_
            refine ry (y_pick rfl rfl rfl) rfl rfl ?_
            refine reg_nil ?_
            refine fn_next ?_
            refine cw_condd rfl (fun h9 => ?_) (fun h9 => ?_)
            · skip
              refine cw_seq ?_
              refine cw_reg ?_
              refine ry (y_asg rfl rfl) rfl rfl ?_
              refine reg_nil ?_
              refine fn_next ?_
              refine cw_ret ?_
              refine fn_then_ret ?_
              refine fn_ret1 rfl rfl ?_
              exact ⟨rfl, H3.base⟩
            · skip
              refine cw_skip ?_
              refine fn_next ?_
              refine cw_seq ?_
              refine cw_reg ?_
              refine ry (y_mov rfl rfl) rfl rfl ?_
              refine ry (y_mov rfl rfl) rfl rfl ?_
              refine ry (y_mov rfl rfl) rfl rfl ?_
              refine reg_op (op_call (gFrom_ok a h L A n cap _ (hr.below H3.base) hl (by omega) p hc) rfl kflaw10_2 ⟨rfl, rfl, rfl, trivial⟩) rfl rfl ?_
              rintro _ w11 ⟨g13, bl14, rfl, k10⟩
              have H12 := H3.call k10
              refine ry (y_mov rfl rfl) rfl rfl ?_
              refine ry (y_ext rfl rfl rfl) rfl rfl ?_
              refine ry (y_ext rfl rfl rfl) rfl rfl ?_
              refine ry (y_asg rfl rfl) rfl rfl ?_
              refine ry (y_asg rfl rfl) rfl rfl ?_
              refine reg_nil ?_
              refine fn_next ?_
              refine cw_seq ?_
              refine cw_reg ?_
              refine ry (y_mov rfl rfl) rfl rfl ?_
              refine ry (y_mov rfl rfl) rfl rfl ?_
              refine ry (y_mov rfl rfl) rfl rfl ?_
              refine reg_op (op_call (mFrom_ok a h L A n cap _ (hr.below H12.base) hl (by omega) p hc) rfl kflaw10_15 ⟨rfl, rfl, rfl, trivial⟩) rfl rfl ?_
              rintro _ w16 ⟨A18, c19, rfl, k15⟩
              have H17 := H12.call k15
              refine ry (y_mov rfl rfl) rfl rfl ?_
              refine ry (y_ext rfl rfl rfl) rfl rfl ?_
              refine ry (y_ext rfl rfl rfl) rfl rfl ?_
              refine reg_op (op_alloc H17 rfl kflaw10_16) rfl rfl ?_
              rintro _ w21 ⟨b20, rfl, H22⟩
              refine reg_op (op_st (i := 0) (vs := [.int _ _, .int _ _, .slice _ _ _]) H22 rfl rfl rfl rfl rfl kflaw10_17 rfl rfl rfl) rfl rfl ?_
              rintro _ w23 H24
              refine ry (y_asg rfl rfl) rfl rfl ?_
              refine reg_nil ?_
              refine fn_next ?_
              refine cw_seq ?_
              refine cw_seq ?_
              refine cw_reg ?_
              refine ry (y_mov rfl rfl) rfl rfl ?_
              refine ry (y_mov rfl rfl) rfl rfl ?_
              refine ry (y_neq rfl rfl rfl) rfl rfl ?_
              refine ry (y_mov rfl rfl) rfl rfl ?_
              refine rg_splitd (d := 55) rfl (fun h25 => ?_) (fun h25 => ?_)
              · exact absurd rfl h25
              · skip
                refine rgy (y_mov rfl rfl) rfl rfl rfl rfl ?_
                refine rgy (y_peqlnil rfl Try.underlying74 rfl rfl) rfl rfl rfl rfl ?_
                refine rgy (y_mov rfl rfl) rfl rfl rfl rfl ?_
                refine rgy (y_neq rfl rfl rfl) rfl rfl rfl rfl ?_
                refine rgy (y_bneq rfl Try.underlying4 rfl rfl) rfl rfl rfl rfl ?_
                refine ry (y_pick rfl rfl rfl) rfl rfl ?_
                refine reg_nil ?_
                refine fn_next ?_
                refine cw_cond rfl (fun h26 => ?_) (fun h26 => ?_)
                · skip
                  first | exact absurd rfl h26 | cases h26
                · skip
                  refine cw_skip ?_
                  refine fn_next ?_
                  refine cw_seq ?_
                  refine cw_reg ?_
                  refine ry (y_mov rfl rfl) rfl rfl ?_
                  refine ry (y_neq rfl rfl rfl) rfl rfl ?_
                  refine ry (y_mov rfl rfl) rfl rfl ?_
                  refine rg_splitd (d := 64) rfl (fun h27 => ?_) (fun h27 => ?_)
                  · exact absurd rfl h27
                  · skip
                    refine rgy (y_mov rfl rfl) rfl rfl rfl rfl ?_
                    refine rgy (y_ldb (i := 0) (cs := [_, _, _]) H24 rfl rfl kflaw10_18 rfl rfl) rfl rfl rfl rfl ?_
                    refine rg_on rfl rfl rfl (op_call (lIs _ a h L _ _ _ (H24.rdg (i := 2) rfl) (H24.rd (i := 1) rfl)) rfl kflaw10_19 ⟨rfl, rfl, trivial⟩) rfl ?_
                    rintro _ w29 ⟨rfl, e28⟩
                    have H30 := H24.ext e28
                    refine ry (y_pick rfl rfl rfl) rfl rfl ?_
                    refine ry (y_asg rfl rfl) rfl rfl ?_
                    refine reg_nil ?_
                    refine fn_next ?_
                    refine cw_ret ?_
                    refine fn_ret1 rfl rfl ?_
                    exact ⟨rfl, H30.base⟩
          · exfalso; omega
        · exfalso; omega
      · exfalso; omega
    · exfalso; omega

theorem paintFrom_all (a h : Int) (L : List Int) (A : Option Addr) (n cap : Nat) (w : World) (hr : Rd w A (vi .i64 L)) (hl : L.length = n) (ha : I6 a) (hh : I6 h) : Ret Try.prog 9 [.int .i64 a, .int .i64 h, .slice A n cap] w (fun z w' => z = .bool true ∧ Below w.heap.size w w') := by
  by_cases hc : fromC a h L = 0
  · obtain ⟨a, h, rfl, rfl, p, _, _⟩ := fromC_zero hc
    exact paintFrom_ok a h L A n cap w hr hl p hc
  · exact paintFrom_bad a h L A n cap w hr hl ha hh hc

theorem paintFrom_law (a : Int) (h : Int) (zs : List Int) (A2 : Option Addr) (n2 c2 : Nat) (W : World) (ba : I6 a) (bh : I6 h) (hzs : Ints .i64 W A2 n2 zs) (le2 : n2 ≤ c2) (mx2 : c2 ≤ maxLen) (wzs : ∀ z ∈ zs, I6 z) :
    Calls Try.prog 9 #[.int .i64 a, .int .i64 h, .slice A2 n2 c2] W fun e w' => e = .returned (.bool true) ∧ Below W.heap.size W w' := lawOf (paintFrom_all a h zs A2 n2 c2 W (Rd.of_ints hzs) hzs.len ba bh)

end Go.Proofs.Ytkphmcaoioaglaa
