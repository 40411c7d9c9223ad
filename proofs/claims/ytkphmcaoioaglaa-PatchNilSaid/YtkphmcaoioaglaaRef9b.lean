/- Layer 8: the reference's Fill, of greater sides. -/
import Derived.Test.YtkphmcaoioaglaaRef9
set_option linter.unusedVariables false
set_option linter.unusedSimpArgs false
namespace Go.Proofs.Ytkphmcaoioaglaa
open Go Go.RowKit
theorem kfref9b_1 : (Try.prog.info? 34).bind (fun i => i.zero.map Value.cells) = some (List.toArray [(.int .i64 0), (.int .i64 0), (.slice none 0 0)]) := by kernel_rfl
theorem kfref9b_2 : aggB Try.prog 24 4 = true := by kernel_rfl
theorem kfref9b_3 : fldB Try.prog 34 0 0 = true := by kernel_rfl
theorem kfref9b_4 : oneB Try.prog 2 = true := by kernel_rfl
theorem kfref9b_5 : fldB Try.prog 34 1 1 = true := by kernel_rfl
theorem kfref9b_6 : callB Try.prog 81 = true := by kernel_rfl
theorem kfref9b_7 : aggB Try.prog 34 3 = true := by kernel_rfl
theorem kfref9b_8 : szB Try.prog 34 3 = true := by kernel_rfl
theorem kfref9b_9 : callB Try.prog 32 = true := by kernel_rfl
theorem kfref9b_10 : fldB Try.prog 34 2 2 = true := by kernel_rfl
theorem kfref9b_11 : oneB Try.prog 32 = true := by kernel_rfl
theorem kfref9b_12 : (Try.prog.info? 2).map (fun i => (i.size, i.zero.map Value.cells)) = some (1, some (List.toArray [(.int .i64 0)])) := by kernel_rfl
theorem kfref9b_13 : (Try.prog.info? 2).map (fun i => (i.zero.map (·.cells.toList), i.size, i.bytes)) = some (some [(.int .i64 0)], 1, 8) := by kernel_rfl
theorem kfref9b_14 : fldB Try.prog 24 1 1 = true := by kernel_rfl
theorem kfref9b_15 : fldB Try.prog 24 3 3 = true := by kernel_rfl
theorem kfref9b_16 : fldB Try.prog 24 0 0 = true := by kernel_rfl
theorem kfref9b_17 : fldB Try.prog 24 2 2 = true := by kernel_rfl
theorem kfref9b_18 : elB Try.prog 32 1 = true := by kernel_rfl
theorem kfref9b_19 : szB Try.prog 2 1 = true := by kernel_rfl

set_option maxRecDepth 100000 in
theorem mFill_w (w0 : World) (l : List Ob) (a h : Nat) (A : Option Addr) (cap : Nat) (V : List Int) (x0 y0 x1 y1 v : Int) (w : World) (p : SzG a h) (hw : ¬ withinC x0 y0 x1 y1 a h = 0) (H0 : HS w0 w (.row A (a * h) cap (vi .i64 V) 2 1 :: l)) :
    Ret Try.prog 34 [.agg #[.int .i64 (a : Int), .int .i64 (h : Int), .slice A (a * h) cap], .agg #[.int .i64 x0, .int .i64 y0, .int .i64 x1, .int .i64 y1], .int .i64 v] w (fun z w' => ∃ A' cap', z = .tuple #[.agg #[.int .i64 (a : Int), .int .i64 (h : Int), .slice A' (a * h) cap'], .int .i64 (fillC a h x0 y0 x1 y1 v)] ∧ HS w0 w' (.row A' (a * h) cap' (vi .i64 (fillV V a h x0 y0 x1 y1 v)) 2 1 :: l)) := by
  have hm := p.mul
  obtain ⟨s1, s2, s3, s4⟩ := id p
  refine ret_enter Try.func34 rfl rfl rfl ?_
  refine cw_seq ?_
  refine cw_reg ?_
  refine reg_op (op_box (cs := [.int _ _, .int _ _, .slice _ _ _]) H0 rfl rfl rfl) rfl rfl ?_
  rintro _ w2 ⟨b1, rfl, H3⟩
  refine reg_op (op_box (cs := [.int _ _, .int _ _, .int _ _, .int _ _]) H3 rfl rfl rfl) rfl rfl ?_
  rintro _ w5 ⟨b4, rfl, H6⟩
  refine reg_op (op_alloc H6 rfl kfref9b_1) rfl rfl ?_
  rintro _ w8 ⟨b7, rfl, H9⟩
  refine ry (y_asg rfl rfl) rfl rfl ?_
  refine reg_nil ?_
  refine fn_next ?_
  refine cw_seq ?_
  refine cw_reg ?_
  refine ry (y_ldb (i := 1) (cs := [_, _, _, _]) H9 rfl rfl kfref9b_2 rfl rfl) rfl rfl ?_
  refine ry (y_fa rfl rfl kfref9b_3 rfl) rfl rfl ?_
  refine ry (y_ld rfl rfl kfref9b_4 (H9.cell (i := 2) rfl rfl)) rfl rfl ?_
  refine ry (y_fa rfl rfl kfref9b_5 rfl) rfl rfl ?_
  refine ry (y_ld rfl rfl kfref9b_4 (H9.cell (i := 2) rfl rfl)) rfl rfl ?_
  refine reg_op (op_call (ret_elder (refWithin_any x0 y0 x1 y1 a h _ (by omega) (by omega) (by omega) (by omega))) rfl kfref9b_6 ⟨rfl, rfl, rfl, trivial⟩) rfl rfl ?_
  rintro _ w11 ⟨rfl, e10⟩
  have H12 := H9.ext e10
  refine ry (y_asg rfl rfl) rfl rfl ?_
  refine reg_nil ?_
  refine fn_next ?_
  refine cw_seq ?_
  refine cw_seq ?_
  refine cw_reg ?_
  refine ry (y_mov rfl rfl) rfl rfl ?_
  refine ry (y_neq rfl rfl rfl) rfl rfl ?_
  refine reg_nil ?_
  refine fn_next ?_
  refine cw_condd rfl (fun h13 => ?_) (fun h13 => ?_)
  · skip
    refine cw_seq ?_
    refine cw_reg ?_
    refine ry (y_ldb (i := 2) (cs := [_, _, _]) H12 rfl rfl kfref9b_7 rfl rfl) rfl rfl ?_
    refine ry (y_mov rfl rfl) rfl rfl ?_
    refine reg_op (op_st (i := 0) (vs := [.int _ _, .int _ _, .slice _ _ _]) H12 rfl rfl rfl rfl rfl kfref9b_8 rfl rfl rfl) rfl rfl ?_
    rintro _ w14 H15
    refine ry (y_asg rfl rfl) rfl rfl ?_
    refine reg_nil ?_
    refine fn_next ?_
    refine cw_ret ?_
    refine fn_then_ret ?_
    refine fn_retn (vs := [_, _]) rfl ⟨⟨_, rfl, load_agg (cs := [_, _, _]) kfref9b_7 rfl fun j v hv => by rw [Nat.zero_add]; exact H15.cell (i := 0) rfl hv⟩, rfl, trivial⟩ rfl ?_
    rw [fillC_w hw, fillV_w hw]
    exact ⟨A, cap, rfl, (H15.pickT (p := [_, _, _, _]) (m := [_]) [3] rfl (by decide))⟩
  · exact absurd (Classical.not_not.1 h13) hw

set_option maxRecDepth 100000 in
theorem mFill_v (w0 : World) (l : List Ob) (a h : Nat) (A : Option Addr) (cap : Nat) (V : List Int) (x0 y0 x1 y1 v : Int) (w : World) (p : SzG a h) (hw : withinC x0 y0 x1 y1 a h = 0) (hv : ¬ B32 v) (H0 : HS w0 w (.row A (a * h) cap (vi .i64 V) 2 1 :: l)) :
    Ret Try.prog 34 [.agg #[.int .i64 (a : Int), .int .i64 (h : Int), .slice A (a * h) cap], .agg #[.int .i64 x0, .int .i64 y0, .int .i64 x1, .int .i64 y1], .int .i64 v] w (fun z w' => ∃ A' cap', z = .tuple #[.agg #[.int .i64 (a : Int), .int .i64 (h : Int), .slice A' (a * h) cap'], .int .i64 (fillC a h x0 y0 x1 y1 v)] ∧ HS w0 w' (.row A' (a * h) cap' (vi .i64 (fillV V a h x0 y0 x1 y1 v)) 2 1 :: l)) := by
  have hm := p.mul
  obtain ⟨s1, s2, s3, s4⟩ := id p
  refine ret_enter Try.func34 rfl rfl rfl ?_
  refine cw_seq ?_
  refine cw_reg ?_
  refine reg_op (op_box (cs := [.int _ _, .int _ _, .slice _ _ _]) H0 rfl rfl rfl) rfl rfl ?_
  rintro _ w2 ⟨b1, rfl, H3⟩
  refine reg_op (op_box (cs := [.int _ _, .int _ _, .int _ _, .int _ _]) H3 rfl rfl rfl) rfl rfl ?_
  rintro _ w5 ⟨b4, rfl, H6⟩
  refine reg_op (op_alloc H6 rfl kfref9b_1) rfl rfl ?_
  rintro _ w8 ⟨b7, rfl, H9⟩
  refine ry (y_asg rfl rfl) rfl rfl ?_
  refine reg_nil ?_
  refine fn_next ?_
  refine cw_seq ?_
  refine cw_reg ?_
  refine ry (y_ldb (i := 1) (cs := [_, _, _, _]) H9 rfl rfl kfref9b_2 rfl rfl) rfl rfl ?_
  refine ry (y_fa rfl rfl kfref9b_3 rfl) rfl rfl ?_
  refine ry (y_ld rfl rfl kfref9b_4 (H9.cell (i := 2) rfl rfl)) rfl rfl ?_
  refine ry (y_fa rfl rfl kfref9b_5 rfl) rfl rfl ?_
  refine ry (y_ld rfl rfl kfref9b_4 (H9.cell (i := 2) rfl rfl)) rfl rfl ?_
  refine reg_op (op_call (ret_elder (refWithin_any x0 y0 x1 y1 a h _ (by omega) (by omega) (by omega) (by omega))) rfl kfref9b_6 ⟨rfl, rfl, rfl, trivial⟩) rfl rfl ?_
  rintro _ w11 ⟨rfl, e10⟩
  have H12 := H9.ext e10
  refine ry (y_asg rfl rfl) rfl rfl ?_
  refine reg_nil ?_
  refine fn_next ?_
  refine cw_seq ?_
  refine cw_seq ?_
  refine cw_reg ?_
  refine ry (y_mov rfl rfl) rfl rfl ?_
  refine ry (y_neq rfl rfl rfl) rfl rfl ?_
  refine reg_nil ?_
  refine fn_next ?_
  refine cw_condd rfl (fun h13 => ?_) (fun h13 => ?_)
  · exact absurd hw h13
  · skip
    refine cw_skip ?_
    refine fn_next ?_
    refine cw_seq ?_
    refine cw_seq ?_
    refine cw_reg ?_
    refine ry (y_mov rfl rfl) rfl rfl ?_
    refine reg_op (op_call (refMay_any v _) rfl kfref9b_9 ⟨rfl, trivial⟩) rfl rfl ?_
    rintro _ w15 ⟨rfl, e14⟩
    have H16 := H12.ext e14
    refine ry (y_notd rfl rfl) rfl rfl ?_
    refine reg_nil ?_
    refine fn_next ?_
    refine cw_condd rfl (fun h17 => ?_) (fun h17 => ?_)
    · skip
      refine cw_seq ?_
      refine cw_reg ?_
      refine ry (y_ldb (i := 2) (cs := [_, _, _]) H16 rfl rfl kfref9b_7 rfl rfl) rfl rfl ?_
      refine reg_op (op_st (i := 0) (vs := [.int _ _, .int _ _, .slice _ _ _]) H16 rfl rfl rfl rfl rfl kfref9b_8 rfl rfl rfl) rfl rfl ?_
      rintro _ w18 H19
      refine ry (y_asg rfl rfl) rfl rfl ?_
      refine reg_nil ?_
      refine fn_next ?_
      refine cw_ret ?_
      refine fn_then_ret ?_
      refine fn_retn (vs := [_, _]) rfl ⟨⟨_, rfl, load_agg (cs := [_, _, _]) kfref9b_7 rfl fun j v hv => by rw [Nat.zero_add]; exact H19.cell (i := 0) rfl hv⟩, rfl, trivial⟩ rfl ?_
      rw [fillC_v hw hv, fillV_v hw hv]
      exact ⟨A, cap, rfl, (H19.pickT (p := [_, _, _, _]) (m := [_]) [3] rfl (by decide))⟩
    · exact absurd (Classical.not_not.1 h17) hv

set_option maxRecDepth 100000 in
theorem mFill_ok (w0 : World) (l : List Ob) (a h : Nat) (A : Option Addr) (cap : Nat) (V : List Int) (p0 q0 p1 q1 : Nat) (v : Int) (w : World) (p : SzG a h) (hl : V.length = a * h) (h1 : p0 ≤ p1) (h2 : p1 < a) (h3 : q0 ≤ q1) (h4 : q1 < h) (hw : withinC p0 q0 p1 q1 a h = 0) (hv : B32 v) (H0 : HS w0 w (.row A (a * h) cap (vi .i64 V) 2 1 :: l)) :
    Ret Try.prog 34 [.agg #[.int .i64 (a : Int), .int .i64 (h : Int), .slice A (a * h) cap], .agg #[.int .i64 (p0 : Int), .int .i64 (q0 : Int), .int .i64 (p1 : Int), .int .i64 (q1 : Int)], .int .i64 v] w (fun z w' => ∃ A' cap', z = .tuple #[.agg #[.int .i64 (a : Int), .int .i64 (h : Int), .slice A' (a * h) cap'], .int .i64 (fillC a h (p0 : Int) (q0 : Int) (p1 : Int) (q1 : Int) v)] ∧ HS w0 w' (.row A' (a * h) cap' (vi .i64 (fillV V a h (p0 : Int) (q0 : Int) (p1 : Int) (q1 : Int) v)) 2 1 :: l)) := by
  have hm := p.mul
  obtain ⟨s1, s2, s3, s4⟩ := id p
  refine ret_enter Try.func34 rfl rfl rfl ?_
  refine cw_seq ?_
  refine cw_reg ?_
  refine reg_op (op_box (cs := [.int _ _, .int _ _, .slice _ _ _]) H0 rfl rfl rfl) rfl rfl ?_
  rintro _ w2 ⟨b1, rfl, H3⟩
  refine reg_op (op_box (cs := [.int _ _, .int _ _, .int _ _, .int _ _]) H3 rfl rfl rfl) rfl rfl ?_
  rintro _ w5 ⟨b4, rfl, H6⟩
  refine reg_op (op_alloc H6 rfl kfref9b_1) rfl rfl ?_
  rintro _ w8 ⟨b7, rfl, H9⟩
  refine ry (y_asg rfl rfl) rfl rfl ?_
  refine reg_nil ?_
  refine fn_next ?_
  refine cw_seq ?_
  refine cw_reg ?_
  refine ry (y_ldb (i := 1) (cs := [_, _, _, _]) H9 rfl rfl kfref9b_2 rfl rfl) rfl rfl ?_
  refine ry (y_fa rfl rfl kfref9b_3 rfl) rfl rfl ?_
  refine ry (y_ld rfl rfl kfref9b_4 (H9.cell (i := 2) rfl rfl)) rfl rfl ?_
  refine ry (y_fa rfl rfl kfref9b_5 rfl) rfl rfl ?_
  refine ry (y_ld rfl rfl kfref9b_4 (H9.cell (i := 2) rfl rfl)) rfl rfl ?_
  refine reg_op (op_call (ret_elder (refWithin_any p0 q0 p1 q1 a h _ (by omega) (by omega) (by omega) (by omega))) rfl kfref9b_6 ⟨rfl, rfl, rfl, trivial⟩) rfl rfl ?_
  rintro _ w11 ⟨rfl, e10⟩
  have H12 := H9.ext e10
  refine ry (y_asg rfl rfl) rfl rfl ?_
  refine reg_nil ?_
  refine fn_next ?_
  refine cw_seq ?_
  refine cw_seq ?_
  refine cw_reg ?_
  refine ry (y_mov rfl rfl) rfl rfl ?_
  refine ry (y_neq rfl rfl rfl) rfl rfl ?_
  refine reg_nil ?_
  refine fn_next ?_
  refine cw_condd rfl (fun h13 => ?_) (fun h13 => ?_)
  · exact absurd hw h13
  · skip
    refine cw_skip ?_
    refine fn_next ?_
    refine cw_seq ?_
    refine cw_seq ?_
    refine cw_reg ?_
    refine ry (y_mov rfl rfl) rfl rfl ?_
    refine reg_op (op_call (refMay_any v _) rfl kfref9b_9 ⟨rfl, trivial⟩) rfl rfl ?_
    rintro _ w15 ⟨rfl, e14⟩
    have H16 := H12.ext e14
    refine ry (y_notd rfl rfl) rfl rfl ?_
    refine reg_nil ?_
    refine fn_next ?_
    refine cw_condd rfl (fun h17 => ?_) (fun h17 => ?_)
    · exact absurd hv h17
    · skip
      refine cw_skip ?_
      refine fn_next ?_
      refine cw_seq ?_
      refine cw_drawT H16 [0, 1, 2, 3, 5, 6] (.alt (.step 4 (.alt (.step 7 (.alt (.step 8 (.step 9 (.step 10 (.leaf)))) (.step 9 (.step 8 (.step 10 (.leaf)))))) (.step 9 (.step 7 (.step 8 (.step 10 (.leaf))))))) (.step 9 (.step 4 (.step 7 (.step 8 (.step 10 (.leaf))))))) (fun X HX => HX) (by kernel_rfl) (by kernel_rfl) (by rfl) ?_
      simp only [pick, List.getElem?_cons_succ, List.getElem?_cons_zero]
      refine hk_y (fun Y HY => y_fa rfl rfl kfref9b_3 rfl) rfl rfl ?_
      refine hk_y (fun Y HY => y_ld rfl rfl kfref9b_4 (HY.cell (i := 2) rfl rfl)) rfl rfl ?_
      refine hk_y (fun Y HY => y_fa rfl rfl kfref9b_5 rfl) rfl rfl ?_
      refine hk_y (fun Y HY => y_ld rfl rfl kfref9b_4 (HY.cell (i := 2) rfl rfl)) rfl rfl ?_
      refine hk_y (fun Y HY => y_fa rfl rfl kfref9b_10 rfl) rfl rfl ?_
      refine hk_y (fun Y HY => y_ld rfl rfl kfref9b_11 (HY.cell (i := 2) rfl rfl)) rfl rfl ?_
      refine hkt_nil [9, 30, 33, 34] (fun M wl => ∃ (b' : Nat) (A' : Option Addr) (cap' : Nat), M = [(9, .pointer (some ⟨b', 0, none⟩))] ∧ HS w0 wl (Ob.row A' (a * h) cap' (vi .i64 V) 2 1 :: Ob.blk b' [.int .i64 (a : Int), .int .i64 (h : Int), .slice A' (a * h) cap'] 34 :: Ob.blk b1 [.int .i64 (a : Int), .int .i64 (h : Int), .slice A (a * h) cap] 34 :: Ob.blk b4 [.int .i64 (p0 : Int), .int .i64 (q0 : Int), .int .i64 (p1 : Int), .int .i64 (q1 : Int)] 24 :: Ob.blk b7 [.int .i64 0, .int .i64 0, .slice none 0 0] 34 :: l)) (fun wX HX => ?_) ?_
      · skip
        refine tt_alt ?_ ?_
        · skip
          refine tt_op rfl (op_lit (parts := []) (vs := []) (cs := []) HX rfl Try.underlying32 kfref9b_12 rfl trivial rfl rfl) rfl rfl ?_
          rintro _ w19 ⟨b18, rfl, H20⟩
          have H21 := H20.asrow (m := 0) (size := 1) rfl (by decide)
          refine ⟨(H21.pickT (p := [_, _, _, _, _]) (m := [_, _, _, _]) [1, 2, 3, 4] rfl (by decide)), fun w22 e24 => ?_⟩
          have H23 := H21.ext e24
          refine tt_alt ?_ ?_
          · skip
            refine tt_op rfl (op_app (i := 0) (k := 0) (m := a * h) (ys := vi .i64 V) (size := 1) H23 rfl rfl rfl rfl (H23.rd (i := 4) rfl) (by rw [vi_len, hl, Nat.mul_one]) (vi_one) Try.underlying32 kfref9b_13 rfl rfl (by unfold maxLen; omega) (by omega)) rfl rfl ?_
            rintro _ w27 ⟨A25, c26, rfl, H28⟩
            refine ⟨(H28.pickT (p := [_, _, _, _, _]) (m := [_, _, _, _]) [1, 2, 3, 4] rfl (by decide)), fun w29 e31 => ?_⟩
            have H30 := H28.ext e31
            refine tt_alt ?_ ?_
            · skip
              refine tt_op rfl (Yd.op (y_build (places := [(0, 1), (1, 1), (2, 1)]) (parts := [(0, _), (1, _), (2, _)]) (vs := [(0, _), (1, _), (2, _)]) (cs := [.int _ _, .int _ _, .slice _ _ _]) rfl Try.underlying34 (by kernel_rfl) kfref9b_1 rfl ⟨rfl, rfl, rfl, trivial⟩ rfl)) rfl rfl ?_
              rintro _ _ ⟨rfl, rfl⟩
              refine ⟨(H30.pickT (p := [_, _, _, _, _]) (m := [_, _, _, _]) [1, 2, 3, 4] rfl (by decide)), fun w32 e34 => ?_⟩
              have H33 := H30.ext e34
              refine tt_op rfl (op_alloc H33 rfl kfref9b_1) rfl rfl ?_
              rintro _ w36 ⟨b35, rfl, H37⟩
              refine ⟨(H37.pickT (p := [_, _, _, _, _, _]) (m := [_, _, _, _]) [2, 3, 4, 5] rfl (by decide)), fun w38 e40 => ?_⟩
              have H39 := H37.ext e40
              refine tt_op rfl (op_st (i := 0) (vs := [.int _ _, .int _ _, .slice _ _ _]) H39 rfl rfl rfl rfl rfl kfref9b_8 rfl rfl rfl) rfl rfl ?_
              rintro _ w41 H42
              refine ⟨(H42.pickT (p := [_, _, _, _, _, _]) (m := [_, _, _, _]) [2, 3, 4, 5] rfl (by decide)), fun w43 e45 => ?_⟩
              have H44 := H42.ext e45
              simp only [Nat.zero_add, List.nil_append] at H44
              exact tt_leaf ⟨b35, A25, c26, rfl, (H44.pickT (p := [_, _, _, _, _, _]) (m := [_, _, _, _, _]) [1, 0, 4, 3, 2] rfl (by decide))⟩ ⟨rfl, trivial⟩ (by repeat (first | exact kp_refl | refine kp_app rfl rfl ?_ | refine kp_cons rfl ?_))
            refine tt_op rfl (op_alloc H30 rfl kfref9b_1) rfl rfl ?_
            rintro _ w47 ⟨b46, rfl, H48⟩
            refine ⟨(H48.pickT (p := [_, _, _, _, _, _]) (m := [_, _, _, _]) [2, 3, 4, 5] rfl (by decide)), fun w49 e51 => ?_⟩
            have H50 := H48.ext e51
            refine tt_op rfl (Yd.op (y_build (places := [(0, 1), (1, 1), (2, 1)]) (parts := [(0, _), (1, _), (2, _)]) (vs := [(0, _), (1, _), (2, _)]) (cs := [.int _ _, .int _ _, .slice _ _ _]) rfl Try.underlying34 (by kernel_rfl) kfref9b_1 rfl ⟨rfl, rfl, rfl, trivial⟩ rfl)) rfl rfl ?_
            rintro _ _ ⟨rfl, rfl⟩
            refine ⟨(H50.pickT (p := [_, _, _, _, _, _]) (m := [_, _, _, _]) [2, 3, 4, 5] rfl (by decide)), fun w52 e54 => ?_⟩
            have H53 := H50.ext e54
            refine tt_op rfl (op_st (i := 0) (vs := [.int _ _, .int _ _, .slice _ _ _]) H53 rfl rfl rfl rfl rfl kfref9b_8 rfl rfl rfl) rfl rfl ?_
            rintro _ w55 H56
            refine ⟨(H56.pickT (p := [_, _, _, _, _, _]) (m := [_, _, _, _]) [2, 3, 4, 5] rfl (by decide)), fun w57 e59 => ?_⟩
            have H58 := H56.ext e59
            simp only [Nat.zero_add, List.nil_append] at H58
            exact tt_leaf ⟨b46, A25, c26, rfl, (H58.pickT (p := [_, _, _, _, _, _]) (m := [_, _, _, _, _]) [1, 0, 4, 3, 2] rfl (by decide))⟩ ⟨rfl, trivial⟩ (by repeat (first | exact kp_refl | refine kp_app rfl rfl ?_ | refine kp_cons rfl ?_))
          refine tt_op rfl (op_alloc H23 rfl kfref9b_1) rfl rfl ?_
          rintro _ w61 ⟨b60, rfl, H62⟩
          refine ⟨(H62.pickT (p := [_, _, _, _, _, _]) (m := [_, _, _, _]) [2, 3, 4, 5] rfl (by decide)), fun w63 e65 => ?_⟩
          have H64 := H62.ext e65
          refine tt_op rfl (op_app (i := 1) (k := 0) (m := a * h) (ys := vi .i64 V) (size := 1) H64 rfl rfl rfl rfl (H64.rd (i := 5) rfl) (by rw [vi_len, hl, Nat.mul_one]) (vi_one) Try.underlying32 kfref9b_13 rfl rfl (by unfold maxLen; omega) (by omega)) rfl rfl ?_
          rintro _ w68 ⟨A66, c67, rfl, H69⟩
          refine ⟨(H69.pickT (p := [_, _, _, _, _, _]) (m := [_, _, _, _]) [2, 3, 4, 5] rfl (by decide)), fun w70 e72 => ?_⟩
          have H71 := H69.ext e72
          refine tt_op rfl (Yd.op (y_build (places := [(0, 1), (1, 1), (2, 1)]) (parts := [(0, _), (1, _), (2, _)]) (vs := [(0, _), (1, _), (2, _)]) (cs := [.int _ _, .int _ _, .slice _ _ _]) rfl Try.underlying34 (by kernel_rfl) kfref9b_1 rfl ⟨rfl, rfl, rfl, trivial⟩ rfl)) rfl rfl ?_
          rintro _ _ ⟨rfl, rfl⟩
          refine ⟨(H71.pickT (p := [_, _, _, _, _, _]) (m := [_, _, _, _]) [2, 3, 4, 5] rfl (by decide)), fun w73 e75 => ?_⟩
          have H74 := H71.ext e75
          refine tt_op rfl (op_st (i := 0) (vs := [.int _ _, .int _ _, .slice _ _ _]) H74 rfl rfl rfl rfl rfl kfref9b_8 rfl rfl rfl) rfl rfl ?_
          rintro _ w76 H77
          refine ⟨(H77.pickT (p := [_, _, _, _, _, _]) (m := [_, _, _, _]) [2, 3, 4, 5] rfl (by decide)), fun w78 e80 => ?_⟩
          have H79 := H77.ext e80
          simp only [Nat.zero_add, List.nil_append] at H79
          exact tt_leaf ⟨b60, A66, c67, rfl, (H79.pickT (p := [_, _, _, _, _, _]) (m := [_, _, _, _, _]) [1, 0, 4, 3, 2] rfl (by decide))⟩ ⟨rfl, trivial⟩ (by repeat (first | exact kp_refl | refine kp_app rfl rfl ?_ | refine kp_cons rfl ?_))
        refine tt_op rfl (op_alloc HX rfl kfref9b_1) rfl rfl ?_
        rintro _ w82 ⟨b81, rfl, H83⟩
        refine ⟨(H83.pickT (p := [_, _, _, _, _]) (m := [_, _, _, _]) [1, 2, 3, 4] rfl (by decide)), fun w84 e86 => ?_⟩
        have H85 := H83.ext e86
        refine tt_op rfl (op_lit (parts := []) (vs := []) (cs := []) H85 rfl Try.underlying32 kfref9b_12 rfl trivial rfl rfl) rfl rfl ?_
        rintro _ w88 ⟨b87, rfl, H89⟩
        have H90 := H89.asrow (m := 0) (size := 1) rfl (by decide)
        refine ⟨(H90.pickT (p := [_, _, _, _, _, _]) (m := [_, _, _, _]) [2, 3, 4, 5] rfl (by decide)), fun w91 e93 => ?_⟩
        have H92 := H90.ext e93
        refine tt_op rfl (op_app (i := 0) (k := 0) (m := a * h) (ys := vi .i64 V) (size := 1) H92 rfl rfl rfl rfl (H92.rd (i := 5) rfl) (by rw [vi_len, hl, Nat.mul_one]) (vi_one) Try.underlying32 kfref9b_13 rfl rfl (by unfold maxLen; omega) (by omega)) rfl rfl ?_
        rintro _ w96 ⟨A94, c95, rfl, H97⟩
        refine ⟨(H97.pickT (p := [_, _, _, _, _, _]) (m := [_, _, _, _]) [2, 3, 4, 5] rfl (by decide)), fun w98 e100 => ?_⟩
        have H99 := H97.ext e100
        refine tt_op rfl (Yd.op (y_build (places := [(0, 1), (1, 1), (2, 1)]) (parts := [(0, _), (1, _), (2, _)]) (vs := [(0, _), (1, _), (2, _)]) (cs := [.int _ _, .int _ _, .slice _ _ _]) rfl Try.underlying34 (by kernel_rfl) kfref9b_1 rfl ⟨rfl, rfl, rfl, trivial⟩ rfl)) rfl rfl ?_
        rintro _ _ ⟨rfl, rfl⟩
        refine ⟨(H99.pickT (p := [_, _, _, _, _, _]) (m := [_, _, _, _]) [2, 3, 4, 5] rfl (by decide)), fun w101 e103 => ?_⟩
        have H102 := H99.ext e103
        refine tt_op rfl (op_st (i := 1) (vs := [.int _ _, .int _ _, .slice _ _ _]) H102 rfl rfl rfl rfl rfl kfref9b_8 rfl rfl rfl) rfl rfl ?_
        rintro _ w104 H105
        refine ⟨(H105.pickT (p := [_, _, _, _, _, _]) (m := [_, _, _, _]) [2, 3, 4, 5] rfl (by decide)), fun w106 e108 => ?_⟩
        have H107 := H105.ext e108
        simp only [Nat.zero_add, List.nil_append] at H107
        exact tt_leaf ⟨b81, A94, c95, rfl, (H107.pickT (p := [_, _, _, _, _, _]) (m := [_, _, _, _, _]) [0, 1, 4, 3, 2] rfl (by decide))⟩ ⟨rfl, trivial⟩ (by repeat (first | exact kp_refl | refine kp_app rfl rfl ?_ | refine kp_cons rfl ?_))
      · skip
        rintro M w110 ⟨b', A', cap', rfl, H109⟩
        refine fn_next ?_
        refine cw_seq ?_
        refine cw_seq ?_
        refine cw_reg ?_
        refine ry (y_fa rfl rfl kfref9b_14 rfl) rfl rfl ?_
        refine ry (y_ld rfl rfl kfref9b_4 (H109.cell (i := 3) rfl rfl)) rfl rfl ?_
        refine ry (y_asg rfl rfl) rfl rfl ?_
        refine reg_nil ?_
        refine fn_next ?_
        refine cw_block ?_
        have hfi : fl V a v p0 p1 q0 q0 p0 = V := fl_init
        have hE : HS w0 w110 (Ob.row A' (a * h) cap' (vi .i64 (fl V a v p0 p1 q0 q0 p0)) 2 1 :: Ob.blk b' [.int .i64 (a : Int), .int .i64 (h : Int), .slice A' (a * h) cap'] 34 :: Ob.blk b1 [.int .i64 (a : Int), .int .i64 (h : Int), .slice A (a * h) cap] 34 :: Ob.blk b4 [.int .i64 (p0 : Int), .int .i64 (q0 : Int), .int .i64 (p1 : Int), .int .i64 (q1 : Int)] 24 :: Ob.blk b7 [.int .i64 0, .int .i64 0, .slice none 0 0] 34 :: l) := by rw [hfi]; exact (H109.pickT (p := [_, _, _, _, _]) (m := [_, _, _, _, _]) [0, 1, 2, 3, 4] rfl (by decide))
        refine cw_loopJ [10, 11, 37, 38, 39, 40, 41, 42, 43, 44, 45, 46, 47, 48, 49, 50, 51, 52, 53, 54, 55, 56, 57, 58, 59, 60] (fun M wl ml => ∃ (y : Nat), M = [(10, .int .i64 (y : Int))] ∧ HS w0 wl (Ob.row A' (a * h) cap' (vi .i64 (fl V a v p0 p1 q0 y p0)) 2 1 :: Ob.blk b' [.int .i64 (a : Int), .int .i64 (h : Int), .slice A' (a * h) cap'] 34 :: Ob.blk b1 [.int .i64 (a : Int), .int .i64 (h : Int), .slice A (a * h) cap] 34 :: Ob.blk b4 [.int .i64 (p0 : Int), .int .i64 (q0 : Int), .int .i64 (p1 : Int), .int .i64 (q1 : Int)] 24 :: Ob.blk b7 [.int .i64 0, .int .i64 0, .slice none 0 0] 34 :: l) ∧ (q0 ≤ y ∧ y ≤ q1 + 1) ∧ ml = q1 + 1 - y) ⟨q0, rfl, hE, ⟨by omega, by omega⟩, rfl⟩ ⟨rfl, trivial⟩ ?_
        rintro M w111 m113 ⟨y, rfl, H112, hp0, rfl⟩
        refine cw_seq ?_
        refine cw_seq ?_
        refine cw_reg ?_
        refine ry (y_mov rfl rfl) rfl rfl ?_
        refine ry (y_fa rfl rfl kfref9b_15 rfl) rfl rfl ?_
        refine ry (y_ld rfl rfl kfref9b_4 (H112.cell (i := 3) rfl rfl)) rfl rfl ?_
        refine ry (y_leq rfl rfl rfl) rfl rfl ?_
        refine reg_nil ?_
        refine fn_next ?_
        refine cw_condd rfl (fun h114 => ?_) (fun h114 => ?_)
        · skip
          have hyh := cell_lt (a := a) (h := h) (x := a - 1) (y := y) (by omega) (by omega)
          refine cw_skip ?_
          refine fn_next ?_
          refine cw_seq ?_
          refine cw_block ?_
          refine cw_seq ?_
          refine cw_reg ?_
          refine ry (y_fa rfl rfl kfref9b_16 rfl) rfl rfl ?_
          refine ry (y_ld rfl rfl kfref9b_4 (H112.cell (i := 3) rfl rfl)) rfl rfl ?_
          refine ry (y_asg rfl rfl) rfl rfl ?_
          refine reg_nil ?_
          refine fn_next ?_
          refine cw_block ?_
          refine cw_loopJ [11, 45, 46, 47, 48, 49, 50, 51, 52, 53, 54, 55, 56, 57, 58, 59, 60] (fun M wl ml => ∃ (x : Nat), M = [(11, .int .i64 (x : Int))] ∧ HS w0 wl (Ob.row A' (a * h) cap' (vi .i64 (fl V a v p0 p1 q0 y x)) 2 1 :: Ob.blk b' [.int .i64 (a : Int), .int .i64 (h : Int), .slice A' (a * h) cap'] 34 :: Ob.blk b1 [.int .i64 (a : Int), .int .i64 (h : Int), .slice A (a * h) cap] 34 :: Ob.blk b4 [.int .i64 (p0 : Int), .int .i64 (q0 : Int), .int .i64 (p1 : Int), .int .i64 (q1 : Int)] 24 :: Ob.blk b7 [.int .i64 0, .int .i64 0, .slice none 0 0] 34 :: l) ∧ (p0 ≤ x ∧ x ≤ p1 + 1) ∧ ml = p1 + 1 - x) ⟨p0, rfl, H112, ⟨by omega, by omega⟩, rfl⟩ ⟨rfl, trivial⟩ ?_
          rintro M w115 m117 ⟨x, rfl, H116, hp0, rfl⟩
          refine cw_seq ?_
          refine cw_seq ?_
          refine cw_reg ?_
          refine ry (y_mov rfl rfl) rfl rfl ?_
          refine ry (y_fa rfl rfl kfref9b_17 rfl) rfl rfl ?_
          refine ry (y_ld rfl rfl kfref9b_4 (H116.cell (i := 3) rfl rfl)) rfl rfl ?_
          refine ry (y_leq rfl rfl rfl) rfl rfl ?_
          refine reg_nil ?_
          refine fn_next ?_
          refine cw_condd rfl (fun h118 => ?_) (fun h118 => ?_)
          · skip
            have hgx := vi_get (k := .i64) (zs := fl V a v p0 p1 q0 y x) (i := y * a + x) (by rw [fl_len]; omega)
            refine cw_skip ?_
            refine fn_next ?_
            refine cw_seq ?_
            refine cw_block ?_
            refine cw_reg ?_
            refine ry (y_fa rfl rfl kfref9b_10 rfl) rfl rfl ?_
            refine ry (y_ld rfl rfl kfref9b_11 (H116.cell (i := 1) rfl rfl)) rfl rfl ?_
            refine ry (y_mov rfl rfl) rfl rfl ?_
            refine ry (y_fa rfl rfl kfref9b_3 rfl) rfl rfl ?_
            refine ry (y_ld rfl rfl kfref9b_4 (H116.cell (i := 2) rfl rfl)) rfl rfl ?_
            refine ry (y_mul rfl rfl rfl (show _ = ((y * a : Nat) : Int) from by rw [← Int.natCast_mul]; exact wi (by omega))) rfl rfl ?_
            refine ry (y_mov rfl rfl) rfl rfl ?_
            refine ry (y_add rfl rfl rfl (show _ = ((y * a + x : Nat) : Int) from by rw [← Int.natCast_add]; exact wi (by omega))) rfl rfl ?_
            refine ry (y_mov rfl rfl) rfl rfl ?_
            refine ry (y_iar (H116.rd (i := 0) rfl) rfl rfl rfl kfref9b_18 (rfl) (by omega) (Nat.mul_one _) (hgx)) rfl rfl ?_
            refine reg_op (op_ste (i := 0) (vs := [.int _ _]) H116 rfl rfl rfl rfl rfl kfref9b_19 rfl (by rw [vi_len, fl_len]; show y * a + x + 1 ≤ _; omega) rfl rfl) rfl rfl ?_
            rintro _ w119 H120
            refine reg_nil ?_
            refine fn_block ?_
            refine fn_next ?_
            refine cw_reg ?_
            refine ry (y_mov rfl rfl) rfl rfl ?_
            refine ry (y_add rfl rfl rfl (wi (by omega))) rfl rfl ?_
            refine ry (y_asg rfl rfl) rfl rfl ?_
            refine reg_nil ?_
            rw [vi_set, fl_set (by omega) (by omega) (by omega)] at H120
            refine fn_roundJ ⟨x + 1, rfl, H120, ⟨by omega, by omega⟩, rfl⟩ ⟨rfl, trivial⟩ (by omega) (by repeat (first | exact kp_refl | refine kp_app rfl rfl ?_ | refine kp_cons rfl ?_)) rfl
          · skip
            obtain rfl : x = p1 + 1 := by omega
            refine cw_exit ?_
            refine fn_then_exit (fn_then_exit (fn_block_exit ?_))
            refine fn_block ?_
            refine fn_next ?_
            refine cw_reg ?_
            refine ry (y_mov rfl rfl) rfl rfl ?_
            refine ry (y_add rfl rfl rfl (wi (by omega))) rfl rfl ?_
            refine ry (y_asg rfl rfl) rfl rfl ?_
            refine reg_nil ?_
            rw [fl_row (by omega)] at H116
            refine fn_roundJ ⟨y + 1, rfl, H116, ⟨by omega, by omega⟩, rfl⟩ ⟨rfl, trivial⟩ (by omega) (by repeat (first | exact kp_refl | refine kp_app rfl rfl ?_ | refine kp_cons rfl ?_)) rfl
        · skip
          obtain rfl : y = q1 + 1 := by omega
          refine cw_exit ?_
          refine fn_then_exit (fn_then_exit (fn_block_exit ?_))
          refine fn_next ?_
          refine cw_seq ?_
          refine cw_reg ?_
          refine ry (y_ldb (i := 1) (cs := [_, _, _]) H112 rfl rfl kfref9b_7 rfl rfl) rfl rfl ?_
          refine reg_op (op_st (i := 4) (vs := [.int _ _, .int _ _, .slice _ _ _]) H112 rfl rfl rfl rfl rfl kfref9b_8 rfl rfl rfl) rfl rfl ?_
          rintro _ w121 H122
          refine ry (y_asg rfl rfl) rfl rfl ?_
          refine reg_nil ?_
          refine fn_next ?_
          refine cw_ret ?_
          refine fn_retn (vs := [_, _]) rfl ⟨⟨_, rfl, load_agg (cs := [_, _, _]) kfref9b_7 rfl fun j v hv => by rw [Nat.zero_add]; exact H122.cell (i := 4) rfl hv⟩, rfl, trivial⟩ rfl ?_
          rw [fillC_ok hw hv, fillV_ok hw hv]
          exact ⟨_, _, rfl, (H122.pickT (p := [_, _, _, _, _]) (m := [_]) [0] rfl (by decide))⟩

theorem mFill_any (w0 : World) (l : List Ob) (a h : Nat) (A : Option Addr) (cap : Nat) (V : List Int) (x0 y0 x1 y1 v : Int) (w : World) (p : SzG a h) (hl : V.length = a * h) (H0 : HS w0 w (.row A (a * h) cap (vi .i64 V) 2 1 :: l)) : Ret Try.prog 34 [.agg #[.int .i64 (a : Int), .int .i64 (h : Int), .slice A (a * h) cap], .agg #[.int .i64 x0, .int .i64 y0, .int .i64 x1, .int .i64 y1], .int .i64 v] w (fun z w' => ∃ A' cap', z = .tuple #[.agg #[.int .i64 (a : Int), .int .i64 (h : Int), .slice A' (a * h) cap'], .int .i64 (fillC a h x0 y0 x1 y1 v)] ∧ HS w0 w' (.row A' (a * h) cap' (vi .i64 (fillV V a h x0 y0 x1 y1 v)) 2 1 :: l)) := by
  by_cases hw : withinC x0 y0 x1 y1 a h = 0
  · by_cases hv : B32 v
    · obtain ⟨p0, q0, p1, q1, rfl, rfl, rfl, rfl, h1, h2, h3, h4⟩ := within_natG p hw
      exact mFill_ok w0 l a h A cap V p0 q0 p1 q1 v w p hl h1 h2 h3 h4 hw hv H0
    · exact mFill_v w0 l a h A cap V x0 y0 x1 y1 v w p hw hv H0
  · exact mFill_w w0 l a h A cap V x0 y0 x1 y1 v w p hw H0

end Go.Proofs.Ytkphmcaoioaglaa
