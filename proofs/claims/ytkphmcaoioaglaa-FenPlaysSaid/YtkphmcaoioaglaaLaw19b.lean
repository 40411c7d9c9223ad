/- Layer 19: FenNil, FenPlays. -/
import Derived.Test.YtkphmcaoioaglaaLaw19
set_option linter.unusedVariables false
set_option linter.unusedSimpArgs false
namespace Go.Proofs.Ytkphmcaoioaglaa
open Go Go.RowKit
theorem kflaw19b_1 : callB Try.prog 15 = true := by kernel_rfl
theorem kflaw19b_2 : (Try.prog.info? 26).bind (fun i => i.zero.map Value.cells) = some (List.toArray [(.int .i64 0), (.int .i64 0)]) := by kernel_rfl
theorem kflaw19b_3 : callB Try.prog 18 = true := by kernel_rfl
theorem kflaw19b_4 : (Try.prog.info? 24).bind (fun i => i.zero.map Value.cells) = some (List.toArray [(.int .i64 0), (.int .i64 0), (.int .i64 0), (.int .i64 0)]) := by kernel_rfl
theorem kflaw19b_5 : callB Try.prog 19 = true := by kernel_rfl
theorem kflaw19b_6 : callB Try.prog 14 = true := by kernel_rfl
theorem kflaw19b_7 : callB Try.prog 23 = true := by kernel_rfl
theorem kflaw19b_8 : aggB Try.prog 24 4 = true := by kernel_rfl
theorem kflaw19b_9 : aggB Try.prog 26 2 = true := by kernel_rfl
theorem kflaw19b_10 : callB Try.prog 21 = true := by kernel_rfl
theorem kflaw19b_11 : callB Try.prog 24 = true := by kernel_rfl
theorem kflaw19b_12 : callB Try.prog 16 = true := by kernel_rfl
theorem kflaw19b_13 : (Try.prog.info? 34).bind (fun i => i.zero.map Value.cells) = some (List.toArray [(.int .i64 0), (.int .i64 0), (.slice none 0 0)]) := by kernel_rfl
theorem kflaw19b_14 : szB Try.prog 34 3 = true := by kernel_rfl
theorem kflaw19b_15 : aggB Try.prog 34 3 = true := by kernel_rfl
theorem kflaw19b_16 : elB Try.prog 22 3 = true := by kernel_rfl
theorem kflaw19b_17 : fldB Try.prog 39 0 0 = true := by kernel_rfl
theorem kflaw19b_18 : fldB Try.prog 39 1 2 = true := by kernel_rfl
theorem kflaw19b_19 : oneB Try.prog 2 = true := by kernel_rfl
theorem kflaw19b_20 : callB Try.prog 17 = true := by kernel_rfl
theorem kflaw19b_21 : callB Try.prog 20 = true := by kernel_rfl
theorem kflaw19b_22 : callB Try.prog 22 = true := by kernel_rfl
theorem aw19 : faddC (List.replicate (2 * 2) 0) 2 2 0 0 5 = 0 ∧ faddC (faddV (List.replicate (2 * 2) 0) 2 2 0 0 5) 2 2 1 1 7 = 0 ∧ fsumV (faddV (faddV (List.replicate (2 * 2) 0) 2 2 0 0 5) 2 2 1 1 7) 2 2 0 0 1 1 = 12 ∧ fsumV (faddV (faddV (List.replicate (2 * 2) 0) 2 2 0 0 5) 2 2 1 1 7) 2 2 1 0 1 1 = 7 ∧ withinC 0 0 1 1 2 2 = 0 ∧ withinC 1 0 1 1 2 2 = 0 := by decide +kernel
theorem vi_p2 {zs : List Int} {p : Nat} (h : p + 1 < zs.length) : ∀ j v, ([.int .i64 (nth zs p), .int .i64 (nth zs (p + 1))] : List Value)[j]? = some v → (vi .i64 zs)[p + j]? = some v := fun j v hv => by
  have h4 : j < 2 := by
    have := (List.getElem?_eq_some_iff.1 hv).1
    simpa using this
  rw [vi_get (by omega), ← hv]
  match j, h4 with
  | 0, _ => rfl
  | 1, _ => rfl

set_option maxRecDepth 100000 in
theorem fenAwake  (w : World) :
    Ret Try.prog 14 [] w (fun v w' => v = .bool true ∧ Below w.heap.size w w') := by
  obtain ⟨e1, e2, e3, e4, e5, e6⟩ := aw19
  refine ret_enter Try.func14 rfl rfl rfl ?_
  have H0 := HS.start w
  refine cw_seq ?_
  refine cw_reg ?_
  refine ry (y_asg rfl rfl) rfl rfl ?_
  refine reg_nil ?_
  refine fn_next ?_
  refine cw_seq ?_
  refine cw_reg ?_
  refine reg_op (op_call (fenNew_ok 2 2 _ (⟨by decide, by decide, by decide, by decide⟩)) rfl kflaw19b_1 ⟨rfl, rfl, trivial⟩) rfl rfl ?_
  rintro _ w2 ⟨f4, A5, c6, rfl, k1⟩
  have H3 := H0.call k1
  refine ry (y_mov rfl rfl) rfl rfl ?_
  refine ry (y_ext rfl rfl rfl) rfl rfl ?_
  refine ry (y_ext rfl rfl rfl) rfl rfl ?_
  refine ry (y_asg rfl rfl) rfl rfl ?_
  refine ry (y_asg rfl rfl) rfl rfl ?_
  refine reg_nil ?_
  refine fn_next ?_
  refine cw_seq ?_
  refine cw_reg ?_
  refine ry (y_mov rfl rfl) rfl rfl ?_
  refine ry (y_build (places := [(0, 1), (1, 1)]) (parts := []) (vs := []) (cs := [.int _ _, .int _ _]) rfl Try.underlying26 (by kernel_rfl) kflaw19b_2 rfl trivial rfl) rfl rfl ?_
  refine reg_op (op_call (fenAdd w _ f4 2 2 _ _ (List.replicate (2 * 2) 0) (List.replicate ((2 + 1) * (2 + 1)) 0) 0 0 5 _ (⟨⟨by decide, by decide, by decide, by decide⟩, by decide, by simp, b40_rep, fenI_new rfl⟩) H3) rfl kflaw19b_3 ⟨rfl, rfl, rfl, trivial⟩) rfl rfl ?_
  rintro _ w8 ⟨U9, rfl, H7, G10⟩
  refine ry (y_mov rfl rfl) rfl rfl ?_
  refine ry (y_build (places := [(0, 1), (1, 1)]) (parts := [(0, _), (1, _)]) (vs := [(0, _), (1, _)]) (cs := [.int _ _, .int _ _]) rfl Try.underlying26 (by kernel_rfl) kflaw19b_2 rfl ⟨rfl, rfl, trivial⟩ rfl) rfl rfl ?_
  refine reg_op (op_call (fenAdd w _ f4 2 2 _ _ (faddV (List.replicate (2 * 2) 0) 2 2 0 0 5) (U9) 1 1 7 _ (G10) H7) rfl kflaw19b_3 ⟨rfl, rfl, rfl, trivial⟩) rfl rfl ?_
  rintro _ w12 ⟨U13, rfl, H11, G14⟩
  refine ry (y_asg rfl rfl) rfl rfl ?_
  refine ry (y_asg rfl rfl) rfl rfl ?_
  refine reg_nil ?_
  refine fn_next ?_
  refine cw_seq ?_
  refine cw_reg ?_
  refine ry (y_mov rfl rfl) rfl rfl ?_
  refine ry (y_build (places := [(0, 1), (1, 1), (2, 1), (3, 1)]) (parts := [(2, _), (3, _)]) (vs := [(2, _), (3, _)]) (cs := [.int _ _, .int _ _, .int _ _, .int _ _]) rfl Try.underlying24 (by kernel_rfl) kflaw19b_4 rfl ⟨rfl, rfl, trivial⟩ rfl) rfl rfl ?_
  refine reg_op (op_call (fenSum f4 2 2 _ _ (faddV (faddV (List.replicate (2 * 2) 0) 2 2 0 0 5) 2 2 1 1 7) (U13) 0 0 1 1 _ (G14) ⟨H11.rdb (i := 0) rfl, H11.rd (i := 1) rfl⟩) rfl kflaw19b_5 ⟨rfl, rfl, trivial⟩) rfl rfl ?_
  rintro _ w16 ⟨rfl, e15⟩
  have H17 := H11.ext e15
  refine ry (y_mov rfl rfl) rfl rfl ?_
  refine ry (y_ext rfl rfl rfl) rfl rfl ?_
  refine ry (y_ext rfl rfl rfl) rfl rfl ?_
  refine ry (y_asg rfl rfl) rfl rfl ?_
  refine ry (y_asg rfl rfl) rfl rfl ?_
  refine reg_nil ?_
  refine fn_next ?_
  refine cw_seq ?_
  refine cw_reg ?_
  refine ry (y_mov rfl rfl) rfl rfl ?_
  refine ry (y_build (places := [(0, 1), (1, 1), (2, 1), (3, 1)]) (parts := [(0, _), (2, _), (3, _)]) (vs := [(0, _), (2, _), (3, _)]) (cs := [.int _ _, .int _ _, .int _ _, .int _ _]) rfl Try.underlying24 (by kernel_rfl) kflaw19b_4 rfl ⟨rfl, rfl, rfl, trivial⟩ rfl) rfl rfl ?_
  refine reg_op (op_call (fenSum f4 2 2 _ _ (faddV (faddV (List.replicate (2 * 2) 0) 2 2 0 0 5) 2 2 1 1 7) (U13) 1 0 1 1 _ (G14) ⟨H17.rdb (i := 0) rfl, H17.rd (i := 1) rfl⟩) rfl kflaw19b_5 ⟨rfl, rfl, trivial⟩) rfl rfl ?_
  rintro _ w19 ⟨rfl, e18⟩
  have H20 := H17.ext e18
  refine ry (y_mov rfl rfl) rfl rfl ?_
  refine ry (y_ext rfl rfl rfl) rfl rfl ?_
  refine ry (y_ext rfl rfl rfl) rfl rfl ?_
  refine ry (y_asg rfl rfl) rfl rfl ?_
  refine ry (y_asg rfl rfl) rfl rfl ?_
  refine reg_nil ?_
  refine fn_next ?_
  refine cw_seq ?_
  refine cw_reg ?_
  refine ry (y_mov rfl rfl) rfl rfl ?_
  refine ry (y_eql rfl rfl rfl) rfl rfl ?_
  refine ry (y_mov rfl rfl) rfl rfl ?_
  refine rg_splitd (d := 33) rfl (fun h21 => ?_) (fun h21 => ?_)
  · skip
    refine rgy (y_mov rfl rfl) rfl rfl rfl rfl ?_
    refine rgy (y_eql rfl rfl rfl) rfl rfl rfl rfl ?_
    refine ry (y_pick rfl rfl rfl) rfl rfl ?_
    refine ry (y_mov rfl rfl) rfl rfl ?_
    refine rg_splitd (d := 37) rfl (fun h22 => ?_) (fun h22 => ?_)
    · skip
      refine rgy (y_mov rfl rfl) rfl rfl rfl rfl ?_
      refine rgy (y_eql rfl rfl rfl) rfl rfl rfl rfl ?_
      refine ry (y_pick rfl rfl rfl) rfl rfl ?_
      refine ry (y_mov rfl rfl) rfl rfl ?_
      refine rg_splitd (d := 41) rfl (fun h23 => ?_) (fun h23 => ?_)
      · skip
        refine rgy (y_mov rfl rfl) rfl rfl rfl rfl ?_
        refine rgy (y_eql rfl rfl rfl) rfl rfl rfl rfl ?_
        refine ry (y_pick rfl rfl rfl) rfl rfl ?_
        refine ry (y_mov rfl rfl) rfl rfl ?_
        refine rg_splitd (d := 45) rfl (fun h24 => ?_) (fun h24 => ?_)
        · skip
          refine rgy (y_mov rfl rfl) rfl rfl rfl rfl ?_
          refine rgy (y_eql rfl rfl rfl) rfl rfl rfl rfl ?_
          refine ry (y_pick rfl rfl rfl) rfl rfl ?_
          refine ry (y_mov rfl rfl) rfl rfl ?_
          refine rg_splitd (d := 49) rfl (fun h25 => ?_) (fun h25 => ?_)
          · skip
            refine rgy (y_mov rfl rfl) rfl rfl rfl rfl ?_
            refine rgy (y_eql rfl rfl rfl) rfl rfl rfl rfl ?_
            refine ry (y_pick rfl rfl rfl) rfl rfl ?_
            refine ry (y_mov rfl rfl) rfl rfl ?_
            refine rg_splitd (d := 53) rfl (fun h26 => ?_) (fun h26 => ?_)
            · skip
              refine rgy (y_mov rfl rfl) rfl rfl rfl rfl ?_
              refine rgy (y_eql rfl rfl rfl) rfl rfl rfl rfl ?_
              refine ry (y_pick rfl rfl rfl) rfl rfl ?_
              refine ry (y_asg rfl rfl) rfl rfl ?_
              refine reg_nil ?_
              refine fn_next ?_
              refine cw_ret ?_
              refine fn_ret1 rfl rfl ?_
              exact ⟨by rw [decide_eq_true e4], H20.base⟩
            · exact absurd e3 h26
          · exact absurd e6 h25
        · exact absurd e5 h24
      · exact absurd e2 h23
    · exact absurd e1 h22
  · exact absurd rfl h21

set_option maxRecDepth 100000 in
theorem fenNil_all (x0 y0 x1 y1 x y d : Int) (w : World) :
    Ret Try.prog 4 [.agg #[.int .i64 x0, .int .i64 y0, .int .i64 x1, .int .i64 y1], .agg #[.int .i64 x, .int .i64 y], .int .i64 d] w (fun z w' => z = .bool true ∧ Below w.heap.size w w') := by
  refine ret_enter Try.func4 rfl rfl rfl ?_
  have H0 := HS.start w
  refine cw_seq ?_
  refine cw_reg ?_
  refine reg_op (op_box (cs := [.int _ _, .int _ _, .int _ _, .int _ _]) H0 rfl rfl rfl) rfl rfl ?_
  rintro _ w2 ⟨b1, rfl, H3⟩
  refine reg_op (op_box (cs := [.int _ _, .int _ _]) H3 rfl rfl rfl) rfl rfl ?_
  rintro _ w5 ⟨b4, rfl, H6⟩
  refine ry (y_asg rfl rfl) rfl rfl ?_
  refine reg_nil ?_
  refine fn_next ?_
  refine cw_seq ?_
  refine cw_seq ?_
  refine cw_reg ?_
  refine reg_op (op_call (fenAwake _) rfl kflaw19b_6 trivial) rfl rfl ?_
  rintro _ w8 ⟨rfl, e7⟩
  have H9 := H6.ext e7
  refine ry (y_not rfl rfl) rfl rfl ?_
  refine reg_nil ?_
  refine fn_next ?_
  refine cw_condf rfl ?_
  refine cw_skip ?_
  refine fn_next ?_
  refine cw_seq ?_
  refine cw_reg ?_
  refine ry (y_asg rfl rfl) rfl rfl ?_
  refine reg_nil ?_
  refine fn_next ?_
  refine cw_seq ?_
  refine cw_reg ?_
  refine ry (y_mov rfl rfl) rfl rfl ?_
  refine reg_op (op_call (fenNil_Size _) rfl kflaw19b_7 ⟨rfl, trivial⟩) rfl rfl ?_
  rintro _ w11 ⟨rfl, e10⟩
  have H12 := H9.ext e10
  refine ry (y_mov rfl rfl) rfl rfl ?_
  refine ry (y_ext rfl rfl rfl) rfl rfl ?_
  refine ry (y_ext rfl rfl rfl) rfl rfl ?_
  refine ry (y_asg rfl rfl) rfl rfl ?_
  refine ry (y_asg rfl rfl) rfl rfl ?_
  refine reg_nil ?_
  refine fn_next ?_
  refine cw_seq ?_
  refine cw_reg ?_
  refine ry (y_mov rfl rfl) rfl rfl ?_
  refine ry (y_ldb (i := 1) (cs := [_, _, _, _]) H12 rfl rfl kflaw19b_8 rfl rfl) rfl rfl ?_
  refine reg_op (op_call (fenNil_Sum _ _ _ _ _) rfl kflaw19b_5 ⟨rfl, rfl, trivial⟩) rfl rfl ?_
  rintro _ w14 ⟨rfl, e13⟩
  have H15 := H12.ext e13
  refine ry (y_mov rfl rfl) rfl rfl ?_
  refine ry (y_ext rfl rfl rfl) rfl rfl ?_
  refine ry (y_ext rfl rfl rfl) rfl rfl ?_
  refine ry (y_asg rfl rfl) rfl rfl ?_
  refine ry (y_asg rfl rfl) rfl rfl ?_
  refine reg_nil ?_
  refine fn_next ?_
  refine cw_seq ?_
  refine cw_reg ?_
  refine ry (y_mov rfl rfl) rfl rfl ?_
  refine ry (y_ldb (i := 0) (cs := [_, _]) H15 rfl rfl kflaw19b_9 rfl rfl) rfl rfl ?_
  refine reg_op (op_call (fenNil_At _ _ _) rfl kflaw19b_10 ⟨rfl, rfl, trivial⟩) rfl rfl ?_
  rintro _ w17 ⟨rfl, e16⟩
  have H18 := H15.ext e16
  refine ry (y_mov rfl rfl) rfl rfl ?_
  refine ry (y_ext rfl rfl rfl) rfl rfl ?_
  refine ry (y_ext rfl rfl rfl) rfl rfl ?_
  refine ry (y_asg rfl rfl) rfl rfl ?_
  refine ry (y_asg rfl rfl) rfl rfl ?_
  refine reg_nil ?_
  refine fn_next ?_
  refine cw_seq ?_
  refine cw_reg ?_
  refine reg_op (op_call (fenNil_Of _) rfl kflaw19b_11 ⟨rfl, trivial⟩) rfl rfl ?_
  rintro _ w20 ⟨rfl, e19⟩
  have H21 := H18.ext e19
  refine ry (y_mov rfl rfl) rfl rfl ?_
  refine ry (y_ext rfl rfl rfl) rfl rfl ?_
  refine ry (y_ext rfl rfl rfl) rfl rfl ?_
  refine ry (y_asg rfl rfl) rfl rfl ?_
  refine ry (y_asg rfl rfl) rfl rfl ?_
  refine reg_nil ?_
  refine fn_next ?_
  refine cw_seq ?_
  refine cw_reg ?_
  refine ry (y_mov rfl rfl) rfl rfl ?_
  refine ry (y_eql rfl rfl rfl) rfl rfl ?_
  refine ry (y_mov rfl rfl) rfl rfl ?_
  refine rg_splitd (d := 41) rfl (fun h22 => ?_) (fun h22 => ?_)
  · skip
    refine rgy (y_mov rfl rfl) rfl rfl rfl rfl ?_
    refine rgy (y_eql rfl rfl rfl) rfl rfl rfl rfl ?_
    refine ry (y_pick rfl rfl rfl) rfl rfl ?_
    refine ry (y_mov rfl rfl) rfl rfl ?_
    refine rg_splitd (d := 45) rfl (fun h23 => ?_) (fun h23 => ?_)
    · skip
      refine rgy (y_mov rfl rfl) rfl rfl rfl rfl ?_
      refine rgy (y_eql rfl rfl rfl) rfl rfl rfl rfl ?_
      refine ry (y_pick rfl rfl rfl) rfl rfl ?_
      refine ry (y_mov rfl rfl) rfl rfl ?_
      refine rg_splitd (d := 49) rfl (fun h24 => ?_) (fun h24 => ?_)
      · skip
        refine rgy (y_mov rfl rfl) rfl rfl rfl rfl ?_
        refine rgy (y_eql rfl rfl rfl) rfl rfl rfl rfl ?_
        refine ry (y_pick rfl rfl rfl) rfl rfl ?_
        refine ry (y_mov rfl rfl) rfl rfl ?_
        refine rg_splitd (d := 53) rfl (fun h25 => ?_) (fun h25 => ?_)
        · skip
          refine rgy (y_mov rfl rfl) rfl rfl rfl rfl ?_
          refine rgy (y_eql rfl rfl rfl) rfl rfl rfl rfl ?_
          refine ry (y_pick rfl rfl rfl) rfl rfl ?_
          refine ry (y_mov rfl rfl) rfl rfl ?_
          refine rg_splitd (d := 57) rfl (fun h26 => ?_) (fun h26 => ?_)
          · skip
            refine rgy (y_mov rfl rfl) rfl rfl rfl rfl ?_
            refine rgy (y_eql rfl rfl rfl) rfl rfl rfl rfl ?_
            refine ry (y_pick rfl rfl rfl) rfl rfl ?_
            refine ry (y_mov rfl rfl) rfl rfl ?_
            refine rg_splitd (d := 61) rfl (fun h27 => ?_) (fun h27 => ?_)
            · skip
              refine rgy (y_mov rfl rfl) rfl rfl rfl rfl ?_
              refine rgy (y_ldb (i := 0) (cs := [_, _]) H21 rfl rfl kflaw19b_9 rfl rfl) rfl rfl rfl rfl ?_
              refine rgy (y_mov rfl rfl) rfl rfl rfl rfl ?_
              refine rg_on rfl rfl rfl (op_call (fenNil_Add _ _ _ _) rfl kflaw19b_3 ⟨rfl, rfl, rfl, trivial⟩) rfl ?_
              rintro _ w29 ⟨rfl, e28⟩
              have H30 := H21.ext e28
              refine rgy (y_eql rfl rfl rfl) rfl rfl rfl rfl ?_
              refine ry (y_pick rfl rfl rfl) rfl rfl ?_
              refine ry (y_mov rfl rfl) rfl rfl ?_
              refine rg_splitd (d := 68) rfl (fun h31 => ?_) (fun h31 => ?_)
              · skip
                refine rgy (y_mov rfl rfl) rfl rfl rfl rfl ?_
                refine rgy (y_peqlnil rfl Try.underlying28 rfl rfl) rfl rfl rfl rfl ?_
                refine ry (y_pick rfl rfl rfl) rfl rfl ?_
                refine ry (y_mov rfl rfl) rfl rfl ?_
                refine rgy (y_mov rfl rfl) rfl rfl rfl rfl ?_
                refine rgy (y_eql rfl rfl rfl) rfl rfl rfl rfl ?_
                refine ry (y_pick rfl rfl rfl) rfl rfl ?_
                refine ry (y_asg rfl rfl) rfl rfl ?_
                refine reg_nil ?_
                refine fn_next ?_
                refine cw_ret ?_
                refine fn_ret1 rfl rfl ?_
                exact ⟨rfl, H30.base⟩
              · exact absurd rfl h31
            · exact absurd rfl h27
          · exact absurd rfl h26
        · exact absurd rfl h25
      · exact absurd rfl h24
    · exact absurd rfl h23
  · exact absurd rfl h22

theorem fenNil_law (rx0 ry0 rx1 ry1 : Int) (cx cy : Int) (d : Int) (W : World) (brx0 : I6 rx0) (bry0 : I6 ry0) (brx1 : I6 rx1) (bry1 : I6 ry1) (bcx : I6 cx) (bcy : I6 cy) (bd : I6 d) :
    Calls Try.prog 4 #[.agg #[.int .i64 rx0, .int .i64 ry0, .int .i64 rx1, .int .i64 ry1], .agg #[.int .i64 cx, .int .i64 cy], .int .i64 d] W fun e w' => e = .returned (.bool true) ∧ Below W.heap.size W w' := lawOf (fenNil_all rx0 ry0 rx1 ry1 cx cy d W)

set_option maxRecDepth 100000 in
theorem fenPlays_bad (a h : Int) (zs : List Int) (A : Option Addr) (m cap : Nat) (x0 y0 x1 y1 x y : Int) (w : World) (hz : Rd w A (vi .i64 zs)) (hl : zs.length = m * 3) (ha : I6 a) (hh : I6 h) (s : ¬ (1 ≤ a ∧ a ≤ 1024 ∧ 1 ≤ h ∧ h ≤ 1024)) :
    Ret Try.prog 3 [.int .i64 a, .int .i64 h, .slice A m cap, .agg #[.int .i64 x0, .int .i64 y0, .int .i64 x1, .int .i64 y1], .agg #[.int .i64 x, .int .i64 y]] w (fun z w' => z = .bool true ∧ Below w.heap.size w w') := by
  refine ret_enter Try.func3 rfl rfl rfl ?_
  have H0 := HS.start w
  refine cw_seq ?_
  refine cw_reg ?_
  refine reg_op (op_box (cs := [.int _ _, .int _ _, .int _ _, .int _ _]) H0 rfl rfl rfl) rfl rfl ?_
  rintro _ w2 ⟨b1, rfl, H3⟩
  refine reg_op (op_box (cs := [.int _ _, .int _ _]) H3 rfl rfl rfl) rfl rfl ?_
  rintro _ w5 ⟨b4, rfl, H6⟩
  refine ry (y_asg rfl rfl) rfl rfl ?_
  refine reg_nil ?_
  refine fn_next ?_
  refine cw_seq ?_
  refine cw_seq ?_
  refine cw_reg ?_
  refine reg_op (op_call (fenAwake _) rfl kflaw19b_6 trivial) rfl rfl ?_
  rintro _ w8 ⟨rfl, e7⟩
  have H9 := H6.ext e7
  refine ry (y_not rfl rfl) rfl rfl ?_
  refine reg_nil ?_
  refine fn_next ?_
  refine cw_condf rfl ?_
  refine cw_skip ?_
  refine fn_next ?_
  refine cw_seq ?_
  refine cw_seq ?_
  refine cw_reg ?_
  refine ry (y_mov rfl rfl) rfl rfl ?_
  refine ry (y_len rfl Try.underlying22 rfl) rfl rfl ?_
  refine ry (y_gtr rfl rfl rfl) rfl rfl ?_
  refine ry (y_mov rfl rfl) rfl rfl ?_
  refine rg_splitd (d := 33) rfl (fun h10 => ?_) (fun h10 => ?_)
  · skip
    refine rg_off rfl rfl rfl rfl rfl ?_
    refine rg_off rfl rfl rfl rfl rfl ?_
    refine rg_off rfl rfl rfl rfl rfl ?_
    refine rg_offu rfl rfl rfl rfl ?_
    refine rg_offu rfl rfl rfl rfl ?_
    refine rg_off rfl rfl rfl rfl rfl ?_
    refine rg_off rfl rfl rfl rfl rfl ?_
    refine rg_offu rfl rfl rfl rfl ?_
    refine rg_offu rfl rfl rfl rfl ?_
    refine rg_off rfl rfl rfl rfl rfl ?_
    refine rg_off rfl rfl rfl rfl rfl ?_
    refine rg_offu rfl rfl rfl rfl ?_
    refine rg_offu rfl rfl rfl rfl ?_
    refine rg_off rfl rfl rfl rfl rfl ?_
    refine rg_off rfl rfl rfl rfl rfl ?_
    refine rg_offu rfl rfl rfl rfl ?_
    refine rg_offu rfl rfl rfl rfl ?_
    refine rg_offu rfl rfl rfl rfl ?_
    refine rg_offu rfl rfl rfl rfl ?_
    refine rg_off rfl rfl rfl rfl rfl ?_
    refine ry (y_pick rfl rfl rfl) rfl rfl ?_
    refine reg_nil ?_
    refine fn_next ?_
    refine cw_condt rfl ?_
    refine cw_seq ?_
    refine cw_reg ?_
    refine ry (y_asg rfl rfl) rfl rfl ?_
    refine reg_nil ?_
    refine fn_next ?_
    refine cw_ret ?_
    refine fn_then_ret ?_
    refine fn_ret1 rfl rfl ?_
    exact ⟨rfl, H9.base⟩
  · skip
    refine rgy (y_mov rfl rfl) rfl rfl rfl rfl ?_
    refine rgy (y_gtr rfl rfl rfl) rfl rfl rfl rfl ?_
    refine rgy (y_mov rfl rfl) rfl rfl rfl rfl ?_
    refine rg_splitd (d := 36) rfl (fun h11 => ?_) (fun h11 => ?_)
    · skip
      refine rgy (y_mov rfl rfl) rfl rfl rfl rfl ?_
      refine rgy (y_gtr rfl rfl rfl) rfl rfl rfl rfl ?_
      refine rgy (y_pick rfl rfl rfl) rfl rfl rfl rfl ?_
      refine rgy (y_mov rfl rfl) rfl rfl rfl rfl ?_
      refine rg_splitd (d := 40) rfl (fun h12 => ?_) (fun h12 => ?_)
      · skip
        refine rgy (y_mov rfl rfl) rfl rfl rfl rfl ?_
        refine rgy (y_leq rfl rfl rfl) rfl rfl rfl rfl ?_
        refine rgy (y_pick rfl rfl rfl) rfl rfl rfl rfl ?_
        refine rgy (y_mov rfl rfl) rfl rfl rfl rfl ?_
        refine rg_splitd (d := 44) rfl (fun h13 => ?_) (fun h13 => ?_)
        · skip
          refine rgy (y_mov rfl rfl) rfl rfl rfl rfl ?_
          refine rgy (y_leq rfl rfl rfl) rfl rfl rfl rfl ?_
          refine rgy (y_pick rfl rfl rfl) rfl rfl rfl rfl ?_
          refine rgy (y_mov rfl rfl) rfl rfl rfl rfl ?_
          refine rg_splitd (d := 48) rfl (fun h14 => ?_) (fun h14 => ?_)
          · skip
            refine rgy (y_mov rfl rfl) rfl rfl rfl rfl ?_
            refine rgy (y_mov rfl rfl) rfl rfl rfl rfl ?_
            have hmb := area_bd (a := a) (b := h) (by omega) (by omega) (by omega) (by omega)
            refine rgy (y_mul rfl rfl rfl (wi (by omega))) rfl rfl rfl rfl ?_
            refine rgy (y_gtr rfl rfl rfl) rfl rfl rfl rfl ?_
            refine rgy (y_pick rfl rfl rfl) rfl rfl rfl rfl ?_
            refine ry (y_pick rfl rfl rfl) rfl rfl ?_
            refine reg_nil ?_
            refine fn_next ?_
            refine cw_condd rfl (fun h15 => ?_) (fun h15 => ?_)
            · skip
              refine cw_seq ?_
              refine cw_reg ?_
              refine ry (y_asg rfl rfl) rfl rfl ?_
              refine reg_nil ?_
              refine fn_next ?_
              refine cw_ret ?_
              refine fn_then_ret ?_
              refine fn_ret1 rfl rfl ?_
              exact ⟨rfl, H9.base⟩
            · skip
              refine cw_skip ?_
              refine fn_next ?_
              refine cw_seq ?_
              refine cw_reg ?_
              refine ry (y_mov rfl rfl) rfl rfl ?_
              refine ry (y_mov rfl rfl) rfl rfl ?_
              refine reg_op (op_call (fenNew_no a h _ ha hh s) rfl kflaw19b_1 ⟨rfl, rfl, trivial⟩) rfl rfl ?_
              rintro _ w17 ⟨rfl, e16⟩
              have H18 := H9.ext e16
              refine ry (y_mov rfl rfl) rfl rfl ?_
              refine ry (y_ext rfl rfl rfl) rfl rfl ?_
              refine ry (y_ext rfl rfl rfl) rfl rfl ?_
              refine ry (y_asg rfl rfl) rfl rfl ?_
              refine ry (y_asg rfl rfl) rfl rfl ?_
              refine reg_nil ?_
              refine fn_next ?_
              refine cw_seq ?_
              refine cw_reg ?_
              refine ry (y_mov rfl rfl) rfl rfl ?_
              refine ry (y_mov rfl rfl) rfl rfl ?_
              refine reg_op (op_call (ret_v (nNew_no a h _ (by rw [gnewC_sz s]; decide)) (by rw [gnewC_sz s])) rfl kflaw19b_12 ⟨rfl, rfl, trivial⟩) rfl rfl ?_
              rintro _ w20 ⟨rfl, e19⟩
              have H21 := H18.ext e19
              refine ry (y_mov rfl rfl) rfl rfl ?_
              refine ry (y_ext rfl rfl rfl) rfl rfl ?_
              refine ry (y_ext rfl rfl rfl) rfl rfl ?_
              refine reg_op (op_alloc H21 rfl kflaw19b_13) rfl rfl ?_
              rintro _ w23 ⟨b22, rfl, H24⟩
              refine reg_op (op_st (i := 0) (vs := [.int _ _, .int _ _, .slice _ _ _]) H24 rfl rfl rfl rfl rfl kflaw19b_14 rfl rfl rfl) rfl rfl ?_
              rintro _ w25 H26
              refine ry (y_asg rfl rfl) rfl rfl ?_
              refine reg_nil ?_
              refine fn_next ?_
              refine cw_seq ?_
              refine cw_seq ?_
              refine cw_reg ?_
              refine ry (y_mov rfl rfl) rfl rfl ?_
              refine ry (y_mov rfl rfl) rfl rfl ?_
              refine ry (y_neq rfl rfl rfl) rfl rfl ?_
              refine ry (y_mov rfl rfl) rfl rfl ?_
              refine rg_splitd (d := 70) rfl (fun h27 => ?_) (fun h27 => ?_)
              · exact absurd rfl h27
              · skip
                refine rgy (y_mov rfl rfl) rfl rfl rfl rfl ?_
                refine rgy (y_peqlnil rfl Try.underlying28 rfl rfl) rfl rfl rfl rfl ?_
                refine rgy (y_mov rfl rfl) rfl rfl rfl rfl ?_
                refine rgy (y_neq rfl rfl rfl) rfl rfl rfl rfl ?_
                refine rgy (y_bneq rfl Try.underlying4 rfl rfl) rfl rfl rfl rfl ?_
                refine ry (y_pick rfl rfl rfl) rfl rfl ?_
                refine reg_nil ?_
                refine fn_next ?_
                refine cw_cond rfl (fun h28 => ?_) (fun h28 => ?_)
                · skip
                  first | exact absurd rfl h28 | cases h28
                · skip
                  refine cw_skip ?_
                  refine fn_next ?_
                  refine cw_seq ?_
                  refine cw_seq ?_
                  refine cw_reg ?_
                  refine ry (y_mov rfl rfl) rfl rfl ?_
                  refine ry (y_neq rfl rfl rfl) rfl rfl ?_
                  refine reg_nil ?_
                  refine fn_next ?_
                  refine cw_condd rfl (fun h29 => ?_) (fun h29 => ?_)
                  · skip
                    refine cw_seq ?_
                    refine cw_reg ?_
                    refine ry (y_asg rfl rfl) rfl rfl ?_
                    refine reg_nil ?_
                    refine fn_next ?_
                    refine cw_ret ?_
                    refine fn_then_ret ?_
                    refine fn_ret1 rfl rfl ?_
                    exact ⟨rfl, H26.base⟩
                  · exact absurd (Classical.not_not.1 h29) (by decide)
          · skip
            refine rg_off rfl rfl rfl rfl rfl ?_
            refine rg_off rfl rfl rfl rfl rfl ?_
            refine rg_off rfl rfl rfl rfl rfl ?_
            refine rg_off rfl rfl rfl rfl rfl ?_
            refine rgy (y_pick rfl rfl rfl) rfl rfl rfl rfl ?_
            refine ry (y_pick rfl rfl rfl) rfl rfl ?_
            refine reg_nil ?_
            refine fn_next ?_
            refine cw_condf rfl ?_
            refine cw_skip ?_
            refine fn_next ?_
            refine cw_seq ?_
            refine cw_reg ?_
            refine ry (y_mov rfl rfl) rfl rfl ?_
            refine ry (y_mov rfl rfl) rfl rfl ?_
            refine reg_op (op_call (fenNew_no a h _ ha hh s) rfl kflaw19b_1 ⟨rfl, rfl, trivial⟩) rfl rfl ?_
            rintro _ w31 ⟨rfl, e30⟩
            have H32 := H9.ext e30
            refine ry (y_mov rfl rfl) rfl rfl ?_
            refine ry (y_ext rfl rfl rfl) rfl rfl ?_
            refine ry (y_ext rfl rfl rfl) rfl rfl ?_
            refine ry (y_asg rfl rfl) rfl rfl ?_
            refine ry (y_asg rfl rfl) rfl rfl ?_
            refine reg_nil ?_
            refine fn_next ?_
            refine cw_seq ?_
            refine cw_reg ?_
            refine ry (y_mov rfl rfl) rfl rfl ?_
            refine ry (y_mov rfl rfl) rfl rfl ?_
            refine reg_op (op_call (ret_v (nNew_no a h _ (by rw [gnewC_sz s]; decide)) (by rw [gnewC_sz s])) rfl kflaw19b_12 ⟨rfl, rfl, trivial⟩) rfl rfl ?_
            rintro _ w34 ⟨rfl, e33⟩
            have H35 := H32.ext e33
            refine ry (y_mov rfl rfl) rfl rfl ?_
            refine ry (y_ext rfl rfl rfl) rfl rfl ?_
            refine ry (y_ext rfl rfl rfl) rfl rfl ?_
            refine reg_op (op_alloc H35 rfl kflaw19b_13) rfl rfl ?_
            rintro _ w37 ⟨b36, rfl, H38⟩
            refine reg_op (op_st (i := 0) (vs := [.int _ _, .int _ _, .slice _ _ _]) H38 rfl rfl rfl rfl rfl kflaw19b_14 rfl rfl rfl) rfl rfl ?_
            rintro _ w39 H40
            refine ry (y_asg rfl rfl) rfl rfl ?_
            refine reg_nil ?_
            refine fn_next ?_
            refine cw_seq ?_
            refine cw_seq ?_
            refine cw_reg ?_
            refine ry (y_mov rfl rfl) rfl rfl ?_
            refine ry (y_mov rfl rfl) rfl rfl ?_
            refine ry (y_neq rfl rfl rfl) rfl rfl ?_
            refine ry (y_mov rfl rfl) rfl rfl ?_
            refine rg_splitd (d := 70) rfl (fun h41 => ?_) (fun h41 => ?_)
            · exact absurd rfl h41
            · skip
              refine rgy (y_mov rfl rfl) rfl rfl rfl rfl ?_
              refine rgy (y_peqlnil rfl Try.underlying28 rfl rfl) rfl rfl rfl rfl ?_
              refine rgy (y_mov rfl rfl) rfl rfl rfl rfl ?_
              refine rgy (y_neq rfl rfl rfl) rfl rfl rfl rfl ?_
              refine rgy (y_bneq rfl Try.underlying4 rfl rfl) rfl rfl rfl rfl ?_
              refine ry (y_pick rfl rfl rfl) rfl rfl ?_
              refine reg_nil ?_
              refine fn_next ?_
              refine cw_cond rfl (fun h42 => ?_) (fun h42 => ?_)
              · skip
                first | exact absurd rfl h42 | cases h42
              · skip
                refine cw_skip ?_
                refine fn_next ?_
                refine cw_seq ?_
                refine cw_seq ?_
                refine cw_reg ?_
                refine ry (y_mov rfl rfl) rfl rfl ?_
                refine ry (y_neq rfl rfl rfl) rfl rfl ?_
                refine reg_nil ?_
                refine fn_next ?_
                refine cw_condd rfl (fun h43 => ?_) (fun h43 => ?_)
                · skip
                  refine cw_seq ?_
                  refine cw_reg ?_
                  refine ry (y_asg rfl rfl) rfl rfl ?_
                  refine reg_nil ?_
                  refine fn_next ?_
                  refine cw_ret ?_
                  refine fn_then_ret ?_
                  refine fn_ret1 rfl rfl ?_
                  exact ⟨rfl, H40.base⟩
                · exact absurd (Classical.not_not.1 h43) (by decide)
        · skip
          refine rg_off rfl rfl rfl rfl rfl ?_
          refine rg_off rfl rfl rfl rfl rfl ?_
          refine rgy (y_pick rfl rfl rfl) rfl rfl rfl rfl ?_
          refine rgy (y_mov rfl rfl) rfl rfl rfl rfl ?_
          refine rg_off rfl rfl rfl rfl rfl ?_
          refine rg_off rfl rfl rfl rfl rfl ?_
          refine rg_off rfl rfl rfl rfl rfl ?_
          refine rg_off rfl rfl rfl rfl rfl ?_
          refine rgy (y_pick rfl rfl rfl) rfl rfl rfl rfl ?_
          refine ry (y_pick rfl rfl rfl) rfl rfl ?_
          refine reg_nil ?_
          refine fn_next ?_
          refine cw_condf rfl ?_
          refine cw_skip ?_
          refine fn_next ?_
          refine cw_seq ?_
          refine cw_reg ?_
          refine ry (y_mov rfl rfl) rfl rfl ?_
          refine ry (y_mov rfl rfl) rfl rfl ?_
          refine reg_op (op_call (fenNew_no a h _ ha hh s) rfl kflaw19b_1 ⟨rfl, rfl, trivial⟩) rfl rfl ?_
          rintro _ w45 ⟨rfl, e44⟩
          have H46 := H9.ext e44
          refine ry (y_mov rfl rfl) rfl rfl ?_
          refine ry (y_ext rfl rfl rfl) rfl rfl ?_
          refine ry (y_ext rfl rfl rfl) rfl rfl ?_
          refine ry (y_asg rfl rfl) rfl rfl ?_
          refine ry (y_asg rfl rfl) rfl rfl ?_
          refine reg_nil ?_
          refine fn_next ?_
          refine cw_seq ?_
          refine cw_reg ?_
          refine ry (y_mov rfl rfl) rfl rfl ?_
          refine ry (y_mov rfl rfl) rfl rfl ?_
          refine reg_op (op_call (ret_v (nNew_no a h _ (by rw [gnewC_sz s]; decide)) (by rw [gnewC_sz s])) rfl kflaw19b_12 ⟨rfl, rfl, trivial⟩) rfl rfl ?_
          rintro _ w48 ⟨rfl, e47⟩
          have H49 := H46.ext e47
          refine ry (y_mov rfl rfl) rfl rfl ?_
          refine ry (y_ext rfl rfl rfl) rfl rfl ?_
          refine ry (y_ext rfl rfl rfl) rfl rfl ?_
          refine reg_op (op_alloc H49 rfl kflaw19b_13) rfl rfl ?_
          rintro _ w51 ⟨b50, rfl, H52⟩
          refine reg_op (op_st (i := 0) (vs := [.int _ _, .int _ _, .slice _ _ _]) H52 rfl rfl rfl rfl rfl kflaw19b_14 rfl rfl rfl) rfl rfl ?_
          rintro _ w53 H54
          refine ry (y_asg rfl rfl) rfl rfl ?_
          refine reg_nil ?_
          refine fn_next ?_
          refine cw_seq ?_
          refine cw_seq ?_
          refine cw_reg ?_
          refine ry (y_mov rfl rfl) rfl rfl ?_
          refine ry (y_mov rfl rfl) rfl rfl ?_
          refine ry (y_neq rfl rfl rfl) rfl rfl ?_
          refine ry (y_mov rfl rfl) rfl rfl ?_
          refine rg_splitd (d := 70) rfl (fun h55 => ?_) (fun h55 => ?_)
          · exact absurd rfl h55
          · skip
            refine rgy (y_mov rfl rfl) rfl rfl rfl rfl ?_
            refine rgy (y_peqlnil rfl Try.underlying28 rfl rfl) rfl rfl rfl rfl ?_
            refine rgy (y_mov rfl rfl) rfl rfl rfl rfl ?_
            refine rgy (y_neq rfl rfl rfl) rfl rfl rfl rfl ?_
            refine rgy (y_bneq rfl Try.underlying4 rfl rfl) rfl rfl rfl rfl ?_
            refine ry (y_pick rfl rfl rfl) rfl rfl ?_
            refine reg_nil ?_
            refine fn_next ?_
            refine cw_cond rfl (fun h56 => ?_) (fun h56 => ?_)
            · skip
              first | exact absurd rfl h56 | cases h56
            · skip
              refine cw_skip ?_
              refine fn_next ?_
              refine cw_seq ?_
              refine cw_seq ?_
              refine cw_reg ?_
              refine ry (y_mov rfl rfl) rfl rfl ?_
              refine ry (y_neq rfl rfl rfl) rfl rfl ?_
              refine reg_nil ?_
              refine fn_next ?_
              refine cw_condd rfl (fun h57 => ?_) (fun h57 => ?_)
              · skip
                refine cw_seq ?_
                refine cw_reg ?_
                refine ry (y_asg rfl rfl) rfl rfl ?_
                refine reg_nil ?_
                refine fn_next ?_
                refine cw_ret ?_
                refine fn_then_ret ?_
                refine fn_ret1 rfl rfl ?_
                exact ⟨rfl, H54.base⟩
              · exact absurd (Classical.not_not.1 h57) (by decide)
      · skip
        refine rg_off rfl rfl rfl rfl rfl ?_
        refine rg_off rfl rfl rfl rfl rfl ?_
        refine rgy (y_pick rfl rfl rfl) rfl rfl rfl rfl ?_
        refine rgy (y_mov rfl rfl) rfl rfl rfl rfl ?_
        refine rg_off rfl rfl rfl rfl rfl ?_
        refine rg_off rfl rfl rfl rfl rfl ?_
        refine rgy (y_pick rfl rfl rfl) rfl rfl rfl rfl ?_
        refine rgy (y_mov rfl rfl) rfl rfl rfl rfl ?_
        refine rg_off rfl rfl rfl rfl rfl ?_
        refine rg_off rfl rfl rfl rfl rfl ?_
        refine rg_off rfl rfl rfl rfl rfl ?_
        refine rg_off rfl rfl rfl rfl rfl ?_
        refine rgy (y_pick rfl rfl rfl) rfl rfl rfl rfl ?_
        refine ry (y_pick rfl rfl rfl) rfl rfl ?_
        refine reg_nil ?_
        refine fn_next ?_
        refine cw_condf rfl ?_
        refine cw_skip ?_
        refine fn_next ?_
        refine cw_seq ?_
        refine cw_reg ?_
        refine ry (y_mov rfl rfl) rfl rfl ?_
        refine ry (y_mov rfl rfl) rfl rfl ?_
        refine reg_op (op_call (fenNew_no a h _ ha hh s) rfl kflaw19b_1 ⟨rfl, rfl, trivial⟩) rfl rfl ?_
        rintro _ w59 ⟨rfl, e58⟩
        have H60 := H9.ext e58
        refine ry (y_mov rfl rfl) rfl rfl ?_
        refine ry (y_ext rfl rfl rfl) rfl rfl ?_
        refine ry (y_ext rfl rfl rfl) rfl rfl ?_
        refine ry (y_asg rfl rfl) rfl rfl ?_
        refine ry (y_asg rfl rfl) rfl rfl ?_
        refine reg_nil ?_
        refine fn_next ?_
        refine cw_seq ?_
        refine cw_reg ?_
        refine ry (y_mov rfl rfl) rfl rfl ?_
        refine ry (y_mov rfl rfl) rfl rfl ?_
        refine reg_op (op_call (ret_v (nNew_no a h _ (by rw [gnewC_sz s]; decide)) (by rw [gnewC_sz s])) rfl kflaw19b_12 ⟨rfl, rfl, trivial⟩) rfl rfl ?_
        rintro _ w62 ⟨rfl, e61⟩
        have H63 := H60.ext e61
        refine ry (y_mov rfl rfl) rfl rfl ?_
        refine ry (y_ext rfl rfl rfl) rfl rfl ?_
        refine ry (y_ext rfl rfl rfl) rfl rfl ?_
        refine reg_op (op_alloc H63 rfl kflaw19b_13) rfl rfl ?_
        rintro _ w65 ⟨b64, rfl, H66⟩
        refine reg_op (op_st (i := 0) (vs := [.int _ _, .int _ _, .slice _ _ _]) H66 rfl rfl rfl rfl rfl kflaw19b_14 rfl rfl rfl) rfl rfl ?_
        rintro _ w67 H68
        refine ry (y_asg rfl rfl) rfl rfl ?_
        refine reg_nil ?_
        refine fn_next ?_
        refine cw_seq ?_
        refine cw_seq ?_
        refine cw_reg ?_
        refine ry (y_mov rfl rfl) rfl rfl ?_
        refine ry (y_mov rfl rfl) rfl rfl ?_
        refine ry (y_neq rfl rfl rfl) rfl rfl ?_
        refine ry (y_mov rfl rfl) rfl rfl ?_
        refine rg_splitd (d := 70) rfl (fun h69 => ?_) (fun h69 => ?_)
        · exact absurd rfl h69
        · skip
          refine rgy (y_mov rfl rfl) rfl rfl rfl rfl ?_
          refine rgy (y_peqlnil rfl Try.underlying28 rfl rfl) rfl rfl rfl rfl ?_
          refine rgy (y_mov rfl rfl) rfl rfl rfl rfl ?_
          refine rgy (y_neq rfl rfl rfl) rfl rfl rfl rfl ?_
          refine rgy (y_bneq rfl Try.underlying4 rfl rfl) rfl rfl rfl rfl ?_
          refine ry (y_pick rfl rfl rfl) rfl rfl ?_
          refine reg_nil ?_
          refine fn_next ?_
          refine cw_cond rfl (fun h70 => ?_) (fun h70 => ?_)
          · skip
            first | exact absurd rfl h70 | cases h70
          · skip
            refine cw_skip ?_
            refine fn_next ?_
            refine cw_seq ?_
            refine cw_seq ?_
            refine cw_reg ?_
            refine ry (y_mov rfl rfl) rfl rfl ?_
            refine ry (y_neq rfl rfl rfl) rfl rfl ?_
            refine reg_nil ?_
            refine fn_next ?_
            refine cw_condd rfl (fun h71 => ?_) (fun h71 => ?_)
            · skip
              refine cw_seq ?_
              refine cw_reg ?_
              refine ry (y_asg rfl rfl) rfl rfl ?_
              refine reg_nil ?_
              refine fn_next ?_
              refine cw_ret ?_
              refine fn_then_ret ?_
              refine fn_ret1 rfl rfl ?_
              exact ⟨rfl, H68.base⟩
            · exact absurd (Classical.not_not.1 h71) (by decide)
    · skip
      refine rg_off rfl rfl rfl rfl rfl ?_
      refine rg_off rfl rfl rfl rfl rfl ?_
      refine rgy (y_pick rfl rfl rfl) rfl rfl rfl rfl ?_
      refine rgy (y_mov rfl rfl) rfl rfl rfl rfl ?_
      refine rg_off rfl rfl rfl rfl rfl ?_
      refine rg_off rfl rfl rfl rfl rfl ?_
      refine rgy (y_pick rfl rfl rfl) rfl rfl rfl rfl ?_
      refine rgy (y_mov rfl rfl) rfl rfl rfl rfl ?_
      refine rg_off rfl rfl rfl rfl rfl ?_
      refine rg_off rfl rfl rfl rfl rfl ?_
      refine rgy (y_pick rfl rfl rfl) rfl rfl rfl rfl ?_
      refine rgy (y_mov rfl rfl) rfl rfl rfl rfl ?_
      refine rg_off rfl rfl rfl rfl rfl ?_
      refine rg_off rfl rfl rfl rfl rfl ?_
      refine rg_off rfl rfl rfl rfl rfl ?_
      refine rg_off rfl rfl rfl rfl rfl ?_
      refine rgy (y_pick rfl rfl rfl) rfl rfl rfl rfl ?_
      refine ry (y_pick rfl rfl rfl) rfl rfl ?_
      refine reg_nil ?_
      refine fn_next ?_
      refine cw_condf rfl ?_
      refine cw_skip ?_
      refine fn_next ?_
      refine cw_seq ?_
      refine cw_reg ?_
      refine ry (y_mov rfl rfl) rfl rfl ?_
      refine ry (y_mov rfl rfl) rfl rfl ?_
      refine reg_op (op_call (fenNew_no a h _ ha hh s) rfl kflaw19b_1 ⟨rfl, rfl, trivial⟩) rfl rfl ?_
      rintro _ w73 ⟨rfl, e72⟩
      have H74 := H9.ext e72
      refine ry (y_mov rfl rfl) rfl rfl ?_
      refine ry (y_ext rfl rfl rfl) rfl rfl ?_
      refine ry (y_ext rfl rfl rfl) rfl rfl ?_
      refine ry (y_asg rfl rfl) rfl rfl ?_
      refine ry (y_asg rfl rfl) rfl rfl ?_
      refine reg_nil ?_
      refine fn_next ?_
      refine cw_seq ?_
      refine cw_reg ?_
      refine ry (y_mov rfl rfl) rfl rfl ?_
      refine ry (y_mov rfl rfl) rfl rfl ?_
      refine reg_op (op_call (ret_v (nNew_no a h _ (by rw [gnewC_sz s]; decide)) (by rw [gnewC_sz s])) rfl kflaw19b_12 ⟨rfl, rfl, trivial⟩) rfl rfl ?_
      rintro _ w76 ⟨rfl, e75⟩
      have H77 := H74.ext e75
      refine ry (y_mov rfl rfl) rfl rfl ?_
      refine ry (y_ext rfl rfl rfl) rfl rfl ?_
      refine ry (y_ext rfl rfl rfl) rfl rfl ?_
      refine reg_op (op_alloc H77 rfl kflaw19b_13) rfl rfl ?_
      rintro _ w79 ⟨b78, rfl, H80⟩
      refine reg_op (op_st (i := 0) (vs := [.int _ _, .int _ _, .slice _ _ _]) H80 rfl rfl rfl rfl rfl kflaw19b_14 rfl rfl rfl) rfl rfl ?_
      rintro _ w81 H82
      refine ry (y_asg rfl rfl) rfl rfl ?_
      refine reg_nil ?_
      refine fn_next ?_
      refine cw_seq ?_
      refine cw_seq ?_
      refine cw_reg ?_
      refine ry (y_mov rfl rfl) rfl rfl ?_
      refine ry (y_mov rfl rfl) rfl rfl ?_
      refine ry (y_neq rfl rfl rfl) rfl rfl ?_
      refine ry (y_mov rfl rfl) rfl rfl ?_
      refine rg_splitd (d := 70) rfl (fun h83 => ?_) (fun h83 => ?_)
      · exact absurd rfl h83
      · skip
        refine rgy (y_mov rfl rfl) rfl rfl rfl rfl ?_
        refine rgy (y_peqlnil rfl Try.underlying28 rfl rfl) rfl rfl rfl rfl ?_
        refine rgy (y_mov rfl rfl) rfl rfl rfl rfl ?_
        refine rgy (y_neq rfl rfl rfl) rfl rfl rfl rfl ?_
        refine rgy (y_bneq rfl Try.underlying4 rfl rfl) rfl rfl rfl rfl ?_
        refine ry (y_pick rfl rfl rfl) rfl rfl ?_
        refine reg_nil ?_
        refine fn_next ?_
        refine cw_cond rfl (fun h84 => ?_) (fun h84 => ?_)
        · skip
          first | exact absurd rfl h84 | cases h84
        · skip
          refine cw_skip ?_
          refine fn_next ?_
          refine cw_seq ?_
          refine cw_seq ?_
          refine cw_reg ?_
          refine ry (y_mov rfl rfl) rfl rfl ?_
          refine ry (y_neq rfl rfl rfl) rfl rfl ?_
          refine reg_nil ?_
          refine fn_next ?_
          refine cw_condd rfl (fun h85 => ?_) (fun h85 => ?_)
          · skip
            refine cw_seq ?_
            refine cw_reg ?_
            refine ry (y_asg rfl rfl) rfl rfl ?_
            refine reg_nil ?_
            refine fn_next ?_
            refine cw_ret ?_
            refine fn_then_ret ?_
            refine fn_ret1 rfl rfl ?_
            exact ⟨rfl, H82.base⟩
          · exact absurd (Classical.not_not.1 h85) (by decide)

set_option maxRecDepth 100000 in
theorem fenPlays_big (a h : Nat) (zs : List Int) (A : Option Addr) (m cap : Nat) (x0 y0 x1 y1 x y : Int) (w : World) (hz : Rd w A (vi .i64 zs)) (hl : zs.length = m * 3) (p : SzG a h) (hm : 1000 < a * h) :
    Ret Try.prog 3 [.int .i64 (a : Int), .int .i64 (h : Int), .slice A m cap, .agg #[.int .i64 x0, .int .i64 y0, .int .i64 x1, .int .i64 y1], .agg #[.int .i64 x, .int .i64 y]] w (fun z w' => z = .bool true ∧ Below w.heap.size w w') := by
  have hm' := p.mul
  obtain ⟨s1, s2, s3, s4⟩ := id p
  refine ret_enter Try.func3 rfl rfl rfl ?_
  have H0 := HS.start w
  refine cw_seq ?_
  refine cw_reg ?_
  refine reg_op (op_box (cs := [.int _ _, .int _ _, .int _ _, .int _ _]) H0 rfl rfl rfl) rfl rfl ?_
  rintro _ w2 ⟨b1, rfl, H3⟩
  refine reg_op (op_box (cs := [.int _ _, .int _ _]) H3 rfl rfl rfl) rfl rfl ?_
  rintro _ w5 ⟨b4, rfl, H6⟩
  refine ry (y_asg rfl rfl) rfl rfl ?_
  refine reg_nil ?_
  refine fn_next ?_
  refine cw_seq ?_
  refine cw_seq ?_
  refine cw_reg ?_
  refine reg_op (op_call (fenAwake _) rfl kflaw19b_6 trivial) rfl rfl ?_
  rintro _ w8 ⟨rfl, e7⟩
  have H9 := H6.ext e7
  refine ry (y_not rfl rfl) rfl rfl ?_
  refine reg_nil ?_
  refine fn_next ?_
  refine cw_condf rfl ?_
  refine cw_skip ?_
  refine fn_next ?_
  refine cw_seq ?_
  refine cw_seq ?_
  refine cw_reg ?_
  refine ry (y_mov rfl rfl) rfl rfl ?_
  refine ry (y_len rfl Try.underlying22 rfl) rfl rfl ?_
  refine ry (y_gtr rfl rfl rfl) rfl rfl ?_
  refine ry (y_mov rfl rfl) rfl rfl ?_
  refine rg_splitd (d := 33) rfl (fun h10 => ?_) (fun h10 => ?_)
  · skip
    refine rg_off rfl rfl rfl rfl rfl ?_
    refine rg_off rfl rfl rfl rfl rfl ?_
    refine rg_off rfl rfl rfl rfl rfl ?_
    refine rg_offu rfl rfl rfl rfl ?_
    refine rg_offu rfl rfl rfl rfl ?_
    refine rg_off rfl rfl rfl rfl rfl ?_
    refine rg_off rfl rfl rfl rfl rfl ?_
    refine rg_offu rfl rfl rfl rfl ?_
    refine rg_offu rfl rfl rfl rfl ?_
    refine rg_off rfl rfl rfl rfl rfl ?_
    refine rg_off rfl rfl rfl rfl rfl ?_
    refine rg_offu rfl rfl rfl rfl ?_
    refine rg_offu rfl rfl rfl rfl ?_
    refine rg_off rfl rfl rfl rfl rfl ?_
    refine rg_off rfl rfl rfl rfl rfl ?_
    refine rg_offu rfl rfl rfl rfl ?_
    refine rg_offu rfl rfl rfl rfl ?_
    refine rg_offu rfl rfl rfl rfl ?_
    refine rg_offu rfl rfl rfl rfl ?_
    refine rg_off rfl rfl rfl rfl rfl ?_
    refine ry (y_pick rfl rfl rfl) rfl rfl ?_
    refine reg_nil ?_
    refine fn_next ?_
    refine cw_condt rfl ?_
    refine cw_seq ?_
    refine cw_reg ?_
    refine ry (y_asg rfl rfl) rfl rfl ?_
    refine reg_nil ?_
    refine fn_next ?_
    refine cw_ret ?_
    refine fn_then_ret ?_
    refine fn_ret1 rfl rfl ?_
    exact ⟨rfl, H9.base⟩
  · skip
    refine rgy (y_mov rfl rfl) rfl rfl rfl rfl ?_
    refine rgy (y_gtr rfl rfl rfl) rfl rfl rfl rfl ?_
    refine rgy (y_mov rfl rfl) rfl rfl rfl rfl ?_
    refine rg_splitd (d := 36) rfl (fun h11 => ?_) (fun h11 => ?_)
    · skip
      refine rgy (y_mov rfl rfl) rfl rfl rfl rfl ?_
      refine rgy (y_gtr rfl rfl rfl) rfl rfl rfl rfl ?_
      refine rgy (y_pick rfl rfl rfl) rfl rfl rfl rfl ?_
      refine rgy (y_mov rfl rfl) rfl rfl rfl rfl ?_
      refine rg_splitd (d := 40) rfl (fun h12 => ?_) (fun h12 => ?_)
      · skip
        refine rgy (y_mov rfl rfl) rfl rfl rfl rfl ?_
        refine rgy (y_leq rfl rfl rfl) rfl rfl rfl rfl ?_
        refine rgy (y_pick rfl rfl rfl) rfl rfl rfl rfl ?_
        refine rgy (y_mov rfl rfl) rfl rfl rfl rfl ?_
        refine rg_splitd (d := 44) rfl (fun h13 => ?_) (fun h13 => ?_)
        · skip
          refine rgy (y_mov rfl rfl) rfl rfl rfl rfl ?_
          refine rgy (y_leq rfl rfl rfl) rfl rfl rfl rfl ?_
          refine rgy (y_pick rfl rfl rfl) rfl rfl rfl rfl ?_
          refine rgy (y_mov rfl rfl) rfl rfl rfl rfl ?_
          refine rg_splitd (d := 48) rfl (fun h14 => ?_) (fun h14 => ?_)
          · skip
            refine rgy (y_mov rfl rfl) rfl rfl rfl rfl ?_
            refine rgy (y_mov rfl rfl) rfl rfl rfl rfl ?_
            refine rgy (y_mul rfl rfl rfl (show _ = ((a * h : Nat) : Int) from by rw [← Int.natCast_mul]; exact wi (by omega))) rfl rfl rfl rfl ?_
            refine rgy (y_gtr rfl rfl rfl) rfl rfl rfl rfl ?_
            refine rgy (y_pick rfl rfl rfl) rfl rfl rfl rfl ?_
            refine ry (y_pick rfl rfl rfl) rfl rfl ?_
            refine reg_nil ?_
            refine fn_next ?_
            refine cw_condd rfl (fun h15 => ?_) (fun h15 => ?_)
            · skip
              refine cw_seq ?_
              refine cw_reg ?_
              refine ry (y_asg rfl rfl) rfl rfl ?_
              refine reg_nil ?_
              refine fn_next ?_
              refine cw_ret ?_
              refine fn_then_ret ?_
              refine fn_ret1 rfl rfl ?_
              exact ⟨rfl, H9.base⟩
            · exfalso; omega
          · exfalso; omega
        · exfalso; omega
      · exfalso; omega
    · exfalso; omega

set_option maxRecDepth 100000 in
set_option maxHeartbeats 4000000 in
theorem fenPlays_ok (a h : Nat) (zs : List Int) (A : Option Addr) (m cap : Nat) (x0 y0 x1 y1 x y : Int) (w : World) (hz : Rd w A (vi .i64 zs)) (hl : zs.length = m * 3) (p : SzG a h) (hm : a * h ≤ 1000) :
    Ret Try.prog 3 [.int .i64 (a : Int), .int .i64 (h : Int), .slice A m cap, .agg #[.int .i64 x0, .int .i64 y0, .int .i64 x1, .int .i64 y1], .agg #[.int .i64 x, .int .i64 y]] w (fun z w' => z = .bool true ∧ Below w.heap.size w w') := by
  have hm' := p.mul
  obtain ⟨s1, s2, s3, s4⟩ := id p
  refine ret_enter Try.func3 rfl rfl rfl ?_
  have H0 := HS.start w
  refine cw_seq ?_
  refine cw_reg ?_
  refine reg_op (op_box (cs := [.int _ _, .int _ _, .int _ _, .int _ _]) H0 rfl rfl rfl) rfl rfl ?_
  rintro _ w2 ⟨b1, rfl, H3⟩
  refine reg_op (op_box (cs := [.int _ _, .int _ _]) H3 rfl rfl rfl) rfl rfl ?_
  rintro _ w5 ⟨b4, rfl, H6⟩
  refine ry (y_asg rfl rfl) rfl rfl ?_
  refine reg_nil ?_
  refine fn_next ?_
  refine cw_seq ?_
  refine cw_seq ?_
  refine cw_reg ?_
  refine reg_op (op_call (fenAwake _) rfl kflaw19b_6 trivial) rfl rfl ?_
  rintro _ w8 ⟨rfl, e7⟩
  have H9 := H6.ext e7
  refine ry (y_not rfl rfl) rfl rfl ?_
  refine reg_nil ?_
  refine fn_next ?_
  refine cw_condf rfl ?_
  refine cw_skip ?_
  refine fn_next ?_
  refine cw_seq ?_
  refine cw_seq ?_
  refine cw_reg ?_
  refine ry (y_mov rfl rfl) rfl rfl ?_
  refine ry (y_len rfl Try.underlying22 rfl) rfl rfl ?_
  refine ry (y_gtr rfl rfl rfl) rfl rfl ?_
  refine ry (y_mov rfl rfl) rfl rfl ?_
  refine rg_splitd (d := 33) rfl (fun h10 => ?_) (fun h10 => ?_)
  · skip
    refine rg_off rfl rfl rfl rfl rfl ?_
    refine rg_off rfl rfl rfl rfl rfl ?_
    refine rg_off rfl rfl rfl rfl rfl ?_
    refine rg_offu rfl rfl rfl rfl ?_
    refine rg_offu rfl rfl rfl rfl ?_
    refine rg_off rfl rfl rfl rfl rfl ?_
    refine rg_off rfl rfl rfl rfl rfl ?_
    refine rg_offu rfl rfl rfl rfl ?_
    refine rg_offu rfl rfl rfl rfl ?_
    refine rg_off rfl rfl rfl rfl rfl ?_
    refine rg_off rfl rfl rfl rfl rfl ?_
    refine rg_offu rfl rfl rfl rfl ?_
    refine rg_offu rfl rfl rfl rfl ?_
    refine rg_off rfl rfl rfl rfl rfl ?_
    refine rg_off rfl rfl rfl rfl rfl ?_
    refine rg_offu rfl rfl rfl rfl ?_
    refine rg_offu rfl rfl rfl rfl ?_
    refine rg_offu rfl rfl rfl rfl ?_
    refine rg_offu rfl rfl rfl rfl ?_
    refine rg_off rfl rfl rfl rfl rfl ?_
    refine ry (y_pick rfl rfl rfl) rfl rfl ?_
    refine reg_nil ?_
    refine fn_next ?_
    refine cw_condt rfl ?_
    refine cw_seq ?_
    refine cw_reg ?_
    refine ry (y_asg rfl rfl) rfl rfl ?_
    refine reg_nil ?_
    refine fn_next ?_
    refine cw_ret ?_
    refine fn_then_ret ?_
    refine fn_ret1 rfl rfl ?_
    exact ⟨rfl, H9.base⟩
  · skip
    refine rgy (y_mov rfl rfl) rfl rfl rfl rfl ?_
    refine rgy (y_gtr rfl rfl rfl) rfl rfl rfl rfl ?_
    refine rgy (y_mov rfl rfl) rfl rfl rfl rfl ?_
    refine rg_splitd (d := 36) rfl (fun h11 => ?_) (fun h11 => ?_)
    · skip
      refine rgy (y_mov rfl rfl) rfl rfl rfl rfl ?_
      refine rgy (y_gtr rfl rfl rfl) rfl rfl rfl rfl ?_
      refine rgy (y_pick rfl rfl rfl) rfl rfl rfl rfl ?_
      refine rgy (y_mov rfl rfl) rfl rfl rfl rfl ?_
      refine rg_splitd (d := 40) rfl (fun h12 => ?_) (fun h12 => ?_)
      · skip
        refine rgy (y_mov rfl rfl) rfl rfl rfl rfl ?_
        refine rgy (y_leq rfl rfl rfl) rfl rfl rfl rfl ?_
        refine rgy (y_pick rfl rfl rfl) rfl rfl rfl rfl ?_
        refine rgy (y_mov rfl rfl) rfl rfl rfl rfl ?_
        refine rg_splitd (d := 44) rfl (fun h13 => ?_) (fun h13 => ?_)
        · skip
          refine rgy (y_mov rfl rfl) rfl rfl rfl rfl ?_
          refine rgy (y_leq rfl rfl rfl) rfl rfl rfl rfl ?_
          refine rgy (y_pick rfl rfl rfl) rfl rfl rfl rfl ?_
          refine rgy (y_mov rfl rfl) rfl rfl rfl rfl ?_
          refine rg_splitd (d := 48) rfl (fun h14 => ?_) (fun h14 => ?_)
          · skip
            refine rgy (y_mov rfl rfl) rfl rfl rfl rfl ?_
            refine rgy (y_mov rfl rfl) rfl rfl rfl rfl ?_
            refine rgy (y_mul rfl rfl rfl (show _ = ((a * h : Nat) : Int) from by rw [← Int.natCast_mul]; exact wi (by omega))) rfl rfl rfl rfl ?_
            refine rgy (y_gtr rfl rfl rfl) rfl rfl rfl rfl ?_
            refine rgy (y_pick rfl rfl rfl) rfl rfl rfl rfl ?_
            refine ry (y_pick rfl rfl rfl) rfl rfl ?_
            refine reg_nil ?_
            refine fn_next ?_
            refine cw_condd rfl (fun h15 => ?_) (fun h15 => ?_)
            · skip
              refine cw_seq ?_
              refine cw_reg ?_
              refine ry (y_asg rfl rfl) rfl rfl ?_
              refine reg_nil ?_
              refine fn_next ?_
              refine cw_ret ?_
              refine fn_then_ret ?_
              refine fn_ret1 rfl rfl ?_
              exact ⟨rfl, H9.base⟩
            · skip
              refine cw_skip ?_
              refine fn_next ?_
              refine cw_seq ?_
              refine cw_reg ?_
              refine ry (y_mov rfl rfl) rfl rfl ?_
              refine ry (y_mov rfl rfl) rfl rfl ?_
              refine reg_op (op_call (fenNew_ok a h _ (p)) rfl kflaw19b_1 ⟨rfl, rfl, trivial⟩) rfl rfl ?_
              rintro _ w17 ⟨f19, A20, c21, rfl, k16⟩
              have H18 := H9.call k16
              refine ry (y_mov rfl rfl) rfl rfl ?_
              refine ry (y_ext rfl rfl rfl) rfl rfl ?_
              refine ry (y_ext rfl rfl rfl) rfl rfl ?_
              refine ry (y_asg rfl rfl) rfl rfl ?_
              refine ry (y_asg rfl rfl) rfl rfl ?_
              refine reg_nil ?_
              refine fn_next ?_
              refine cw_seq ?_
              refine cw_reg ?_
              refine ry (y_mov rfl rfl) rfl rfl ?_
              refine ry (y_mov rfl rfl) rfl rfl ?_
              refine reg_op (op_call (nNew_ok a h _ p) rfl kflaw19b_12 ⟨rfl, rfl, trivial⟩) rfl rfl ?_
              rintro _ w23 ⟨A25, c26, rfl, k22⟩
              have H24 := H18.call k22
              refine ry (y_mov rfl rfl) rfl rfl ?_
              refine ry (y_ext rfl rfl rfl) rfl rfl ?_
              refine ry (y_ext rfl rfl rfl) rfl rfl ?_
              refine reg_op (op_alloc H24 rfl kflaw19b_13) rfl rfl ?_
              rintro _ w28 ⟨b27, rfl, H29⟩
              refine reg_op (op_st (i := 0) (vs := [.int _ _, .int _ _, .slice _ _ _]) H29 rfl rfl rfl rfl rfl kflaw19b_14 rfl rfl rfl) rfl rfl ?_
              rintro _ w30 H31
              refine ry (y_asg rfl rfl) rfl rfl ?_
              refine reg_nil ?_
              refine fn_next ?_
              refine cw_seq ?_
              refine cw_seq ?_
              refine cw_reg ?_
              refine ry (y_mov rfl rfl) rfl rfl ?_
              refine ry (y_mov rfl rfl) rfl rfl ?_
              refine ry (y_neq rfl rfl rfl) rfl rfl ?_
              refine ry (y_mov rfl rfl) rfl rfl ?_
              refine rg_splitd (d := 70) rfl (fun h32 => ?_) (fun h32 => ?_)
              · exact absurd rfl h32
              · skip
                refine rgy (y_mov rfl rfl) rfl rfl rfl rfl ?_
                refine rgy (y_peqlnil rfl Try.underlying28 rfl rfl) rfl rfl rfl rfl ?_
                refine rgy (y_mov rfl rfl) rfl rfl rfl rfl ?_
                refine rgy (y_neq rfl rfl rfl) rfl rfl rfl rfl ?_
                refine rgy (y_bneq rfl Try.underlying4 rfl rfl) rfl rfl rfl rfl ?_
                refine ry (y_pick rfl rfl rfl) rfl rfl ?_
                refine reg_nil ?_
                refine fn_next ?_
                refine cw_cond rfl (fun h33 => ?_) (fun h33 => ?_)
                · skip
                  first | exact absurd rfl h33 | cases h33
                · skip
                  refine cw_skip ?_
                  refine fn_next ?_
                  refine cw_seq ?_
                  refine cw_seq ?_
                  refine cw_reg ?_
                  refine ry (y_mov rfl rfl) rfl rfl ?_
                  refine ry (y_neq rfl rfl rfl) rfl rfl ?_
                  refine reg_nil ?_
                  refine fn_next ?_
                  refine cw_condd rfl (fun h34 => ?_) (fun h34 => ?_)
                  · exact absurd rfl h34
                  · skip
                    refine cw_skip ?_
                    refine fn_next ?_
                    refine cw_seq ?_
                    refine cw_seq ?_
                    refine cw_reg ?_
                    refine ry (y_asg rfl rfl) rfl rfl ?_
                    refine reg_nil ?_
                    refine fn_next ?_
                    refine cw_block ?_
                    refine cw_loopJ [10, 15, 16, 17, 79, 80, 81, 82, 83, 84, 85, 86, 87, 88, 89, 90, 91, 92, 93, 94, 95, 96, 97, 98, 99, 100, 101, 102, 103, 104, 105, 106, 107, 108, 109, 110, 111, 112, 113, 114] (fun M wl ml => ∃ (k : Nat) (V U : List Int) (A' : Option Addr) (cap' : Nat), M = [(15, .int .i64 (k : Int))] ∧ HS w wl [Ob.blk f19 [.int .i64 ((a : Nat) : Int), .int .i64 ((h : Nat) : Int), .slice A20 ((a + 1) * (h + 1)) c21] 117, Ob.row A20 ((a + 1) * (h + 1)) c21 (vi .i64 (U)) 2 1, Ob.blk b27 [.int .i64 (a : Int), .int .i64 (h : Int), .slice A' (a * h) cap'] 34, Ob.row A' (a * h) cap' (vi .i64 (V)) 2 1, Ob.blk b4 [.int .i64 x, .int .i64 y] 26, Ob.blk b1 [.int .i64 x0, .int .i64 y0, .int .i64 x1, .int .i64 y1] 24] ∧ (k ≤ m) ∧ (FV a h V U) ∧ ml = m - k) ⟨0, _, _, _, _, rfl, (H31.pick (m := [_, _, _, _, _, _]) [2, 3, 0, 1, 4, 5] rfl (by decide)), Nat.zero_le _, ⟨p, hm, by simp, b40_rep, fenI_new rfl⟩, rfl⟩ ⟨rfl, trivial⟩ ?_
                    rintro M w35 m37 ⟨k, V, U, A', cap', rfl, H36, hp0, hp1, rfl⟩
                    refine cw_seq ?_
                    refine cw_seq ?_
                    refine cw_reg ?_
                    refine ry (y_mov rfl rfl) rfl rfl ?_
                    refine ry (y_mov rfl rfl) rfl rfl ?_
                    refine ry (y_len rfl Try.underlying22 rfl) rfl rfl ?_
                    refine ry (y_lss rfl rfl rfl) rfl rfl ?_
                    refine reg_nil ?_
                    refine fn_next ?_
                    refine cw_condd rfl (fun h38 => ?_) (fun h38 => ?_)
                    · skip
                      have g2 := vi_get (k := .i64) (zs := zs) (i := k * 3 + 2) (by omega)
                      have g0 := vi_get (k := .i64) (zs := zs) (i := k * 3) (by omega)
                      refine cw_skip ?_
                      refine fn_next ?_
                      refine cw_seq ?_
                      refine cw_block ?_
                      refine cw_seq ?_
                      refine cw_drawT H36 [0, 1, 2, 3, 4, 5, 6, 7, 8, 9, 10] (.alt (.step 11 (.alt (.step 12 (.alt (.step 13 (.alt (.step 14 (.step 15 (.step 16 (.step 17 (.leaf))))) (.step 15 (.alt (.step 14 (.step 16 (.step 17 (.leaf)))) (.step 16 (.step 14 (.step 17 (.leaf)))))))) (.alt (.step 14 (.alt (.step 13 (.step 15 (.step 16 (.step 17 (.leaf))))) (.step 15 (.step 13 (.step 16 (.step 17 (.leaf))))))) (.step 15 (.alt (.step 13 (.alt (.step 14 (.step 16 (.step 17 (.leaf)))) (.step 16 (.step 14 (.step 17 (.leaf)))))) (.step 14 (.step 13 (.step 16 (.step 17 (.leaf)))))))))) (.step 15 (.step 12 (.alt (.step 13 (.alt (.step 14 (.step 16 (.step 17 (.leaf)))) (.step 16 (.step 14 (.step 17 (.leaf)))))) (.step 14 (.step 13 (.step 16 (.step 17 (.leaf)))))))))) (.step 15 (.step 11 (.step 12 (.alt (.step 13 (.alt (.step 14 (.step 16 (.step 17 (.leaf)))) (.step 16 (.step 14 (.step 17 (.leaf)))))) (.step 14 (.step 13 (.step 16 (.step 17 (.leaf)))))))))) (fun X HX => (HX.pick (m := [_, _, _, _, _]) [0, 1, 2, 4, 5] rfl (by decide))) (by kernel_rfl) (by kernel_rfl) (by rfl) ?_
                      simp only [pick, List.getElem?_cons_succ, List.getElem?_cons_zero]
                      refine hk_y (fun Y HY => y_ldb (i := 2) (cs := [_, _, _]) HY rfl rfl kflaw19b_15 rfl rfl) rfl rfl ?_
                      refine hk_y (fun Y HY => y_mov rfl rfl) rfl rfl ?_
                      refine hk_y (fun Y HY => y_mov rfl rfl) rfl rfl ?_
                      refine hk_y (fun Y HY => y_iar (i := k) (hz.below HY.base) rfl rfl rfl kflaw19b_16 (rfl) (by omega) (rfl) (g0)) rfl rfl ?_
                      refine hk_y (fun Y HY => y_far (hz.below HY.base) rfl rfl kflaw19b_17 rfl (g0)) rfl rfl ?_
                      refine hk_y (fun Y HY => y_ldra (cs := [_, _]) (hz.below HY.base) rfl rfl kflaw19b_9 rfl (by decide) ((fun j v hv => vi_p2 (zs := zs) (p := k * 3) (by omega) j v hv))) rfl rfl ?_
                      refine hk_y (fun Y HY => y_mov rfl rfl) rfl rfl ?_
                      refine hk_y (fun Y HY => y_mov rfl rfl) rfl rfl ?_
                      refine hk_y (fun Y HY => y_iar (i := k) (hz.below HY.base) rfl rfl rfl kflaw19b_16 (rfl) (by omega) (rfl) (g0)) rfl rfl ?_
                      refine hk_y (fun Y HY => y_far (hz.below HY.base) rfl rfl kflaw19b_18 rfl (g0)) rfl rfl ?_
                      refine hk_y (fun Y HY => y_ldr (hz.below HY.base) rfl rfl kflaw19b_19 (g2)) rfl rfl ?_
                      refine hkt_nil [16, 17, 85, 97, 98, 99] (fun M wl => ∃ (b' : Nat) (A2 : Option Addr) (cap2 : Nat), M = [(16, .pointer (some ⟨b', 0, none⟩)), (17, .int .i64 (faddC V a h (nth zs (k * 3)) (nth zs (k * 3 + 1)) (nth zs (k * 3 + 2))))] ∧ HS w wl [Ob.blk b' [.int .i64 (a : Int), .int .i64 (h : Int), .slice A2 (a * h) cap2] 34, Ob.row A2 (a * h) cap2 (vi .i64 (faddV V a h (nth zs (k * 3)) (nth zs (k * 3 + 1)) (nth zs (k * 3 + 2)))) 2 1, Ob.blk f19 [.int .i64 ((a : Nat) : Int), .int .i64 ((h : Nat) : Int), .slice A20 ((a + 1) * (h + 1)) c21] 117, Ob.row A20 ((a + 1) * (h + 1)) c21 (vi .i64 (U)) 2 1, Ob.blk b27 [.int .i64 (a : Int), .int .i64 (h : Int), .slice A' (a * h) cap'] 34, Ob.blk b4 [.int .i64 x, .int .i64 y] 26, Ob.blk b1 [.int .i64 x0, .int .i64 y0, .int .i64 x1, .int .i64 y1] 24]) (fun wX HX => ?_) ?_
                      · skip
                        refine tt_alt ?_ ?_
                        · skip
                          refine tt_op rfl (op_call (nAdd w _ a h A' cap' V (nth zs (k * 3)) (nth zs (k * 3 + 1)) (nth zs (k * 3 + 2)) _ p hp1.len hp1.bd (HX.pick (m := [_, _, _, _, _, _]) [3, 0, 1, 2, 4, 5] rfl (by decide))) rfl kflaw19b_20 ⟨rfl, rfl, rfl, trivial⟩) rfl rfl ?_
                          rintro _ w40 ⟨A41, c42, rfl, H39⟩
                          refine ⟨(H39.pick (m := [_, _, _, _, _]) [1, 2, 3, 4, 5] rfl (by decide)), fun w43 e45 => ?_⟩
                          have H44 := H39.ext e45
                          refine tt_alt ?_ ?_
                          · skip
                            refine tt_op rfl (Yd.op (y_mov rfl rfl)) rfl rfl ?_
                            rintro _ _ ⟨rfl, rfl⟩
                            refine ⟨(H44.pick (m := [_, _, _, _, _]) [1, 2, 3, 4, 5] rfl (by decide)), fun w46 e48 => ?_⟩
                            have H47 := H44.ext e48
                            refine tt_alt ?_ ?_
                            · skip
                              refine tt_op rfl (Yd.op (y_ext rfl rfl rfl)) rfl rfl ?_
                              rintro _ _ ⟨rfl, rfl⟩
                              refine ⟨(H47.pick (m := [_, _, _, _, _]) [1, 2, 3, 4, 5] rfl (by decide)), fun w49 e51 => ?_⟩
                              have H50 := H47.ext e51
                              refine tt_alt ?_ ?_
                              · skip
                                refine tt_op rfl (Yd.op (y_ext rfl rfl rfl)) rfl rfl ?_
                                rintro _ _ ⟨rfl, rfl⟩
                                refine ⟨(H50.pick (m := [_, _, _, _, _]) [1, 2, 3, 4, 5] rfl (by decide)), fun w52 e54 => ?_⟩
                                have H53 := H50.ext e54
                                refine tt_op rfl (op_alloc H53 rfl kflaw19b_13) rfl rfl ?_
                                rintro _ w56 ⟨b55, rfl, H57⟩
                                refine ⟨(H57.pick (m := [_, _, _, _, _]) [2, 3, 4, 5, 6] rfl (by decide)), fun w58 e60 => ?_⟩
                                have H59 := H57.ext e60
                                refine tt_op rfl (op_st (i := 0) (vs := [.int _ _, .int _ _, .slice _ _ _]) H59 rfl rfl rfl rfl rfl kflaw19b_14 rfl rfl rfl) rfl rfl ?_
                                rintro _ w61 H62
                                refine ⟨(H62.pick (m := [_, _, _, _, _]) [2, 3, 4, 5, 6] rfl (by decide)), fun w63 e65 => ?_⟩
                                have H64 := H62.ext e65
                                refine tt_op rfl (Yd.op (y_asg rfl rfl)) rfl rfl ?_
                                rintro _ _ ⟨rfl, rfl⟩
                                refine ⟨(H64.pick (m := [_, _, _, _, _]) [2, 3, 4, 5, 6] rfl (by decide)), fun w66 e68 => ?_⟩
                                have H67 := H64.ext e68
                                exact tt_leaf ⟨b55, A41, c42, rfl, H67⟩ ⟨rfl, rfl, trivial⟩ (by repeat (first | exact kp_refl | refine kp_app rfl rfl ?_ | refine kp_cons rfl ?_))
                              refine tt_op rfl (op_alloc H50 rfl kflaw19b_13) rfl rfl ?_
                              rintro _ w70 ⟨b69, rfl, H71⟩
                              refine ⟨(H71.pick (m := [_, _, _, _, _]) [2, 3, 4, 5, 6] rfl (by decide)), fun w72 e74 => ?_⟩
                              have H73 := H71.ext e74
                              refine tt_alt ?_ ?_
                              · skip
                                refine tt_op rfl (Yd.op (y_ext rfl rfl rfl)) rfl rfl ?_
                                rintro _ _ ⟨rfl, rfl⟩
                                refine ⟨(H73.pick (m := [_, _, _, _, _]) [2, 3, 4, 5, 6] rfl (by decide)), fun w75 e77 => ?_⟩
                                have H76 := H73.ext e77
                                refine tt_op rfl (op_st (i := 0) (vs := [.int _ _, .int _ _, .slice _ _ _]) H76 rfl rfl rfl rfl rfl kflaw19b_14 rfl rfl rfl) rfl rfl ?_
                                rintro _ w78 H79
                                refine ⟨(H79.pick (m := [_, _, _, _, _]) [2, 3, 4, 5, 6] rfl (by decide)), fun w80 e82 => ?_⟩
                                have H81 := H79.ext e82
                                refine tt_op rfl (Yd.op (y_asg rfl rfl)) rfl rfl ?_
                                rintro _ _ ⟨rfl, rfl⟩
                                refine ⟨(H81.pick (m := [_, _, _, _, _]) [2, 3, 4, 5, 6] rfl (by decide)), fun w83 e85 => ?_⟩
                                have H84 := H81.ext e85
                                exact tt_leaf ⟨b69, A41, c42, rfl, H84⟩ ⟨rfl, rfl, trivial⟩ (by repeat (first | exact kp_refl | refine kp_app rfl rfl ?_ | refine kp_cons rfl ?_))
                              refine tt_op rfl (op_st (i := 0) (vs := [.int _ _, .int _ _, .slice _ _ _]) H73 rfl rfl rfl rfl rfl kflaw19b_14 rfl rfl rfl) rfl rfl ?_
                              rintro _ w86 H87
                              refine ⟨(H87.pick (m := [_, _, _, _, _]) [2, 3, 4, 5, 6] rfl (by decide)), fun w88 e90 => ?_⟩
                              have H89 := H87.ext e90
                              refine tt_op rfl (Yd.op (y_ext rfl rfl rfl)) rfl rfl ?_
                              rintro _ _ ⟨rfl, rfl⟩
                              refine ⟨(H89.pick (m := [_, _, _, _, _]) [2, 3, 4, 5, 6] rfl (by decide)), fun w91 e93 => ?_⟩
                              have H92 := H89.ext e93
                              refine tt_op rfl (Yd.op (y_asg rfl rfl)) rfl rfl ?_
                              rintro _ _ ⟨rfl, rfl⟩
                              refine ⟨(H92.pick (m := [_, _, _, _, _]) [2, 3, 4, 5, 6] rfl (by decide)), fun w94 e96 => ?_⟩
                              have H95 := H92.ext e96
                              exact tt_leaf ⟨b69, A41, c42, rfl, H95⟩ ⟨rfl, rfl, trivial⟩ (by repeat (first | exact kp_refl | refine kp_app rfl rfl ?_ | refine kp_cons rfl ?_))
                            refine tt_alt ?_ ?_
                            · skip
                              refine tt_op rfl (Yd.op (y_ext rfl rfl rfl)) rfl rfl ?_
                              rintro _ _ ⟨rfl, rfl⟩
                              refine ⟨(H47.pick (m := [_, _, _, _, _]) [1, 2, 3, 4, 5] rfl (by decide)), fun w97 e99 => ?_⟩
                              have H98 := H47.ext e99
                              refine tt_alt ?_ ?_
                              · skip
                                refine tt_op rfl (Yd.op (y_ext rfl rfl rfl)) rfl rfl ?_
                                rintro _ _ ⟨rfl, rfl⟩
                                refine ⟨(H98.pick (m := [_, _, _, _, _]) [1, 2, 3, 4, 5] rfl (by decide)), fun w100 e102 => ?_⟩
                                have H101 := H98.ext e102
                                refine tt_op rfl (op_alloc H101 rfl kflaw19b_13) rfl rfl ?_
                                rintro _ w104 ⟨b103, rfl, H105⟩
                                refine ⟨(H105.pick (m := [_, _, _, _, _]) [2, 3, 4, 5, 6] rfl (by decide)), fun w106 e108 => ?_⟩
                                have H107 := H105.ext e108
                                refine tt_op rfl (op_st (i := 0) (vs := [.int _ _, .int _ _, .slice _ _ _]) H107 rfl rfl rfl rfl rfl kflaw19b_14 rfl rfl rfl) rfl rfl ?_
                                rintro _ w109 H110
                                refine ⟨(H110.pick (m := [_, _, _, _, _]) [2, 3, 4, 5, 6] rfl (by decide)), fun w111 e113 => ?_⟩
                                have H112 := H110.ext e113
                                refine tt_op rfl (Yd.op (y_asg rfl rfl)) rfl rfl ?_
                                rintro _ _ ⟨rfl, rfl⟩
                                refine ⟨(H112.pick (m := [_, _, _, _, _]) [2, 3, 4, 5, 6] rfl (by decide)), fun w114 e116 => ?_⟩
                                have H115 := H112.ext e116
                                exact tt_leaf ⟨b103, A41, c42, rfl, H115⟩ ⟨rfl, rfl, trivial⟩ (by repeat (first | exact kp_refl | refine kp_app rfl rfl ?_ | refine kp_cons rfl ?_))
                              refine tt_op rfl (op_alloc H98 rfl kflaw19b_13) rfl rfl ?_
                              rintro _ w118 ⟨b117, rfl, H119⟩
                              refine ⟨(H119.pick (m := [_, _, _, _, _]) [2, 3, 4, 5, 6] rfl (by decide)), fun w120 e122 => ?_⟩
                              have H121 := H119.ext e122
                              refine tt_op rfl (Yd.op (y_ext rfl rfl rfl)) rfl rfl ?_
                              rintro _ _ ⟨rfl, rfl⟩
                              refine ⟨(H121.pick (m := [_, _, _, _, _]) [2, 3, 4, 5, 6] rfl (by decide)), fun w123 e125 => ?_⟩
                              have H124 := H121.ext e125
                              refine tt_op rfl (op_st (i := 0) (vs := [.int _ _, .int _ _, .slice _ _ _]) H124 rfl rfl rfl rfl rfl kflaw19b_14 rfl rfl rfl) rfl rfl ?_
                              rintro _ w126 H127
                              refine ⟨(H127.pick (m := [_, _, _, _, _]) [2, 3, 4, 5, 6] rfl (by decide)), fun w128 e130 => ?_⟩
                              have H129 := H127.ext e130
                              refine tt_op rfl (Yd.op (y_asg rfl rfl)) rfl rfl ?_
                              rintro _ _ ⟨rfl, rfl⟩
                              refine ⟨(H129.pick (m := [_, _, _, _, _]) [2, 3, 4, 5, 6] rfl (by decide)), fun w131 e133 => ?_⟩
                              have H132 := H129.ext e133
                              exact tt_leaf ⟨b117, A41, c42, rfl, H132⟩ ⟨rfl, rfl, trivial⟩ (by repeat (first | exact kp_refl | refine kp_app rfl rfl ?_ | refine kp_cons rfl ?_))
                            refine tt_op rfl (op_alloc H47 rfl kflaw19b_13) rfl rfl ?_
                            rintro _ w135 ⟨b134, rfl, H136⟩
                            refine ⟨(H136.pick (m := [_, _, _, _, _]) [2, 3, 4, 5, 6] rfl (by decide)), fun w137 e139 => ?_⟩
                            have H138 := H136.ext e139
                            refine tt_alt ?_ ?_
                            · skip
                              refine tt_op rfl (Yd.op (y_ext rfl rfl rfl)) rfl rfl ?_
                              rintro _ _ ⟨rfl, rfl⟩
                              refine ⟨(H138.pick (m := [_, _, _, _, _]) [2, 3, 4, 5, 6] rfl (by decide)), fun w140 e142 => ?_⟩
                              have H141 := H138.ext e142
                              refine tt_alt ?_ ?_
                              · skip
                                refine tt_op rfl (Yd.op (y_ext rfl rfl rfl)) rfl rfl ?_
                                rintro _ _ ⟨rfl, rfl⟩
                                refine ⟨(H141.pick (m := [_, _, _, _, _]) [2, 3, 4, 5, 6] rfl (by decide)), fun w143 e145 => ?_⟩
                                have H144 := H141.ext e145
                                refine tt_op rfl (op_st (i := 0) (vs := [.int _ _, .int _ _, .slice _ _ _]) H144 rfl rfl rfl rfl rfl kflaw19b_14 rfl rfl rfl) rfl rfl ?_
                                rintro _ w146 H147
                                refine ⟨(H147.pick (m := [_, _, _, _, _]) [2, 3, 4, 5, 6] rfl (by decide)), fun w148 e150 => ?_⟩
                                have H149 := H147.ext e150
                                refine tt_op rfl (Yd.op (y_asg rfl rfl)) rfl rfl ?_
                                rintro _ _ ⟨rfl, rfl⟩
                                refine ⟨(H149.pick (m := [_, _, _, _, _]) [2, 3, 4, 5, 6] rfl (by decide)), fun w151 e153 => ?_⟩
                                have H152 := H149.ext e153
                                exact tt_leaf ⟨b134, A41, c42, rfl, H152⟩ ⟨rfl, rfl, trivial⟩ (by repeat (first | exact kp_refl | refine kp_app rfl rfl ?_ | refine kp_cons rfl ?_))
                              refine tt_op rfl (op_st (i := 0) (vs := [.int _ _, .int _ _, .slice _ _ _]) H141 rfl rfl rfl rfl rfl kflaw19b_14 rfl rfl rfl) rfl rfl ?_
                              rintro _ w154 H155
                              refine ⟨(H155.pick (m := [_, _, _, _, _]) [2, 3, 4, 5, 6] rfl (by decide)), fun w156 e158 => ?_⟩
                              have H157 := H155.ext e158
                              refine tt_op rfl (Yd.op (y_ext rfl rfl rfl)) rfl rfl ?_
                              rintro _ _ ⟨rfl, rfl⟩
                              refine ⟨(H157.pick (m := [_, _, _, _, _]) [2, 3, 4, 5, 6] rfl (by decide)), fun w159 e161 => ?_⟩
                              have H160 := H157.ext e161
                              refine tt_op rfl (Yd.op (y_asg rfl rfl)) rfl rfl ?_
                              rintro _ _ ⟨rfl, rfl⟩
                              refine ⟨(H160.pick (m := [_, _, _, _, _]) [2, 3, 4, 5, 6] rfl (by decide)), fun w162 e164 => ?_⟩
                              have H163 := H160.ext e164
                              exact tt_leaf ⟨b134, A41, c42, rfl, H163⟩ ⟨rfl, rfl, trivial⟩ (by repeat (first | exact kp_refl | refine kp_app rfl rfl ?_ | refine kp_cons rfl ?_))
                            refine tt_op rfl (Yd.op (y_ext rfl rfl rfl)) rfl rfl ?_
                            rintro _ _ ⟨rfl, rfl⟩
                            refine ⟨(H138.pick (m := [_, _, _, _, _]) [2, 3, 4, 5, 6] rfl (by decide)), fun w165 e167 => ?_⟩
                            have H166 := H138.ext e167
                            refine tt_op rfl (Yd.op (y_ext rfl rfl rfl)) rfl rfl ?_
                            rintro _ _ ⟨rfl, rfl⟩
                            refine ⟨(H166.pick (m := [_, _, _, _, _]) [2, 3, 4, 5, 6] rfl (by decide)), fun w168 e170 => ?_⟩
                            have H169 := H166.ext e170
                            refine tt_op rfl (op_st (i := 0) (vs := [.int _ _, .int _ _, .slice _ _ _]) H169 rfl rfl rfl rfl rfl kflaw19b_14 rfl rfl rfl) rfl rfl ?_
                            rintro _ w171 H172
                            refine ⟨(H172.pick (m := [_, _, _, _, _]) [2, 3, 4, 5, 6] rfl (by decide)), fun w173 e175 => ?_⟩
                            have H174 := H172.ext e175
                            refine tt_op rfl (Yd.op (y_asg rfl rfl)) rfl rfl ?_
                            rintro _ _ ⟨rfl, rfl⟩
                            refine ⟨(H174.pick (m := [_, _, _, _, _]) [2, 3, 4, 5, 6] rfl (by decide)), fun w176 e178 => ?_⟩
                            have H177 := H174.ext e178
                            exact tt_leaf ⟨b134, A41, c42, rfl, H177⟩ ⟨rfl, rfl, trivial⟩ (by repeat (first | exact kp_refl | refine kp_app rfl rfl ?_ | refine kp_cons rfl ?_))
                          refine tt_op rfl (op_alloc H44 rfl kflaw19b_13) rfl rfl ?_
                          rintro _ w180 ⟨b179, rfl, H181⟩
                          refine ⟨(H181.pick (m := [_, _, _, _, _]) [2, 3, 4, 5, 6] rfl (by decide)), fun w182 e184 => ?_⟩
                          have H183 := H181.ext e184
                          refine tt_op rfl (Yd.op (y_mov rfl rfl)) rfl rfl ?_
                          rintro _ _ ⟨rfl, rfl⟩
                          refine ⟨(H183.pick (m := [_, _, _, _, _]) [2, 3, 4, 5, 6] rfl (by decide)), fun w185 e187 => ?_⟩
                          have H186 := H183.ext e187
                          refine tt_alt ?_ ?_
                          · skip
                            refine tt_op rfl (Yd.op (y_ext rfl rfl rfl)) rfl rfl ?_
                            rintro _ _ ⟨rfl, rfl⟩
                            refine ⟨(H186.pick (m := [_, _, _, _, _]) [2, 3, 4, 5, 6] rfl (by decide)), fun w188 e190 => ?_⟩
                            have H189 := H186.ext e190
                            refine tt_alt ?_ ?_
                            · skip
                              refine tt_op rfl (Yd.op (y_ext rfl rfl rfl)) rfl rfl ?_
                              rintro _ _ ⟨rfl, rfl⟩
                              refine ⟨(H189.pick (m := [_, _, _, _, _]) [2, 3, 4, 5, 6] rfl (by decide)), fun w191 e193 => ?_⟩
                              have H192 := H189.ext e193
                              refine tt_op rfl (op_st (i := 0) (vs := [.int _ _, .int _ _, .slice _ _ _]) H192 rfl rfl rfl rfl rfl kflaw19b_14 rfl rfl rfl) rfl rfl ?_
                              rintro _ w194 H195
                              refine ⟨(H195.pick (m := [_, _, _, _, _]) [2, 3, 4, 5, 6] rfl (by decide)), fun w196 e198 => ?_⟩
                              have H197 := H195.ext e198
                              refine tt_op rfl (Yd.op (y_asg rfl rfl)) rfl rfl ?_
                              rintro _ _ ⟨rfl, rfl⟩
                              refine ⟨(H197.pick (m := [_, _, _, _, _]) [2, 3, 4, 5, 6] rfl (by decide)), fun w199 e201 => ?_⟩
                              have H200 := H197.ext e201
                              exact tt_leaf ⟨b179, A41, c42, rfl, H200⟩ ⟨rfl, rfl, trivial⟩ (by repeat (first | exact kp_refl | refine kp_app rfl rfl ?_ | refine kp_cons rfl ?_))
                            refine tt_op rfl (op_st (i := 0) (vs := [.int _ _, .int _ _, .slice _ _ _]) H189 rfl rfl rfl rfl rfl kflaw19b_14 rfl rfl rfl) rfl rfl ?_
                            rintro _ w202 H203
                            refine ⟨(H203.pick (m := [_, _, _, _, _]) [2, 3, 4, 5, 6] rfl (by decide)), fun w204 e206 => ?_⟩
                            have H205 := H203.ext e206
                            refine tt_op rfl (Yd.op (y_ext rfl rfl rfl)) rfl rfl ?_
                            rintro _ _ ⟨rfl, rfl⟩
                            refine ⟨(H205.pick (m := [_, _, _, _, _]) [2, 3, 4, 5, 6] rfl (by decide)), fun w207 e209 => ?_⟩
                            have H208 := H205.ext e209
                            refine tt_op rfl (Yd.op (y_asg rfl rfl)) rfl rfl ?_
                            rintro _ _ ⟨rfl, rfl⟩
                            refine ⟨(H208.pick (m := [_, _, _, _, _]) [2, 3, 4, 5, 6] rfl (by decide)), fun w210 e212 => ?_⟩
                            have H211 := H208.ext e212
                            exact tt_leaf ⟨b179, A41, c42, rfl, H211⟩ ⟨rfl, rfl, trivial⟩ (by repeat (first | exact kp_refl | refine kp_app rfl rfl ?_ | refine kp_cons rfl ?_))
                          refine tt_op rfl (Yd.op (y_ext rfl rfl rfl)) rfl rfl ?_
                          rintro _ _ ⟨rfl, rfl⟩
                          refine ⟨(H186.pick (m := [_, _, _, _, _]) [2, 3, 4, 5, 6] rfl (by decide)), fun w213 e215 => ?_⟩
                          have H214 := H186.ext e215
                          refine tt_op rfl (Yd.op (y_ext rfl rfl rfl)) rfl rfl ?_
                          rintro _ _ ⟨rfl, rfl⟩
                          refine ⟨(H214.pick (m := [_, _, _, _, _]) [2, 3, 4, 5, 6] rfl (by decide)), fun w216 e218 => ?_⟩
                          have H217 := H214.ext e218
                          refine tt_op rfl (op_st (i := 0) (vs := [.int _ _, .int _ _, .slice _ _ _]) H217 rfl rfl rfl rfl rfl kflaw19b_14 rfl rfl rfl) rfl rfl ?_
                          rintro _ w219 H220
                          refine ⟨(H220.pick (m := [_, _, _, _, _]) [2, 3, 4, 5, 6] rfl (by decide)), fun w221 e223 => ?_⟩
                          have H222 := H220.ext e223
                          refine tt_op rfl (Yd.op (y_asg rfl rfl)) rfl rfl ?_
                          rintro _ _ ⟨rfl, rfl⟩
                          refine ⟨(H222.pick (m := [_, _, _, _, _]) [2, 3, 4, 5, 6] rfl (by decide)), fun w224 e226 => ?_⟩
                          have H225 := H222.ext e226
                          exact tt_leaf ⟨b179, A41, c42, rfl, H225⟩ ⟨rfl, rfl, trivial⟩ (by repeat (first | exact kp_refl | refine kp_app rfl rfl ?_ | refine kp_cons rfl ?_))
                        refine tt_op rfl (op_alloc HX rfl kflaw19b_13) rfl rfl ?_
                        rintro _ w228 ⟨b227, rfl, H229⟩
                        refine ⟨(H229.pick (m := [_, _, _, _, _]) [1, 2, 3, 5, 6] rfl (by decide)), fun w230 e232 => ?_⟩
                        have H231 := H229.ext e232
                        refine tt_op rfl (op_call (nAdd w _ a h A' cap' V (nth zs (k * 3)) (nth zs (k * 3 + 1)) (nth zs (k * 3 + 2)) _ p hp1.len hp1.bd (H231.pick (m := [_, _, _, _, _, _, _]) [4, 0, 1, 2, 3, 5, 6] rfl (by decide))) rfl kflaw19b_20 ⟨rfl, rfl, rfl, trivial⟩) rfl rfl ?_
                        rintro _ w234 ⟨A235, c236, rfl, H233⟩
                        refine ⟨(H233.pick (m := [_, _, _, _, _]) [2, 3, 4, 5, 6] rfl (by decide)), fun w237 e239 => ?_⟩
                        have H238 := H233.ext e239
                        refine tt_op rfl (Yd.op (y_mov rfl rfl)) rfl rfl ?_
                        rintro _ _ ⟨rfl, rfl⟩
                        refine ⟨(H238.pick (m := [_, _, _, _, _]) [2, 3, 4, 5, 6] rfl (by decide)), fun w240 e242 => ?_⟩
                        have H241 := H238.ext e242
                        refine tt_alt ?_ ?_
                        · skip
                          refine tt_op rfl (Yd.op (y_ext rfl rfl rfl)) rfl rfl ?_
                          rintro _ _ ⟨rfl, rfl⟩
                          refine ⟨(H241.pick (m := [_, _, _, _, _]) [2, 3, 4, 5, 6] rfl (by decide)), fun w243 e245 => ?_⟩
                          have H244 := H241.ext e245
                          refine tt_alt ?_ ?_
                          · skip
                            refine tt_op rfl (Yd.op (y_ext rfl rfl rfl)) rfl rfl ?_
                            rintro _ _ ⟨rfl, rfl⟩
                            refine ⟨(H244.pick (m := [_, _, _, _, _]) [2, 3, 4, 5, 6] rfl (by decide)), fun w246 e248 => ?_⟩
                            have H247 := H244.ext e248
                            refine tt_op rfl (op_st (i := 1) (vs := [.int _ _, .int _ _, .slice _ _ _]) H247 rfl rfl rfl rfl rfl kflaw19b_14 rfl rfl rfl) rfl rfl ?_
                            rintro _ w249 H250
                            refine ⟨(H250.pick (m := [_, _, _, _, _]) [2, 3, 4, 5, 6] rfl (by decide)), fun w251 e253 => ?_⟩
                            have H252 := H250.ext e253
                            refine tt_op rfl (Yd.op (y_asg rfl rfl)) rfl rfl ?_
                            rintro _ _ ⟨rfl, rfl⟩
                            refine ⟨(H252.pick (m := [_, _, _, _, _]) [2, 3, 4, 5, 6] rfl (by decide)), fun w254 e256 => ?_⟩
                            have H255 := H252.ext e256
                            exact tt_leaf ⟨b227, A235, c236, rfl, (H255.pick (m := [_, _, _, _, _, _, _]) [1, 0, 2, 3, 4, 5, 6] rfl (by decide))⟩ ⟨rfl, rfl, trivial⟩ (by repeat (first | exact kp_refl | refine kp_app rfl rfl ?_ | refine kp_cons rfl ?_))
                          refine tt_op rfl (op_st (i := 1) (vs := [.int _ _, .int _ _, .slice _ _ _]) H244 rfl rfl rfl rfl rfl kflaw19b_14 rfl rfl rfl) rfl rfl ?_
                          rintro _ w257 H258
                          refine ⟨(H258.pick (m := [_, _, _, _, _]) [2, 3, 4, 5, 6] rfl (by decide)), fun w259 e261 => ?_⟩
                          have H260 := H258.ext e261
                          refine tt_op rfl (Yd.op (y_ext rfl rfl rfl)) rfl rfl ?_
                          rintro _ _ ⟨rfl, rfl⟩
                          refine ⟨(H260.pick (m := [_, _, _, _, _]) [2, 3, 4, 5, 6] rfl (by decide)), fun w262 e264 => ?_⟩
                          have H263 := H260.ext e264
                          refine tt_op rfl (Yd.op (y_asg rfl rfl)) rfl rfl ?_
                          rintro _ _ ⟨rfl, rfl⟩
                          refine ⟨(H263.pick (m := [_, _, _, _, _]) [2, 3, 4, 5, 6] rfl (by decide)), fun w265 e267 => ?_⟩
                          have H266 := H263.ext e267
                          exact tt_leaf ⟨b227, A235, c236, rfl, (H266.pick (m := [_, _, _, _, _, _, _]) [1, 0, 2, 3, 4, 5, 6] rfl (by decide))⟩ ⟨rfl, rfl, trivial⟩ (by repeat (first | exact kp_refl | refine kp_app rfl rfl ?_ | refine kp_cons rfl ?_))
                        refine tt_op rfl (Yd.op (y_ext rfl rfl rfl)) rfl rfl ?_
                        rintro _ _ ⟨rfl, rfl⟩
                        refine ⟨(H241.pick (m := [_, _, _, _, _]) [2, 3, 4, 5, 6] rfl (by decide)), fun w268 e270 => ?_⟩
                        have H269 := H241.ext e270
                        refine tt_op rfl (Yd.op (y_ext rfl rfl rfl)) rfl rfl ?_
                        rintro _ _ ⟨rfl, rfl⟩
                        refine ⟨(H269.pick (m := [_, _, _, _, _]) [2, 3, 4, 5, 6] rfl (by decide)), fun w271 e273 => ?_⟩
                        have H272 := H269.ext e273
                        refine tt_op rfl (op_st (i := 1) (vs := [.int _ _, .int _ _, .slice _ _ _]) H272 rfl rfl rfl rfl rfl kflaw19b_14 rfl rfl rfl) rfl rfl ?_
                        rintro _ w274 H275
                        refine ⟨(H275.pick (m := [_, _, _, _, _]) [2, 3, 4, 5, 6] rfl (by decide)), fun w276 e278 => ?_⟩
                        have H277 := H275.ext e278
                        refine tt_op rfl (Yd.op (y_asg rfl rfl)) rfl rfl ?_
                        rintro _ _ ⟨rfl, rfl⟩
                        refine ⟨(H277.pick (m := [_, _, _, _, _]) [2, 3, 4, 5, 6] rfl (by decide)), fun w279 e281 => ?_⟩
                        have H280 := H277.ext e281
                        exact tt_leaf ⟨b227, A235, c236, rfl, (H280.pick (m := [_, _, _, _, _, _, _]) [1, 0, 2, 3, 4, 5, 6] rfl (by decide))⟩ ⟨rfl, rfl, trivial⟩ (by repeat (first | exact kp_refl | refine kp_app rfl rfl ?_ | refine kp_cons rfl ?_))
                      · skip
                        rintro M w283 ⟨b', A2, cap2, rfl, H282⟩
                        refine fn_next ?_
                        refine cw_seq ?_
                        refine cw_seq ?_
                        refine cw_draw H282 [0, 1, 2, 3, 4, 5, 6, 7, 8, 9, 10, 12] [11, 13] (fun X HX => (HX.pick (m := [_, _, _, _, _]) [0, 1, 4, 5, 6] rfl (by decide))) (by kernel_rfl) (by kernel_rfl) (by rfl) ?_
                        simp only [pick, List.getElem?_cons_succ, List.getElem?_cons_zero]
                        refine hk_y (fun Y HY => y_mov rfl rfl) rfl rfl ?_
                        refine hk_y (fun Y HY => y_mov rfl rfl) rfl rfl ?_
                        refine hk_y (fun Y HY => y_mov rfl rfl) rfl rfl ?_
                        refine hk_y (fun Y HY => y_iar (i := k) (hz.below HY.base) rfl rfl rfl kflaw19b_16 (rfl) (by omega) (rfl) (g0)) rfl rfl ?_
                        refine hk_y (fun Y HY => y_far (hz.below HY.base) rfl rfl kflaw19b_17 rfl (g0)) rfl rfl ?_
                        refine hk_y (fun Y HY => y_ldra (cs := [_, _]) (hz.below HY.base) rfl rfl kflaw19b_9 rfl (by decide) ((fun j v hv => vi_p2 (zs := zs) (p := k * 3) (by omega) j v hv))) rfl rfl ?_
                        refine hk_y (fun Y HY => y_mov rfl rfl) rfl rfl ?_
                        refine hk_y (fun Y HY => y_mov rfl rfl) rfl rfl ?_
                        refine hk_y (fun Y HY => y_iar (i := k) (hz.below HY.base) rfl rfl rfl kflaw19b_16 (rfl) (by omega) (rfl) (g0)) rfl rfl ?_
                        refine hk_y (fun Y HY => y_far (hz.below HY.base) rfl rfl kflaw19b_18 rfl (g0)) rfl rfl ?_
                        refine hk_y (fun Y HY => y_ldr (hz.below HY.base) rfl rfl kflaw19b_19 (g2)) rfl rfl ?_
                        refine hk_y (fun Y HY => y_mov rfl rfl) rfl rfl ?_
                        refine hk_nil ?_
                        intro w284 H285
                        refine tv_op (op_call (fenAdd w _ f19 a h _ _ (V) (U) (nth zs (k * 3)) (nth zs (k * 3 + 1)) (nth zs (k * 3 + 2)) _ (hp1) (H285.pick (m := [_, _, _, _, _, _, _]) [2, 3, 0, 1, 4, 5, 6] rfl (by decide))) rfl kflaw19b_3 ⟨rfl, rfl, rfl, trivial⟩) rfl rfl ?_
                        rintro _ w287 ⟨U288, rfl, H286, G289⟩
                        refine ⟨(H286.pick (m := [_, _, _, _, _]) [2, 3, 4, 5, 6] rfl (by decide)), fun w290 e292 => ?_⟩
                        have H291 := H286.ext e292
                        refine tv_op (Yd.op (y_neq rfl rfl rfl)) rfl rfl ?_
                        rintro _ _ ⟨rfl, rfl⟩
                        refine ⟨(H291.pick (m := [_, _, _, _, _]) [2, 3, 4, 5, 6] rfl (by decide)), fun w293 e295 => ?_⟩
                        have H294 := H291.ext e295
                        refine tv_nil ?_
                        refine fn_next ?_
                        refine cw_condd rfl (fun h296 => ?_) (fun h296 => ?_)
                        · exact absurd rfl h296
                        · skip
                          refine cw_skip ?_
                          refine fn_next ?_
                          refine cw_reg ?_
                          refine ry (y_ldb (i := 2) (cs := [_, _, _]) H294 rfl rfl kflaw19b_15 rfl rfl) rfl rfl ?_
                          refine reg_op (op_st (i := 4) (vs := [.int _ _, .int _ _, .slice _ _ _]) H294 rfl rfl rfl rfl rfl kflaw19b_14 rfl rfl rfl) rfl rfl ?_
                          rintro _ w297 H298
                          refine reg_nil ?_
                          refine fn_block ?_
                          refine fn_next ?_
                          refine cw_reg ?_
                          refine ry (y_mov rfl rfl) rfl rfl ?_
                          refine ry (y_add rfl rfl rfl (wi (by omega))) rfl rfl ?_
                          refine ry (y_asg rfl rfl) rfl rfl ?_
                          refine reg_nil ?_
                          refine fn_roundJ ⟨k + 1, _, _, _, _, rfl, (H298.pick (m := [_, _, _, _, _, _]) [0, 1, 4, 3, 5, 6] rfl (by decide)), by omega, G289, rfl⟩ ⟨rfl, trivial⟩ (by omega) (by repeat (first | exact kp_refl | refine kp_app rfl rfl ?_ | refine kp_cons rfl ?_)) rfl
                    · skip
                      refine cw_exit ?_
                      refine fn_then_exit (fn_then_exit (fn_block_exit ?_))
                      refine fn_next ?_
                      refine cw_seq ?_
                      refine cw_reg ?_
                      refine ry (y_mov rfl rfl) rfl rfl ?_
                      refine ry (y_ldb (i := 5) (cs := [_, _, _, _]) H36 rfl rfl kflaw19b_8 rfl rfl) rfl rfl ?_
                      refine reg_op (op_call (fenSum f19 a h _ _ (V) (U) x0 y0 x1 y1 _ (hp1) ⟨H36.rdb (i := 0) rfl, H36.rd (i := 1) rfl⟩) rfl kflaw19b_5 ⟨rfl, rfl, trivial⟩) rfl rfl ?_
                      rintro _ w300 ⟨rfl, e299⟩
                      have H301 := H36.ext e299
                      refine ry (y_mov rfl rfl) rfl rfl ?_
                      refine ry (y_ext rfl rfl rfl) rfl rfl ?_
                      refine ry (y_ext rfl rfl rfl) rfl rfl ?_
                      refine ry (y_asg rfl rfl) rfl rfl ?_
                      refine ry (y_asg rfl rfl) rfl rfl ?_
                      refine reg_nil ?_
                      refine fn_next ?_
                      refine cw_seq ?_
                      refine cw_reg ?_
                      refine ry (y_ldb (i := 2) (cs := [_, _, _]) H301 rfl rfl kflaw19b_15 rfl rfl) rfl rfl ?_
                      refine ry (y_ldb (i := 5) (cs := [_, _, _, _]) H301 rfl rfl kflaw19b_8 rfl rfl) rfl rfl ?_
                      refine reg_op (op_call (nSum a h _ _ V x0 y0 x1 y1 _ p (H301.rd (i := 3) rfl) hp1.len hp1.bd hm) rfl kflaw19b_21 ⟨rfl, rfl, trivial⟩) rfl rfl ?_
                      rintro _ w303 ⟨rfl, e302⟩
                      have H304 := H301.ext e302
                      refine ry (y_mov rfl rfl) rfl rfl ?_
                      refine ry (y_ext rfl rfl rfl) rfl rfl ?_
                      refine ry (y_ext rfl rfl rfl) rfl rfl ?_
                      refine ry (y_asg rfl rfl) rfl rfl ?_
                      refine ry (y_asg rfl rfl) rfl rfl ?_
                      refine reg_nil ?_
                      refine fn_next ?_
                      refine cw_seq ?_
                      refine cw_reg ?_
                      refine ry (y_mov rfl rfl) rfl rfl ?_
                      refine ry (y_ldb (i := 4) (cs := [_, _]) H304 rfl rfl kflaw19b_9 rfl rfl) rfl rfl ?_
                      refine reg_op (op_call (fenAt f19 a h _ _ (V) (U) x y _ (hp1) ⟨H304.rdb (i := 0) rfl, H304.rd (i := 1) rfl⟩) rfl kflaw19b_10 ⟨rfl, rfl, trivial⟩) rfl rfl ?_
                      rintro _ w306 ⟨rfl, e305⟩
                      have H307 := H304.ext e305
                      refine ry (y_mov rfl rfl) rfl rfl ?_
                      refine ry (y_ext rfl rfl rfl) rfl rfl ?_
                      refine ry (y_ext rfl rfl rfl) rfl rfl ?_
                      refine ry (y_asg rfl rfl) rfl rfl ?_
                      refine ry (y_asg rfl rfl) rfl rfl ?_
                      refine reg_nil ?_
                      refine fn_next ?_
                      refine cw_seq ?_
                      refine cw_reg ?_
                      refine ry (y_ldb (i := 2) (cs := [_, _, _]) H307 rfl rfl kflaw19b_15 rfl rfl) rfl rfl ?_
                      refine ry (y_ldb (i := 4) (cs := [_, _]) H307 rfl rfl kflaw19b_9 rfl rfl) rfl rfl ?_
                      refine reg_op (op_call (mAt a h _ _ x y V _ p (H307.rd (i := 3) rfl) hp1.len) rfl kflaw19b_22 ⟨rfl, rfl, trivial⟩) rfl rfl ?_
                      rintro _ w309 ⟨rfl, e308⟩
                      have H310 := H307.ext e308
                      refine ry (y_mov rfl rfl) rfl rfl ?_
                      refine ry (y_ext rfl rfl rfl) rfl rfl ?_
                      refine ry (y_ext rfl rfl rfl) rfl rfl ?_
                      refine ry (y_asg rfl rfl) rfl rfl ?_
                      refine ry (y_asg rfl rfl) rfl rfl ?_
                      refine reg_nil ?_
                      refine fn_next ?_
                      refine cw_seq ?_
                      refine cw_reg ?_
                      refine ry (y_mov rfl rfl) rfl rfl ?_
                      refine reg_op (op_call (fenSize f19 a h _ _ (V) (U)  _ (hp1) ⟨H310.rdb (i := 0) rfl, H310.rd (i := 1) rfl⟩) rfl kflaw19b_7 ⟨rfl, trivial⟩) rfl rfl ?_
                      rintro _ w312 ⟨rfl, e311⟩
                      have H313 := H310.ext e311
                      refine ry (y_mov rfl rfl) rfl rfl ?_
                      refine ry (y_ext rfl rfl rfl) rfl rfl ?_
                      refine ry (y_ext rfl rfl rfl) rfl rfl ?_
                      refine ry (y_asg rfl rfl) rfl rfl ?_
                      refine ry (y_asg rfl rfl) rfl rfl ?_
                      refine reg_nil ?_
                      refine fn_next ?_
                      refine cw_seq ?_
                      refine cw_reg ?_
                      refine ry (y_mov rfl rfl) rfl rfl ?_
                      refine ry (y_mov rfl rfl) rfl rfl ?_
                      refine ry (y_eql rfl rfl rfl) rfl rfl ?_
                      refine ry (y_mov rfl rfl) rfl rfl ?_
                      refine rg_splitd (d := 147) rfl (fun h314 => ?_) (fun h314 => ?_)
                      · skip
                        refine rgy (y_mov rfl rfl) rfl rfl rfl rfl ?_
                        refine rgy (y_mov rfl rfl) rfl rfl rfl rfl ?_
                        refine rgy (y_eql rfl rfl rfl) rfl rfl rfl rfl ?_
                        refine ry (y_pick rfl rfl rfl) rfl rfl ?_
                        refine ry (y_mov rfl rfl) rfl rfl ?_
                        refine rg_splitd (d := 152) rfl (fun h315 => ?_) (fun h315 => ?_)
                        · skip
                          refine rgy (y_mov rfl rfl) rfl rfl rfl rfl ?_
                          refine rgy (y_mov rfl rfl) rfl rfl rfl rfl ?_
                          refine rgy (y_eql rfl rfl rfl) rfl rfl rfl rfl ?_
                          refine ry (y_pick rfl rfl rfl) rfl rfl ?_
                          refine ry (y_mov rfl rfl) rfl rfl ?_
                          refine rg_splitd (d := 157) rfl (fun h316 => ?_) (fun h316 => ?_)
                          · skip
                            refine rgy (y_mov rfl rfl) rfl rfl rfl rfl ?_
                            refine rgy (y_mov rfl rfl) rfl rfl rfl rfl ?_
                            refine rgy (y_eql rfl rfl rfl) rfl rfl rfl rfl ?_
                            refine ry (y_pick rfl rfl rfl) rfl rfl ?_
                            refine ry (y_mov rfl rfl) rfl rfl ?_
                            refine rg_splitd (d := 162) rfl (fun h317 => ?_) (fun h317 => ?_)
                            · skip
                              refine rgy (y_mov rfl rfl) rfl rfl rfl rfl ?_
                              refine rgy (y_mov rfl rfl) rfl rfl rfl rfl ?_
                              refine rgy (y_eql rfl rfl rfl) rfl rfl rfl rfl ?_
                              refine ry (y_pick rfl rfl rfl) rfl rfl ?_
                              refine ry (y_mov rfl rfl) rfl rfl ?_
                              refine rg_splitd (d := 167) rfl (fun h318 => ?_) (fun h318 => ?_)
                              · skip
                                refine rgy (y_mov rfl rfl) rfl rfl rfl rfl ?_
                                refine rgy (y_mov rfl rfl) rfl rfl rfl rfl ?_
                                refine rgy (y_eql rfl rfl rfl) rfl rfl rfl rfl ?_
                                refine ry (y_pick rfl rfl rfl) rfl rfl ?_
                                refine ry (y_asg rfl rfl) rfl rfl ?_
                                refine reg_nil ?_
                                refine fn_next ?_
                                refine cw_ret ?_
                                refine fn_ret1 rfl rfl ?_
                                rw [decide_eq_true rfl]
                                exact ⟨rfl, H313.base⟩
                              · exact absurd rfl h318
                            · exact absurd rfl h317
                          · exact absurd rfl h316
                        · exact absurd rfl h315
                      · exact absurd rfl h314
          · exfalso; omega
        · exfalso; omega
      · exfalso; omega
    · exfalso; omega

theorem fenPlays_all (a h : Int) (zs : List Int) (A : Option Addr) (m cap : Nat) (x0 y0 x1 y1 x y : Int) (w : World) (hz : Rd w A (vi .i64 zs)) (hl : zs.length = m * 3) (ha : I6 a) (hh : I6 h) : Ret Try.prog 3 [.int .i64 a, .int .i64 h, .slice A m cap, .agg #[.int .i64 x0, .int .i64 y0, .int .i64 x1, .int .i64 y1], .agg #[.int .i64 x, .int .i64 y]] w (fun z w' => z = .bool true ∧ Below w.heap.size w w') := by
  by_cases s : 1 ≤ a ∧ a ≤ 1024 ∧ 1 ≤ h ∧ h ≤ 1024
  · obtain ⟨a, rfl⟩ : ∃ p : Nat, a = p := ⟨a.toNat, by omega⟩
    obtain ⟨h, rfl⟩ : ∃ p : Nat, h = p := ⟨h.toNat, by omega⟩
    have p : SzG a h := ⟨by omega, by omega, by omega, by omega⟩
    by_cases hm : a * h ≤ 1000
    · exact fenPlays_ok a h zs A m cap x0 y0 x1 y1 x y w hz hl p hm
    · exact fenPlays_big a h zs A m cap x0 y0 x1 y1 x y w hz hl p (by omega)
  · exact fenPlays_bad a h zs A m cap x0 y0 x1 y1 x y w hz hl ha hh s

theorem fenPlays_law (a : Int) (h : Int) (zs : List Int) (A2 : Option Addr) (n2 c2 : Nat) (rx0 ry0 rx1 ry1 : Int) (cx cy : Int) (W : World) (ba : I6 a) (bh : I6 h) (hzs : Rd W A2 (vi .i64 zs)) (lzs : zs.length = n2 * 3) (le2 : n2 ≤ c2) (mx2 : c2 ≤ maxLen) (wzs : ∀ z ∈ zs, I6 z) (brx0 : I6 rx0) (bry0 : I6 ry0) (brx1 : I6 rx1) (bry1 : I6 ry1) (bcx : I6 cx) (bcy : I6 cy) :
    Calls Try.prog 3 #[.int .i64 a, .int .i64 h, .slice A2 n2 c2, .agg #[.int .i64 rx0, .int .i64 ry0, .int .i64 rx1, .int .i64 ry1], .agg #[.int .i64 cx, .int .i64 cy]] W fun e w' => e = .returned (.bool true) ∧ Below W.heap.size W w' := lawOf (fenPlays_all a h zs A2 n2 c2 rx0 ry0 rx1 ry1 cx cy W hzs lzs ba bh)

end Go.Proofs.Ytkphmcaoioaglaa
