/- Layer 9: GridPlays. -/
import Derived.Test.YtkphmcaoioaglaaLaw9a
import Derived.Test.YtkphmcaoioaglaaFlats
set_option linter.unusedVariables false
set_option linter.unusedSimpArgs false
namespace Go.Proofs.Ytkphmcaoioaglaa
open Go Go.RowKit
theorem kflaw9b_1 : callB Try.prog 41 = true := by kernel_rfl
theorem kflaw9b_2 : callB Try.prog 42 = true := by kernel_rfl
theorem kflaw9b_3 : callB Try.prog 43 = true := by kernel_rfl
theorem kflaw9b_4 : (Try.prog.info? 34).bind (fun i => i.zero.map Value.cells) = some (List.toArray [(.int .i64 0), (.int .i64 0), (.slice none 0 0)]) := by kernel_rfl
theorem kflaw9b_5 : szB Try.prog 34 3 = true := by kernel_rfl
theorem kflaw9b_6 : aggB Try.prog 34 3 = true := by kernel_rfl
theorem kflaw9b_7 : elB Try.prog 73 5 = true := by kernel_rfl
theorem kflaw9b_8 : fldB Try.prog 78 0 0 = true := by kernel_rfl
theorem kflaw9b_9 : aggB Try.prog 24 4 = true := by kernel_rfl
theorem kflaw9b_10 : fldB Try.prog 78 1 4 = true := by kernel_rfl
theorem kflaw9b_11 : oneB Try.prog 2 = true := by kernel_rfl
theorem kflaw9b_12 : callB Try.prog 34 = true := by kernel_rfl
theorem kflaw9b_13 : callB Try.prog 44 = true := by kernel_rfl
theorem kflaw9b_14 : aggB Try.prog 26 2 = true := by kernel_rfl
theorem kflaw9b_15 : callB Try.prog 45 = true := by kernel_rfl
theorem kflaw9b_16 : callB Try.prog 22 = true := by kernel_rfl
theorem kflaw9b_17 : callB Try.prog 46 = true := by kernel_rfl
theorem kflaw9b_18 : callB Try.prog 47 = true := by kernel_rfl
theorem kflaw9b_19 : callB Try.prog 48 = true := by kernel_rfl
theorem kflaw9b_20 : callB Try.prog 49 = true := by kernel_rfl
theorem kflaw9b_21 : callB Try.prog 31 = true := by kernel_rfl
theorem kflaw9b_22 : callB Try.prog 50 = true := by kernel_rfl
theorem kflaw9b_23 : callB Try.prog 51 = true := by kernel_rfl
theorem kflaw9b_24 : callB Try.prog 52 = true := by kernel_rfl
theorem kflaw9b_25 : seqB Try.prog 24 4 = true := by kernel_rfl
theorem kflaw9b_26 : callB Try.prog 54 = true := by kernel_rfl
theorem kflaw9b_27 : callB Try.prog 55 = true := by kernel_rfl
theorem kflaw9b_28 : callB Try.prog 53 = true := by kernel_rfl
theorem vi_p4 {zs : List Int} {p : Nat} (h : p + 4 < zs.length) : ∀ j v, ([.int .i64 (nth zs p), .int .i64 (nth zs (p + 1)), .int .i64 (nth zs (p + 2)), .int .i64 (nth zs (p + 3))] : List Value)[j]? = some v → (vi .i64 zs)[p + j]? = some v := fun j v hv => by
  have h4 : j < 4 := by
    have := (List.getElem?_eq_some_iff.1 hv).1
    simpa using this
  rw [vi_get (by omega), ← hv]
  match j, h4 with
  | 0, _ => rfl
  | 1, _ => rfl
  | 2, _ => rfl
  | 3, _ => rfl

set_option maxRecDepth 100000 in
theorem gridPlays_bad (a h : Int) (v : Int) (zs : List Int) (A : Option Addr) (m cap : Nat) (x y x0 y0 x1 y1 i : Int) (w : World) (hz : Rd w A (vi .i64 zs)) (hl : zs.length = m * 5) (ha : I6 a) (hh : I6 h) (hc : ¬ gnewC a h v = 0) :
    Ret Try.prog 8 [.int .i64 a, .int .i64 h, .int .i64 v, .slice A m cap, .agg #[.int .i64 x, .int .i64 y], .agg #[.int .i64 x0, .int .i64 y0, .int .i64 x1, .int .i64 y1], .int .i64 i] w (fun z w' => z = .bool true ∧ Below w.heap.size w w') := by
  refine ret_enter Try.func8 rfl rfl rfl ?_
  have H0 := HS.start w
  refine cw_seq ?_
  refine cw_reg ?_
  refine reg_op (op_box (cs := [.int _ _, .int _ _]) H0 rfl rfl rfl) rfl rfl ?_
  rintro _ w2 ⟨b1, rfl, H3⟩
  refine reg_op (op_box (cs := [.int _ _, .int _ _, .int _ _, .int _ _]) H3 rfl rfl rfl) rfl rfl ?_
  rintro _ w5 ⟨b4, rfl, H6⟩
  refine ry (y_asg rfl rfl) rfl rfl ?_
  refine reg_nil ?_
  refine fn_next ?_
  refine cw_seq ?_
  refine cw_seq ?_
  refine cw_reg ?_
  refine reg_op (op_call (gridAwake _) rfl kflaw9b_1 trivial) rfl rfl ?_
  rintro _ w8 ⟨rfl, e7⟩
  have H9 := H6.ext e7
  refine ry (y_not rfl rfl) rfl rfl ?_
  refine reg_nil ?_
  refine fn_next ?_
  refine cw_condf rfl ?_
  refine cw_skip ?_
  refine fn_next ?_
  refine cw_seq ?_
  refine cw_seq ?_
  refine cw_reg ?_
  refine ry (y_mov rfl rfl) rfl rfl ?_
  refine ry (y_len rfl Try.underlying73 rfl) rfl rfl ?_
  refine ry (y_gtr rfl rfl rfl) rfl rfl ?_
  refine ry (y_mov rfl rfl) rfl rfl ?_
  refine rg_splitd (d := 39) rfl (fun h10 => ?_) (fun h10 => ?_)
  · skip
    refine rg_off rfl rfl rfl rfl rfl ?_
    refine rg_off rfl rfl rfl rfl rfl ?_
    refine rg_off rfl rfl rfl rfl rfl ?_
    refine rg_offu rfl rfl rfl rfl ?_
    refine rg_offu rfl rfl rfl rfl ?_
    refine rg_off rfl rfl rfl rfl rfl ?_
    refine rg_off rfl rfl rfl rfl rfl ?_
    refine rg_offu rfl rfl rfl rfl ?_
    refine rg_offu rfl rfl rfl rfl ?_
    refine rg_off rfl rfl rfl rfl rfl ?_
    refine rg_off rfl rfl rfl rfl rfl ?_
    refine rg_offu rfl rfl rfl rfl ?_
    refine rg_offu rfl rfl rfl rfl ?_
    refine rg_off rfl rfl rfl rfl rfl ?_
    refine rg_off rfl rfl rfl rfl rfl ?_
    refine rg_offu rfl rfl rfl rfl ?_
    refine rg_offu rfl rfl rfl rfl ?_
    refine rg_offu rfl rfl rfl rfl ?_
    refine rg_offu rfl rfl rfl rfl ?_
    refine rg_off rfl rfl rfl rfl rfl ?_
    refine ry (y_pick rfl rfl rfl) rfl rfl ?_
    refine reg_nil ?_
    refine fn_next ?_
    refine cw_condt rfl ?_
    refine cw_seq ?_
    refine cw_reg ?_
    refine ry (y_asg rfl rfl) rfl rfl ?_
    refine reg_nil ?_
    refine fn_next ?_
    refine cw_ret ?_
    refine fn_then_ret ?_
    refine fn_ret1 rfl rfl ?_
    exact ⟨rfl, H9.base⟩
  · skip
    refine rgy (y_mov rfl rfl) rfl rfl rfl rfl ?_
    refine rgy (y_gtr rfl rfl rfl) rfl rfl rfl rfl ?_
    refine rgy (y_mov rfl rfl) rfl rfl rfl rfl ?_
    refine rg_splitd (d := 42) rfl (fun h11 => ?_) (fun h11 => ?_)
    · skip
      refine rgy (y_mov rfl rfl) rfl rfl rfl rfl ?_
      refine rgy (y_gtr rfl rfl rfl) rfl rfl rfl rfl ?_
      refine rgy (y_pick rfl rfl rfl) rfl rfl rfl rfl ?_
      refine rgy (y_mov rfl rfl) rfl rfl rfl rfl ?_
      refine rg_splitd (d := 46) rfl (fun h12 => ?_) (fun h12 => ?_)
      · skip
        refine rgy (y_mov rfl rfl) rfl rfl rfl rfl ?_
        refine rgy (y_leq rfl rfl rfl) rfl rfl rfl rfl ?_
        refine rgy (y_pick rfl rfl rfl) rfl rfl rfl rfl ?_
        refine rgy (y_mov rfl rfl) rfl rfl rfl rfl ?_
        refine rg_splitd (d := 50) rfl (fun h13 => ?_) (fun h13 => ?_)
        · skip
          refine rgy (y_mov rfl rfl) rfl rfl rfl rfl ?_
          refine rgy (y_leq rfl rfl rfl) rfl rfl rfl rfl ?_
          refine rgy (y_pick rfl rfl rfl) rfl rfl rfl rfl ?_
          refine rgy (y_mov rfl rfl) rfl rfl rfl rfl ?_
          refine rg_splitd (d := 54) rfl (fun h14 => ?_) (fun h14 => ?_)
          · skip
            refine rgy (y_mov rfl rfl) rfl rfl rfl rfl ?_
            refine rgy (y_mov rfl rfl) rfl rfl rfl rfl ?_
            have hmb := area_bd (a := a) (b := h) (by omega) (by omega) (by omega) (by omega)
            refine rgy (y_mul rfl rfl rfl (wi (by omega))) rfl rfl rfl rfl ?_
            refine rgy (y_gtr rfl rfl rfl) rfl rfl rfl rfl ?_
            refine rgy (y_pick rfl rfl rfl) rfl rfl rfl rfl ?_
            refine ry (y_pick rfl rfl rfl) rfl rfl ?_
            refine reg_nil ?_
            refine fn_next ?_
            refine cw_condd rfl (fun h15 => ?_) (fun h15 => ?_)
            · skip
              refine cw_seq ?_
              refine cw_reg ?_
              refine ry (y_asg rfl rfl) rfl rfl ?_
              refine reg_nil ?_
              refine fn_next ?_
              refine cw_ret ?_
              refine fn_then_ret ?_
              refine fn_ret1 rfl rfl ?_
              exact ⟨rfl, H9.base⟩
            · skip
              refine cw_skip ?_
              refine fn_next ?_
              refine cw_seq ?_
              refine cw_reg ?_
              refine ry (y_mov rfl rfl) rfl rfl ?_
              refine ry (y_mov rfl rfl) rfl rfl ?_
              refine ry (y_mov rfl rfl) rfl rfl ?_
              refine reg_op (op_call (gNew_no a h v _ ha hh hc) rfl kflaw9b_2 ⟨rfl, rfl, rfl, trivial⟩) rfl rfl ?_
              rintro _ w17 ⟨rfl, e16⟩
              have H18 := H9.ext e16
              refine ry (y_mov rfl rfl) rfl rfl ?_
              refine ry (y_ext rfl rfl rfl) rfl rfl ?_
              refine ry (y_ext rfl rfl rfl) rfl rfl ?_
              refine ry (y_asg rfl rfl) rfl rfl ?_
              refine ry (y_asg rfl rfl) rfl rfl ?_
              refine reg_nil ?_
              refine fn_next ?_
              refine cw_seq ?_
              refine cw_reg ?_
              refine ry (y_mov rfl rfl) rfl rfl ?_
              refine ry (y_mov rfl rfl) rfl rfl ?_
              refine ry (y_mov rfl rfl) rfl rfl ?_
              refine reg_op (op_call (rNew_no a h v _ hc) rfl kflaw9b_3 ⟨rfl, rfl, rfl, trivial⟩) rfl rfl ?_
              rintro _ w20 ⟨rfl, e19⟩
              have H21 := H18.ext e19
              refine ry (y_mov rfl rfl) rfl rfl ?_
              refine ry (y_ext rfl rfl rfl) rfl rfl ?_
              refine ry (y_ext rfl rfl rfl) rfl rfl ?_
              refine reg_op (op_alloc H21 rfl kflaw9b_4) rfl rfl ?_
              rintro _ w23 ⟨b22, rfl, H24⟩
              refine reg_op (op_st (i := 0) (vs := [.int _ _, .int _ _, .slice _ _ _]) H24 rfl rfl rfl rfl rfl kflaw9b_5 rfl rfl rfl) rfl rfl ?_
              rintro _ w25 H26
              refine ry (y_asg rfl rfl) rfl rfl ?_
              refine reg_nil ?_
              refine fn_next ?_
              refine cw_seq ?_
              refine cw_seq ?_
              refine cw_reg ?_
              refine ry (y_mov rfl rfl) rfl rfl ?_
              refine ry (y_mov rfl rfl) rfl rfl ?_
              refine ry (y_neq rfl rfl rfl) rfl rfl ?_
              refine ry (y_mov rfl rfl) rfl rfl ?_
              refine rg_splitd (d := 78) rfl (fun h27 => ?_) (fun h27 => ?_)
              · exact absurd rfl h27
              · skip
                refine rgy (y_mov rfl rfl) rfl rfl rfl rfl ?_
                refine rgy (y_neq rfl rfl rfl) rfl rfl rfl rfl ?_
                refine rgy (y_mov rfl rfl) rfl rfl rfl rfl ?_
                refine rg_splitd (d := 81) rfl (fun h28 => ?_) (fun h28 => ?_)
                · skip
                  refine rgy (y_mov rfl rfl) rfl rfl rfl rfl ?_
                  refine rgy (y_pneqnil rfl Try.underlying74 rfl rfl) rfl rfl rfl rfl ?_
                  refine rgy (y_pick rfl rfl rfl) rfl rfl rfl rfl ?_
                  refine ry (y_pick rfl rfl rfl) rfl rfl ?_
                  refine reg_nil ?_
                  refine fn_next ?_
                  refine cw_condf rfl ?_
                  refine cw_skip ?_
                  refine fn_next ?_
                  refine cw_seq ?_
                  refine cw_seq ?_
                  refine cw_reg ?_
                  refine ry (y_mov rfl rfl) rfl rfl ?_
                  refine ry (y_neq rfl rfl rfl) rfl rfl ?_
                  refine reg_nil ?_
                  refine fn_next ?_
                  refine cw_condd rfl (fun h29 => ?_) (fun h29 => ?_)
                  · skip
                    refine cw_seq ?_
                    refine cw_reg ?_
                    refine ry (y_asg rfl rfl) rfl rfl ?_
                    refine reg_nil ?_
                    refine fn_next ?_
                    refine cw_ret ?_
                    refine fn_then_ret ?_
                    refine fn_ret1 rfl rfl ?_
                    exact ⟨rfl, H26.base⟩
                  · exact absurd (Classical.not_not.1 h29) hc
                · exact absurd (Classical.not_not.1 h28) hc
          · skip
            refine rg_off rfl rfl rfl rfl rfl ?_
            refine rg_off rfl rfl rfl rfl rfl ?_
            refine rg_off rfl rfl rfl rfl rfl ?_
            refine rg_off rfl rfl rfl rfl rfl ?_
            refine rgy (y_pick rfl rfl rfl) rfl rfl rfl rfl ?_
            refine ry (y_pick rfl rfl rfl) rfl rfl ?_
            refine reg_nil ?_
            refine fn_next ?_
            refine cw_condf rfl ?_
            refine cw_skip ?_
            refine fn_next ?_
            refine cw_seq ?_
            refine cw_reg ?_
            refine ry (y_mov rfl rfl) rfl rfl ?_
            refine ry (y_mov rfl rfl) rfl rfl ?_
            refine ry (y_mov rfl rfl) rfl rfl ?_
            refine reg_op (op_call (gNew_no a h v _ ha hh hc) rfl kflaw9b_2 ⟨rfl, rfl, rfl, trivial⟩) rfl rfl ?_
            rintro _ w31 ⟨rfl, e30⟩
            have H32 := H9.ext e30
            refine ry (y_mov rfl rfl) rfl rfl ?_
            refine ry (y_ext rfl rfl rfl) rfl rfl ?_
            refine ry (y_ext rfl rfl rfl) rfl rfl ?_
            refine ry (y_asg rfl rfl) rfl rfl ?_
            refine ry (y_asg rfl rfl) rfl rfl ?_
            refine reg_nil ?_
            refine fn_next ?_
            refine cw_seq ?_
            refine cw_reg ?_
            refine ry (y_mov rfl rfl) rfl rfl ?_
            refine ry (y_mov rfl rfl) rfl rfl ?_
            refine ry (y_mov rfl rfl) rfl rfl ?_
            refine reg_op (op_call (rNew_no a h v _ hc) rfl kflaw9b_3 ⟨rfl, rfl, rfl, trivial⟩) rfl rfl ?_
            rintro _ w34 ⟨rfl, e33⟩
            have H35 := H32.ext e33
            refine ry (y_mov rfl rfl) rfl rfl ?_
            refine ry (y_ext rfl rfl rfl) rfl rfl ?_
            refine ry (y_ext rfl rfl rfl) rfl rfl ?_
            refine reg_op (op_alloc H35 rfl kflaw9b_4) rfl rfl ?_
            rintro _ w37 ⟨b36, rfl, H38⟩
            refine reg_op (op_st (i := 0) (vs := [.int _ _, .int _ _, .slice _ _ _]) H38 rfl rfl rfl rfl rfl kflaw9b_5 rfl rfl rfl) rfl rfl ?_
            rintro _ w39 H40
            refine ry (y_asg rfl rfl) rfl rfl ?_
            refine reg_nil ?_
            refine fn_next ?_
            refine cw_seq ?_
            refine cw_seq ?_
            refine cw_reg ?_
            refine ry (y_mov rfl rfl) rfl rfl ?_
            refine ry (y_mov rfl rfl) rfl rfl ?_
            refine ry (y_neq rfl rfl rfl) rfl rfl ?_
            refine ry (y_mov rfl rfl) rfl rfl ?_
            refine rg_splitd (d := 78) rfl (fun h41 => ?_) (fun h41 => ?_)
            · exact absurd rfl h41
            · skip
              refine rgy (y_mov rfl rfl) rfl rfl rfl rfl ?_
              refine rgy (y_neq rfl rfl rfl) rfl rfl rfl rfl ?_
              refine rgy (y_mov rfl rfl) rfl rfl rfl rfl ?_
              refine rg_splitd (d := 81) rfl (fun h42 => ?_) (fun h42 => ?_)
              · skip
                refine rgy (y_mov rfl rfl) rfl rfl rfl rfl ?_
                refine rgy (y_pneqnil rfl Try.underlying74 rfl rfl) rfl rfl rfl rfl ?_
                refine rgy (y_pick rfl rfl rfl) rfl rfl rfl rfl ?_
                refine ry (y_pick rfl rfl rfl) rfl rfl ?_
                refine reg_nil ?_
                refine fn_next ?_
                refine cw_condf rfl ?_
                refine cw_skip ?_
                refine fn_next ?_
                refine cw_seq ?_
                refine cw_seq ?_
                refine cw_reg ?_
                refine ry (y_mov rfl rfl) rfl rfl ?_
                refine ry (y_neq rfl rfl rfl) rfl rfl ?_
                refine reg_nil ?_
                refine fn_next ?_
                refine cw_condd rfl (fun h43 => ?_) (fun h43 => ?_)
                · skip
                  refine cw_seq ?_
                  refine cw_reg ?_
                  refine ry (y_asg rfl rfl) rfl rfl ?_
                  refine reg_nil ?_
                  refine fn_next ?_
                  refine cw_ret ?_
                  refine fn_then_ret ?_
                  refine fn_ret1 rfl rfl ?_
                  exact ⟨rfl, H40.base⟩
                · exact absurd (Classical.not_not.1 h43) hc
              · exact absurd (Classical.not_not.1 h42) hc
        · skip
          refine rg_off rfl rfl rfl rfl rfl ?_
          refine rg_off rfl rfl rfl rfl rfl ?_
          refine rgy (y_pick rfl rfl rfl) rfl rfl rfl rfl ?_
          refine rgy (y_mov rfl rfl) rfl rfl rfl rfl ?_
          refine rg_off rfl rfl rfl rfl rfl ?_
          refine rg_off rfl rfl rfl rfl rfl ?_
          refine rg_off rfl rfl rfl rfl rfl ?_
          refine rg_off rfl rfl rfl rfl rfl ?_
          refine rgy (y_pick rfl rfl rfl) rfl rfl rfl rfl ?_
          refine ry (y_pick rfl rfl rfl) rfl rfl ?_
          refine reg_nil ?_
          refine fn_next ?_
          refine cw_condf rfl ?_
          refine cw_skip ?_
          refine fn_next ?_
          refine cw_seq ?_
          refine cw_reg ?_
          refine ry (y_mov rfl rfl) rfl rfl ?_
          refine ry (y_mov rfl rfl) rfl rfl ?_
          refine ry (y_mov rfl rfl) rfl rfl ?_
          refine reg_op (op_call (gNew_no a h v _ ha hh hc) rfl kflaw9b_2 ⟨rfl, rfl, rfl, trivial⟩) rfl rfl ?_
          rintro _ w45 ⟨rfl, e44⟩
          have H46 := H9.ext e44
          refine ry (y_mov rfl rfl) rfl rfl ?_
          refine ry (y_ext rfl rfl rfl) rfl rfl ?_
          refine ry (y_ext rfl rfl rfl) rfl rfl ?_
          refine ry (y_asg rfl rfl) rfl rfl ?_
          refine ry (y_asg rfl rfl) rfl rfl ?_
          refine reg_nil ?_
          refine fn_next ?_
          refine cw_seq ?_
          refine cw_reg ?_
          refine ry (y_mov rfl rfl) rfl rfl ?_
          refine ry (y_mov rfl rfl) rfl rfl ?_
          refine ry (y_mov rfl rfl) rfl rfl ?_
          refine reg_op (op_call (rNew_no a h v _ hc) rfl kflaw9b_3 ⟨rfl, rfl, rfl, trivial⟩) rfl rfl ?_
          rintro _ w48 ⟨rfl, e47⟩
          have H49 := H46.ext e47
          refine ry (y_mov rfl rfl) rfl rfl ?_
          refine ry (y_ext rfl rfl rfl) rfl rfl ?_
          refine ry (y_ext rfl rfl rfl) rfl rfl ?_
          refine reg_op (op_alloc H49 rfl kflaw9b_4) rfl rfl ?_
          rintro _ w51 ⟨b50, rfl, H52⟩
          refine reg_op (op_st (i := 0) (vs := [.int _ _, .int _ _, .slice _ _ _]) H52 rfl rfl rfl rfl rfl kflaw9b_5 rfl rfl rfl) rfl rfl ?_
          rintro _ w53 H54
          refine ry (y_asg rfl rfl) rfl rfl ?_
          refine reg_nil ?_
          refine fn_next ?_
          refine cw_seq ?_
          refine cw_seq ?_
          refine cw_reg ?_
          refine ry (y_mov rfl rfl) rfl rfl ?_
          refine ry (y_mov rfl rfl) rfl rfl ?_
          refine ry (y_neq rfl rfl rfl) rfl rfl ?_
          refine ry (y_mov rfl rfl) rfl rfl ?_
          refine rg_splitd (d := 78) rfl (fun h55 => ?_) (fun h55 => ?_)
          · exact absurd rfl h55
          · skip
            refine rgy (y_mov rfl rfl) rfl rfl rfl rfl ?_
            refine rgy (y_neq rfl rfl rfl) rfl rfl rfl rfl ?_
            refine rgy (y_mov rfl rfl) rfl rfl rfl rfl ?_
            refine rg_splitd (d := 81) rfl (fun h56 => ?_) (fun h56 => ?_)
            · skip
              refine rgy (y_mov rfl rfl) rfl rfl rfl rfl ?_
              refine rgy (y_pneqnil rfl Try.underlying74 rfl rfl) rfl rfl rfl rfl ?_
              refine rgy (y_pick rfl rfl rfl) rfl rfl rfl rfl ?_
              refine ry (y_pick rfl rfl rfl) rfl rfl ?_
              refine reg_nil ?_
              refine fn_next ?_
              refine cw_condf rfl ?_
              refine cw_skip ?_
              refine fn_next ?_
              refine cw_seq ?_
              refine cw_seq ?_
              refine cw_reg ?_
              refine ry (y_mov rfl rfl) rfl rfl ?_
              refine ry (y_neq rfl rfl rfl) rfl rfl ?_
              refine reg_nil ?_
              refine fn_next ?_
              refine cw_condd rfl (fun h57 => ?_) (fun h57 => ?_)
              · skip
                refine cw_seq ?_
                refine cw_reg ?_
                refine ry (y_asg rfl rfl) rfl rfl ?_
                refine reg_nil ?_
                refine fn_next ?_
                refine cw_ret ?_
                refine fn_then_ret ?_
                refine fn_ret1 rfl rfl ?_
                exact ⟨rfl, H54.base⟩
              · exact absurd (Classical.not_not.1 h57) hc
            · exact absurd (Classical.not_not.1 h56) hc
      · skip
        refine rg_off rfl rfl rfl rfl rfl ?_
        refine rg_off rfl rfl rfl rfl rfl ?_
        refine rgy (y_pick rfl rfl rfl) rfl rfl rfl rfl ?_
        refine rgy (y_mov rfl rfl) rfl rfl rfl rfl ?_
        refine rg_off rfl rfl rfl rfl rfl ?_
        refine rg_off rfl rfl rfl rfl rfl ?_
        refine rgy (y_pick rfl rfl rfl) rfl rfl rfl rfl ?_
        refine rgy (y_mov rfl rfl) rfl rfl rfl rfl ?_
        refine rg_off rfl rfl rfl rfl rfl ?_
        refine rg_off rfl rfl rfl rfl rfl ?_
        refine rg_off rfl rfl rfl rfl rfl ?_
        refine rg_off rfl rfl rfl rfl rfl ?_
        refine rgy (y_pick rfl rfl rfl) rfl rfl rfl rfl ?_
        refine ry (y_pick rfl rfl rfl) rfl rfl ?_
        refine reg_nil ?_
        refine fn_next ?_
        refine cw_condf rfl ?_
        refine cw_skip ?_
        refine fn_next ?_
        refine cw_seq ?_
        refine cw_reg ?_
        refine ry (y_mov rfl rfl) rfl rfl ?_
        refine ry (y_mov rfl rfl) rfl rfl ?_
        refine ry (y_mov rfl rfl) rfl rfl ?_
        refine reg_op (op_call (gNew_no a h v _ ha hh hc) rfl kflaw9b_2 ⟨rfl, rfl, rfl, trivial⟩) rfl rfl ?_
        rintro _ w59 ⟨rfl, e58⟩
        have H60 := H9.ext e58
        refine ry (y_mov rfl rfl) rfl rfl ?_
        refine ry (y_ext rfl rfl rfl) rfl rfl ?_
        refine ry (y_ext rfl rfl rfl) rfl rfl ?_
        refine ry (y_asg rfl rfl) rfl rfl ?_
        refine ry (y_asg rfl rfl) rfl rfl ?_
        refine reg_nil ?_
        refine fn_next ?_
        refine cw_seq ?_
        refine cw_reg ?_
        refine ry (y_mov rfl rfl) rfl rfl ?_
        refine ry (y_mov rfl rfl) rfl rfl ?_
        refine ry (y_mov rfl rfl) rfl rfl ?_
        refine reg_op (op_call (rNew_no a h v _ hc) rfl kflaw9b_3 ⟨rfl, rfl, rfl, trivial⟩) rfl rfl ?_
        rintro _ w62 ⟨rfl, e61⟩
        have H63 := H60.ext e61
        refine ry (y_mov rfl rfl) rfl rfl ?_
        refine ry (y_ext rfl rfl rfl) rfl rfl ?_
        refine ry (y_ext rfl rfl rfl) rfl rfl ?_
        refine reg_op (op_alloc H63 rfl kflaw9b_4) rfl rfl ?_
        rintro _ w65 ⟨b64, rfl, H66⟩
        refine reg_op (op_st (i := 0) (vs := [.int _ _, .int _ _, .slice _ _ _]) H66 rfl rfl rfl rfl rfl kflaw9b_5 rfl rfl rfl) rfl rfl ?_
        rintro _ w67 H68
        refine ry (y_asg rfl rfl) rfl rfl ?_
        refine reg_nil ?_
        refine fn_next ?_
        refine cw_seq ?_
        refine cw_seq ?_
        refine cw_reg ?_
        refine ry (y_mov rfl rfl) rfl rfl ?_
        refine ry (y_mov rfl rfl) rfl rfl ?_
        refine ry (y_neq rfl rfl rfl) rfl rfl ?_
        refine ry (y_mov rfl rfl) rfl rfl ?_
        refine rg_splitd (d := 78) rfl (fun h69 => ?_) (fun h69 => ?_)
        · exact absurd rfl h69
        · skip
          refine rgy (y_mov rfl rfl) rfl rfl rfl rfl ?_
          refine rgy (y_neq rfl rfl rfl) rfl rfl rfl rfl ?_
          refine rgy (y_mov rfl rfl) rfl rfl rfl rfl ?_
          refine rg_splitd (d := 81) rfl (fun h70 => ?_) (fun h70 => ?_)
          · skip
            refine rgy (y_mov rfl rfl) rfl rfl rfl rfl ?_
            refine rgy (y_pneqnil rfl Try.underlying74 rfl rfl) rfl rfl rfl rfl ?_
            refine rgy (y_pick rfl rfl rfl) rfl rfl rfl rfl ?_
            refine ry (y_pick rfl rfl rfl) rfl rfl ?_
            refine reg_nil ?_
            refine fn_next ?_
            refine cw_condf rfl ?_
            refine cw_skip ?_
            refine fn_next ?_
            refine cw_seq ?_
            refine cw_seq ?_
            refine cw_reg ?_
            refine ry (y_mov rfl rfl) rfl rfl ?_
            refine ry (y_neq rfl rfl rfl) rfl rfl ?_
            refine reg_nil ?_
            refine fn_next ?_
            refine cw_condd rfl (fun h71 => ?_) (fun h71 => ?_)
            · skip
              refine cw_seq ?_
              refine cw_reg ?_
              refine ry (y_asg rfl rfl) rfl rfl ?_
              refine reg_nil ?_
              refine fn_next ?_
              refine cw_ret ?_
              refine fn_then_ret ?_
              refine fn_ret1 rfl rfl ?_
              exact ⟨rfl, H68.base⟩
            · exact absurd (Classical.not_not.1 h71) hc
          · exact absurd (Classical.not_not.1 h70) hc
    · skip
      refine rg_off rfl rfl rfl rfl rfl ?_
      refine rg_off rfl rfl rfl rfl rfl ?_
      refine rgy (y_pick rfl rfl rfl) rfl rfl rfl rfl ?_
      refine rgy (y_mov rfl rfl) rfl rfl rfl rfl ?_
      refine rg_off rfl rfl rfl rfl rfl ?_
      refine rg_off rfl rfl rfl rfl rfl ?_
      refine rgy (y_pick rfl rfl rfl) rfl rfl rfl rfl ?_
      refine rgy (y_mov rfl rfl) rfl rfl rfl rfl ?_
      refine rg_off rfl rfl rfl rfl rfl ?_
      refine rg_off rfl rfl rfl rfl rfl ?_
      refine rgy (y_pick rfl rfl rfl) rfl rfl rfl rfl ?_
      refine rgy (y_mov rfl rfl) rfl rfl rfl rfl ?_
      refine rg_off rfl rfl rfl rfl rfl ?_
      refine rg_off rfl rfl rfl rfl rfl ?_
      refine rg_off rfl rfl rfl rfl rfl ?_
      refine rg_off rfl rfl rfl rfl rfl ?_
      refine rgy (y_pick rfl rfl rfl) rfl rfl rfl rfl ?_
      refine ry (y_pick rfl rfl rfl) rfl rfl ?_
      refine reg_nil ?_
      refine fn_next ?_
      refine cw_condf rfl ?_
      refine cw_skip ?_
      refine fn_next ?_
      refine cw_seq ?_
      refine cw_reg ?_
      refine ry (y_mov rfl rfl) rfl rfl ?_
      refine ry (y_mov rfl rfl) rfl rfl ?_
      refine ry (y_mov rfl rfl) rfl rfl ?_
      refine reg_op (op_call (gNew_no a h v _ ha hh hc) rfl kflaw9b_2 ⟨rfl, rfl, rfl, trivial⟩) rfl rfl ?_
      rintro _ w73 ⟨rfl, e72⟩
      have H74 := H9.ext e72
      refine ry (y_mov rfl rfl) rfl rfl ?_
      refine ry (y_ext rfl rfl rfl) rfl rfl ?_
      refine ry (y_ext rfl rfl rfl) rfl rfl ?_
      refine ry (y_asg rfl rfl) rfl rfl ?_
      refine ry (y_asg rfl rfl) rfl rfl ?_
      refine reg_nil ?_
      refine fn_next ?_
      refine cw_seq ?_
      refine cw_reg ?_
      refine ry (y_mov rfl rfl) rfl rfl ?_
      refine ry (y_mov rfl rfl) rfl rfl ?_
      refine ry (y_mov rfl rfl) rfl rfl ?_
      refine reg_op (op_call (rNew_no a h v _ hc) rfl kflaw9b_3 ⟨rfl, rfl, rfl, trivial⟩) rfl rfl ?_
      rintro _ w76 ⟨rfl, e75⟩
      have H77 := H74.ext e75
      refine ry (y_mov rfl rfl) rfl rfl ?_
      refine ry (y_ext rfl rfl rfl) rfl rfl ?_
      refine ry (y_ext rfl rfl rfl) rfl rfl ?_
      refine reg_op (op_alloc H77 rfl kflaw9b_4) rfl rfl ?_
      rintro _ w79 ⟨b78, rfl, H80⟩
      refine reg_op (op_st (i := 0) (vs := [.int _ _, .int _ _, .slice _ _ _]) H80 rfl rfl rfl rfl rfl kflaw9b_5 rfl rfl rfl) rfl rfl ?_
      rintro _ w81 H82
      refine ry (y_asg rfl rfl) rfl rfl ?_
      refine reg_nil ?_
      refine fn_next ?_
      refine cw_seq ?_
      refine cw_seq ?_
      refine cw_reg ?_
      refine ry (y_mov rfl rfl) rfl rfl ?_
      refine ry (y_mov rfl rfl) rfl rfl ?_
      refine ry (y_neq rfl rfl rfl) rfl rfl ?_
      refine ry (y_mov rfl rfl) rfl rfl ?_
      refine rg_splitd (d := 78) rfl (fun h83 => ?_) (fun h83 => ?_)
      · exact absurd rfl h83
      · skip
        refine rgy (y_mov rfl rfl) rfl rfl rfl rfl ?_
        refine rgy (y_neq rfl rfl rfl) rfl rfl rfl rfl ?_
        refine rgy (y_mov rfl rfl) rfl rfl rfl rfl ?_
        refine rg_splitd (d := 81) rfl (fun h84 => ?_) (fun h84 => ?_)
        · skip
          refine rgy (y_mov rfl rfl) rfl rfl rfl rfl ?_
          refine rgy (y_pneqnil rfl Try.underlying74 rfl rfl) rfl rfl rfl rfl ?_
          refine rgy (y_pick rfl rfl rfl) rfl rfl rfl rfl ?_
          refine ry (y_pick rfl rfl rfl) rfl rfl ?_
          refine reg_nil ?_
          refine fn_next ?_
          refine cw_condf rfl ?_
          refine cw_skip ?_
          refine fn_next ?_
          refine cw_seq ?_
          refine cw_seq ?_
          refine cw_reg ?_
          refine ry (y_mov rfl rfl) rfl rfl ?_
          refine ry (y_neq rfl rfl rfl) rfl rfl ?_
          refine reg_nil ?_
          refine fn_next ?_
          refine cw_condd rfl (fun h85 => ?_) (fun h85 => ?_)
          · skip
            refine cw_seq ?_
            refine cw_reg ?_
            refine ry (y_asg rfl rfl) rfl rfl ?_
            refine reg_nil ?_
            refine fn_next ?_
            refine cw_ret ?_
            refine fn_then_ret ?_
            refine fn_ret1 rfl rfl ?_
            exact ⟨rfl, H82.base⟩
          · exact absurd (Classical.not_not.1 h85) hc
        · exact absurd (Classical.not_not.1 h84) hc

set_option maxRecDepth 100000 in
set_option maxHeartbeats 4000000 in
theorem gridPlays_ok (a h : Nat) (v : Int) (zs : List Int) (A : Option Addr) (m cap : Nat) (x y x0 y0 x1 y1 i : Int) (w : World) (hz : Rd w A (vi .i64 zs)) (hl : zs.length = m * 5) (p : SzG a h) (hv : B32 v) :
    Ret Try.prog 8 [.int .i64 (a : Int), .int .i64 (h : Int), .int .i64 v, .slice A m cap, .agg #[.int .i64 x, .int .i64 y], .agg #[.int .i64 x0, .int .i64 y0, .int .i64 x1, .int .i64 y1], .int .i64 i] w (fun z w' => z = .bool true ∧ Below w.heap.size w w') := by
  have hm := p.mul
  obtain ⟨s1, s2, s3, s4⟩ := id p
  refine ret_enter Try.func8 rfl rfl rfl ?_
  have H0 := HS.start w
  refine cw_seq ?_
  refine cw_reg ?_
  refine reg_op (op_box (cs := [.int _ _, .int _ _]) H0 rfl rfl rfl) rfl rfl ?_
  rintro _ w2 ⟨b1, rfl, H3⟩
  refine reg_op (op_box (cs := [.int _ _, .int _ _, .int _ _, .int _ _]) H3 rfl rfl rfl) rfl rfl ?_
  rintro _ w5 ⟨b4, rfl, H6⟩
  refine ry (y_asg rfl rfl) rfl rfl ?_
  refine reg_nil ?_
  refine fn_next ?_
  refine cw_seq ?_
  refine cw_seq ?_
  refine cw_reg ?_
  refine reg_op (op_call (gridAwake _) rfl kflaw9b_1 trivial) rfl rfl ?_
  rintro _ w8 ⟨rfl, e7⟩
  have H9 := H6.ext e7
  refine ry (y_not rfl rfl) rfl rfl ?_
  refine reg_nil ?_
  refine fn_next ?_
  refine cw_condf rfl ?_
  refine cw_skip ?_
  refine fn_next ?_
  refine cw_seq ?_
  refine cw_seq ?_
  refine cw_reg ?_
  refine ry (y_mov rfl rfl) rfl rfl ?_
  refine ry (y_len rfl Try.underlying73 rfl) rfl rfl ?_
  refine ry (y_gtr rfl rfl rfl) rfl rfl ?_
  refine ry (y_mov rfl rfl) rfl rfl ?_
  refine rg_splitd (d := 39) rfl (fun h10 => ?_) (fun h10 => ?_)
  · skip
    refine rg_off rfl rfl rfl rfl rfl ?_
    refine rg_off rfl rfl rfl rfl rfl ?_
    refine rg_off rfl rfl rfl rfl rfl ?_
    refine rg_offu rfl rfl rfl rfl ?_
    refine rg_offu rfl rfl rfl rfl ?_
    refine rg_off rfl rfl rfl rfl rfl ?_
    refine rg_off rfl rfl rfl rfl rfl ?_
    refine rg_offu rfl rfl rfl rfl ?_
    refine rg_offu rfl rfl rfl rfl ?_
    refine rg_off rfl rfl rfl rfl rfl ?_
    refine rg_off rfl rfl rfl rfl rfl ?_
    refine rg_offu rfl rfl rfl rfl ?_
    refine rg_offu rfl rfl rfl rfl ?_
    refine rg_off rfl rfl rfl rfl rfl ?_
    refine rg_off rfl rfl rfl rfl rfl ?_
    refine rg_offu rfl rfl rfl rfl ?_
    refine rg_offu rfl rfl rfl rfl ?_
    refine rg_offu rfl rfl rfl rfl ?_
    refine rg_offu rfl rfl rfl rfl ?_
    refine rg_off rfl rfl rfl rfl rfl ?_
    refine ry (y_pick rfl rfl rfl) rfl rfl ?_
    refine reg_nil ?_
    refine fn_next ?_
    refine cw_condt rfl ?_
    refine cw_seq ?_
    refine cw_reg ?_
    refine ry (y_asg rfl rfl) rfl rfl ?_
    refine reg_nil ?_
    refine fn_next ?_
    refine cw_ret ?_
    refine fn_then_ret ?_
    refine fn_ret1 rfl rfl ?_
    exact ⟨rfl, H9.base⟩
  · skip
    refine rgy (y_mov rfl rfl) rfl rfl rfl rfl ?_
    refine rgy (y_gtr rfl rfl rfl) rfl rfl rfl rfl ?_
    refine rgy (y_mov rfl rfl) rfl rfl rfl rfl ?_
    refine rg_splitd (d := 42) rfl (fun h11 => ?_) (fun h11 => ?_)
    · skip
      refine rgy (y_mov rfl rfl) rfl rfl rfl rfl ?_
      refine rgy (y_gtr rfl rfl rfl) rfl rfl rfl rfl ?_
      refine rgy (y_pick rfl rfl rfl) rfl rfl rfl rfl ?_
      refine rgy (y_mov rfl rfl) rfl rfl rfl rfl ?_
      refine rg_splitd (d := 46) rfl (fun h12 => ?_) (fun h12 => ?_)
      · skip
        refine rgy (y_mov rfl rfl) rfl rfl rfl rfl ?_
        refine rgy (y_leq rfl rfl rfl) rfl rfl rfl rfl ?_
        refine rgy (y_pick rfl rfl rfl) rfl rfl rfl rfl ?_
        refine rgy (y_mov rfl rfl) rfl rfl rfl rfl ?_
        refine rg_splitd (d := 50) rfl (fun h13 => ?_) (fun h13 => ?_)
        · skip
          refine rgy (y_mov rfl rfl) rfl rfl rfl rfl ?_
          refine rgy (y_leq rfl rfl rfl) rfl rfl rfl rfl ?_
          refine rgy (y_pick rfl rfl rfl) rfl rfl rfl rfl ?_
          refine rgy (y_mov rfl rfl) rfl rfl rfl rfl ?_
          refine rg_splitd (d := 54) rfl (fun h14 => ?_) (fun h14 => ?_)
          · skip
            refine rgy (y_mov rfl rfl) rfl rfl rfl rfl ?_
            refine rgy (y_mov rfl rfl) rfl rfl rfl rfl ?_
            refine rgy (y_mul rfl rfl rfl (show _ = ((a * h : Nat) : Int) from by rw [← Int.natCast_mul]; exact wi (by omega))) rfl rfl rfl rfl ?_
            refine rgy (y_gtr rfl rfl rfl) rfl rfl rfl rfl ?_
            refine rgy (y_pick rfl rfl rfl) rfl rfl rfl rfl ?_
            refine ry (y_pick rfl rfl rfl) rfl rfl ?_
            refine reg_nil ?_
            refine fn_next ?_
            refine cw_condd rfl (fun h15 => ?_) (fun h15 => ?_)
            · skip
              refine cw_seq ?_
              refine cw_reg ?_
              refine ry (y_asg rfl rfl) rfl rfl ?_
              refine reg_nil ?_
              refine fn_next ?_
              refine cw_ret ?_
              refine fn_then_ret ?_
              refine fn_ret1 rfl rfl ?_
              exact ⟨rfl, H9.base⟩
            · skip
              refine cw_skip ?_
              refine fn_next ?_
              refine cw_seq ?_
              refine cw_reg ?_
              refine ry (y_mov rfl rfl) rfl rfl ?_
              refine ry (y_mov rfl rfl) rfl rfl ?_
              refine ry (y_mov rfl rfl) rfl rfl ?_
              refine reg_op (op_call (gNew_ok a h v _ (p) (hv)) rfl kflaw9b_2 ⟨rfl, rfl, rfl, trivial⟩) rfl rfl ?_
              rintro _ w17 ⟨g19, bl20, rfl, k16⟩
              have H18 := H9.call k16
              refine ry (y_mov rfl rfl) rfl rfl ?_
              refine ry (y_ext rfl rfl rfl) rfl rfl ?_
              refine ry (y_ext rfl rfl rfl) rfl rfl ?_
              refine ry (y_asg rfl rfl) rfl rfl ?_
              refine ry (y_asg rfl rfl) rfl rfl ?_
              refine reg_nil ?_
              refine fn_next ?_
              refine cw_seq ?_
              refine cw_reg ?_
              refine ry (y_mov rfl rfl) rfl rfl ?_
              refine ry (y_mov rfl rfl) rfl rfl ?_
              refine ry (y_mov rfl rfl) rfl rfl ?_
              refine reg_op (op_call (rNew_ok a h v _ p hv) rfl kflaw9b_3 ⟨rfl, rfl, rfl, trivial⟩) rfl rfl ?_
              rintro _ w22 ⟨A24, c25, rfl, k21⟩
              have H23 := H18.call k21
              refine ry (y_mov rfl rfl) rfl rfl ?_
              refine ry (y_ext rfl rfl rfl) rfl rfl ?_
              refine ry (y_ext rfl rfl rfl) rfl rfl ?_
              refine reg_op (op_alloc H23 rfl kflaw9b_4) rfl rfl ?_
              rintro _ w27 ⟨b26, rfl, H28⟩
              refine reg_op (op_st (i := 0) (vs := [.int _ _, .int _ _, .slice _ _ _]) H28 rfl rfl rfl rfl rfl kflaw9b_5 rfl rfl rfl) rfl rfl ?_
              rintro _ w29 H30
              refine ry (y_asg rfl rfl) rfl rfl ?_
              refine reg_nil ?_
              refine fn_next ?_
              refine cw_seq ?_
              refine cw_seq ?_
              refine cw_reg ?_
              refine ry (y_mov rfl rfl) rfl rfl ?_
              refine ry (y_mov rfl rfl) rfl rfl ?_
              refine ry (y_neq rfl rfl rfl) rfl rfl ?_
              refine ry (y_mov rfl rfl) rfl rfl ?_
              refine rg_splitd (d := 78) rfl (fun h31 => ?_) (fun h31 => ?_)
              · exact absurd rfl h31
              · skip
                refine rgy (y_mov rfl rfl) rfl rfl rfl rfl ?_
                refine rgy (y_neq rfl rfl rfl) rfl rfl rfl rfl ?_
                refine rgy (y_mov rfl rfl) rfl rfl rfl rfl ?_
                refine rg_splitd (d := 81) rfl (fun h32 => ?_) (fun h32 => ?_)
                · exact absurd rfl h32
                · skip
                  refine rg_off rfl rfl rfl rfl rfl ?_
                  refine rg_off rfl rfl rfl rfl rfl ?_
                  refine rgy (y_pick rfl rfl rfl) rfl rfl rfl rfl ?_
                  refine ry (y_pick rfl rfl rfl) rfl rfl ?_
                  refine reg_nil ?_
                  refine fn_next ?_
                  refine cw_condf rfl ?_
                  refine cw_skip ?_
                  refine fn_next ?_
                  refine cw_seq ?_
                  refine cw_seq ?_
                  refine cw_reg ?_
                  refine ry (y_mov rfl rfl) rfl rfl ?_
                  refine ry (y_neq rfl rfl rfl) rfl rfl ?_
                  refine reg_nil ?_
                  refine fn_next ?_
                  refine cw_condd rfl (fun h33 => ?_) (fun h33 => ?_)
                  · exact absurd rfl h33
                  · skip
                    refine cw_skip ?_
                    refine fn_next ?_
                    refine cw_seq ?_
                    refine cw_seq ?_
                    refine cw_reg ?_
                    refine ry (y_asg rfl rfl) rfl rfl ?_
                    refine reg_nil ?_
                    refine fn_next ?_
                    refine cw_block ?_
                    refine cw_loopJ [14, 19, 20, 21, 88, 89, 90, 91, 92, 93, 94, 95, 96, 97, 98, 99, 100, 101, 102, 103, 104, 105, 106, 107, 108, 109, 110, 111, 112, 113, 114, 115, 116, 117, 118, 119, 120, 121, 122, 123] (fun M wl ml => ∃ (k : Nat) (V : List Int) (bl : Nat → Prop) (A' : Option Addr) (cap' : Nat), M = [(19, .int .i64 (k : Int))] ∧ HS w wl [gOb g19 a h (V) bl, Ob.blk b26 [.int .i64 (a : Int), .int .i64 (h : Int), .slice A' (a * h) cap'] 34, Ob.row A' (a * h) cap' (vi .i64 (V)) 2 1, Ob.blk b1 [.int .i64 x, .int .i64 y] 26, Ob.blk b4 [.int .i64 x0, .int .i64 y0, .int .i64 x1, .int .i64 y1] 24] ∧ (k ≤ m) ∧ ml = m - k) ⟨0, _, _, _, _, rfl, (H30.pick (m := [_, _, _, _, _]) [2, 0, 1, 4, 3] rfl (by decide)), Nat.zero_le _, rfl⟩ ⟨rfl, trivial⟩ ?_
                    rintro M w34 m36 ⟨k, V, bl, A', cap', rfl, H35, hp0, rfl⟩
                    have hgv := (H35.rdg (i := 0) rfl).gv
                    have hVl := hgv.len
                    refine cw_seq ?_
                    refine cw_seq ?_
                    refine cw_reg ?_
                    refine ry (y_mov rfl rfl) rfl rfl ?_
                    refine ry (y_mov rfl rfl) rfl rfl ?_
                    refine ry (y_len rfl Try.underlying73 rfl) rfl rfl ?_
                    refine ry (y_lss rfl rfl rfl) rfl rfl ?_
                    refine reg_nil ?_
                    refine fn_next ?_
                    refine cw_condd rfl (fun h37 => ?_) (fun h37 => ?_)
                    · skip
                      have g4 := vi_get (k := .i64) (zs := zs) (i := k * 5 + 4) (by omega)
                      have g0 := vi_get (k := .i64) (zs := zs) (i := k * 5) (by omega)
                      refine cw_skip ?_
                      refine fn_next ?_
                      refine cw_seq ?_
                      refine cw_block ?_
                      refine cw_seq ?_
                      refine cw_drawT H35 [0, 1, 2, 3, 4, 5, 6, 7, 8, 9, 10] (.alt (.step 11 (.alt (.step 12 (.alt (.step 13 (.alt (.step 14 (.step 15 (.step 16 (.step 17 (.leaf))))) (.step 15 (.alt (.step 14 (.step 16 (.step 17 (.leaf)))) (.step 16 (.step 14 (.step 17 (.leaf)))))))) (.alt (.step 14 (.alt (.step 13 (.step 15 (.step 16 (.step 17 (.leaf))))) (.step 15 (.step 13 (.step 16 (.step 17 (.leaf))))))) (.step 15 (.alt (.step 13 (.alt (.step 14 (.step 16 (.step 17 (.leaf)))) (.step 16 (.step 14 (.step 17 (.leaf)))))) (.step 14 (.step 13 (.step 16 (.step 17 (.leaf)))))))))) (.step 15 (.step 12 (.alt (.step 13 (.alt (.step 14 (.step 16 (.step 17 (.leaf)))) (.step 16 (.step 14 (.step 17 (.leaf)))))) (.step 14 (.step 13 (.step 16 (.step 17 (.leaf)))))))))) (.step 15 (.step 11 (.step 12 (.alt (.step 13 (.alt (.step 14 (.step 16 (.step 17 (.leaf)))) (.step 16 (.step 14 (.step 17 (.leaf)))))) (.step 14 (.step 13 (.step 16 (.step 17 (.leaf)))))))))) (fun X HX => (HX.pick (m := [_, _, _, _]) [0, 1, 3, 4] rfl (by decide))) (by kernel_rfl) (by kernel_rfl) (by rfl) ?_
                      simp only [pick, List.getElem?_cons_succ, List.getElem?_cons_zero]
                      refine hk_y (fun Y HY => y_ldb (i := 1) (cs := [_, _, _]) HY rfl rfl kflaw9b_6 rfl rfl) rfl rfl ?_
                      refine hk_y (fun Y HY => y_mov rfl rfl) rfl rfl ?_
                      refine hk_y (fun Y HY => y_mov rfl rfl) rfl rfl ?_
                      refine hk_y (fun Y HY => y_iar (i := k) (hz.below HY.base) rfl rfl rfl kflaw9b_7 (rfl) (by omega) (rfl) (g0)) rfl rfl ?_
                      refine hk_y (fun Y HY => y_far (hz.below HY.base) rfl rfl kflaw9b_8 rfl (g0)) rfl rfl ?_
                      refine hk_y (fun Y HY => y_ldra (cs := [_, _, _, _]) (hz.below HY.base) rfl rfl kflaw9b_9 rfl (by decide) ((fun j v hv => vi_p4 (zs := zs) (p := k * 5) (by omega) j v hv))) rfl rfl ?_
                      refine hk_y (fun Y HY => y_mov rfl rfl) rfl rfl ?_
                      refine hk_y (fun Y HY => y_mov rfl rfl) rfl rfl ?_
                      refine hk_y (fun Y HY => y_iar (i := k) (hz.below HY.base) rfl rfl rfl kflaw9b_7 (rfl) (by omega) (rfl) (g0)) rfl rfl ?_
                      refine hk_y (fun Y HY => y_far (hz.below HY.base) rfl rfl kflaw9b_10 rfl (g0)) rfl rfl ?_
                      refine hk_y (fun Y HY => y_ldr (hz.below HY.base) rfl rfl kflaw9b_11 (g4)) rfl rfl ?_
                      refine hkt_nil [20, 21, 94, 106, 107, 108] (fun M wl => ∃ (b' : Nat) (A2 : Option Addr) (cap2 : Nat), M = [(20, .pointer (some ⟨b', 0, none⟩)), (21, .int .i64 (fillC a h (nth zs (k * 5)) (nth zs (k * 5 + 1)) (nth zs (k * 5 + 2)) (nth zs (k * 5 + 3)) (nth zs (k * 5 + 4))))] ∧ HS w wl [Ob.blk b' [.int .i64 (a : Int), .int .i64 (h : Int), .slice A2 (a * h) cap2] 34, Ob.row A2 (a * h) cap2 (vi .i64 (fillV V a h (nth zs (k * 5)) (nth zs (k * 5 + 1)) (nth zs (k * 5 + 2)) (nth zs (k * 5 + 3)) (nth zs (k * 5 + 4)))) 2 1, gOb g19 a h (V) bl, Ob.blk b26 [.int .i64 (a : Int), .int .i64 (h : Int), .slice A' (a * h) cap'] 34, Ob.blk b1 [.int .i64 x, .int .i64 y] 26, Ob.blk b4 [.int .i64 x0, .int .i64 y0, .int .i64 x1, .int .i64 y1] 24]) (fun wX HX => ?_) ?_
                      · skip
                        refine tt_alt ?_ ?_
                        · skip
                          refine tt_op rfl (op_call (mFill_any w _ a h A' cap' V (nth zs (k * 5)) (nth zs (k * 5 + 1)) (nth zs (k * 5 + 2)) (nth zs (k * 5 + 3)) (nth zs (k * 5 + 4)) _ p hVl (HX.pick (m := [_, _, _, _, _]) [2, 0, 1, 3, 4] rfl (by decide))) rfl kflaw9b_12 ⟨rfl, rfl, rfl, trivial⟩) rfl rfl ?_
                          rintro _ w39 ⟨A40, c41, rfl, H38⟩
                          refine ⟨(H38.pick (m := [_, _, _, _]) [1, 2, 3, 4] rfl (by decide)), fun w42 e44 => ?_⟩
                          have H43 := H38.ext e44
                          refine tt_alt ?_ ?_
                          · skip
                            refine tt_op rfl (Yd.op (y_mov rfl rfl)) rfl rfl ?_
                            rintro _ _ ⟨rfl, rfl⟩
                            refine ⟨(H43.pick (m := [_, _, _, _]) [1, 2, 3, 4] rfl (by decide)), fun w45 e47 => ?_⟩
                            have H46 := H43.ext e47
                            refine tt_alt ?_ ?_
                            · skip
                              refine tt_op rfl (Yd.op (y_ext rfl rfl rfl)) rfl rfl ?_
                              rintro _ _ ⟨rfl, rfl⟩
                              refine ⟨(H46.pick (m := [_, _, _, _]) [1, 2, 3, 4] rfl (by decide)), fun w48 e50 => ?_⟩
                              have H49 := H46.ext e50
                              refine tt_alt ?_ ?_
                              · skip
                                refine tt_op rfl (Yd.op (y_ext rfl rfl rfl)) rfl rfl ?_
                                rintro _ _ ⟨rfl, rfl⟩
                                refine ⟨(H49.pick (m := [_, _, _, _]) [1, 2, 3, 4] rfl (by decide)), fun w51 e53 => ?_⟩
                                have H52 := H49.ext e53
                                refine tt_op rfl (op_alloc H52 rfl kflaw9b_4) rfl rfl ?_
                                rintro _ w55 ⟨b54, rfl, H56⟩
                                refine ⟨(H56.pick (m := [_, _, _, _]) [2, 3, 4, 5] rfl (by decide)), fun w57 e59 => ?_⟩
                                have H58 := H56.ext e59
                                refine tt_op rfl (op_st (i := 0) (vs := [.int _ _, .int _ _, .slice _ _ _]) H58 rfl rfl rfl rfl rfl kflaw9b_5 rfl rfl rfl) rfl rfl ?_
                                rintro _ w60 H61
                                refine ⟨(H61.pick (m := [_, _, _, _]) [2, 3, 4, 5] rfl (by decide)), fun w62 e64 => ?_⟩
                                have H63 := H61.ext e64
                                refine tt_op rfl (Yd.op (y_asg rfl rfl)) rfl rfl ?_
                                rintro _ _ ⟨rfl, rfl⟩
                                refine ⟨(H63.pick (m := [_, _, _, _]) [2, 3, 4, 5] rfl (by decide)), fun w65 e67 => ?_⟩
                                have H66 := H63.ext e67
                                exact tt_leaf ⟨b54, A40, c41, rfl, H66⟩ ⟨rfl, rfl, trivial⟩ (by repeat (first | exact kp_refl | refine kp_app rfl rfl ?_ | refine kp_cons rfl ?_))
                              refine tt_op rfl (op_alloc H49 rfl kflaw9b_4) rfl rfl ?_
                              rintro _ w69 ⟨b68, rfl, H70⟩
                              refine ⟨(H70.pick (m := [_, _, _, _]) [2, 3, 4, 5] rfl (by decide)), fun w71 e73 => ?_⟩
                              have H72 := H70.ext e73
                              refine tt_alt ?_ ?_
                              · skip
                                refine tt_op rfl (Yd.op (y_ext rfl rfl rfl)) rfl rfl ?_
                                rintro _ _ ⟨rfl, rfl⟩
                                refine ⟨(H72.pick (m := [_, _, _, _]) [2, 3, 4, 5] rfl (by decide)), fun w74 e76 => ?_⟩
                                have H75 := H72.ext e76
                                refine tt_op rfl (op_st (i := 0) (vs := [.int _ _, .int _ _, .slice _ _ _]) H75 rfl rfl rfl rfl rfl kflaw9b_5 rfl rfl rfl) rfl rfl ?_
                                rintro _ w77 H78
                                refine ⟨(H78.pick (m := [_, _, _, _]) [2, 3, 4, 5] rfl (by decide)), fun w79 e81 => ?_⟩
                                have H80 := H78.ext e81
                                refine tt_op rfl (Yd.op (y_asg rfl rfl)) rfl rfl ?_
                                rintro _ _ ⟨rfl, rfl⟩
                                refine ⟨(H80.pick (m := [_, _, _, _]) [2, 3, 4, 5] rfl (by decide)), fun w82 e84 => ?_⟩
                                have H83 := H80.ext e84
                                exact tt_leaf ⟨b68, A40, c41, rfl, H83⟩ ⟨rfl, rfl, trivial⟩ (by repeat (first | exact kp_refl | refine kp_app rfl rfl ?_ | refine kp_cons rfl ?_))
                              refine tt_op rfl (op_st (i := 0) (vs := [.int _ _, .int _ _, .slice _ _ _]) H72 rfl rfl rfl rfl rfl kflaw9b_5 rfl rfl rfl) rfl rfl ?_
                              rintro _ w85 H86
                              refine ⟨(H86.pick (m := [_, _, _, _]) [2, 3, 4, 5] rfl (by decide)), fun w87 e89 => ?_⟩
                              have H88 := H86.ext e89
                              refine tt_op rfl (Yd.op (y_ext rfl rfl rfl)) rfl rfl ?_
                              rintro _ _ ⟨rfl, rfl⟩
                              refine ⟨(H88.pick (m := [_, _, _, _]) [2, 3, 4, 5] rfl (by decide)), fun w90 e92 => ?_⟩
                              have H91 := H88.ext e92
                              refine tt_op rfl (Yd.op (y_asg rfl rfl)) rfl rfl ?_
                              rintro _ _ ⟨rfl, rfl⟩
                              refine ⟨(H91.pick (m := [_, _, _, _]) [2, 3, 4, 5] rfl (by decide)), fun w93 e95 => ?_⟩
                              have H94 := H91.ext e95
                              exact tt_leaf ⟨b68, A40, c41, rfl, H94⟩ ⟨rfl, rfl, trivial⟩ (by repeat (first | exact kp_refl | refine kp_app rfl rfl ?_ | refine kp_cons rfl ?_))
                            refine tt_alt ?_ ?_
                            · skip
                              refine tt_op rfl (Yd.op (y_ext rfl rfl rfl)) rfl rfl ?_
                              rintro _ _ ⟨rfl, rfl⟩
                              refine ⟨(H46.pick (m := [_, _, _, _]) [1, 2, 3, 4] rfl (by decide)), fun w96 e98 => ?_⟩
                              have H97 := H46.ext e98
                              refine tt_alt ?_ ?_
                              · skip
                                refine tt_op rfl (Yd.op (y_ext rfl rfl rfl)) rfl rfl ?_
                                rintro _ _ ⟨rfl, rfl⟩
                                refine ⟨(H97.pick (m := [_, _, _, _]) [1, 2, 3, 4] rfl (by decide)), fun w99 e101 => ?_⟩
                                have H100 := H97.ext e101
                                refine tt_op rfl (op_alloc H100 rfl kflaw9b_4) rfl rfl ?_
                                rintro _ w103 ⟨b102, rfl, H104⟩
                                refine ⟨(H104.pick (m := [_, _, _, _]) [2, 3, 4, 5] rfl (by decide)), fun w105 e107 => ?_⟩
                                have H106 := H104.ext e107
                                refine tt_op rfl (op_st (i := 0) (vs := [.int _ _, .int _ _, .slice _ _ _]) H106 rfl rfl rfl rfl rfl kflaw9b_5 rfl rfl rfl) rfl rfl ?_
                                rintro _ w108 H109
                                refine ⟨(H109.pick (m := [_, _, _, _]) [2, 3, 4, 5] rfl (by decide)), fun w110 e112 => ?_⟩
                                have H111 := H109.ext e112
                                refine tt_op rfl (Yd.op (y_asg rfl rfl)) rfl rfl ?_
                                rintro _ _ ⟨rfl, rfl⟩
                                refine ⟨(H111.pick (m := [_, _, _, _]) [2, 3, 4, 5] rfl (by decide)), fun w113 e115 => ?_⟩
                                have H114 := H111.ext e115
                                exact tt_leaf ⟨b102, A40, c41, rfl, H114⟩ ⟨rfl, rfl, trivial⟩ (by repeat (first | exact kp_refl | refine kp_app rfl rfl ?_ | refine kp_cons rfl ?_))
                              refine tt_op rfl (op_alloc H97 rfl kflaw9b_4) rfl rfl ?_
                              rintro _ w117 ⟨b116, rfl, H118⟩
                              refine ⟨(H118.pick (m := [_, _, _, _]) [2, 3, 4, 5] rfl (by decide)), fun w119 e121 => ?_⟩
                              have H120 := H118.ext e121
                              refine tt_op rfl (Yd.op (y_ext rfl rfl rfl)) rfl rfl ?_
                              rintro _ _ ⟨rfl, rfl⟩
                              refine ⟨(H120.pick (m := [_, _, _, _]) [2, 3, 4, 5] rfl (by decide)), fun w122 e124 => ?_⟩
                              have H123 := H120.ext e124
                              refine tt_op rfl (op_st (i := 0) (vs := [.int _ _, .int _ _, .slice _ _ _]) H123 rfl rfl rfl rfl rfl kflaw9b_5 rfl rfl rfl) rfl rfl ?_
                              rintro _ w125 H126
                              refine ⟨(H126.pick (m := [_, _, _, _]) [2, 3, 4, 5] rfl (by decide)), fun w127 e129 => ?_⟩
                              have H128 := H126.ext e129
                              refine tt_op rfl (Yd.op (y_asg rfl rfl)) rfl rfl ?_
                              rintro _ _ ⟨rfl, rfl⟩
                              refine ⟨(H128.pick (m := [_, _, _, _]) [2, 3, 4, 5] rfl (by decide)), fun w130 e132 => ?_⟩
                              have H131 := H128.ext e132
                              exact tt_leaf ⟨b116, A40, c41, rfl, H131⟩ ⟨rfl, rfl, trivial⟩ (by repeat (first | exact kp_refl | refine kp_app rfl rfl ?_ | refine kp_cons rfl ?_))
                            refine tt_op rfl (op_alloc H46 rfl kflaw9b_4) rfl rfl ?_
                            rintro _ w134 ⟨b133, rfl, H135⟩
                            refine ⟨(H135.pick (m := [_, _, _, _]) [2, 3, 4, 5] rfl (by decide)), fun w136 e138 => ?_⟩
                            have H137 := H135.ext e138
                            refine tt_alt ?_ ?_
                            · skip
                              refine tt_op rfl (Yd.op (y_ext rfl rfl rfl)) rfl rfl ?_
                              rintro _ _ ⟨rfl, rfl⟩
                              refine ⟨(H137.pick (m := [_, _, _, _]) [2, 3, 4, 5] rfl (by decide)), fun w139 e141 => ?_⟩
                              have H140 := H137.ext e141
                              refine tt_alt ?_ ?_
                              · skip
                                refine tt_op rfl (Yd.op (y_ext rfl rfl rfl)) rfl rfl ?_
                                rintro _ _ ⟨rfl, rfl⟩
                                refine ⟨(H140.pick (m := [_, _, _, _]) [2, 3, 4, 5] rfl (by decide)), fun w142 e144 => ?_⟩
                                have H143 := H140.ext e144
                                refine tt_op rfl (op_st (i := 0) (vs := [.int _ _, .int _ _, .slice _ _ _]) H143 rfl rfl rfl rfl rfl kflaw9b_5 rfl rfl rfl) rfl rfl ?_
                                rintro _ w145 H146
                                refine ⟨(H146.pick (m := [_, _, _, _]) [2, 3, 4, 5] rfl (by decide)), fun w147 e149 => ?_⟩
                                have H148 := H146.ext e149
                                refine tt_op rfl (Yd.op (y_asg rfl rfl)) rfl rfl ?_
                                rintro _ _ ⟨rfl, rfl⟩
                                refine ⟨(H148.pick (m := [_, _, _, _]) [2, 3, 4, 5] rfl (by decide)), fun w150 e152 => ?_⟩
                                have H151 := H148.ext e152
                                exact tt_leaf ⟨b133, A40, c41, rfl, H151⟩ ⟨rfl, rfl, trivial⟩ (by repeat (first | exact kp_refl | refine kp_app rfl rfl ?_ | refine kp_cons rfl ?_))
                              refine tt_op rfl (op_st (i := 0) (vs := [.int _ _, .int _ _, .slice _ _ _]) H140 rfl rfl rfl rfl rfl kflaw9b_5 rfl rfl rfl) rfl rfl ?_
                              rintro _ w153 H154
                              refine ⟨(H154.pick (m := [_, _, _, _]) [2, 3, 4, 5] rfl (by decide)), fun w155 e157 => ?_⟩
                              have H156 := H154.ext e157
                              refine tt_op rfl (Yd.op (y_ext rfl rfl rfl)) rfl rfl ?_
                              rintro _ _ ⟨rfl, rfl⟩
                              refine ⟨(H156.pick (m := [_, _, _, _]) [2, 3, 4, 5] rfl (by decide)), fun w158 e160 => ?_⟩
                              have H159 := H156.ext e160
                              refine tt_op rfl (Yd.op (y_asg rfl rfl)) rfl rfl ?_
                              rintro _ _ ⟨rfl, rfl⟩
                              refine ⟨(H159.pick (m := [_, _, _, _]) [2, 3, 4, 5] rfl (by decide)), fun w161 e163 => ?_⟩
                              have H162 := H159.ext e163
                              exact tt_leaf ⟨b133, A40, c41, rfl, H162⟩ ⟨rfl, rfl, trivial⟩ (by repeat (first | exact kp_refl | refine kp_app rfl rfl ?_ | refine kp_cons rfl ?_))
                            refine tt_op rfl (Yd.op (y_ext rfl rfl rfl)) rfl rfl ?_
                            rintro _ _ ⟨rfl, rfl⟩
                            refine ⟨(H137.pick (m := [_, _, _, _]) [2, 3, 4, 5] rfl (by decide)), fun w164 e166 => ?_⟩
                            have H165 := H137.ext e166
                            refine tt_op rfl (Yd.op (y_ext rfl rfl rfl)) rfl rfl ?_
                            rintro _ _ ⟨rfl, rfl⟩
                            refine ⟨(H165.pick (m := [_, _, _, _]) [2, 3, 4, 5] rfl (by decide)), fun w167 e169 => ?_⟩
                            have H168 := H165.ext e169
                            refine tt_op rfl (op_st (i := 0) (vs := [.int _ _, .int _ _, .slice _ _ _]) H168 rfl rfl rfl rfl rfl kflaw9b_5 rfl rfl rfl) rfl rfl ?_
                            rintro _ w170 H171
                            refine ⟨(H171.pick (m := [_, _, _, _]) [2, 3, 4, 5] rfl (by decide)), fun w172 e174 => ?_⟩
                            have H173 := H171.ext e174
                            refine tt_op rfl (Yd.op (y_asg rfl rfl)) rfl rfl ?_
                            rintro _ _ ⟨rfl, rfl⟩
                            refine ⟨(H173.pick (m := [_, _, _, _]) [2, 3, 4, 5] rfl (by decide)), fun w175 e177 => ?_⟩
                            have H176 := H173.ext e177
                            exact tt_leaf ⟨b133, A40, c41, rfl, H176⟩ ⟨rfl, rfl, trivial⟩ (by repeat (first | exact kp_refl | refine kp_app rfl rfl ?_ | refine kp_cons rfl ?_))
                          refine tt_op rfl (op_alloc H43 rfl kflaw9b_4) rfl rfl ?_
                          rintro _ w179 ⟨b178, rfl, H180⟩
                          refine ⟨(H180.pick (m := [_, _, _, _]) [2, 3, 4, 5] rfl (by decide)), fun w181 e183 => ?_⟩
                          have H182 := H180.ext e183
                          refine tt_op rfl (Yd.op (y_mov rfl rfl)) rfl rfl ?_
                          rintro _ _ ⟨rfl, rfl⟩
                          refine ⟨(H182.pick (m := [_, _, _, _]) [2, 3, 4, 5] rfl (by decide)), fun w184 e186 => ?_⟩
                          have H185 := H182.ext e186
                          refine tt_alt ?_ ?_
                          · skip
                            refine tt_op rfl (Yd.op (y_ext rfl rfl rfl)) rfl rfl ?_
                            rintro _ _ ⟨rfl, rfl⟩
                            refine ⟨(H185.pick (m := [_, _, _, _]) [2, 3, 4, 5] rfl (by decide)), fun w187 e189 => ?_⟩
                            have H188 := H185.ext e189
                            refine tt_alt ?_ ?_
                            · skip
                              refine tt_op rfl (Yd.op (y_ext rfl rfl rfl)) rfl rfl ?_
                              rintro _ _ ⟨rfl, rfl⟩
                              refine ⟨(H188.pick (m := [_, _, _, _]) [2, 3, 4, 5] rfl (by decide)), fun w190 e192 => ?_⟩
                              have H191 := H188.ext e192
                              refine tt_op rfl (op_st (i := 0) (vs := [.int _ _, .int _ _, .slice _ _ _]) H191 rfl rfl rfl rfl rfl kflaw9b_5 rfl rfl rfl) rfl rfl ?_
                              rintro _ w193 H194
                              refine ⟨(H194.pick (m := [_, _, _, _]) [2, 3, 4, 5] rfl (by decide)), fun w195 e197 => ?_⟩
                              have H196 := H194.ext e197
                              refine tt_op rfl (Yd.op (y_asg rfl rfl)) rfl rfl ?_
                              rintro _ _ ⟨rfl, rfl⟩
                              refine ⟨(H196.pick (m := [_, _, _, _]) [2, 3, 4, 5] rfl (by decide)), fun w198 e200 => ?_⟩
                              have H199 := H196.ext e200
                              exact tt_leaf ⟨b178, A40, c41, rfl, H199⟩ ⟨rfl, rfl, trivial⟩ (by repeat (first | exact kp_refl | refine kp_app rfl rfl ?_ | refine kp_cons rfl ?_))
                            refine tt_op rfl (op_st (i := 0) (vs := [.int _ _, .int _ _, .slice _ _ _]) H188 rfl rfl rfl rfl rfl kflaw9b_5 rfl rfl rfl) rfl rfl ?_
                            rintro _ w201 H202
                            refine ⟨(H202.pick (m := [_, _, _, _]) [2, 3, 4, 5] rfl (by decide)), fun w203 e205 => ?_⟩
                            have H204 := H202.ext e205
                            refine tt_op rfl (Yd.op (y_ext rfl rfl rfl)) rfl rfl ?_
                            rintro _ _ ⟨rfl, rfl⟩
                            refine ⟨(H204.pick (m := [_, _, _, _]) [2, 3, 4, 5] rfl (by decide)), fun w206 e208 => ?_⟩
                            have H207 := H204.ext e208
                            refine tt_op rfl (Yd.op (y_asg rfl rfl)) rfl rfl ?_
                            rintro _ _ ⟨rfl, rfl⟩
                            refine ⟨(H207.pick (m := [_, _, _, _]) [2, 3, 4, 5] rfl (by decide)), fun w209 e211 => ?_⟩
                            have H210 := H207.ext e211
                            exact tt_leaf ⟨b178, A40, c41, rfl, H210⟩ ⟨rfl, rfl, trivial⟩ (by repeat (first | exact kp_refl | refine kp_app rfl rfl ?_ | refine kp_cons rfl ?_))
                          refine tt_op rfl (Yd.op (y_ext rfl rfl rfl)) rfl rfl ?_
                          rintro _ _ ⟨rfl, rfl⟩
                          refine ⟨(H185.pick (m := [_, _, _, _]) [2, 3, 4, 5] rfl (by decide)), fun w212 e214 => ?_⟩
                          have H213 := H185.ext e214
                          refine tt_op rfl (Yd.op (y_ext rfl rfl rfl)) rfl rfl ?_
                          rintro _ _ ⟨rfl, rfl⟩
                          refine ⟨(H213.pick (m := [_, _, _, _]) [2, 3, 4, 5] rfl (by decide)), fun w215 e217 => ?_⟩
                          have H216 := H213.ext e217
                          refine tt_op rfl (op_st (i := 0) (vs := [.int _ _, .int _ _, .slice _ _ _]) H216 rfl rfl rfl rfl rfl kflaw9b_5 rfl rfl rfl) rfl rfl ?_
                          rintro _ w218 H219
                          refine ⟨(H219.pick (m := [_, _, _, _]) [2, 3, 4, 5] rfl (by decide)), fun w220 e222 => ?_⟩
                          have H221 := H219.ext e222
                          refine tt_op rfl (Yd.op (y_asg rfl rfl)) rfl rfl ?_
                          rintro _ _ ⟨rfl, rfl⟩
                          refine ⟨(H221.pick (m := [_, _, _, _]) [2, 3, 4, 5] rfl (by decide)), fun w223 e225 => ?_⟩
                          have H224 := H221.ext e225
                          exact tt_leaf ⟨b178, A40, c41, rfl, H224⟩ ⟨rfl, rfl, trivial⟩ (by repeat (first | exact kp_refl | refine kp_app rfl rfl ?_ | refine kp_cons rfl ?_))
                        refine tt_op rfl (op_alloc HX rfl kflaw9b_4) rfl rfl ?_
                        rintro _ w227 ⟨b226, rfl, H228⟩
                        refine ⟨(H228.pick (m := [_, _, _, _]) [1, 2, 4, 5] rfl (by decide)), fun w229 e231 => ?_⟩
                        have H230 := H228.ext e231
                        refine tt_op rfl (op_call (mFill_any w _ a h A' cap' V (nth zs (k * 5)) (nth zs (k * 5 + 1)) (nth zs (k * 5 + 2)) (nth zs (k * 5 + 3)) (nth zs (k * 5 + 4)) _ p hVl (H230.pick (m := [_, _, _, _, _, _]) [3, 0, 1, 2, 4, 5] rfl (by decide))) rfl kflaw9b_12 ⟨rfl, rfl, rfl, trivial⟩) rfl rfl ?_
                        rintro _ w233 ⟨A234, c235, rfl, H232⟩
                        refine ⟨(H232.pick (m := [_, _, _, _]) [2, 3, 4, 5] rfl (by decide)), fun w236 e238 => ?_⟩
                        have H237 := H232.ext e238
                        refine tt_op rfl (Yd.op (y_mov rfl rfl)) rfl rfl ?_
                        rintro _ _ ⟨rfl, rfl⟩
                        refine ⟨(H237.pick (m := [_, _, _, _]) [2, 3, 4, 5] rfl (by decide)), fun w239 e241 => ?_⟩
                        have H240 := H237.ext e241
                        refine tt_alt ?_ ?_
                        · skip
                          refine tt_op rfl (Yd.op (y_ext rfl rfl rfl)) rfl rfl ?_
                          rintro _ _ ⟨rfl, rfl⟩
                          refine ⟨(H240.pick (m := [_, _, _, _]) [2, 3, 4, 5] rfl (by decide)), fun w242 e244 => ?_⟩
                          have H243 := H240.ext e244
                          refine tt_alt ?_ ?_
                          · skip
                            refine tt_op rfl (Yd.op (y_ext rfl rfl rfl)) rfl rfl ?_
                            rintro _ _ ⟨rfl, rfl⟩
                            refine ⟨(H243.pick (m := [_, _, _, _]) [2, 3, 4, 5] rfl (by decide)), fun w245 e247 => ?_⟩
                            have H246 := H243.ext e247
                            refine tt_op rfl (op_st (i := 1) (vs := [.int _ _, .int _ _, .slice _ _ _]) H246 rfl rfl rfl rfl rfl kflaw9b_5 rfl rfl rfl) rfl rfl ?_
                            rintro _ w248 H249
                            refine ⟨(H249.pick (m := [_, _, _, _]) [2, 3, 4, 5] rfl (by decide)), fun w250 e252 => ?_⟩
                            have H251 := H249.ext e252
                            refine tt_op rfl (Yd.op (y_asg rfl rfl)) rfl rfl ?_
                            rintro _ _ ⟨rfl, rfl⟩
                            refine ⟨(H251.pick (m := [_, _, _, _]) [2, 3, 4, 5] rfl (by decide)), fun w253 e255 => ?_⟩
                            have H254 := H251.ext e255
                            exact tt_leaf ⟨b226, A234, c235, rfl, (H254.pick (m := [_, _, _, _, _, _]) [1, 0, 2, 3, 4, 5] rfl (by decide))⟩ ⟨rfl, rfl, trivial⟩ (by repeat (first | exact kp_refl | refine kp_app rfl rfl ?_ | refine kp_cons rfl ?_))
                          refine tt_op rfl (op_st (i := 1) (vs := [.int _ _, .int _ _, .slice _ _ _]) H243 rfl rfl rfl rfl rfl kflaw9b_5 rfl rfl rfl) rfl rfl ?_
                          rintro _ w256 H257
                          refine ⟨(H257.pick (m := [_, _, _, _]) [2, 3, 4, 5] rfl (by decide)), fun w258 e260 => ?_⟩
                          have H259 := H257.ext e260
                          refine tt_op rfl (Yd.op (y_ext rfl rfl rfl)) rfl rfl ?_
                          rintro _ _ ⟨rfl, rfl⟩
                          refine ⟨(H259.pick (m := [_, _, _, _]) [2, 3, 4, 5] rfl (by decide)), fun w261 e263 => ?_⟩
                          have H262 := H259.ext e263
                          refine tt_op rfl (Yd.op (y_asg rfl rfl)) rfl rfl ?_
                          rintro _ _ ⟨rfl, rfl⟩
                          refine ⟨(H262.pick (m := [_, _, _, _]) [2, 3, 4, 5] rfl (by decide)), fun w264 e266 => ?_⟩
                          have H265 := H262.ext e266
                          exact tt_leaf ⟨b226, A234, c235, rfl, (H265.pick (m := [_, _, _, _, _, _]) [1, 0, 2, 3, 4, 5] rfl (by decide))⟩ ⟨rfl, rfl, trivial⟩ (by repeat (first | exact kp_refl | refine kp_app rfl rfl ?_ | refine kp_cons rfl ?_))
                        refine tt_op rfl (Yd.op (y_ext rfl rfl rfl)) rfl rfl ?_
                        rintro _ _ ⟨rfl, rfl⟩
                        refine ⟨(H240.pick (m := [_, _, _, _]) [2, 3, 4, 5] rfl (by decide)), fun w267 e269 => ?_⟩
                        have H268 := H240.ext e269
                        refine tt_op rfl (Yd.op (y_ext rfl rfl rfl)) rfl rfl ?_
                        rintro _ _ ⟨rfl, rfl⟩
                        refine ⟨(H268.pick (m := [_, _, _, _]) [2, 3, 4, 5] rfl (by decide)), fun w270 e272 => ?_⟩
                        have H271 := H268.ext e272
                        refine tt_op rfl (op_st (i := 1) (vs := [.int _ _, .int _ _, .slice _ _ _]) H271 rfl rfl rfl rfl rfl kflaw9b_5 rfl rfl rfl) rfl rfl ?_
                        rintro _ w273 H274
                        refine ⟨(H274.pick (m := [_, _, _, _]) [2, 3, 4, 5] rfl (by decide)), fun w275 e277 => ?_⟩
                        have H276 := H274.ext e277
                        refine tt_op rfl (Yd.op (y_asg rfl rfl)) rfl rfl ?_
                        rintro _ _ ⟨rfl, rfl⟩
                        refine ⟨(H276.pick (m := [_, _, _, _]) [2, 3, 4, 5] rfl (by decide)), fun w278 e280 => ?_⟩
                        have H279 := H276.ext e280
                        exact tt_leaf ⟨b226, A234, c235, rfl, (H279.pick (m := [_, _, _, _, _, _]) [1, 0, 2, 3, 4, 5] rfl (by decide))⟩ ⟨rfl, rfl, trivial⟩ (by repeat (first | exact kp_refl | refine kp_app rfl rfl ?_ | refine kp_cons rfl ?_))
                      · skip
                        rintro M w282 ⟨b', A2, cap2, rfl, H281⟩
                        refine fn_next ?_
                        refine cw_seq ?_
                        refine cw_seq ?_
                        refine cw_draw H281 [0, 1, 2, 3, 4, 5, 6, 7, 8, 9, 10, 12] [11, 13] (fun X HX => (HX.pick (m := [_, _, _, _, _]) [0, 1, 3, 4, 5] rfl (by decide))) (by kernel_rfl) (by kernel_rfl) (by rfl) ?_
                        simp only [pick, List.getElem?_cons_succ, List.getElem?_cons_zero]
                        refine hk_y (fun Y HY => y_mov rfl rfl) rfl rfl ?_
                        refine hk_y (fun Y HY => y_mov rfl rfl) rfl rfl ?_
                        refine hk_y (fun Y HY => y_mov rfl rfl) rfl rfl ?_
                        refine hk_y (fun Y HY => y_iar (i := k) (hz.below HY.base) rfl rfl rfl kflaw9b_7 (rfl) (by omega) (rfl) (g0)) rfl rfl ?_
                        refine hk_y (fun Y HY => y_far (hz.below HY.base) rfl rfl kflaw9b_8 rfl (g0)) rfl rfl ?_
                        refine hk_y (fun Y HY => y_ldra (cs := [_, _, _, _]) (hz.below HY.base) rfl rfl kflaw9b_9 rfl (by decide) ((fun j v hv => vi_p4 (zs := zs) (p := k * 5) (by omega) j v hv))) rfl rfl ?_
                        refine hk_y (fun Y HY => y_mov rfl rfl) rfl rfl ?_
                        refine hk_y (fun Y HY => y_mov rfl rfl) rfl rfl ?_
                        refine hk_y (fun Y HY => y_iar (i := k) (hz.below HY.base) rfl rfl rfl kflaw9b_7 (rfl) (by omega) (rfl) (g0)) rfl rfl ?_
                        refine hk_y (fun Y HY => y_far (hz.below HY.base) rfl rfl kflaw9b_10 rfl (g0)) rfl rfl ?_
                        refine hk_y (fun Y HY => y_ldr (hz.below HY.base) rfl rfl kflaw9b_11 (g4)) rfl rfl ?_
                        refine hk_y (fun Y HY => y_mov rfl rfl) rfl rfl ?_
                        refine hk_nil ?_
                        intro w283 H284
                        refine tv_op (op_call (gFill w _ g19 a h (V) bl (nth zs (k * 5)) (nth zs (k * 5 + 1)) (nth zs (k * 5 + 2)) (nth zs (k * 5 + 3)) (nth zs (k * 5 + 4)) _ (H284.pick (m := [_, _, _, _, _, _]) [2, 0, 1, 3, 4, 5] rfl (by decide))) rfl kflaw9b_13 ⟨rfl, rfl, rfl, trivial⟩) rfl rfl ?_
                        rintro _ w286 ⟨bl287, rfl, H285⟩
                        refine ⟨(H285.pick (m := [_, _, _, _, _]) [1, 2, 3, 4, 5] rfl (by decide)), fun w288 e290 => ?_⟩
                        have H289 := H285.ext e290
                        refine tv_op (Yd.op (y_neq rfl rfl rfl)) rfl rfl ?_
                        rintro _ _ ⟨rfl, rfl⟩
                        refine ⟨(H289.pick (m := [_, _, _, _, _]) [1, 2, 3, 4, 5] rfl (by decide)), fun w291 e293 => ?_⟩
                        have H292 := H289.ext e293
                        refine tv_nil ?_
                        refine fn_next ?_
                        refine cw_condd rfl (fun h294 => ?_) (fun h294 => ?_)
                        · exact absurd rfl h294
                        · skip
                          refine cw_skip ?_
                          refine fn_next ?_
                          refine cw_reg ?_
                          refine ry (y_ldb (i := 1) (cs := [_, _, _]) H292 rfl rfl kflaw9b_6 rfl rfl) rfl rfl ?_
                          refine reg_op (op_st (i := 3) (vs := [.int _ _, .int _ _, .slice _ _ _]) H292 rfl rfl rfl rfl rfl kflaw9b_5 rfl rfl rfl) rfl rfl ?_
                          rintro _ w295 H296
                          refine reg_nil ?_
                          refine fn_block ?_
                          refine fn_next ?_
                          refine cw_reg ?_
                          refine ry (y_mov rfl rfl) rfl rfl ?_
                          refine ry (y_add rfl rfl rfl (wi (by omega))) rfl rfl ?_
                          refine ry (y_asg rfl rfl) rfl rfl ?_
                          refine reg_nil ?_
                          refine fn_roundJ ⟨k + 1, _, _, _, _, rfl, (H296.pick (m := [_, _, _, _, _]) [0, 3, 2, 4, 5] rfl (by decide)), by omega, rfl⟩ ⟨rfl, trivial⟩ (by omega) (by repeat (first | exact kp_refl | refine kp_app rfl rfl ?_ | refine kp_cons rfl ?_)) rfl
                    · skip
                      refine cw_exit ?_
                      refine fn_then_exit (fn_then_exit (fn_block_exit ?_))
                      refine fn_next ?_
                      refine cw_seq ?_
                      refine cw_reg ?_
                      refine ry (y_mov rfl rfl) rfl rfl ?_
                      refine ry (y_ldb (i := 3) (cs := [_, _]) H35 rfl rfl kflaw9b_14 rfl rfl) rfl rfl ?_
                      refine reg_op (op_call (gAt g19 a h (V) x y _ (H35.rdg (i := 0) rfl)) rfl kflaw9b_15 ⟨rfl, rfl, trivial⟩) rfl rfl ?_
                      rintro _ w298 ⟨rfl, e297⟩
                      have H299 := H35.ext e297
                      refine ry (y_mov rfl rfl) rfl rfl ?_
                      refine ry (y_ext rfl rfl rfl) rfl rfl ?_
                      refine ry (y_ext rfl rfl rfl) rfl rfl ?_
                      refine ry (y_asg rfl rfl) rfl rfl ?_
                      refine ry (y_asg rfl rfl) rfl rfl ?_
                      refine reg_nil ?_
                      refine fn_next ?_
                      refine cw_seq ?_
                      refine cw_reg ?_
                      refine ry (y_ldb (i := 1) (cs := [_, _, _]) H299 rfl rfl kflaw9b_6 rfl rfl) rfl rfl ?_
                      refine ry (y_ldb (i := 3) (cs := [_, _]) H299 rfl rfl kflaw9b_14 rfl rfl) rfl rfl ?_
                      refine reg_op (op_call (mAt a h _ _ x y V _ p (H299.rd (i := 2) rfl) hVl) rfl kflaw9b_16 ⟨rfl, rfl, trivial⟩) rfl rfl ?_
                      rintro _ w301 ⟨rfl, e300⟩
                      have H302 := H299.ext e300
                      refine ry (y_mov rfl rfl) rfl rfl ?_
                      refine ry (y_ext rfl rfl rfl) rfl rfl ?_
                      refine ry (y_ext rfl rfl rfl) rfl rfl ?_
                      refine ry (y_asg rfl rfl) rfl rfl ?_
                      refine ry (y_asg rfl rfl) rfl rfl ?_
                      refine reg_nil ?_
                      refine fn_next ?_
                      refine cw_seq ?_
                      refine cw_reg ?_
                      refine ry (y_mov rfl rfl) rfl rfl ?_
                      refine ry (y_ldb (i := 4) (cs := [_, _, _, _]) H302 rfl rfl kflaw9b_9 rfl rfl) rfl rfl ?_
                      refine reg_op (op_call (gValues g19 a h (V) x0 y0 x1 y1 _ (H302.rdg (i := 0) rfl)) rfl kflaw9b_17 ⟨rfl, rfl, trivial⟩) rfl rfl ?_
                      rintro _ w304 ⟨A306, c307, rfl, k303⟩
                      have H305 := H302.call k303
                      refine ry (y_mov rfl rfl) rfl rfl ?_
                      refine ry (y_ext rfl rfl rfl) rfl rfl ?_
                      refine ry (y_ext rfl rfl rfl) rfl rfl ?_
                      refine ry (y_asg rfl rfl) rfl rfl ?_
                      refine ry (y_asg rfl rfl) rfl rfl ?_
                      refine reg_nil ?_
                      refine fn_next ?_
                      refine cw_seq ?_
                      refine cw_reg ?_
                      refine ry (y_ldb (i := 2) (cs := [_, _, _]) H305 rfl rfl kflaw9b_6 rfl rfl) rfl rfl ?_
                      refine ry (y_ldb (i := 5) (cs := [_, _, _, _]) H305 rfl rfl kflaw9b_9 rfl rfl) rfl rfl ?_
                      refine reg_op (op_call (rValues a h _ _ V x0 y0 x1 y1 _ p (H305.rd (i := 3) rfl) hVl) rfl kflaw9b_18 ⟨rfl, rfl, trivial⟩) rfl rfl ?_
                      rintro _ w309 ⟨A311, c312, rfl, k308⟩
                      have H310 := H305.call k308
                      refine ry (y_mov rfl rfl) rfl rfl ?_
                      refine ry (y_ext rfl rfl rfl) rfl rfl ?_
                      refine ry (y_ext rfl rfl rfl) rfl rfl ?_
                      refine ry (y_asg rfl rfl) rfl rfl ?_
                      refine ry (y_asg rfl rfl) rfl rfl ?_
                      refine reg_nil ?_
                      refine fn_next ?_
                      refine cw_seq ?_
                      refine cw_reg ?_
                      refine ry (y_mov rfl rfl) rfl rfl ?_
                      refine ry (y_mov rfl rfl) rfl rfl ?_
                      refine reg_op (op_call (gFlat g19 a h (V) i _ (H310.rdg (i := 2) rfl)) rfl kflaw9b_19 ⟨rfl, rfl, trivial⟩) rfl rfl ?_
                      rintro _ w314 ⟨rfl, e313⟩
                      have H315 := H310.ext e313
                      refine ry (y_mov rfl rfl) rfl rfl ?_
                      refine ry (y_ext rfl rfl rfl) rfl rfl ?_
                      refine ry (y_ext rfl rfl rfl) rfl rfl ?_
                      refine ry (y_asg rfl rfl) rfl rfl ?_
                      refine ry (y_asg rfl rfl) rfl rfl ?_
                      refine reg_nil ?_
                      refine fn_next ?_
                      refine cw_seq ?_
                      refine cw_reg ?_
                      refine ry (y_ldb (i := 3) (cs := [_, _, _]) H315 rfl rfl kflaw9b_6 rfl rfl) rfl rfl ?_
                      refine ry (y_mov rfl rfl) rfl rfl ?_
                      refine reg_op (op_call (rFlat a h _ _ V i _ p (H315.rd (i := 4) rfl) hVl) rfl kflaw9b_20 ⟨rfl, rfl, trivial⟩) rfl rfl ?_
                      rintro _ w317 ⟨rfl, e316⟩
                      have H318 := H315.ext e316
                      refine ry (y_mov rfl rfl) rfl rfl ?_
                      refine ry (y_ext rfl rfl rfl) rfl rfl ?_
                      refine ry (y_ext rfl rfl rfl) rfl rfl ?_
                      refine ry (y_asg rfl rfl) rfl rfl ?_
                      refine ry (y_asg rfl rfl) rfl rfl ?_
                      refine reg_nil ?_
                      refine fn_next ?_
                      refine cw_seq ?_
                      refine cw_draw H318 [0, 1, 2, 3, 4, 5, 6, 7, 8, 9, 10, 11, 12, 13, 14, 15, 16, 17, 18, 19, 20, 21, 22, 23, 24, 25, 26, 27, 28, 29, 30, 31, 32, 33, 34, 35, 36, 37, 38, 39, 40, 41, 43] [42, 44, 45, 46, 47] (fun X HX => HX) (by kernel_rfl) (by kernel_rfl) (by rfl) ?_
                      simp only [pick, List.getElem?_cons_succ, List.getElem?_cons_zero]
                      refine hk_y (fun Y HY => y_mov rfl rfl) rfl rfl ?_
                      refine hk_y (fun Y HY => y_mov rfl rfl) rfl rfl ?_
                      refine hk_y (fun Y HY => y_eql rfl rfl rfl) rfl rfl ?_
                      refine hk_y (fun Y HY => y_mov rfl rfl) rfl rfl ?_
                      refine hk_splitd tv_all (d := 163) rfl (fun h319 => ?_) (fun h319 => ?_)
                      · skip
                        refine hk_on (qy_yd fun Y HY => y_mov rfl rfl) rfl rfl rfl rfl ?_
                        refine hk_on (qy_yd fun Y HY => y_mov rfl rfl) rfl rfl rfl rfl ?_
                        refine hk_on (qy_yd fun Y HY => y_eql rfl rfl rfl) rfl rfl rfl rfl ?_
                        refine hk_y (fun Y HY => y_pick rfl rfl rfl) rfl rfl ?_
                        refine hk_y (fun Y HY => y_mov rfl rfl) rfl rfl ?_
                        refine hk_splitd tv_all (d := 168) rfl (fun h320 => ?_) (fun h320 => ?_)
                        · skip
                          refine hk_on (qy_yd fun Y HY => y_mov rfl rfl) rfl rfl rfl rfl ?_
                          refine hk_on (qy_yd fun Y HY => y_mov rfl rfl) rfl rfl rfl rfl ?_
                          refine hk_on (qy_call (fun Y HY => refSame_any _ (gvalV V a h x0 y0 x1 y1).length _ (gvalV V a h x0 y0 x1 y1) _ (gvalV V a h x0 y0 x1 y1).length _ (gvalV V a h x0 y0 x1 y1) _ (HY.rd (i := 1) rfl) rfl (HY.rd (i := 0) rfl) rfl (Nat.le_trans (gvalV_le p) (by decide))) rfl kflaw9b_21 ⟨rfl, rfl, trivial⟩) rfl rfl rfl rfl ?_
                          refine hk_y (fun Y HY => y_pick rfl rfl rfl) rfl rfl ?_
                          refine hk_y (fun Y HY => y_mov rfl rfl) rfl rfl ?_
                          refine hk_splitd tv_all (d := 173) rfl (fun h321 => ?_) (fun h321 => ?_)
                          · skip
                            refine hk_on (qy_yd fun Y HY => y_mov rfl rfl) rfl rfl rfl rfl ?_
                            refine hk_on (qy_yd fun Y HY => y_mov rfl rfl) rfl rfl rfl rfl ?_
                            refine hk_on (qy_yd fun Y HY => y_eql rfl rfl rfl) rfl rfl rfl rfl ?_
                            refine hk_y (fun Y HY => y_pick rfl rfl rfl) rfl rfl ?_
                            refine hk_y (fun Y HY => y_mov rfl rfl) rfl rfl ?_
                            refine hk_splitd tv_all (d := 178) rfl (fun h322 => ?_) (fun h322 => ?_)
                            · skip
                              refine hk_on (qy_yd fun Y HY => y_mov rfl rfl) rfl rfl rfl rfl ?_
                              refine hk_on (qy_yd fun Y HY => y_mov rfl rfl) rfl rfl rfl rfl ?_
                              refine hk_on (qy_yd fun Y HY => y_eql rfl rfl rfl) rfl rfl rfl rfl ?_
                              refine hk_y (fun Y HY => y_pick rfl rfl rfl) rfl rfl ?_
                              refine hk_y (fun Y HY => y_mov rfl rfl) rfl rfl ?_
                              refine hk_splitd tv_all (d := 183) rfl (fun h323 => ?_) (fun h323 => ?_)
                              · skip
                                refine hk_on (qy_yd fun Y HY => y_mov rfl rfl) rfl rfl rfl rfl ?_
                                refine hk_on (qy_yd fun Y HY => y_mov rfl rfl) rfl rfl rfl rfl ?_
                                refine hk_on (qy_yd fun Y HY => y_beql rfl Try.underlying4 rfl rfl) rfl rfl rfl rfl ?_
                                refine hk_y (fun Y HY => y_pick rfl rfl rfl) rfl rfl ?_
                                refine hk_y (fun Y HY => y_mov rfl rfl) rfl rfl ?_
                                refine hk_split tv_all (d := 188) rfl (fun h324 => ?_) (fun h324 => ?_)
                                · skip
                                  refine hk_on (qy_yd fun Y HY => y_mov rfl rfl) rfl rfl rfl rfl ?_
                                  refine hk_on (qy_yd fun Y HY => y_ldb (i := 3) (cs := [_, _, _]) HY rfl rfl kflaw9b_6 rfl rfl) rfl rfl rfl rfl ?_
                                  refine hk_on (qy_call (fun Y HY => lIs _ a h V _ _ _ (HY.rdg (i := 2) rfl) (HY.rd (i := 4) rfl)) rfl kflaw9b_22 ⟨rfl, rfl, trivial⟩) rfl rfl rfl rfl ?_
                                  refine hk_y (fun Y HY => y_pick rfl rfl rfl) rfl rfl ?_
                                  refine hk_y (fun Y HY => y_mov rfl rfl) rfl rfl ?_
                                  refine hk_on (qy_yd fun Y HY => y_mov rfl rfl) rfl rfl rfl rfl ?_
                                  refine hk_on (qy_call (fun Y HY => gAll g19 a h (V)  _ (HY.rdg (i := 2) rfl)) rfl kflaw9b_23 ⟨rfl, trivial⟩) rfl rfl rfl rfl ?_
                                  refine hk_on (qy_yd fun Y HY => y_ldb (i := 3) (cs := [_, _, _]) HY rfl rfl kflaw9b_6 rfl rfl) rfl rfl rfl rfl ?_
                                  refine hk_on (qy_call (fun Y HY => rAll a h _ _ _ p) rfl kflaw9b_24 ⟨rfl, trivial⟩) rfl rfl rfl rfl ?_
                                  refine hk_on (qy_yd fun Y HY => y_seq (ks := [.i64, .i64, .i64, .i64]) (a := [0, 0, (a : Int) - 1, (h : Int) - 1]) (b := [0, 0, (a : Int) - 1, (h : Int) - 1]) rfl (.inl ⟨rfl, rfl⟩) kflaw9b_25 rfl rfl rfl rfl rfl rfl rfl) rfl rfl rfl rfl ?_
                                  refine hk_y (fun Y HY => y_pick rfl rfl rfl) rfl rfl ?_
                                  refine hk_y (fun Y HY => y_mov rfl rfl) rfl rfl ?_
                                  refine hk_splitd tv_all (d := 200) rfl (fun h325 => ?_) (fun h325 => ?_)
                                  · skip
                                    refine hk_on (qy_yd fun Y HY => y_mov rfl rfl) rfl rfl rfl rfl ?_
                                    refine hk_on (qy_yd fun Y HY => y_ldb (i := 3) (cs := [_, _, _]) HY rfl rfl kflaw9b_6 rfl rfl) rfl rfl rfl rfl ?_
                                    refine hk_nil ?_
                                    intro w326 H327
                                    refine tv_on rfl rfl rfl (op_call (gTiles g19 a h (V) _ (H327.rdg (i := 2) rfl)) rfl kflaw9b_26 ⟨rfl, trivial⟩) rfl ?_
                                    rintro _ w329 ⟨A331, c332, rfl, k328⟩
                                    have H330 := H327.call k328
                                    refine ⟨(H330.pick (m := [_, _, _, _, _, _, _]) [1, 2, 3, 4, 5, 6, 7] rfl (by decide)), fun w333 e335 => ?_⟩
                                    have H334 := H330.ext e335
                                    refine tv_on rfl rfl rfl (op_call (rTiles a h _ _ _ p) rfl kflaw9b_27 ⟨rfl, trivial⟩) rfl ?_
                                    rintro _ w337 ⟨A339, c340, rfl, k336⟩
                                    have H338 := H334.call k336
                                    refine ⟨(H338.pick (m := [_, _, _, _, _, _, _]) [2, 3, 4, 5, 6, 7, 8] rfl (by decide)), fun w341 e343 => ?_⟩
                                    have H342 := H338.ext e343
                                    refine tv_on rfl rfl rfl (op_call (SameRects_same _ _ _ _ (piecesL ⟨0, 0, (a : Int) - 1, (h : Int) - 1⟩) _ (H342.rd (i := 1) rfl) (H342.rd (i := 0) rfl) (by rw [tl_len p]; exact Nat.le_trans (Nat.mul_le_mul (show across h ≤ 64 by unfold across; omega) (show across a ≤ 64 by unfold across; omega)) (by decide))) rfl kflaw9b_28 ⟨rfl, rfl, trivial⟩) rfl ?_
                                    rintro _ w345 ⟨rfl, e344⟩
                                    have H346 := H342.ext e344
                                    refine ⟨(H346.pick (m := [_, _, _, _, _, _, _]) [2, 3, 4, 5, 6, 7, 8] rfl (by decide)), fun w347 e349 => ?_⟩
                                    have H348 := H346.ext e349
                                    refine tv_op (Yd.op (y_pick rfl rfl rfl)) rfl rfl ?_
                                    rintro _ _ ⟨rfl, rfl⟩
                                    refine ⟨(H348.pick (m := [_, _, _, _, _, _, _]) [2, 3, 4, 5, 6, 7, 8] rfl (by decide)), fun w350 e352 => ?_⟩
                                    have H351 := H348.ext e352
                                    refine tv_op (Yd.op (y_asg rfl rfl)) rfl rfl ?_
                                    rintro _ _ ⟨rfl, rfl⟩
                                    refine ⟨(H351.pick (m := [_, _, _, _, _, _, _]) [2, 3, 4, 5, 6, 7, 8] rfl (by decide)), fun w353 e355 => ?_⟩
                                    have H354 := H351.ext e355
                                    refine tv_nil ?_
                                    refine fn_next ?_
                                    refine cw_ret ?_
                                    refine fn_ret1 rfl rfl ?_
                                    exact ⟨rfl, H354.base⟩
                                  · exact absurd rfl h325
                                · exact absurd h324 (by simp)
                              · exact absurd rfl h323
                            · exact absurd rfl h322
                          · exact absurd rfl h321
                        · exact absurd rfl h320
                      · exact absurd rfl h319
          · exfalso; omega
        · exfalso; omega
      · exfalso; omega
    · exfalso; omega

theorem gridPlays_all (a h : Int) (v : Int) (zs : List Int) (A : Option Addr) (m cap : Nat) (x y x0 y0 x1 y1 i : Int) (w : World) (hz : Rd w A (vi .i64 zs)) (hl : zs.length = m * 5) (ha : I6 a) (hh : I6 h) : Ret Try.prog 8 [.int .i64 a, .int .i64 h, .int .i64 v, .slice A m cap, .agg #[.int .i64 x, .int .i64 y], .agg #[.int .i64 x0, .int .i64 y0, .int .i64 x1, .int .i64 y1], .int .i64 i] w (fun z w' => z = .bool true ∧ Below w.heap.size w w') := by
  by_cases hc : gnewC a h v = 0
  · obtain ⟨a, h, rfl, rfl, p, hv⟩ := gnewC_zero hc
    exact gridPlays_ok a h v zs A m cap x y x0 y0 x1 y1 i w hz hl p hv
  · exact gridPlays_bad a h v zs A m cap x y x0 y0 x1 y1 i w hz hl ha hh hc

theorem gridPlays_law (a : Int) (h : Int) (v : Int) (zs : List Int) (A3 : Option Addr) (n3 c3 : Nat) (cx cy : Int) (rx0 ry0 rx1 ry1 : Int) (i : Int) (W : World) (ba : I6 a) (bh : I6 h) (bv : I6 v) (hzs : Rd W A3 (vi .i64 zs)) (lzs : zs.length = n3 * 5) (le3 : n3 ≤ c3) (mx3 : c3 ≤ maxLen) (wzs : ∀ z ∈ zs, I6 z) (bcx : I6 cx) (bcy : I6 cy) (brx0 : I6 rx0) (bry0 : I6 ry0) (brx1 : I6 rx1) (bry1 : I6 ry1) (bi : I6 i) :
    Calls Try.prog 8 #[.int .i64 a, .int .i64 h, .int .i64 v, .slice A3 n3 c3, .agg #[.int .i64 cx, .int .i64 cy], .agg #[.int .i64 rx0, .int .i64 ry0, .int .i64 rx1, .int .i64 ry1], .int .i64 i] W fun e w' => e = .returned (.bool true) ∧ Below W.heap.size W w' := lawOf (gridPlays_all a h v zs A3 n3 c3 cx cy rx0 ry0 rx1 ry1 i W hzs lzs ba bh)

end Go.Proofs.Ytkphmcaoioaglaa
