/- Layer 11: PatchNil. -/
import Derived.Test.YtkphmcaoioaglaaRef10
import Derived.Test.YtkphmcaoioaglaaLaw9a
import Derived.Test.YtkphmcaoioaglaaK11
set_option linter.unusedVariables false
set_option linter.unusedSimpArgs false
namespace Go.Proofs.Ytkphmcaoioaglaa
open Go Go.RowKit
theorem kflaw11_1 : (Try.prog.info? 108).bind (fun i => i.zero.map Value.cells) = some (List.toArray [(.int .i64 0), (.int .i64 0), (.int .i64 0), (.int .i64 0), (.slice none 0 0), (.slice none 0 0)]) := by kernel_rfl
theorem kflaw11_2 : callB Try.prog 51 = true := by kernel_rfl
theorem kflaw11_3 : seqB Try.prog 24 4 = true := by kernel_rfl
theorem kflaw11_4 : (Try.prog.info? 24).bind (fun i => i.zero.map Value.cells) = some (List.toArray [(.int .i64 0), (.int .i64 0), (.int .i64 0), (.int .i64 0)]) := by kernel_rfl
theorem kflaw11_5 : szB Try.prog 24 4 = true := by kernel_rfl
theorem kflaw11_6 : callB Try.prog 54 = true := by kernel_rfl
theorem kflaw11_7 : elB Try.prog 88 4 = true := by kernel_rfl
theorem kflaw11_8 : aggB Try.prog 24 4 = true := by kernel_rfl
theorem kflaw11_9 : callB Try.prog 46 = true := by kernel_rfl
theorem kflaw11_10 : elB Try.prog 32 1 = true := by kernel_rfl
theorem kflaw11_11 : oneB Try.prog 2 = true := by kernel_rfl
theorem kflaw11_12 : callB Try.prog 112 = true := by kernel_rfl
theorem kflaw11_13 : (Try.prog.info? 26).bind (fun i => i.zero.map Value.cells) = some (List.toArray [(.int .i64 0), (.int .i64 0)]) := by kernel_rfl
theorem kflaw11_14 : szB Try.prog 26 2 = true := by kernel_rfl
theorem kflaw11_15 : fldB Try.prog 26 0 0 = true := by kernel_rfl
theorem kflaw11_16 : fldB Try.prog 26 1 1 = true := by kernel_rfl
theorem kflaw11_17 : callB Try.prog 113 = true := by kernel_rfl
theorem kflaw11_18 : callB Try.prog 114 = true := by kernel_rfl
theorem kflaw11_19 : szB Try.prog 108 6 = true := by kernel_rfl
theorem kflaw11_20 : fldB Try.prog 108 1 4 = true := by kernel_rfl
theorem kflaw11_21 : szB Try.prog 32 1 = true := by kernel_rfl
theorem kflaw11_22 : fldB Try.prog 108 2 5 = true := by kernel_rfl
theorem kflaw11_23 : aggB Try.prog 108 6 = true := by kernel_rfl
theorem kflaw11_24 : callB Try.prog 71 = true := by kernel_rfl
theorem kflaw11_25 : callB Try.prog 59 = true := by kernel_rfl
theorem kflaw11_26 : callB Try.prog 74 = true := by kernel_rfl
theorem kflaw11_27 : fldB Try.prog 108 0 0 = true := by kernel_rfl
theorem kflaw11_28 : oneB Try.prog 32 = true := by kernel_rfl
theorem kflaw11_29 : callB Try.prog 31 = true := by kernel_rfl
theorem kflaw11_30 : (Try.prog.info? 2).map (fun i => (i.size, i.zero.map Value.cells)) = some (1, some (List.toArray [(.int .i64 0)])) := by kernel_rfl
theorem kflaw11_31 : callB Try.prog 57 = true := by kernel_rfl
theorem kflaw11_32 : callB Try.prog 75 = true := by kernel_rfl
theorem kflaw11_33 : callB Try.prog 76 = true := by kernel_rfl
theorem kflaw11_34 : callB Try.prog 73 = true := by kernel_rfl
theorem kflaw11_35 : callB Try.prog 42 = true := by kernel_rfl
theorem kflaw11_36 : callB Try.prog 77 = true := by kernel_rfl
/-- Values, where it is known what they are -/
theorem gValuesE (g a h : Nat) (V : List Int) (x0 y0 x1 y1 : Int) (L : List Int) (n : Nat) (c : Int) (w : World) (R : GRd w g a h V) (hL : gvalV V a h x0 y0 x1 y1 = L) (hn : L.length = n) (hc : withinC x0 y0 x1 y1 a h = c) :
    Ret Try.prog 46 [pt (some ⟨g, 0, none⟩) 0, .agg #[.int .i64 x0, .int .i64 y0, .int .i64 x1, .int .i64 y1]] w (fun z w' => ∃ A cap, z = .tuple #[.slice A n cap, .int .i64 c] ∧ HS w w' [.row A n cap (vi .i64 L) 2 1]) := by
  have h1 := gValues g a h V x0 y0 x1 y1 w R
  rw [hL, hn, hc] at h1
  exact h1
theorem gTilesE (g a h : Nat) (V : List Int) (l : List Rt) (n : Nat) (w : World) (R : GRd w g a h V) (hl : piecesL ⟨0, 0, (a : Int) - 1, (h : Int) - 1⟩ = l) (hn : l.length = n) :
    Ret Try.prog 54 [.pointer (some ⟨g, 0, none⟩)] w (fun z w' => ∃ A cap, z = .slice A n cap ∧ HS w w' [.row A n cap (rcells l) 24 4]) := by
  have h1 := gTiles g a h V w R
  rw [hl, hn] at h1
  exact h1
theorem aw11 : piecesL ⟨0, 0, ((3 : Nat) : Int) - 1, ((1 : Nat) : Int) - 1⟩ = [⟨0, 0, 2, 0⟩] ∧ gvalV [1, 2, 3] 3 1 0 0 2 0 = [1, 2, 3] ∧ gvalV [1, 5, 3] 3 1 0 0 2 0 = [1, 5, 3] ∧ gvalV [1, 2, 3] 3 1 1 0 1 0 = [2] ∧ gvalV [1, 5, 3] 3 1 1 0 1 0 = [5] ∧ withinC 0 0 2 0 3 1 = 0 ∧ withinC 1 0 1 0 3 1 = 0 ∧
    nthX 0 0 2 0 1 = 1 ∧ nthY 0 0 2 0 1 = 0 ∧ nthB 0 0 2 0 1 = true ∧ hullV ⟨1, 0, 0, 0⟩ ⟨1, 0, 1, 0⟩ = ⟨1, 0, 1, 0⟩ ∧ rightB 1 0 1 0 = true ∧ pasteC 3 1 0 0 (((3 : Nat) : Int) - 1) (((1 : Nat) : Int) - 1) [1, 5, 3] = 0 ∧ pasteV [1, 2, 3] 3 1 0 0 (((3 : Nat) : Int) - 1) (((1 : Nat) : Int) - 1) [1, 5, 3] = [1, 5, 3] ∧ fromC ((3 : Nat) : Int) ((1 : Nat) : Int) [1, 2, 3] = 0 := by decide +kernel

set_option maxRecDepth 100000 in
theorem patBetween (g g2 : Nat) (w : World) (R : GRd w g 3 1 [1, 2, 3]) (R2 : GRd w g2 3 1 [1, 5, 3]) :
    Ret Try.prog 74 [.pointer (some ⟨g, 0, none⟩), .pointer (some ⟨g2, 0, none⟩)] w (fun z w' => ∃ A c B d, z = .tuple #[.agg #[.int .i64 1, .int .i64 0, .int .i64 1, .int .i64 0, .slice A 1 c, .slice B 1 d], .int .i64 0] ∧ HS w w' [.row A 1 c (vi .i64 [2]) 2 1, .row B 1 d (vi .i64 [5]) 2 1]) := by
  obtain ⟨q1, q2, q3, q4, q5, q6, q7, q8, q9, q10, q11, q12, q13, q14, q15⟩ := aw11
  refine ret_enter Try.func74 rfl rfl rfl ?_
  have H0 := HS.start w
  refine cw_seq ?_
  refine cw_reg ?_
  refine reg_op (op_alloc H0 rfl kflaw11_1) rfl rfl ?_
  rintro _ w2 ⟨b1, rfl, H3⟩
  refine ry (y_asg rfl rfl) rfl rfl ?_
  refine reg_nil ?_
  refine fn_next ?_
  refine cw_seq ?_
  refine cw_seq ?_
  refine cw_reg ?_
  refine ry (y_mov rfl rfl) rfl rfl ?_
  refine ry (y_peqlnil rfl Try.underlying74 rfl rfl) rfl rfl ?_
  refine ry (y_mov rfl rfl) rfl rfl ?_
  refine rgy (y_mov rfl rfl) rfl rfl rfl rfl ?_
  refine rgy (y_peqlnil rfl Try.underlying74 rfl rfl) rfl rfl rfl rfl ?_
  refine ry (y_pick rfl rfl rfl) rfl rfl ?_
  refine reg_nil ?_
  refine fn_next ?_
  refine cw_condf rfl ?_
  refine cw_skip ?_
  refine fn_next ?_
  refine cw_seq ?_
  refine cw_seq ?_
  refine cw_reg ?_
  refine ry (y_mov rfl rfl) rfl rfl ?_
  refine reg_op (op_call (gAll g 3 1 ([1, 2, 3])  _ (R.below H3.base)) rfl kflaw11_2 ⟨rfl, trivial⟩) rfl rfl ?_
  rintro _ w5 ⟨rfl, e4⟩
  have H6 := H3.ext e4
  refine ry (y_mov rfl rfl) rfl rfl ?_
  refine reg_op (op_call (gAll g2 3 1 ([1, 5, 3])  _ (R2.below H6.base)) rfl kflaw11_2 ⟨rfl, trivial⟩) rfl rfl ?_
  rintro _ w8 ⟨rfl, e7⟩
  have H9 := H6.ext e7
  refine ry (y_seq (ks := [.i64, .i64, .i64, .i64]) (a := [0, 0, ((3 : Nat) : Int) - 1, ((1 : Nat) : Int) - 1]) (b := [0, 0, ((3 : Nat) : Int) - 1, ((1 : Nat) : Int) - 1]) rfl (.inr ⟨rfl, rfl⟩) kflaw11_3 rfl rfl rfl rfl rfl rfl rfl) rfl rfl ?_
  refine reg_nil ?_
  refine fn_next ?_
  refine cw_condd rfl (fun h10 => ?_) (fun h10 => ?_)
  · exact absurd rfl h10
  · skip
    refine cw_skip ?_
    refine fn_next ?_
    refine cw_seq ?_
    refine cw_reg ?_
    refine ry (y_build (places := [(0, 1), (1, 1), (2, 1), (3, 1)]) (parts := [(0, _)]) (vs := [(0, _)]) (cs := [.int _ _, .int _ _, .int _ _, .int _ _]) rfl Try.underlying24 (by kernel_rfl) kflaw11_4 rfl ⟨rfl, trivial⟩ rfl) rfl rfl ?_
    refine reg_op (op_alloc H9 rfl kflaw11_4) rfl rfl ?_
    rintro _ w12 ⟨b11, rfl, H13⟩
    refine reg_op (op_st (i := 0) (vs := [.int _ _, .int _ _, .int _ _, .int _ _]) H13 rfl rfl rfl rfl rfl kflaw11_5 rfl rfl rfl) rfl rfl ?_
    rintro _ w14 H15
    refine reg_nil ?_
    refine fn_next ?_
    refine cw_seq ?_
    refine cw_seq ?_
    refine cw_reg ?_
    refine ry (y_mov rfl rfl) rfl rfl ?_
    refine reg_op (op_call (gTilesE g 3 1 [1, 2, 3] [⟨0, 0, 2, 0⟩] 1 _ (R.below H15.base) q1 rfl) rfl kflaw11_6 ⟨rfl, trivial⟩) rfl rfl ?_
    rintro _ w17 ⟨A19, c20, rfl, k16⟩
    have H18 := H15.call k16
    refine ry (y_len rfl Try.underlying88 rfl) rfl rfl ?_
    refine ry (y_mov rfl rfl) rfl rfl ?_
    refine reg_nil ?_
    refine fn_next ?_
    refine cw_block ?_
    refine cw_loopR 2 ?_
    refine cw_seq ?_
    refine cw_reg ?_
    refine ry (y_lss rfl rfl rfl) rfl rfl ?_
    refine reg_nil ?_
    refine fn_next ?_
    refine cw_seq ?_
    refine cw_condd rfl (fun h21 => ?_) (fun h21 => ?_)
    · skip
      refine cw_skip ?_
      refine fn_next ?_
      refine cw_seq ?_
      refine cw_block ?_
      refine cw_seq ?_
      refine cw_reg ?_
      refine ry (y_iar (i := 0) (H18.rd (i := 0) rfl) rfl rfl rfl kflaw11_7 (rfl) (by decide) (rfl) (rfl)) rfl rfl ?_
      refine ry (y_ldra (cs := [_, _, _, _]) (H18.rd (i := 0) rfl) rfl rfl kflaw11_8 rfl (by decide) (fun j v hv => by rw [show (0 : Nat) * 4 + j = j by omega]; exact hv)) rfl rfl ?_
      refine reg_op (op_alloc H18 rfl kflaw11_4) rfl rfl ?_
      rintro _ w23 ⟨b22, rfl, H24⟩
      refine reg_op (op_st (i := 0) (vs := [.int _ _, .int _ _, .int _ _, .int _ _]) H24 rfl rfl rfl rfl rfl kflaw11_5 rfl rfl rfl) rfl rfl ?_
      rintro _ w25 H26
      refine reg_nil ?_
      refine fn_next ?_
      refine cw_seq ?_
      refine cw_reg ?_
      refine ry (y_mov rfl rfl) rfl rfl ?_
      refine ry (y_ldb (i := 0) (cs := [_, _, _, _]) H26 rfl rfl kflaw11_8 rfl rfl) rfl rfl ?_
      refine reg_op (op_call (gValuesE g 3 1 [1, 2, 3] 0 0 2 0 [1, 2, 3] 3 0 _ (R.below H26.base) q2 rfl q6) rfl kflaw11_9 ⟨rfl, rfl, trivial⟩) rfl rfl ?_
      rintro _ w28 ⟨A30, c31, rfl, k27⟩
      have H29 := H26.call k27
      refine ry (y_mov rfl rfl) rfl rfl ?_
      refine ry (y_ext rfl rfl rfl) rfl rfl ?_
      refine ry (y_ext rfl rfl rfl) rfl rfl ?_
      refine ry (y_asg rfl rfl) rfl rfl ?_
      refine ry (y_asg rfl rfl) rfl rfl ?_
      refine reg_nil ?_
      refine fn_next ?_
      refine cw_seq ?_
      refine cw_reg ?_
      refine ry (y_mov rfl rfl) rfl rfl ?_
      refine ry (y_ldb (i := 1) (cs := [_, _, _, _]) H29 rfl rfl kflaw11_8 rfl rfl) rfl rfl ?_
      refine reg_op (op_call (gValuesE g2 3 1 [1, 5, 3] 0 0 2 0 [1, 5, 3] 3 0 _ (R2.below H29.base) q3 rfl q6) rfl kflaw11_9 ⟨rfl, rfl, trivial⟩) rfl rfl ?_
      rintro _ w33 ⟨A35, c36, rfl, k32⟩
      have H34 := H29.call k32
      refine ry (y_mov rfl rfl) rfl rfl ?_
      refine ry (y_ext rfl rfl rfl) rfl rfl ?_
      refine ry (y_ext rfl rfl rfl) rfl rfl ?_
      refine ry (y_asg rfl rfl) rfl rfl ?_
      refine ry (y_asg rfl rfl) rfl rfl ?_
      refine reg_nil ?_
      refine fn_next ?_
      refine cw_seq ?_
      refine cw_reg ?_
      refine ry (y_mov rfl rfl) rfl rfl ?_
      refine ry (y_len rfl Try.underlying32 rfl) rfl rfl ?_
      refine ry (y_mov rfl rfl) rfl rfl ?_
      refine reg_nil ?_
      refine fn_next ?_
      refine cw_block ?_
      refine cw_loopR 4 ?_
      refine cw_seq ?_
      refine cw_reg ?_
      refine ry (y_lss rfl rfl rfl) rfl rfl ?_
      refine reg_nil ?_
      refine fn_next ?_
      refine cw_seq ?_
      refine cw_condd rfl (fun h37 => ?_) (fun h37 => ?_)
      · skip
        refine cw_skip ?_
        refine fn_next ?_
        refine cw_seq ?_
        refine cw_block ?_
        refine cw_seq ?_
        refine cw_reg ?_
        refine ry (y_mov rfl rfl) rfl rfl ?_
        refine ry (y_asg rfl rfl) rfl rfl ?_
        refine reg_nil ?_
        refine fn_next ?_
        refine cw_seq ?_
        refine cw_draw H34 [0, 1, 2, 3, 4, 5, 6, 7, 8] [] (fun X HX => HX) (by kernel_rfl) (by kernel_rfl) (by rfl) ?_
        simp only [pick, List.getElem?_cons_succ, List.getElem?_cons_zero]
        refine hk_y (fun Y HY => y_mov rfl rfl) rfl rfl ?_
        refine hk_y (fun Y HY => y_mov rfl rfl) rfl rfl ?_
        refine hk_y (fun Y HY => y_iar (i := 0) (HY.rd (i := 1) rfl) rfl rfl rfl kflaw11_10 (by decide) (by decide) (Nat.mul_one _) (rfl)) rfl rfl ?_
        refine hk_y (fun Y HY => y_ldr (HY.rd (i := 1) rfl) rfl rfl kflaw11_11 (rfl)) rfl rfl ?_
        refine hk_y (fun Y HY => y_mov rfl rfl) rfl rfl ?_
        refine hk_y (fun Y HY => y_mov rfl rfl) rfl rfl ?_
        refine hk_y (fun Y HY => y_iar (i := 0) (HY.rd (i := 0) rfl) rfl rfl rfl kflaw11_10 (by decide) (by decide) (Nat.mul_one _) (rfl)) rfl rfl ?_
        refine hk_y (fun Y HY => y_ldr (HY.rd (i := 0) rfl) rfl rfl kflaw11_11 (rfl)) rfl rfl ?_
        refine hk_y (fun Y HY => y_neq rfl rfl rfl) rfl rfl ?_
        refine hk_nil ?_
        intro w38 H39
        refine tv_nil ?_
        refine fn_next ?_
        refine cw_condd rfl (fun h40 => ?_) (fun h40 => ?_)
        · exact absurd rfl h40
        · skip
          refine cw_skip ?_
          refine fn_block ?_
          refine fn_next ?_
          refine cw_reg ?_
          refine ry (y_add rfl rfl rfl (wi (by omega))) rfl rfl ?_
          refine ry (y_mov rfl rfl) rfl rfl ?_
          refine reg_nil ?_
          refine fn_roundR ?_
          refine cw_seq ?_
          refine cw_reg ?_
          refine ry (y_lss rfl rfl rfl) rfl rfl ?_
          refine reg_nil ?_
          refine fn_next ?_
          refine cw_seq ?_
          refine cw_condd rfl (fun h41 => ?_) (fun h41 => ?_)
          · skip
            refine cw_skip ?_
            refine fn_next ?_
            refine cw_seq ?_
            refine cw_block ?_
            refine cw_seq ?_
            refine cw_reg ?_
            refine ry (y_mov rfl rfl) rfl rfl ?_
            refine ry (y_asg rfl rfl) rfl rfl ?_
            refine reg_nil ?_
            refine fn_next ?_
            refine cw_seq ?_
            refine cw_draw H39 [0, 1, 2, 3, 4, 5, 6, 7, 8] [] (fun X HX => HX) (by kernel_rfl) (by kernel_rfl) (by rfl) ?_
            simp only [pick, List.getElem?_cons_succ, List.getElem?_cons_zero]
            refine hk_y (fun Y HY => y_mov rfl rfl) rfl rfl ?_
            refine hk_y (fun Y HY => y_mov rfl rfl) rfl rfl ?_
            refine hk_y (fun Y HY => y_iar (i := 1) (HY.rd (i := 1) rfl) rfl rfl rfl kflaw11_10 (by decide) (by decide) (Nat.mul_one _) (rfl)) rfl rfl ?_
            refine hk_y (fun Y HY => y_ldr (HY.rd (i := 1) rfl) rfl rfl kflaw11_11 (rfl)) rfl rfl ?_
            refine hk_y (fun Y HY => y_mov rfl rfl) rfl rfl ?_
            refine hk_y (fun Y HY => y_mov rfl rfl) rfl rfl ?_
            refine hk_y (fun Y HY => y_iar (i := 1) (HY.rd (i := 0) rfl) rfl rfl rfl kflaw11_10 (by decide) (by decide) (Nat.mul_one _) (rfl)) rfl rfl ?_
            refine hk_y (fun Y HY => y_ldr (HY.rd (i := 0) rfl) rfl rfl kflaw11_11 (rfl)) rfl rfl ?_
            refine hk_y (fun Y HY => y_neq rfl rfl rfl) rfl rfl ?_
            refine hk_nil ?_
            intro w42 H43
            refine tv_nil ?_
            refine fn_next ?_
            refine cw_condd rfl (fun h44 => ?_) (fun h44 => ?_)
            · skip
              refine cw_seq ?_
              refine cw_reg ?_
              refine ry (y_ldb (i := 2) (cs := [_, _, _, _]) H43 rfl rfl kflaw11_8 rfl rfl) rfl rfl ?_
              refine ry (y_mov rfl rfl) rfl rfl ?_
              refine reg_op (op_call (ret_v (v := .tuple #[.agg #[.int .i64 1, .int .i64 0], .bool true]) (ret_elder (nth_any 0 0 2 0 1 _)) (by rw [q8, q9, q10])) rfl kflaw11_12 ⟨rfl, rfl, trivial⟩) rfl rfl ?_
              rintro _ w46 ⟨rfl, e45⟩
              have H47 := H43.ext e45
              refine ry (y_mov rfl rfl) rfl rfl ?_
              refine ry (y_ext rfl rfl rfl) rfl rfl ?_
              refine ry (y_ext rfl rfl rfl) rfl rfl ?_
              refine reg_op (op_alloc H47 rfl kflaw11_13) rfl rfl ?_
              rintro _ w49 ⟨b48, rfl, H50⟩
              refine reg_op (op_st (i := 0) (vs := [.int _ _, .int _ _]) H50 rfl rfl rfl rfl rfl kflaw11_14 rfl rfl rfl) rfl rfl ?_
              rintro _ w51 H52
              refine ry (y_asg rfl rfl) rfl rfl ?_
              refine reg_nil ?_
              refine fn_next ?_
              refine cw_reg ?_
              refine ry (y_ldb (i := 5) (cs := [_, _, _, _]) H52 rfl rfl kflaw11_8 rfl rfl) rfl rfl ?_
              refine ry (y_fa rfl rfl kflaw11_15 rfl) rfl rfl ?_
              refine ry (y_ld rfl rfl kflaw11_11 (H52.cell (i := 0) rfl rfl)) rfl rfl ?_
              refine ry (y_fa rfl rfl kflaw11_16 rfl) rfl rfl ?_
              refine ry (y_ld rfl rfl kflaw11_11 (H52.cell (i := 0) rfl rfl)) rfl rfl ?_
              refine ry (y_fa rfl rfl kflaw11_15 rfl) rfl rfl ?_
              refine ry (y_ld rfl rfl kflaw11_11 (H52.cell (i := 0) rfl rfl)) rfl rfl ?_
              refine ry (y_fa rfl rfl kflaw11_16 rfl) rfl rfl ?_
              refine ry (y_ld rfl rfl kflaw11_11 (H52.cell (i := 0) rfl rfl)) rfl rfl ?_
              refine ry (y_build (places := [(0, 1), (1, 1), (2, 1), (3, 1)]) (parts := [(0, _), (1, _), (2, _), (3, _)]) (vs := [(0, _), (1, _), (2, _), (3, _)]) (cs := [.int _ _, .int _ _, .int _ _, .int _ _]) rfl Try.underlying24 (by kernel_rfl) kflaw11_4 rfl ⟨rfl, rfl, rfl, rfl, trivial⟩ rfl) rfl rfl ?_
              refine reg_op (op_call (ret_v (v := .agg #[.int .i64 1, .int .i64 0, .int .i64 1, .int .i64 0]) (ret_elder (hull_any 1 0 0 0 1 0 1 0 _)) (by rw [q11])) rfl kflaw11_17 ⟨rfl, rfl, trivial⟩) rfl rfl ?_
              rintro _ w54 ⟨rfl, e53⟩
              have H55 := H52.ext e53
              refine reg_op (op_st (i := 5) (vs := [.int _ _, .int _ _, .int _ _, .int _ _]) H55 rfl rfl rfl rfl rfl kflaw11_5 rfl rfl rfl) rfl rfl ?_
              rintro _ w56 H57
              refine reg_nil ?_
              refine fn_block ?_
              refine fn_next ?_
              refine cw_reg ?_
              refine ry (y_add rfl rfl rfl (wi (by omega))) rfl rfl ?_
              refine ry (y_mov rfl rfl) rfl rfl ?_
              refine reg_nil ?_
              refine fn_roundR ?_
              refine cw_seq ?_
              refine cw_reg ?_
              refine ry (y_lss rfl rfl rfl) rfl rfl ?_
              refine reg_nil ?_
              refine fn_next ?_
              refine cw_seq ?_
              refine cw_condd rfl (fun h58 => ?_) (fun h58 => ?_)
              · skip
                refine cw_skip ?_
                refine fn_next ?_
                refine cw_seq ?_
                refine cw_block ?_
                refine cw_seq ?_
                refine cw_reg ?_
                refine ry (y_mov rfl rfl) rfl rfl ?_
                refine ry (y_asg rfl rfl) rfl rfl ?_
                refine reg_nil ?_
                refine fn_next ?_
                refine cw_seq ?_
                refine cw_draw H57 [0, 1, 2, 3, 4, 5, 6, 7, 8] [] (fun X HX => HX) (by kernel_rfl) (by kernel_rfl) (by rfl) ?_
                simp only [pick, List.getElem?_cons_succ, List.getElem?_cons_zero]
                refine hk_y (fun Y HY => y_mov rfl rfl) rfl rfl ?_
                refine hk_y (fun Y HY => y_mov rfl rfl) rfl rfl ?_
                refine hk_y (fun Y HY => y_iar (i := 2) (HY.rd (i := 2) rfl) rfl rfl rfl kflaw11_10 (by decide) (by decide) (Nat.mul_one _) (rfl)) rfl rfl ?_
                refine hk_y (fun Y HY => y_ldr (HY.rd (i := 2) rfl) rfl rfl kflaw11_11 (rfl)) rfl rfl ?_
                refine hk_y (fun Y HY => y_mov rfl rfl) rfl rfl ?_
                refine hk_y (fun Y HY => y_mov rfl rfl) rfl rfl ?_
                refine hk_y (fun Y HY => y_iar (i := 2) (HY.rd (i := 1) rfl) rfl rfl rfl kflaw11_10 (by decide) (by decide) (Nat.mul_one _) (rfl)) rfl rfl ?_
                refine hk_y (fun Y HY => y_ldr (HY.rd (i := 1) rfl) rfl rfl kflaw11_11 (rfl)) rfl rfl ?_
                refine hk_y (fun Y HY => y_neq rfl rfl rfl) rfl rfl ?_
                refine hk_nil ?_
                intro w59 H60
                refine tv_nil ?_
                refine fn_next ?_
                refine cw_condd rfl (fun h61 => ?_) (fun h61 => ?_)
                · exact absurd rfl h61
                · skip
                  refine cw_skip ?_
                  refine fn_block ?_
                  refine fn_next ?_
                  refine cw_reg ?_
                  refine ry (y_add rfl rfl rfl (wi (by omega))) rfl rfl ?_
                  refine ry (y_mov rfl rfl) rfl rfl ?_
                  refine reg_nil ?_
                  refine fn_roundR ?_
                  refine cw_seq ?_
                  refine cw_reg ?_
                  refine ry (y_lss rfl rfl rfl) rfl rfl ?_
                  refine reg_nil ?_
                  refine fn_next ?_
                  refine cw_seq ?_
                  refine cw_condd rfl (fun h62 => ?_) (fun h62 => ?_)
                  · exact absurd h62 (by decide)
                  · skip
                    refine cw_exit ?_
                    refine fn_then_exit (fn_then_exit (fn_block_exit ?_))
                    refine fn_block ?_
                    refine fn_next ?_
                    refine cw_reg ?_
                    refine ry (y_add rfl rfl rfl (wi (by omega))) rfl rfl ?_
                    refine ry (y_mov rfl rfl) rfl rfl ?_
                    refine reg_nil ?_
                    refine fn_roundR ?_
                    refine cw_seq ?_
                    refine cw_reg ?_
                    refine ry (y_lss rfl rfl rfl) rfl rfl ?_
                    refine reg_nil ?_
                    refine fn_next ?_
                    refine cw_seq ?_
                    refine cw_condd rfl (fun h63 => ?_) (fun h63 => ?_)
                    · exact absurd h63 (by decide)
                    · skip
                      refine cw_exit ?_
                      refine fn_then_exit (fn_then_exit (fn_block_exit ?_))
                      refine fn_next ?_
                      refine cw_seq ?_
                      refine cw_seq ?_
                      refine cw_reg ?_
                      refine ry (y_ldb (i := 5) (cs := [_, _, _, _]) H60 rfl rfl kflaw11_8 rfl rfl) rfl rfl ?_
                      refine reg_op (op_call (ret_v (v := .bool true) (ret_elder (right_any 1 0 1 0 _)) (by rw [q12])) rfl kflaw11_18 ⟨rfl, trivial⟩) rfl rfl ?_
                      rintro _ w65 ⟨rfl, e64⟩
                      have H66 := H60.ext e64
                      refine ry (y_not rfl rfl) rfl rfl ?_
                      refine reg_nil ?_
                      refine fn_next ?_
                      refine cw_condf rfl ?_
                      refine cw_skip ?_
                      refine fn_next ?_
                      refine cw_seq ?_
                      refine cw_reg ?_
                      refine ry (y_ldb (i := 5) (cs := [_, _, _, _]) H66 rfl rfl kflaw11_8 rfl rfl) rfl rfl ?_
                      refine ry (y_build (places := [(0, 4), (4, 1), (5, 1)]) (parts := [(0, _)]) (vs := [(0, _)]) (cs := [.int _ _, .int _ _, .int _ _, .int _ _, .slice _ _ _, .slice _ _ _]) rfl Try.underlying108 (by kernel_rfl) kflaw11_1 rfl ⟨rfl, trivial⟩ rfl) rfl rfl ?_
                      refine reg_op (op_alloc H66 rfl kflaw11_1) rfl rfl ?_
                      rintro _ w68 ⟨b67, rfl, H69⟩
                      refine reg_op (op_st (i := 0) (vs := [.int _ _, .int _ _, .int _ _, .int _ _, .slice _ _ _, .slice _ _ _]) H69 rfl rfl rfl rfl rfl kflaw11_19 rfl rfl rfl) rfl rfl ?_
                      rintro _ w70 H71
                      refine reg_nil ?_
                      refine fn_next ?_
                      refine cw_seq ?_
                      refine cw_reg ?_
                      refine ry (y_mov rfl rfl) rfl rfl ?_
                      refine ry (y_ldb (i := 6) (cs := [_, _, _, _]) H71 rfl rfl kflaw11_8 rfl rfl) rfl rfl ?_
                      refine reg_op (op_call (gValuesE g 3 1 [1, 2, 3] 1 0 1 0 [2] 1 0 _ (R.below H71.base) q4 rfl q7) rfl kflaw11_9 ⟨rfl, rfl, trivial⟩) rfl rfl ?_
                      rintro _ w73 ⟨A75, c76, rfl, k72⟩
                      have H74 := H71.call k72
                      refine ry (y_mov rfl rfl) rfl rfl ?_
                      refine ry (y_ext rfl rfl rfl) rfl rfl ?_
                      refine ry (y_ext rfl rfl rfl) rfl rfl ?_
                      refine ry (y_fa rfl rfl kflaw11_20 rfl) rfl rfl ?_
                      refine reg_op (op_st (i := 1) (vs := [.slice _ _ _]) H74 rfl rfl rfl rfl rfl kflaw11_21 rfl rfl rfl) rfl rfl ?_
                      rintro _ w77 H78
                      refine reg_nil ?_
                      refine fn_next ?_
                      refine cw_seq ?_
                      refine cw_reg ?_
                      refine ry (y_mov rfl rfl) rfl rfl ?_
                      refine ry (y_ldb (i := 7) (cs := [_, _, _, _]) H78 rfl rfl kflaw11_8 rfl rfl) rfl rfl ?_
                      refine reg_op (op_call (gValuesE g2 3 1 [1, 5, 3] 1 0 1 0 [5] 1 0 _ (R2.below H78.base) q5 rfl q7) rfl kflaw11_9 ⟨rfl, rfl, trivial⟩) rfl rfl ?_
                      rintro _ w80 ⟨A82, c83, rfl, k79⟩
                      have H81 := H78.call k79
                      refine ry (y_mov rfl rfl) rfl rfl ?_
                      refine ry (y_ext rfl rfl rfl) rfl rfl ?_
                      refine ry (y_ext rfl rfl rfl) rfl rfl ?_
                      refine ry (y_fa rfl rfl kflaw11_22 rfl) rfl rfl ?_
                      refine reg_op (op_st (i := 2) (vs := [.slice _ _ _]) H81 rfl rfl rfl rfl rfl kflaw11_21 rfl rfl rfl) rfl rfl ?_
                      rintro _ w84 H85
                      refine reg_nil ?_
                      refine fn_next ?_
                      refine cw_seq ?_
                      refine cw_reg ?_
                      refine ry (y_ldb (i := 2) (cs := [_, _, _, _, _, _]) H85 rfl rfl kflaw11_23 rfl rfl) rfl rfl ?_
                      refine reg_op (op_st (i := 9) (vs := [.int _ _, .int _ _, .int _ _, .int _ _, .slice _ _ _, .slice _ _ _]) H85 rfl rfl rfl rfl rfl kflaw11_19 rfl rfl rfl) rfl rfl ?_
                      rintro _ w86 H87
                      refine ry (y_asg rfl rfl) rfl rfl ?_
                      refine reg_nil ?_
                      refine fn_next ?_
                      refine cw_ret ?_
                      refine fn_retn (vs := [_, _]) rfl ⟨⟨_, rfl, load_agg (cs := [_, _, _, _, _, _]) kflaw11_23 rfl fun j v hv => by rw [Nat.zero_add]; exact H87.cell (i := 9) rfl hv⟩, rfl, trivial⟩ rfl ?_
                      exact ⟨_, _, _, _, rfl, (H87.pick (m := [_, _]) [1, 0] rfl (by decide))⟩
              · exact absurd (by decide) h58
            · exact absurd h44 (by decide)
          · exact absurd (by decide) h41
      · exact absurd (by decide) h37
    · exact absurd (by decide) h21

set_option maxRecDepth 100000 in
theorem patNil_L (g : Nat) (w : World) :
    Ret Try.prog 74 [.pointer none, .pointer (some ⟨g, 0, none⟩)] w (fun z w' => z = .tuple #[.agg #[.int .i64 0, .int .i64 0, .int .i64 0, .int .i64 0, .slice none 0 0, .slice none 0 0], .int .i64 1] ∧ Below w.heap.size w w') := by
  refine ret_enter Try.func74 rfl rfl rfl ?_
  have H0 := HS.start w
  refine cw_seq ?_
  refine cw_reg ?_
  refine reg_op (op_alloc H0 rfl kflaw11_1) rfl rfl ?_
  rintro _ w2 ⟨b1, rfl, H3⟩
  refine ry (y_asg rfl rfl) rfl rfl ?_
  refine reg_nil ?_
  refine fn_next ?_
  refine cw_seq ?_
  refine cw_seq ?_
  refine cw_reg ?_
  refine ry (y_mov rfl rfl) rfl rfl ?_
  refine ry (y_peqlnil rfl Try.underlying74 rfl rfl) rfl rfl ?_
  refine ry (y_mov rfl rfl) rfl rfl ?_
  refine rg_off rfl rfl rfl rfl rfl ?_
  refine rg_off rfl rfl rfl rfl rfl ?_
  refine ry (y_pick rfl rfl rfl) rfl rfl ?_
  refine reg_nil ?_
  refine fn_next ?_
  refine cw_condt rfl ?_
  refine cw_seq ?_
  refine cw_reg ?_
  refine ry (y_build (places := [(0, 4), (4, 1), (5, 1)]) (parts := []) (vs := []) (cs := [.int _ _, .int _ _, .int _ _, .int _ _, .slice _ _ _, .slice _ _ _]) rfl Try.underlying108 (by kernel_rfl) kflaw11_1 rfl trivial rfl) rfl rfl ?_
  refine reg_op (op_st (i := 0) (vs := [.int _ _, .int _ _, .int _ _, .int _ _, .slice _ _ _, .slice _ _ _]) H3 rfl rfl rfl rfl rfl kflaw11_19 rfl rfl rfl) rfl rfl ?_
  rintro _ w4 H5
  refine ry (y_asg rfl rfl) rfl rfl ?_
  refine reg_nil ?_
  refine fn_next ?_
  refine cw_ret ?_
  refine fn_then_ret ?_
  refine fn_retn (vs := [_, _]) rfl ⟨⟨_, rfl, load_agg (cs := [_, _, _, _, _, _]) kflaw11_23 rfl fun j v hv => by rw [Nat.zero_add]; exact H5.cell (i := 0) rfl hv⟩, rfl, trivial⟩ rfl ?_
  exact ⟨rfl, H5.base⟩

set_option maxRecDepth 100000 in
theorem patNil_R (g : Nat) (w : World) :
    Ret Try.prog 74 [.pointer (some ⟨g, 0, none⟩), .pointer none] w (fun z w' => z = .tuple #[.agg #[.int .i64 0, .int .i64 0, .int .i64 0, .int .i64 0, .slice none 0 0, .slice none 0 0], .int .i64 1] ∧ Below w.heap.size w w') := by
  refine ret_enter Try.func74 rfl rfl rfl ?_
  have H0 := HS.start w
  refine cw_seq ?_
  refine cw_reg ?_
  refine reg_op (op_alloc H0 rfl kflaw11_1) rfl rfl ?_
  rintro _ w2 ⟨b1, rfl, H3⟩
  refine ry (y_asg rfl rfl) rfl rfl ?_
  refine reg_nil ?_
  refine fn_next ?_
  refine cw_seq ?_
  refine cw_seq ?_
  refine cw_reg ?_
  refine ry (y_mov rfl rfl) rfl rfl ?_
  refine ry (y_peqlnil rfl Try.underlying74 rfl rfl) rfl rfl ?_
  refine ry (y_mov rfl rfl) rfl rfl ?_
  refine rgy (y_mov rfl rfl) rfl rfl rfl rfl ?_
  refine rgy (y_peqlnil rfl Try.underlying74 rfl rfl) rfl rfl rfl rfl ?_
  refine ry (y_pick rfl rfl rfl) rfl rfl ?_
  refine reg_nil ?_
  refine fn_next ?_
  refine cw_condt rfl ?_
  refine cw_seq ?_
  refine cw_reg ?_
  refine ry (y_build (places := [(0, 4), (4, 1), (5, 1)]) (parts := []) (vs := []) (cs := [.int _ _, .int _ _, .int _ _, .int _ _, .slice _ _ _, .slice _ _ _]) rfl Try.underlying108 (by kernel_rfl) kflaw11_1 rfl trivial rfl) rfl rfl ?_
  refine reg_op (op_st (i := 0) (vs := [.int _ _, .int _ _, .int _ _, .int _ _, .slice _ _ _, .slice _ _ _]) H3 rfl rfl rfl rfl rfl kflaw11_19 rfl rfl rfl) rfl rfl ?_
  rintro _ w4 H5
  refine ry (y_asg rfl rfl) rfl rfl ?_
  refine reg_nil ?_
  refine fn_next ?_
  refine cw_ret ?_
  refine fn_then_ret ?_
  refine fn_retn (vs := [_, _]) rfl ⟨⟨_, rfl, load_agg (cs := [_, _, _, _, _, _]) kflaw11_23 rfl fun j v hv => by rw [Nat.zero_add]; exact H5.cell (i := 0) rfl hv⟩, rfl, trivial⟩ rfl ?_
  exact ⟨rfl, H5.base⟩

set_option maxRecDepth 100000 in
theorem patOf (g : Nat) (A : Option Addr) (cap : Nat) (w : World) (R : GRd w g 3 1 [1, 2, 3]) (hr : Rd w A (vi .i64 [1, 5, 3])) :
    Ret Try.prog 75 [.pointer (some ⟨g, 0, none⟩), .agg #[.int .i64 0, .int .i64 0, .int .i64 (((3 : Nat) : Int) - 1), .int .i64 (((1 : Nat) : Int) - 1)], .slice A 3 cap] w (fun z w' => ∃ A c B d, z = .tuple #[.agg #[.int .i64 1, .int .i64 0, .int .i64 1, .int .i64 0, .slice A 1 c, .slice B 1 d], .int .i64 0] ∧ HS w w' [.row A 1 c (vi .i64 [2]) 2 1, .row B 1 d (vi .i64 [5]) 2 1]) := by
  obtain ⟨q1, q2, q3, q4, q5, q6, q7, q8, q9, q10, q11, q12, q13, q14, q15⟩ := aw11
  refine ret_enter Try.func75 rfl rfl rfl ?_
  have H0 := HS.start w
  refine cw_seq ?_
  refine cw_reg ?_
  refine reg_op (op_box (cs := [.int _ _, .int _ _, .int _ _, .int _ _]) H0 rfl rfl rfl) rfl rfl ?_
  rintro _ w2 ⟨b1, rfl, H3⟩
  refine reg_op (op_alloc H3 rfl kflaw11_1) rfl rfl ?_
  rintro _ w5 ⟨b4, rfl, H6⟩
  refine ry (y_asg rfl rfl) rfl rfl ?_
  refine reg_nil ?_
  refine fn_next ?_
  refine cw_seq ?_
  refine cw_reg ?_
  refine ry (y_mov rfl rfl) rfl rfl ?_
  refine reg_op (op_call (gCopy g 3 1 ([1, 2, 3]) _ (R.below H6.base)) rfl kflaw11_24 ⟨rfl, trivial⟩) rfl rfl ?_
  rintro _ w8 ⟨g10, bl11, rfl, k7⟩
  have H9 := H6.call k7
  refine ry (y_asg rfl rfl) rfl rfl ?_
  refine reg_nil ?_
  refine fn_next ?_
  refine cw_seq ?_
  refine cw_seq ?_
  refine cw_reg ?_
  refine ry (y_mov rfl rfl) rfl rfl ?_
  refine ry (y_ldb (i := 2) (cs := [_, _, _, _]) H9 rfl rfl kflaw11_8 rfl rfl) rfl rfl ?_
  refine ry (y_mov rfl rfl) rfl rfl ?_
  refine reg_op (op_call (gPaste w _ g10 3 1 [1, 2, 3] bl11 0 0 (((3 : Nat) : Int) - 1) (((1 : Nat) : Int) - 1) [1, 5, 3] A 3 cap _ (fun Z hZ => hr.below hZ.base) rfl (by decide) H9) rfl kflaw11_25 ⟨rfl, rfl, rfl, trivial⟩) rfl rfl ?_
  rintro _ w13 ⟨bl14, rfl, H12⟩
  rw [q14] at H12
  refine ry (y_asg rfl rfl) rfl rfl ?_
  refine reg_nil ?_
  refine fn_next ?_
  refine cw_seq ?_
  refine cw_reg ?_
  refine ry (y_mov rfl rfl) rfl rfl ?_
  refine ry (y_neq rfl rfl rfl) rfl rfl ?_
  refine reg_nil ?_
  refine fn_next ?_
  refine cw_condd rfl (fun h15 => ?_) (fun h15 => ?_)
  · exact absurd q13 h15
  · skip
    refine cw_skip ?_
    refine fn_next ?_
    refine cw_seq ?_
    refine cw_reg ?_
    refine ry (y_mov rfl rfl) rfl rfl ?_
    refine ry (y_mov rfl rfl) rfl rfl ?_
    refine reg_op (op_call (patBetween g g10 _ (R.below H12.base) (H12.rdg (i := 0) rfl)) rfl kflaw11_26 ⟨rfl, rfl, trivial⟩) rfl rfl ?_
    rintro _ w17 ⟨A19, c20, B21, d22, rfl, k16⟩
    have H18 := H12.call k16
    refine ry (y_ext rfl rfl rfl) rfl rfl ?_
    refine ry (y_ext rfl rfl rfl) rfl rfl ?_
    refine reg_op (op_st (i := 3) (vs := [.int _ _, .int _ _, .int _ _, .int _ _, .slice _ _ _, .slice _ _ _]) H18 rfl rfl rfl rfl rfl kflaw11_19 rfl rfl rfl) rfl rfl ?_
    rintro _ w23 H24
    refine ry (y_asg rfl rfl) rfl rfl ?_
    refine reg_nil ?_
    refine fn_next ?_
    refine cw_ret ?_
    refine fn_retn (vs := [_, _]) rfl ⟨⟨_, rfl, load_agg (cs := [_, _, _, _, _, _]) kflaw11_23 rfl fun j v hv => by rw [Nat.zero_add]; exact H24.cell (i := 3) rfl hv⟩, rfl, trivial⟩ rfl ?_
    exact ⟨_, _, _, _, rfl, (H24.pick (m := [_, _]) [0, 1] rfl (by decide))⟩

set_option maxRecDepth 100000 in
theorem patNil_Of (x0 y0 x1 y1 : Int) (A : Option Addr) (n cap : Nat) (w : World) :
    Ret Try.prog 75 [.pointer none, .agg #[.int .i64 x0, .int .i64 y0, .int .i64 x1, .int .i64 y1], .slice A n cap] w (fun z w' => z = .tuple #[.agg #[.int .i64 0, .int .i64 0, .int .i64 0, .int .i64 0, .slice none 0 0, .slice none 0 0], .int .i64 1] ∧ Below w.heap.size w w') := by
  refine ret_enter Try.func75 rfl rfl rfl ?_
  have H0 := HS.start w
  refine cw_seq ?_
  refine cw_reg ?_
  refine reg_op (op_box (cs := [.int _ _, .int _ _, .int _ _, .int _ _]) H0 rfl rfl rfl) rfl rfl ?_
  rintro _ w2 ⟨b1, rfl, H3⟩
  refine reg_op (op_alloc H3 rfl kflaw11_1) rfl rfl ?_
  rintro _ w5 ⟨b4, rfl, H6⟩
  refine ry (y_asg rfl rfl) rfl rfl ?_
  refine reg_nil ?_
  refine fn_next ?_
  refine cw_seq ?_
  refine cw_reg ?_
  refine ry (y_mov rfl rfl) rfl rfl ?_
  refine reg_op (op_call (gNil_Copy _) rfl kflaw11_24 ⟨rfl, trivial⟩) rfl rfl ?_
  rintro _ w8 ⟨rfl, e7⟩
  have H9 := H6.ext e7
  refine ry (y_asg rfl rfl) rfl rfl ?_
  refine reg_nil ?_
  refine fn_next ?_
  refine cw_seq ?_
  refine cw_seq ?_
  refine cw_reg ?_
  refine ry (y_mov rfl rfl) rfl rfl ?_
  refine ry (y_ldb (i := 1) (cs := [_, _, _, _]) H9 rfl rfl kflaw11_8 rfl rfl) rfl rfl ?_
  refine ry (y_mov rfl rfl) rfl rfl ?_
  refine reg_op (op_call (gNil_Paste _ _ _ _ _ _ _ _) rfl kflaw11_25 ⟨rfl, rfl, rfl, trivial⟩) rfl rfl ?_
  rintro _ w11 ⟨rfl, e10⟩
  have H12 := H9.ext e10
  refine ry (y_asg rfl rfl) rfl rfl ?_
  refine reg_nil ?_
  refine fn_next ?_
  refine cw_seq ?_
  refine cw_reg ?_
  refine ry (y_mov rfl rfl) rfl rfl ?_
  refine ry (y_neq rfl rfl rfl) rfl rfl ?_
  refine reg_nil ?_
  refine fn_next ?_
  refine cw_condd rfl (fun h13 => ?_) (fun h13 => ?_)
  · skip
    refine cw_seq ?_
    refine cw_reg ?_
    refine ry (y_build (places := [(0, 4), (4, 1), (5, 1)]) (parts := []) (vs := []) (cs := [.int _ _, .int _ _, .int _ _, .int _ _, .slice _ _ _, .slice _ _ _]) rfl Try.underlying108 (by kernel_rfl) kflaw11_1 rfl trivial rfl) rfl rfl ?_
    refine ry (y_mov rfl rfl) rfl rfl ?_
    refine reg_op (op_st (i := 0) (vs := [.int _ _, .int _ _, .int _ _, .int _ _, .slice _ _ _, .slice _ _ _]) H12 rfl rfl rfl rfl rfl kflaw11_19 rfl rfl rfl) rfl rfl ?_
    rintro _ w14 H15
    refine ry (y_asg rfl rfl) rfl rfl ?_
    refine reg_nil ?_
    refine fn_next ?_
    refine cw_ret ?_
    refine fn_then_ret ?_
    refine fn_retn (vs := [_, _]) rfl ⟨⟨_, rfl, load_agg (cs := [_, _, _, _, _, _]) kflaw11_23 rfl fun j v hv => by rw [Nat.zero_add]; exact H15.cell (i := 0) rfl hv⟩, rfl, trivial⟩ rfl ?_
    exact ⟨rfl, H15.base⟩
  · exact absurd (by decide) h13

set_option maxRecDepth 100000 in
theorem patNil_Apply (x0 y0 x1 y1 : Int) (A : Option Addr) (n cap : Nat) (B : Option Addr) (m c2 : Nat) (w : World) :
    Ret Try.prog 77 [.pointer none, .agg #[.int .i64 x0, .int .i64 y0, .int .i64 x1, .int .i64 y1, .slice A n cap, .slice B m c2]] w (fun z w' => z = .int .i64 1 ∧ Below w.heap.size w w') := by
  refine ret_enter Try.func77 rfl rfl rfl ?_
  have H0 := HS.start w
  refine cw_seq ?_
  refine cw_reg ?_
  refine reg_op (op_box (cs := [.int _ _, .int _ _, .int _ _, .int _ _, .slice _ _ _, .slice _ _ _]) H0 rfl rfl rfl) rfl rfl ?_
  rintro _ w2 ⟨b1, rfl, H3⟩
  refine ry (y_asg rfl rfl) rfl rfl ?_
  refine reg_nil ?_
  refine fn_next ?_
  refine cw_seq ?_
  refine cw_block ?_
  refine cw_seq ?_
  refine cw_reg ?_
  refine ry (y_mov rfl rfl) rfl rfl ?_
  refine ry (y_peqlnil rfl Try.underlying74 rfl rfl) rfl rfl ?_
  refine ry (y_asg rfl rfl) rfl rfl ?_
  refine reg_nil ?_
  refine fn_next ?_
  refine cw_condt rfl ?_
  refine cw_seq ?_
  refine cw_reg ?_
  refine ry (y_asg rfl rfl) rfl rfl ?_
  refine reg_nil ?_
  refine fn_next ?_
  refine cw_ret ?_
  refine fn_block_ret (fn_then_ret ?_)
  refine fn_ret1 rfl rfl ?_
  exact ⟨rfl, H3.base⟩

set_option maxRecDepth 100000 in
theorem patSame (x0 y0 x1 y1 : Int) (n m : Nat) (Z1 Z2 : List Int) (A : Option Addr) (a : Nat) (B : Option Addr) (b : Nat) (C : Option Addr) (c : Nat) (E : Option Addr) (e : Nat) (w : World) (h1 : Rd w A (vi .i64 Z1)) (l1 : Z1.length = n) (h2 : Rd w B (vi .i64 Z2)) (l2 : Z2.length = m) (h3 : Rd w C (vi .i64 Z1)) (h4 : Rd w E (vi .i64 Z2)) (hn : n ≤ 4000000) (hm : m ≤ 4000000) :
    Ret Try.prog 76 [.agg #[.int .i64 x0, .int .i64 y0, .int .i64 x1, .int .i64 y1, .slice A n a, .slice B m b], .agg #[.int .i64 x0, .int .i64 y0, .int .i64 x1, .int .i64 y1, .slice C n c, .slice E m e]] w (fun z w' => z = .bool true ∧ Below w.heap.size w w') := by
  refine ret_enter Try.func76 rfl rfl rfl ?_
  have H0 := HS.start w
  refine cw_seq ?_
  refine cw_reg ?_
  refine reg_op (op_box (cs := [.int _ _, .int _ _, .int _ _, .int _ _, .slice _ _ _, .slice _ _ _]) H0 rfl rfl rfl) rfl rfl ?_
  rintro _ w2 ⟨b1, rfl, H3⟩
  refine reg_op (op_box (cs := [.int _ _, .int _ _, .int _ _, .int _ _, .slice _ _ _, .slice _ _ _]) H3 rfl rfl rfl) rfl rfl ?_
  rintro _ w5 ⟨b4, rfl, H6⟩
  refine ry (y_asg rfl rfl) rfl rfl ?_
  refine reg_nil ?_
  refine fn_next ?_
  refine cw_seq ?_
  refine cw_reg ?_
  refine ry (y_fa rfl rfl kflaw11_27 rfl) rfl rfl ?_
  refine ry (y_lda (cs := [_, _, _, _]) rfl rfl kflaw11_8 rfl (fun j v hv => H6.cell (i := 1) rfl (lst_part (a := 0) (m := 4) hv))) rfl rfl ?_
  refine ry (y_fa rfl rfl kflaw11_27 rfl) rfl rfl ?_
  refine ry (y_lda (cs := [_, _, _, _]) rfl rfl kflaw11_8 rfl (fun j v hv => H6.cell (i := 0) rfl (lst_part (a := 0) (m := 4) hv))) rfl rfl ?_
  refine ry (y_seq (ks := [.i64, .i64, .i64, .i64]) (a := [x0, y0, x1, y1]) (b := [x0, y0, x1, y1]) rfl (.inl ⟨rfl, rfl⟩) kflaw11_3 rfl rfl rfl rfl rfl rfl rfl) rfl rfl ?_
  refine ry (y_mov rfl rfl) rfl rfl ?_
  refine rg_splitd (d := 10) rfl (fun h7 => ?_) (fun h7 => ?_)
  · skip
    refine rgy (y_fa rfl rfl kflaw11_20 rfl) rfl rfl rfl rfl ?_
    refine rgy (y_ld rfl rfl kflaw11_28 (H6.cell (i := 1) rfl rfl)) rfl rfl rfl rfl ?_
    refine rgy (y_fa rfl rfl kflaw11_20 rfl) rfl rfl rfl rfl ?_
    refine rgy (y_ld rfl rfl kflaw11_28 (H6.cell (i := 0) rfl rfl)) rfl rfl rfl rfl ?_
    refine rg_on rfl rfl rfl (op_call (refSame_any _ _ _ Z1 _ _ _ Z1 _ (h1.below H6.base) l1 (h3.below H6.base) l1 (by omega)) rfl kflaw11_29 ⟨rfl, rfl, trivial⟩) rfl ?_
    rintro _ w9 ⟨rfl, e8⟩
    have H10 := H6.ext e8
    refine ry (y_pick rfl rfl rfl) rfl rfl ?_
    refine ry (y_mov rfl rfl) rfl rfl ?_
    refine rg_splitd (d := 17) rfl (fun h11 => ?_) (fun h11 => ?_)
    · skip
      refine rgy (y_fa rfl rfl kflaw11_22 rfl) rfl rfl rfl rfl ?_
      refine rgy (y_ld rfl rfl kflaw11_28 (H10.cell (i := 1) rfl rfl)) rfl rfl rfl rfl ?_
      refine rgy (y_fa rfl rfl kflaw11_22 rfl) rfl rfl rfl rfl ?_
      refine rgy (y_ld rfl rfl kflaw11_28 (H10.cell (i := 0) rfl rfl)) rfl rfl rfl rfl ?_
      refine rg_on rfl rfl rfl (op_call (refSame_any _ _ _ Z2 _ _ _ Z2 _ (h2.below H10.base) l2 (h4.below H10.base) l2 (by omega)) rfl kflaw11_29 ⟨rfl, rfl, trivial⟩) rfl ?_
      rintro _ w13 ⟨rfl, e12⟩
      have H14 := H10.ext e12
      refine ry (y_pick rfl rfl rfl) rfl rfl ?_
      refine ry (y_asg rfl rfl) rfl rfl ?_
      refine reg_nil ?_
      refine fn_next ?_
      refine cw_ret ?_
      refine fn_ret1 rfl rfl ?_
      exact ⟨by rw [decide_eq_true rfl], H14.base⟩
    · exact absurd rfl h11
  · exact absurd rfl h7

theorem rd_nil {w : World} {A : Option Addr} : Rd w A (vi .i64 []) := fun j u h => by simp [vi] at h

set_option maxRecDepth 100000 in
theorem patchAwake  (w : World) :
    Ret Try.prog 73 [] w (fun v w' => v = .bool true ∧ Below w.heap.size w w') := by
  obtain ⟨q1, q2, q3, q4, q5, q6, q7, q8, q9, q10, q11, q12, q13, q14, q15⟩ := aw11
  refine ret_enter Try.func73 rfl rfl rfl ?_
  have H0 := HS.start w
  refine cw_seq ?_
  refine cw_reg ?_
  refine ry (y_asg rfl rfl) rfl rfl ?_
  refine reg_nil ?_
  refine fn_next ?_
  refine cw_seq ?_
  refine cw_reg ?_
  refine reg_op (op_lit (parts := [(0, _), (1, _), (2, _)]) (vs := [(0, _), (1, _), (2, _)]) (cs := [.int _ _, .int _ _, .int _ _]) H0 rfl Try.underlying32 kflaw11_30 rfl ⟨rfl, rfl, rfl, trivial⟩ rfl rfl) rfl rfl ?_
  rintro _ w2 ⟨b1, rfl, H3⟩
  have H4 := H3.asrow (m := 3) (size := 1) rfl (by decide)
  refine reg_op (op_call (gFrom_ok 3 1 [1, 2, 3] _ 3 _ _ (H4.rd (i := 0) rfl) rfl (by decide) ⟨by decide, by decide, by decide, by decide⟩ q15) rfl kflaw11_31 ⟨rfl, rfl, rfl, trivial⟩) rfl rfl ?_
  rintro _ w6 ⟨g8, bl9, rfl, k5⟩
  have H7 := H4.call k5
  refine ry (y_mov rfl rfl) rfl rfl ?_
  refine ry (y_ext rfl rfl rfl) rfl rfl ?_
  refine ry (y_ext rfl rfl rfl) rfl rfl ?_
  refine ry (y_asg rfl rfl) rfl rfl ?_
  refine ry (y_asg rfl rfl) rfl rfl ?_
  refine reg_nil ?_
  refine fn_next ?_
  refine cw_seq ?_
  refine cw_reg ?_
  refine ry (y_mov rfl rfl) rfl rfl ?_
  refine ry (y_mov rfl rfl) rfl rfl ?_
  refine reg_op (op_call (gAll g8 3 1 ([1, 2, 3])  _ (H7.rdg (i := 0) rfl)) rfl kflaw11_2 ⟨rfl, trivial⟩) rfl rfl ?_
  rintro _ w11 ⟨rfl, e10⟩
  have H12 := H7.ext e10
  refine reg_op (op_lit (parts := [(0, _), (1, _), (2, _)]) (vs := [(0, _), (1, _), (2, _)]) (cs := [.int _ _, .int _ _, .int _ _]) H12 rfl Try.underlying32 kflaw11_30 rfl ⟨rfl, rfl, rfl, trivial⟩ rfl rfl) rfl rfl ?_
  rintro _ w14 ⟨b13, rfl, H15⟩
  have H16 := H15.asrow (m := 3) (size := 1) rfl (by decide)
  refine reg_op (op_call (patOf g8 _ _ _ (H16.rdg (i := 1) rfl) (H16.rd (i := 0) rfl)) rfl kflaw11_32 ⟨rfl, rfl, rfl, trivial⟩) rfl rfl ?_
  rintro _ w18 ⟨A20, c21, B22, d23, rfl, k17⟩
  have H19 := H16.call k17
  refine ry (y_mov rfl rfl) rfl rfl ?_
  refine ry (y_ext rfl rfl rfl) rfl rfl ?_
  refine ry (y_ext rfl rfl rfl) rfl rfl ?_
  refine reg_op (op_alloc H19 rfl kflaw11_1) rfl rfl ?_
  rintro _ w25 ⟨b24, rfl, H26⟩
  refine reg_op (op_st (i := 0) (vs := [.int _ _, .int _ _, .int _ _, .int _ _, .slice _ _ _, .slice _ _ _]) H26 rfl rfl rfl rfl rfl kflaw11_19 rfl rfl rfl) rfl rfl ?_
  rintro _ w27 H28
  refine ry (y_asg rfl rfl) rfl rfl ?_
  refine reg_nil ?_
  refine fn_next ?_
  refine cw_seq ?_
  refine cw_reg ?_
  refine ry (y_mov rfl rfl) rfl rfl ?_
  refine ry (y_eql rfl rfl rfl) rfl rfl ?_
  refine ry (y_mov rfl rfl) rfl rfl ?_
  refine rg_splitd (d := 20) rfl (fun h29 => ?_) (fun h29 => ?_)
  · skip
    refine rgy (y_mov rfl rfl) rfl rfl rfl rfl ?_
    refine rgy (y_eql rfl rfl rfl) rfl rfl rfl rfl ?_
    refine ry (y_pick rfl rfl rfl) rfl rfl ?_
    refine ry (y_mov rfl rfl) rfl rfl ?_
    refine rg_splitd (d := 24) rfl (fun h30 => ?_) (fun h30 => ?_)
    · skip
      refine rgy (y_ldb (i := 0) (cs := [_, _, _, _, _, _]) H28 rfl rfl kflaw11_23 rfl rfl) rfl rfl rfl rfl ?_
      refine rgy (y_build (places := [(0, 1), (1, 1), (2, 1), (3, 1)]) (parts := [(0, _), (2, _)]) (vs := [(0, _), (2, _)]) (cs := [.int _ _, .int _ _, .int _ _, .int _ _]) rfl Try.underlying24 (by kernel_rfl) kflaw11_4 rfl ⟨rfl, rfl, trivial⟩ rfl) rfl rfl rfl rfl ?_
      refine rg_on rfl rfl rfl (op_lit (parts := [(0, _)]) (vs := [(0, _)]) (cs := [.int _ _]) H28 rfl Try.underlying32 kflaw11_30 rfl ⟨rfl, trivial⟩ rfl rfl) rfl ?_
      rintro _ w32 ⟨b31, rfl, H33⟩
      have H34 := H33.asrow (m := 1) (size := 1) rfl (by decide)
      refine rg_on rfl rfl rfl (op_lit (parts := [(0, _)]) (vs := [(0, _)]) (cs := [.int _ _]) H34 rfl Try.underlying32 kflaw11_30 rfl ⟨rfl, trivial⟩ rfl rfl) rfl ?_
      rintro _ w36 ⟨b35, rfl, H37⟩
      have H38 := H37.asrow (m := 1) (size := 1) rfl (by decide)
      refine rgy (y_build (places := [(0, 4), (4, 1), (5, 1)]) (parts := [(0, _), (1, _), (2, _)]) (vs := [(0, _), (1, _), (2, _)]) (cs := [.int _ _, .int _ _, .int _ _, .int _ _, .slice _ _ _, .slice _ _ _]) rfl Try.underlying108 (by kernel_rfl) kflaw11_1 rfl ⟨rfl, rfl, rfl, trivial⟩ rfl) rfl rfl rfl rfl ?_
      refine rg_on rfl rfl rfl (op_call (patSame 1 0 1 0 1 1 [2] [5] _ _ _ _ _ _ _ _ _ (H38.rd (i := 3) rfl) rfl (H38.rd (i := 4) rfl) rfl (H38.rd (i := 1) rfl) (H38.rd (i := 0) rfl) (by decide) (by decide)) rfl kflaw11_33 ⟨rfl, rfl, trivial⟩) rfl ?_
      rintro _ w40 ⟨rfl, e39⟩
      have H41 := H38.ext e39
      refine ry (y_pick rfl rfl rfl) rfl rfl ?_
      refine ry (y_asg rfl rfl) rfl rfl ?_
      refine reg_nil ?_
      refine fn_next ?_
      refine cw_ret ?_
      refine fn_ret1 rfl rfl ?_
      exact ⟨rfl, H41.base⟩
    · exact absurd rfl h30
  · exact absurd rfl h29

set_option maxRecDepth 100000 in
theorem patchNil_all (x0 y0 x1 y1 : Int) (A : Option Addr) (n cap : Nat) (B : Option Addr) (m c2 : Nat) (w : World) :
    Ret Try.prog 13 [.agg #[.int .i64 x0, .int .i64 y0, .int .i64 x1, .int .i64 y1, .slice A n cap, .slice B m c2]] w (fun z w' => z = .bool true ∧ Below w.heap.size w w') := by
  refine ret_enter Try.func13 rfl rfl rfl ?_
  have H0 := HS.start w
  refine cw_seq ?_
  refine cw_reg ?_
  refine reg_op (op_box (cs := [.int _ _, .int _ _, .int _ _, .int _ _, .slice _ _ _, .slice _ _ _]) H0 rfl rfl rfl) rfl rfl ?_
  rintro _ w2 ⟨b1, rfl, H3⟩
  refine ry (y_asg rfl rfl) rfl rfl ?_
  refine reg_nil ?_
  refine fn_next ?_
  refine cw_seq ?_
  refine cw_seq ?_
  refine cw_reg ?_
  refine reg_op (op_call (patchAwake _) rfl kflaw11_34 trivial) rfl rfl ?_
  rintro _ w5 ⟨rfl, e4⟩
  have H6 := H3.ext e4
  refine ry (y_not rfl rfl) rfl rfl ?_
  refine reg_nil ?_
  refine fn_next ?_
  refine cw_condf rfl ?_
  refine cw_skip ?_
  refine fn_next ?_
  refine cw_seq ?_
  refine cw_seq ?_
  refine cw_reg ?_
  refine ry (y_fa rfl rfl kflaw11_20 rfl) rfl rfl ?_
  refine ry (y_ld rfl rfl kflaw11_28 (H6.cell (i := 0) rfl rfl)) rfl rfl ?_
  refine ry (y_len rfl Try.underlying32 rfl) rfl rfl ?_
  refine ry (y_gtr rfl rfl rfl) rfl rfl ?_
  refine ry (y_mov rfl rfl) rfl rfl ?_
  refine rg_splitd (d := 18) rfl (fun h7 => ?_) (fun h7 => ?_)
  · skip
    refine rg_off rfl rfl rfl rfl rfl ?_
    refine rg_off rfl rfl rfl rfl rfl ?_
    refine rg_off rfl rfl rfl rfl rfl ?_
    refine rg_off rfl rfl rfl rfl rfl ?_
    refine ry (y_pick rfl rfl rfl) rfl rfl ?_
    refine reg_nil ?_
    refine fn_next ?_
    refine cw_condt rfl ?_
    refine cw_seq ?_
    refine cw_reg ?_
    refine ry (y_asg rfl rfl) rfl rfl ?_
    refine reg_nil ?_
    refine fn_next ?_
    refine cw_ret ?_
    refine fn_then_ret ?_
    refine fn_ret1 rfl rfl ?_
    exact ⟨rfl, H6.base⟩
  · skip
    refine rgy (y_fa rfl rfl kflaw11_22 rfl) rfl rfl rfl rfl ?_
    refine rgy (y_ld rfl rfl kflaw11_28 (H6.cell (i := 0) rfl rfl)) rfl rfl rfl rfl ?_
    refine rgy (y_len rfl Try.underlying32 rfl) rfl rfl rfl rfl ?_
    refine rgy (y_gtr rfl rfl rfl) rfl rfl rfl rfl ?_
    refine ry (y_pick rfl rfl rfl) rfl rfl ?_
    refine reg_nil ?_
    refine fn_next ?_
    refine cw_condd rfl (fun h8 => ?_) (fun h8 => ?_)
    · skip
      refine cw_seq ?_
      refine cw_reg ?_
      refine ry (y_asg rfl rfl) rfl rfl ?_
      refine reg_nil ?_
      refine fn_next ?_
      refine cw_ret ?_
      refine fn_then_ret ?_
      refine fn_ret1 rfl rfl ?_
      exact ⟨rfl, H6.base⟩
    · skip
      refine cw_skip ?_
      refine fn_next ?_
      refine cw_seq ?_
      refine cw_reg ?_
      refine reg_op (op_call (gNew_ok 2 2 1 _ (⟨by decide, by decide, by decide, by decide⟩) (by decide)) rfl kflaw11_35 ⟨rfl, rfl, rfl, trivial⟩) rfl rfl ?_
      rintro _ w10 ⟨g12, bl13, rfl, k9⟩
      have H11 := H6.call k9
      refine ry (y_mov rfl rfl) rfl rfl ?_
      refine ry (y_ext rfl rfl rfl) rfl rfl ?_
      refine ry (y_ext rfl rfl rfl) rfl rfl ?_
      refine ry (y_asg rfl rfl) rfl rfl ?_
      refine ry (y_asg rfl rfl) rfl rfl ?_
      refine reg_nil ?_
      refine fn_next ?_
      refine cw_seq ?_
      refine cw_reg ?_
      refine ry (y_mov rfl rfl) rfl rfl ?_
      refine reg_op (op_call (patNil_L _ _) rfl kflaw11_26 ⟨rfl, rfl, trivial⟩) rfl rfl ?_
      rintro _ w15 ⟨rfl, e14⟩
      have H16 := H11.ext e14
      refine ry (y_mov rfl rfl) rfl rfl ?_
      refine ry (y_ext rfl rfl rfl) rfl rfl ?_
      refine ry (y_ext rfl rfl rfl) rfl rfl ?_
      refine reg_op (op_alloc H16 rfl kflaw11_1) rfl rfl ?_
      rintro _ w18 ⟨b17, rfl, H19⟩
      refine reg_op (op_st (i := 0) (vs := [.int _ _, .int _ _, .int _ _, .int _ _, .slice _ _ _, .slice _ _ _]) H19 rfl rfl rfl rfl rfl kflaw11_19 rfl rfl rfl) rfl rfl ?_
      rintro _ w20 H21
      refine ry (y_asg rfl rfl) rfl rfl ?_
      refine reg_nil ?_
      refine fn_next ?_
      refine cw_seq ?_
      refine cw_reg ?_
      refine ry (y_mov rfl rfl) rfl rfl ?_
      refine reg_op (op_call (patNil_R _ _) rfl kflaw11_26 ⟨rfl, rfl, trivial⟩) rfl rfl ?_
      rintro _ w23 ⟨rfl, e22⟩
      have H24 := H21.ext e22
      refine ry (y_mov rfl rfl) rfl rfl ?_
      refine ry (y_ext rfl rfl rfl) rfl rfl ?_
      refine ry (y_ext rfl rfl rfl) rfl rfl ?_
      refine reg_op (op_alloc H24 rfl kflaw11_1) rfl rfl ?_
      rintro _ w26 ⟨b25, rfl, H27⟩
      refine reg_op (op_st (i := 0) (vs := [.int _ _, .int _ _, .int _ _, .int _ _, .slice _ _ _, .slice _ _ _]) H27 rfl rfl rfl rfl rfl kflaw11_19 rfl rfl rfl) rfl rfl ?_
      rintro _ w28 H29
      refine ry (y_asg rfl rfl) rfl rfl ?_
      refine reg_nil ?_
      refine fn_next ?_
      refine cw_seq ?_
      refine cw_reg ?_
      refine ry (y_fa rfl rfl kflaw11_27 rfl) rfl rfl ?_
      refine ry (y_lda (cs := [_, _, _, _]) rfl rfl kflaw11_8 rfl (fun j v hv => H29.cell (i := 3) rfl (lst_part (a := 0) (m := 4) hv))) rfl rfl ?_
      refine ry (y_fa rfl rfl kflaw11_22 rfl) rfl rfl ?_
      refine ry (y_ld rfl rfl kflaw11_28 (H29.cell (i := 3) rfl rfl)) rfl rfl ?_
      refine reg_op (op_call (patNil_Of _ _ _ _ _ _ _ _) rfl kflaw11_32 ⟨rfl, rfl, rfl, trivial⟩) rfl rfl ?_
      rintro _ w31 ⟨rfl, e30⟩
      have H32 := H29.ext e30
      refine ry (y_mov rfl rfl) rfl rfl ?_
      refine ry (y_ext rfl rfl rfl) rfl rfl ?_
      refine ry (y_ext rfl rfl rfl) rfl rfl ?_
      refine reg_op (op_alloc H32 rfl kflaw11_1) rfl rfl ?_
      rintro _ w34 ⟨b33, rfl, H35⟩
      refine reg_op (op_st (i := 0) (vs := [.int _ _, .int _ _, .int _ _, .int _ _, .slice _ _ _, .slice _ _ _]) H35 rfl rfl rfl rfl rfl kflaw11_19 rfl rfl rfl) rfl rfl ?_
      rintro _ w36 H37
      refine ry (y_asg rfl rfl) rfl rfl ?_
      refine reg_nil ?_
      refine fn_next ?_
      refine cw_seq ?_
      refine cw_reg ?_
      refine ry (y_build (places := [(0, 4), (4, 1), (5, 1)]) (parts := []) (vs := []) (cs := [.int _ _, .int _ _, .int _ _, .int _ _, .slice _ _ _, .slice _ _ _]) rfl Try.underlying108 (by kernel_rfl) kflaw11_1 rfl trivial rfl) rfl rfl ?_
      refine reg_op (op_alloc H37 rfl kflaw11_1) rfl rfl ?_
      rintro _ w39 ⟨b38, rfl, H40⟩
      refine reg_op (op_st (i := 0) (vs := [.int _ _, .int _ _, .int _ _, .int _ _, .slice _ _ _, .slice _ _ _]) H40 rfl rfl rfl rfl rfl kflaw11_19 rfl rfl rfl) rfl rfl ?_
      rintro _ w41 H42
      refine reg_nil ?_
      refine fn_next ?_
      refine cw_seq ?_
      refine cw_reg ?_
      refine ry (y_ldb (i := 3) (cs := [_, _, _, _, _, _]) H42 rfl rfl kflaw11_23 rfl rfl) rfl rfl ?_
      refine ry (y_ldb (i := 0) (cs := [_, _, _, _, _, _]) H42 rfl rfl kflaw11_23 rfl rfl) rfl rfl ?_
      refine reg_op (op_call (patSame 0 0 0 0 0 0 [] [] none 0 none 0 none 0 none 0 _ rd_nil rfl rd_nil rfl rd_nil rd_nil (by decide) (by decide)) rfl kflaw11_33 ⟨rfl, rfl, trivial⟩) rfl rfl ?_
      rintro _ w44 ⟨rfl, e43⟩
      have H45 := H42.ext e43
      refine ry (y_mov rfl rfl) rfl rfl ?_
      refine rgy (y_ldb (i := 2) (cs := [_, _, _, _, _, _]) H45 rfl rfl kflaw11_23 rfl rfl) rfl rfl rfl rfl ?_
      refine rgy (y_ldb (i := 0) (cs := [_, _, _, _, _, _]) H45 rfl rfl kflaw11_23 rfl rfl) rfl rfl rfl rfl ?_
      refine rg_on rfl rfl rfl (op_call (patSame 0 0 0 0 0 0 [] [] none 0 none 0 none 0 none 0 _ rd_nil rfl rd_nil rfl rd_nil rd_nil (by decide) (by decide)) rfl kflaw11_33 ⟨rfl, rfl, trivial⟩) rfl ?_
      rintro _ w47 ⟨rfl, e46⟩
      have H48 := H45.ext e46
      refine ry (y_pick rfl rfl rfl) rfl rfl ?_
      refine ry (y_mov rfl rfl) rfl rfl ?_
      refine rgy (y_ldb (i := 1) (cs := [_, _, _, _, _, _]) H48 rfl rfl kflaw11_23 rfl rfl) rfl rfl rfl rfl ?_
      refine rgy (y_ldb (i := 0) (cs := [_, _, _, _, _, _]) H48 rfl rfl kflaw11_23 rfl rfl) rfl rfl rfl rfl ?_
      refine rg_on rfl rfl rfl (op_call (patSame 0 0 0 0 0 0 [] [] none 0 none 0 none 0 none 0 _ rd_nil rfl rd_nil rfl rd_nil rd_nil (by decide) (by decide)) rfl kflaw11_33 ⟨rfl, rfl, trivial⟩) rfl ?_
      rintro _ w50 ⟨rfl, e49⟩
      have H51 := H48.ext e49
      refine ry (y_pick rfl rfl rfl) rfl rfl ?_
      refine ry (y_mov rfl rfl) rfl rfl ?_
      refine rgy (y_mov rfl rfl) rfl rfl rfl rfl ?_
      refine rgy (y_eql rfl rfl rfl) rfl rfl rfl rfl ?_
      refine ry (y_pick rfl rfl rfl) rfl rfl ?_
      refine ry (y_mov rfl rfl) rfl rfl ?_
      refine rg_splitd (d := 64) rfl (fun h52 => ?_) (fun h52 => ?_)
      · skip
        refine rgy (y_mov rfl rfl) rfl rfl rfl rfl ?_
        refine rgy (y_eql rfl rfl rfl) rfl rfl rfl rfl ?_
        refine ry (y_pick rfl rfl rfl) rfl rfl ?_
        refine ry (y_mov rfl rfl) rfl rfl ?_
        refine rg_splitd (d := 68) rfl (fun h53 => ?_) (fun h53 => ?_)
        · skip
          refine rgy (y_mov rfl rfl) rfl rfl rfl rfl ?_
          refine rgy (y_eql rfl rfl rfl) rfl rfl rfl rfl ?_
          refine ry (y_pick rfl rfl rfl) rfl rfl ?_
          refine ry (y_mov rfl rfl) rfl rfl ?_
          refine rg_splitd (d := 72) rfl (fun h54 => ?_) (fun h54 => ?_)
          · skip
            refine rgy (y_ldb (i := 5) (cs := [_, _, _, _, _, _]) H51 rfl rfl kflaw11_23 rfl rfl) rfl rfl rfl rfl ?_
            refine rg_on rfl rfl rfl (op_call (patNil_Apply _ _ _ _ _ _ _ _ _ _ _) rfl kflaw11_36 ⟨rfl, rfl, trivial⟩) rfl ?_
            rintro _ w56 ⟨rfl, e55⟩
            have H57 := H51.ext e55
            refine rgy (y_eql rfl rfl rfl) rfl rfl rfl rfl ?_
            refine ry (y_pick rfl rfl rfl) rfl rfl ?_
            refine ry (y_asg rfl rfl) rfl rfl ?_
            refine reg_nil ?_
            refine fn_next ?_
            refine cw_ret ?_
            refine fn_ret1 rfl rfl ?_
            exact ⟨rfl, H57.base⟩
          · exact absurd rfl h54
        · exact absurd rfl h53
      · exact absurd rfl h52

theorem patchNil_law (px0 py0 px1 py1 : Int) (A0 : Option Addr) (n0 c0 : Nat) (B0 : Option Addr) (m0 d0 : Nat) (pz py : List Int) (W : World) (bpx0 : I6 px0) (bpy0 : I6 py0) (bpx1 : I6 px1) (bpy1 : I6 py1) (hpz : Ints .i64 W A0 n0 pz) (le0 : n0 ≤ c0) (mx0 : c0 ≤ maxLen) (wpz : ∀ z ∈ pz, I6 z) (hpy : Ints .i64 W B0 m0 py) (lf0 : m0 ≤ d0) (mg0 : d0 ≤ maxLen) (wpy : ∀ z ∈ py, I6 z) :
    Calls Try.prog 13 #[.agg #[.int .i64 px0, .int .i64 py0, .int .i64 px1, .int .i64 py1, .slice A0 n0 c0, .slice B0 m0 d0]] W fun e w' => e = .returned (.bool true) ∧ Below W.heap.size W w' := lawOf (patchNil_all px0 py0 px1 py1 A0 n0 c0 B0 m0 d0 W)

end Go.Proofs.Ytkphmcaoioaglaa
