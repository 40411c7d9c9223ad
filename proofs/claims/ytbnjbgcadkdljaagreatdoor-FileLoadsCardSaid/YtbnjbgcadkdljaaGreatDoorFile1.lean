/- Layer 14: sizes; the same kinds. -/
import Derived.Test.YtbnjbgcadkdljaaGreatDoorCrc2
import Derived.Test.YtbnjbgcadkdljaaGreatDoorPlain14b
set_option linter.unusedVariables false
set_option linter.unusedSimpArgs false
namespace Go.Proofs.YtbnjbgcadkdljaaGreatDoor
open Go Go.RowKit
theorem kffile1_1 : fldB Tryz.prog 54 2 2 = true := by kernel_rfl
theorem kffile1_2 : oneB Tryz.prog 2 = true := by kernel_rfl
theorem kffile1_3 : fldB Tryz.prog 54 0 0 = true := by kernel_rfl
theorem kffile1_4 : fldB Tryz.prog 54 3 3 = true := by kernel_rfl
theorem kffile1_5 : fldB Tryz.prog 54 1 1 = true := by kernel_rfl
theorem kffile1_6 : elB Tryz.prog 27 1 = true := by kernel_rfl
theorem kffile1_7 : oneB Tryz.prog 3 = true := by kernel_rfl

set_option maxRecDepth 100000 in
theorem fSize (x0 y0 x1 y1 : Int) (w : World) (s : (0 ≤ x0 ∧ x0 ≤ x1 ∧ x1 ≤ 1024) ∧ 0 ≤ y0 ∧ y0 ≤ y1 ∧ y1 ≤ 1024) :
    Ret Tryz.prog 21 [.agg #[.int .i64 x0, .int .i64 y0, .int .i64 x1, .int .i64 y1]] w (fun v w' => v = .tuple #[.int .i64 (x1 - x0 + 1), .int .i64 (y1 - y0 + 1)] ∧ Below w.heap.size w w') := by
 refine ret_enter Tryz.func21 rfl rfl rfl ?_
 have H0 := HS.start w
 refine cw_seq ?_
 refine cw_reg ?_
 refine reg_op (op_box (cs := [.int _ _, .int _ _, .int _ _, .int _ _]) H0 rfl rfl rfl) rfl rfl ?_
 rintro _ w2 ⟨b1, rfl, H3⟩
 refine ry (y_asg rfl rfl) rfl rfl ?_
 refine ry (y_asg rfl rfl) rfl rfl ?_
 refine reg_nil ?_
 refine fn_next ?_
 refine cw_seq ?_
 refine cw_draw H3 [0, 1, 2, 3, 4, 5, 6, 7, 8, 9, 10, 11, 12, 13] [] (fun X HX => HX) (by kernel_rfl) (by kernel_rfl) (by rfl) ?_
 simp only [pick, List.getElem?_cons_succ, List.getElem?_cons_zero]
 refine hk_y (fun Y HY => y_fa rfl rfl kffile1_1 rfl) rfl rfl ?_
 refine hk_y (fun Y HY => y_ld rfl rfl kffile1_2 (HY.cell (i := 0) rfl rfl)) rfl rfl ?_
 refine hk_y (fun Y HY => y_fa rfl rfl kffile1_3 rfl) rfl rfl ?_
 refine hk_y (fun Y HY => y_ld rfl rfl kffile1_2 (HY.cell (i := 0) rfl rfl)) rfl rfl ?_
 refine hk_y (fun Y HY => y_sub rfl rfl rfl (wi (by omega))) rfl rfl ?_
 refine hk_y (fun Y HY => y_add rfl rfl rfl (wi (by omega))) rfl rfl ?_
 refine hk_y (fun Y HY => y_fa rfl rfl kffile1_4 rfl) rfl rfl ?_
 refine hk_y (fun Y HY => y_ld rfl rfl kffile1_2 (HY.cell (i := 0) rfl rfl)) rfl rfl ?_
 refine hk_y (fun Y HY => y_fa rfl rfl kffile1_5 rfl) rfl rfl ?_
 refine hk_y (fun Y HY => y_ld rfl rfl kffile1_2 (HY.cell (i := 0) rfl rfl)) rfl rfl ?_
 refine hk_y (fun Y HY => y_sub rfl rfl rfl (wi (by omega))) rfl rfl ?_
 refine hk_y (fun Y HY => y_add rfl rfl rfl (wi (by omega))) rfl rfl ?_
 refine hk_y (fun Y HY => y_asg rfl rfl) rfl rfl ?_
 refine hk_y (fun Y HY => y_asg rfl rfl) rfl rfl ?_
 refine hk_nil ?_
 intro w4 H5
 refine tv_nil ?_
 refine fn_next ?_
 refine cw_ret ?_
 refine fn_retn (vs := [_, _]) rfl ⟨rfl, rfl, trivial⟩ rfl ?_
 exact ⟨rfl, H5.base⟩

set_option maxRecDepth 100000 in
theorem mSize14 (x0 y0 x1 y1 : Int) (w : World) (s : (0 ≤ x0 ∧ x0 ≤ x1 ∧ x1 ≤ 1024) ∧ 0 ≤ y0 ∧ y0 ≤ y1 ∧ y1 ≤ 1024) :
    Ret Tryz.prog 15 [.agg #[.int .i64 x0, .int .i64 y0, .int .i64 x1, .int .i64 y1]] w (fun v w' => v = .tuple #[.int .i64 (x1 - x0 + 1), .int .i64 (y1 - y0 + 1)] ∧ Below w.heap.size w w') := by
 refine ret_enter Tryz.func15 rfl rfl rfl ?_
 have H0 := HS.start w
 refine cw_seq ?_
 refine cw_reg ?_
 refine reg_op (op_box (cs := [.int _ _, .int _ _, .int _ _, .int _ _]) H0 rfl rfl rfl) rfl rfl ?_
 rintro _ w2 ⟨b1, rfl, H3⟩
 refine ry (y_asg rfl rfl) rfl rfl ?_
 refine ry (y_asg rfl rfl) rfl rfl ?_
 refine reg_nil ?_
 refine fn_next ?_
 refine cw_seq ?_
 refine cw_draw H3 [0, 1, 2, 3, 4, 5, 6, 7, 8, 9, 10, 11, 12, 13] [] (fun X HX => HX) (by kernel_rfl) (by kernel_rfl) (by rfl) ?_
 simp only [pick, List.getElem?_cons_succ, List.getElem?_cons_zero]
 refine hk_y (fun Y HY => y_fa rfl rfl kffile1_1 rfl) rfl rfl ?_
 refine hk_y (fun Y HY => y_ld rfl rfl kffile1_2 (HY.cell (i := 0) rfl rfl)) rfl rfl ?_
 refine hk_y (fun Y HY => y_fa rfl rfl kffile1_3 rfl) rfl rfl ?_
 refine hk_y (fun Y HY => y_ld rfl rfl kffile1_2 (HY.cell (i := 0) rfl rfl)) rfl rfl ?_
 refine hk_y (fun Y HY => y_sub rfl rfl rfl (wi (by omega))) rfl rfl ?_
 refine hk_y (fun Y HY => y_add rfl rfl rfl (wi (by omega))) rfl rfl ?_
 refine hk_y (fun Y HY => y_fa rfl rfl kffile1_4 rfl) rfl rfl ?_
 refine hk_y (fun Y HY => y_ld rfl rfl kffile1_2 (HY.cell (i := 0) rfl rfl)) rfl rfl ?_
 refine hk_y (fun Y HY => y_fa rfl rfl kffile1_5 rfl) rfl rfl ?_
 refine hk_y (fun Y HY => y_ld rfl rfl kffile1_2 (HY.cell (i := 0) rfl rfl)) rfl rfl ?_
 refine hk_y (fun Y HY => y_sub rfl rfl rfl (wi (by omega))) rfl rfl ?_
 refine hk_y (fun Y HY => y_add rfl rfl rfl (wi (by omega))) rfl rfl ?_
 refine hk_y (fun Y HY => y_asg rfl rfl) rfl rfl ?_
 refine hk_y (fun Y HY => y_asg rfl rfl) rfl rfl ?_
 refine hk_nil ?_
 intro w4 H5
 refine tv_nil ?_
 refine fn_next ?_
 refine cw_ret ?_
 refine fn_retn (vs := [_, _]) rfl ⟨rfl, rfl, trivial⟩ rfl ?_
 exact ⟨rfl, H5.base⟩

set_option maxRecDepth 100000 in
theorem sameInts14 (A B : Option Addr) (n c1 c2 : Nat) (ks : List Int) (w : World) (ha : Rd w A (vi .i64 ks)) (hb : Rd w B (vi .i64 ks)) (hl : ks.length = n) (hn : n ≤ 100000000) :
    Ret Tryz.prog 8 [.slice A n c1, .slice B n c2] w (fun v w' => v = .bool true ∧ Below w.heap.size w w') := by
 refine ret_enter Tryz.func8 rfl rfl rfl ?_
 have H0 := HS.start w
 refine cw_seq ?_
 refine cw_reg ?_
 refine ry (y_asg rfl rfl) rfl rfl ?_
 refine reg_nil ?_
 refine fn_next ?_
 refine cw_seq ?_
 refine cw_seq ?_
 refine cw_reg ?_
 refine ry (y_mov rfl rfl) rfl rfl ?_
 refine ry (y_len rfl Tryz.underlying27 rfl) rfl rfl ?_
 refine ry (y_mov rfl rfl) rfl rfl ?_
 refine ry (y_len rfl Tryz.underlying27 rfl) rfl rfl ?_
 refine ry (y_neq rfl rfl rfl) rfl rfl ?_
 refine reg_nil ?_
 refine fn_next ?_
 refine cw_condd rfl (fun h1 => ?_) (fun h1 => ?_)
 · exact absurd rfl h1
 ·skip
  refine cw_skip ?_
  refine fn_next ?_
  refine cw_seq ?_
  refine cw_seq ?_
  refine cw_reg ?_
  refine ry (y_asg rfl rfl) rfl rfl ?_
  refine reg_nil ?_
  refine fn_next ?_
  refine cw_block ?_
  refine cw_loopJ [4, 5, 11, 12, 13, 14, 15, 16, 17, 18, 19, 20, 21, 22, 23, 24, 25] (fun M wl ml => ∃ (i : Nat), M = [(5, .int .i64 (i : Int))] ∧ HS w wl [] ∧ (i ≤ n) ∧ ml = n + 1 - i) ⟨0, rfl, H0, Nat.zero_le _, rfl⟩ ⟨rfl, trivial⟩ ?_
  rintro M w2 m4 ⟨i, rfl, H3, hin, rfl⟩
  refine cw_seq ?_
  refine cw_seq ?_
  refine cw_reg ?_
  refine ry (y_mov rfl rfl) rfl rfl ?_
  refine ry (y_mov rfl rfl) rfl rfl ?_
  refine ry (y_len rfl Tryz.underlying27 rfl) rfl rfl ?_
  refine ry (y_lss rfl rfl rfl) rfl rfl ?_
  refine reg_nil ?_
  refine fn_next ?_
  refine cw_condd rfl (fun h5 => ?_) (fun h5 => ?_)
  ·skip
   have gs := vi_get (k := .i64) (zs := ks) (i := i) (by omega)
   refine cw_skip ?_
   refine fn_next ?_
   refine cw_seq ?_
   refine cw_block ?_
   refine cw_seq ?_
   refine cw_draw H3 [0, 1, 2, 3, 4, 5, 6, 7, 8] [] (fun X HX => HX) (by kernel_rfl) (by kernel_rfl) (by rfl) ?_
   simp only [pick, List.getElem?_cons_succ, List.getElem?_cons_zero]
   refine hk_y (fun Y HY => y_mov rfl rfl) rfl rfl ?_
   refine hk_y (fun Y HY => y_mov rfl rfl) rfl rfl ?_
   refine hk_y (fun Y HY => y_iar (ha.below HY.base) rfl rfl rfl kffile1_6 (rfl) (by omega) (Nat.mul_one _) (gs)) rfl rfl ?_
   refine hk_y (fun Y HY => y_ldr (ha.below HY.base) rfl rfl kffile1_7 (gs)) rfl rfl ?_
   refine hk_y (fun Y HY => y_mov rfl rfl) rfl rfl ?_
   refine hk_y (fun Y HY => y_mov rfl rfl) rfl rfl ?_
   refine hk_y (fun Y HY => y_iar (hb.below HY.base) rfl rfl rfl kffile1_6 (rfl) (by omega) (Nat.mul_one _) (gs)) rfl rfl ?_
   refine hk_y (fun Y HY => y_ldr (hb.below HY.base) rfl rfl kffile1_7 (gs)) rfl rfl ?_
   refine hk_y (fun Y HY => y_neq rfl rfl rfl) rfl rfl ?_
   refine hk_nil ?_
   intro w6 H7
   refine tv_nil ?_
   refine fn_next ?_
   refine cw_condd rfl (fun h8 => ?_) (fun h8 => ?_)
   · exact absurd rfl h8
   ·skip
    refine cw_skip ?_
    refine fn_block ?_
    refine fn_next ?_
    refine cw_reg ?_
    refine ry (y_mov rfl rfl) rfl rfl ?_
    refine ry (y_add rfl rfl rfl (wi (by omega))) rfl rfl ?_
    refine ry (y_asg rfl rfl) rfl rfl ?_
    refine reg_nil ?_
    refine fn_roundJ ⟨i + 1, rfl, H7, by omega, rfl⟩ ⟨rfl, trivial⟩ (by omega) (by repeat (first | exact kp_refl | refine kp_app rfl rfl ?_ | refine kp_cons rfl ?_)) rfl
  ·skip
   refine cw_exit ?_
   refine fn_then_exit (fn_then_exit (fn_block_exit ?_))
   refine fn_next ?_
   refine cw_seq ?_
   refine cw_reg ?_
   refine ry (y_asg rfl rfl) rfl rfl ?_
   refine reg_nil ?_
   refine fn_next ?_
   refine cw_ret ?_
   refine fn_ret1 rfl rfl ?_
   exact ⟨rfl, H3.base⟩

end Go.Proofs.YtbnjbgcadkdljaaGreatDoor
