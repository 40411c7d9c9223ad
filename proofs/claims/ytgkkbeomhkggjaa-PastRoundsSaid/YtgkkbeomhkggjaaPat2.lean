/- Layer 11: the reference's patches. -/
import Derived.Test.YtgkkbeomhkggjaaPat1
set_option linter.unusedVariables false
set_option linter.unusedSimpArgs false
namespace Go.Proofs.Ytgkkbeomhkggjaa
open Go Go.RowKit
theorem kfpat2_1 : fldB Try.prog 30 0 0 = true := by kernel_rfl
theorem kfpat2_2 : aggB Try.prog 27 4 = true := by kernel_rfl
theorem kfpat2_3 : (Try.prog.info? 27).bind (fun i => i.zero.map Value.cells) = some (List.toArray [(.int .i64 0), (.int .i64 0), (.int .i64 0), (.int .i64 0)]) := by kernel_rfl
theorem kfpat2_4 : seqB Try.prog 27 4 = true := by kernel_rfl
theorem kfpat2_5 : fldB Try.prog 30 1 4 = true := by kernel_rfl
theorem kfpat2_6 : oneB Try.prog 28 = true := by kernel_rfl
theorem kfpat2_7 : fldB Try.prog 30 2 5 = true := by kernel_rfl
theorem kfpat2_8 : aggB Try.prog 30 6 = true := by kernel_rfl
theorem kfpat2_9 : callB Try.prog 11 = true := by kernel_rfl
theorem kfpat2_10 : callB Try.prog 66 = true := by kernel_rfl
theorem kfpat2_11 : callB Try.prog 67 = true := by kernel_rfl
theorem kfpat2_12 : elB Try.prog 28 1 = true := by kernel_rfl
theorem kfpat2_13 : oneB Try.prog 2 = true := by kernel_rfl
theorem kfpat2_14 : callB Try.prog 43 = true := by kernel_rfl
theorem kfpat2_15 : (Try.prog.info? 53).bind (fun i => i.zero.map Value.cells) = some (List.toArray [(.int .i64 0), (.int .i64 0), (.slice none 0 0)]) := by kernel_rfl
theorem kfpat2_16 : fldB Try.prog 53 0 0 = true := by kernel_rfl
theorem kfpat2_17 : fldB Try.prog 53 1 1 = true := by kernel_rfl
theorem kfpat2_19 : fldB Try.prog 53 2 2 = true := by kernel_rfl
theorem kfpat2_20 : (Try.prog.info? 2).map (fun i => (i.size, i.zero.map Value.cells)) = some (1, some (List.toArray [(.int .i64 0)])) := by kernel_rfl
theorem kfpat2_21 : (Try.prog.info? 2).map (fun i => (i.zero.map (·.cells.toList), i.size, i.bytes)) = some (some [(.int .i64 0)], 1, 8) := by kernel_rfl
theorem kfpat2_22 : szB Try.prog 53 3 = true := by kernel_rfl
theorem kfpat2_23 : fldB Try.prog 27 1 1 = true := by kernel_rfl
theorem kfpat2_24 : fldB Try.prog 27 3 3 = true := by kernel_rfl
theorem kfpat2_25 : fldB Try.prog 27 0 0 = true := by kernel_rfl
theorem kfpat2_26 : fldB Try.prog 27 2 2 = true := by kernel_rfl
theorem kfpat2_27 : szB Try.prog 2 1 = true := by kernel_rfl
theorem kfpat2_28 : aggB Try.prog 53 3 = true := by kernel_rfl
theorem kfpat2_29 : callB Try.prog 40 = true := by kernel_rfl
theorem kfpat2_31 : callB Try.prog 39 = true := by kernel_rfl
set_option maxRecDepth 100000 in
theorem refPEmpty (p : Pt) (w : World) (hp : p.ok w) (mo : p.o.n ≤ 16777216) (mq : p.q.n ≤ 16777216) :
    Ret Try.prog 11 [.agg #[.int .i64 p.x0, .int .i64 p.y0, .int .i64 p.x1, .int .i64 p.y1, .slice p.o.A p.o.n p.o.c, .slice p.q.A p.q.n p.q.c]] w (fun z w' => z = .bool (decide p.emptyP) ∧ Below w.heap.size w w') := by
 refine ret_enter Try.func11 rfl rfl rfl ?_
 have H0 := HS.start w
 refine cw_seq ?_
 refine cw_reg ?_
 refine reg_op (op_box (cs := [.int _ _, .int _ _, .int _ _, .int _ _, .slice _ _ _, .slice _ _ _]) H0 rfl rfl rfl) rfl rfl ?_
 rintro _ w2 ⟨b1, rfl, H3⟩
 refine ry (y_asg rfl rfl) rfl rfl ?_
 refine reg_nil ?_
 refine fn_next ?_
 refine cw_seq ?_
 refine cw_reg ?_
 refine ry (y_fa rfl rfl kfpat2_1 rfl) rfl rfl ?_
 refine ry (y_lda (cs := [_, _, _, _]) rfl rfl kfpat2_2 rfl (fun j v hv => H3.cell (i := 0) rfl (lst_part (a := 0) (m := 4) hv))) rfl rfl ?_
 refine ry (y_build (places := [(0, 1), (1, 1), (2, 1), (3, 1)]) (parts := []) (vs := []) (cs := [.int _ _, .int _ _, .int _ _, .int _ _]) rfl Try.underlying27 (by kernel_rfl) kfpat2_3 rfl trivial rfl) rfl rfl ?_
 refine ry (y_seq (ks := [.i64, .i64, .i64, .i64]) (a := [p.x0, p.y0, p.x1, p.y1]) (b := [0, 0, 0, 0]) rfl (.inl ⟨rfl, rfl⟩) kfpat2_4 rfl rfl rfl rfl rfl rfl rfl) rfl rfl ?_
 refine ry (y_mov rfl rfl) rfl rfl ?_
 refine rg_splitd (d := 7) rfl (fun h4 => ?_) (fun h4 => ?_)
 ·skip
  have c7 := h4
  simp only [List.cons.injEq, and_true] at c7
  refine rgy (y_fa rfl rfl kfpat2_5 rfl) rfl rfl rfl rfl ?_
  refine rgy (y_ld rfl rfl kfpat2_6 (H3.cell (i := 0) rfl rfl)) rfl rfl rfl rfl ?_
  refine rgy (y_len rfl Try.underlying28 rfl) rfl rfl rfl rfl ?_
  refine rgy (y_fa rfl rfl kfpat2_7 rfl) rfl rfl rfl rfl ?_
  refine rgy (y_ld rfl rfl kfpat2_6 (H3.cell (i := 0) rfl rfl)) rfl rfl rfl rfl ?_
  refine rgy (y_len rfl Try.underlying28 rfl) rfl rfl rfl rfl ?_
  refine rgy (y_add rfl rfl rfl (wi (by omega))) rfl rfl rfl rfl ?_
  refine rgy (y_eql rfl rfl rfl) rfl rfl rfl rfl ?_
  refine ry (y_pick rfl rfl rfl) rfl rfl ?_
  refine ry (y_asg rfl rfl) rfl rfl ?_
  refine reg_nil ?_
  refine fn_next ?_
  refine cw_ret ?_
  refine fn_ret1 rfl rfl ?_
  refine ⟨?_, H3.base⟩
  first | exact bdec (by unfold Pt.emptyP; omega) | exact bfls (by unfold Pt.emptyP; omega)
 ·skip
  have c7 := h4
  simp only [List.cons.injEq, and_true] at c7
  refine rg_off rfl rfl rfl rfl rfl ?_
  refine rg_off rfl rfl rfl rfl rfl ?_
  refine rg_off rfl rfl rfl rfl rfl ?_
  refine rg_off rfl rfl rfl rfl rfl ?_
  refine rg_off rfl rfl rfl rfl rfl ?_
  refine rg_off rfl rfl rfl rfl rfl ?_
  refine rg_off rfl rfl rfl rfl rfl ?_
  refine rg_off rfl rfl rfl rfl rfl ?_
  refine ry (y_pick rfl rfl rfl) rfl rfl ?_
  refine ry (y_asg rfl rfl) rfl rfl ?_
  refine reg_nil ?_
  refine fn_next ?_
  refine cw_ret ?_
  refine fn_ret1 rfl rfl ?_
  refine ⟨?_, H3.base⟩
  first | exact bdec (by unfold Pt.emptyP; omega) | exact bfls (by unfold Pt.emptyP; omega)

set_option maxRecDepth 100000 in
theorem refPRight (p : Pt) (w : World) (hp : p.ok w) (mo : p.o.n ≤ 16777216) (mq : p.q.n ≤ 16777216) :
    Ret Try.prog 40 [.agg #[.int .i64 p.x0, .int .i64 p.y0, .int .i64 p.x1, .int .i64 p.y1, .slice p.o.A p.o.n p.o.c, .slice p.q.A p.q.n p.q.c]] w (fun z w' => z = .bool (decide p.rightP) ∧ Below w.heap.size w w') := by
 have hlo := hp.ho.len
 have hlq := hp.hq.len
 refine ret_enter Try.func40 rfl rfl rfl ?_
 have H0 := HS.start w
 refine cw_seq ?_
 refine cw_reg ?_
 refine reg_op (op_box (cs := [.int _ _, .int _ _, .int _ _, .int _ _, .slice _ _ _, .slice _ _ _]) H0 rfl rfl rfl) rfl rfl ?_
 rintro _ w2 ⟨b1, rfl, H3⟩
 refine ry (y_asg rfl rfl) rfl rfl ?_
 refine reg_nil ?_
 refine fn_next ?_
 refine cw_seq ?_
 refine cw_seq ?_
 refine cw_reg ?_
 refine ry (y_ldb (i := 0) (cs := [_, _, _, _, _, _]) H3 rfl rfl kfpat2_8 rfl rfl) rfl rfl ?_
 refine reg_op (op_call (refPEmpty p _ (hp.below H3.base) mo mq) rfl kfpat2_9 ⟨rfl, trivial⟩) rfl rfl ?_
 rintro _ w5 ⟨rfl, e4⟩
 have H6 := H3.ext e4
 refine reg_nil ?_
 refine fn_next ?_
 refine cw_condd rfl (fun k1 => ?_) (fun k1 => ?_)
 ·skip
  refine cw_seq ?_
  refine cw_reg ?_
  refine ry (y_asg rfl rfl) rfl rfl ?_
  refine reg_nil ?_
  refine fn_next ?_
  refine cw_ret ?_
  refine fn_then_ret ?_
  refine fn_ret1 rfl rfl ?_
  refine ⟨?_, H6.base⟩
  first | exact btru (.inl k1) | exact bfls (fun q => q.elim k1 (fun q => c14 q.1)) | exact bfls (fun q => q.elim k1 (fun q => c21 q.2.1.1)) | exact bfls (fun q => q.elim k1 (fun q => c27 q.2.2.1)) | exact bfls (fun q => q.elim k1 (fun q => c42 (q.2.1.2.at_ (by omega)))) | exact bfls (fun q => q.elim k1 (fun q => c50 (q.2.2.2.at_ (by omega)))) | exact btru (.inr ⟨c14, ⟨c21, allB_nth (fun j hj => (hp1.out j (by omega)).1)⟩, ⟨c27, allB_nth (fun j hj => (hp1.out j (by omega)).2)⟩⟩)
 ·skip
  refine cw_skip ?_
  refine fn_next ?_
  refine cw_seq ?_
  refine cw_reg ?_
  refine ry (y_fa rfl rfl kfpat2_1 rfl) rfl rfl ?_
  refine ry (y_lda (cs := [_, _, _, _]) rfl rfl kfpat2_2 rfl (fun j v hv => H6.cell (i := 0) rfl (lst_part (a := 0) (m := 4) hv))) rfl rfl ?_
  refine reg_op (op_call (ret_elder (refArea_any p.x0 p.y0 p.x1 p.y1 _)) rfl kfpat2_10 ⟨rfl, trivial⟩) rfl rfl ?_
  rintro _ w9 ⟨rfl, e8⟩
  have H10 := H6.ext e8
  refine ry (y_asg rfl rfl) rfl rfl ?_
  refine reg_nil ?_
  refine fn_next ?_
  refine cw_seq ?_
  refine cw_seq ?_
  refine cw_reg ?_
  refine ry (y_fa rfl rfl kfpat2_1 rfl) rfl rfl ?_
  refine ry (y_lda (cs := [_, _, _, _]) rfl rfl kfpat2_2 rfl (fun j v hv => H10.cell (i := 0) rfl (lst_part (a := 0) (m := 4) hv))) rfl rfl ?_
  refine reg_op (op_call (ret_v (v := .bool (decide (RightP p.x0 p.y0 p.x1 p.y1))) (ret_elder (refRight_any p.x0 p.y0 p.x1 p.y1 _)) rfl) rfl kfpat2_11 ⟨rfl, trivial⟩) rfl rfl ?_
  rintro _ w12 ⟨rfl, e11⟩
  have H13 := H10.ext e11
  refine ry (y_notd rfl rfl) rfl rfl ?_
  refine ry (y_mov rfl rfl) rfl rfl ?_
  refine rg_splitd (d := 14) rfl (fun h14 => ?_) (fun h14 => ?_)
  ·skip
   have c14 := h14
   refine rg_off rfl rfl rfl rfl rfl ?_
   refine rg_off rfl rfl rfl rfl rfl ?_
   refine rg_off rfl rfl rfl rfl rfl ?_
   refine rg_off rfl rfl rfl rfl rfl ?_
   refine rg_off rfl rfl rfl rfl rfl ?_
   refine ry (y_pick rfl rfl rfl) rfl rfl ?_
   refine ry (y_mov rfl rfl) rfl rfl ?_
   refine rg_off rfl rfl rfl rfl rfl ?_
   refine rg_off rfl rfl rfl rfl rfl ?_
   refine rg_off rfl rfl rfl rfl rfl ?_
   refine rg_off rfl rfl rfl rfl rfl ?_
   refine rg_off rfl rfl rfl rfl rfl ?_
   refine ry (y_pick rfl rfl rfl) rfl rfl ?_
   refine reg_nil ?_
   refine fn_next ?_
   refine cw_condt rfl ?_
   refine cw_seq ?_
   refine cw_reg ?_
   refine ry (y_asg rfl rfl) rfl rfl ?_
   refine reg_nil ?_
   refine fn_next ?_
   refine cw_ret ?_
   refine fn_then_ret ?_
   refine fn_ret1 rfl rfl ?_
   refine ⟨?_, H13.base⟩
   first | exact btru (.inl k1) | exact bfls (fun q => q.elim k1 (fun q => c14 q.1)) | exact bfls (fun q => q.elim k1 (fun q => c21 q.2.1.1)) | exact bfls (fun q => q.elim k1 (fun q => c27 q.2.2.1)) | exact bfls (fun q => q.elim k1 (fun q => c42 (q.2.1.2.at_ (by omega)))) | exact bfls (fun q => q.elim k1 (fun q => c50 (q.2.2.2.at_ (by omega)))) | exact btru (.inr ⟨c14, ⟨c21, allB_nth (fun j hj => (hp1.out j (by omega)).1)⟩, ⟨c27, allB_nth (fun j hj => (hp1.out j (by omega)).2)⟩⟩)
  ·skip
   have c14 := Classical.not_not.1 h14
   refine rgy (y_fa rfl rfl kfpat2_5 rfl) rfl rfl rfl rfl ?_
   refine rgy (y_ld rfl rfl kfpat2_6 (H13.cell (i := 0) rfl rfl)) rfl rfl rfl rfl ?_
   refine rgy (y_len rfl Try.underlying28 rfl) rfl rfl rfl rfl ?_
   refine rgy (y_mov rfl rfl) rfl rfl rfl rfl ?_
   refine rgy (y_neq rfl rfl rfl) rfl rfl rfl rfl ?_
   refine ry (y_pick rfl rfl rfl) rfl rfl ?_
   refine ry (y_mov rfl rfl) rfl rfl ?_
   refine rg_splitd (d := 21) rfl (fun h15 => ?_) (fun h15 => ?_)
   ·skip
    have c21 := h15
    refine rg_off rfl rfl rfl rfl rfl ?_
    refine rg_off rfl rfl rfl rfl rfl ?_
    refine rg_off rfl rfl rfl rfl rfl ?_
    refine rg_off rfl rfl rfl rfl rfl ?_
    refine rg_off rfl rfl rfl rfl rfl ?_
    refine ry (y_pick rfl rfl rfl) rfl rfl ?_
    refine reg_nil ?_
    refine fn_next ?_
    refine cw_condt rfl ?_
    refine cw_seq ?_
    refine cw_reg ?_
    refine ry (y_asg rfl rfl) rfl rfl ?_
    refine reg_nil ?_
    refine fn_next ?_
    refine cw_ret ?_
    refine fn_then_ret ?_
    refine fn_ret1 rfl rfl ?_
    refine ⟨?_, H13.base⟩
    first | exact btru (.inl k1) | exact bfls (fun q => q.elim k1 (fun q => c14 q.1)) | exact bfls (fun q => q.elim k1 (fun q => c21 q.2.1.1)) | exact bfls (fun q => q.elim k1 (fun q => c27 q.2.2.1)) | exact bfls (fun q => q.elim k1 (fun q => c42 (q.2.1.2.at_ (by omega)))) | exact bfls (fun q => q.elim k1 (fun q => c50 (q.2.2.2.at_ (by omega)))) | exact btru (.inr ⟨c14, ⟨c21, allB_nth (fun j hj => (hp1.out j (by omega)).1)⟩, ⟨c27, allB_nth (fun j hj => (hp1.out j (by omega)).2)⟩⟩)
   ·skip
    have c21 := Classical.not_not.1 h15
    refine rgy (y_fa rfl rfl kfpat2_7 rfl) rfl rfl rfl rfl ?_
    refine rgy (y_ld rfl rfl kfpat2_6 (H13.cell (i := 0) rfl rfl)) rfl rfl rfl rfl ?_
    refine rgy (y_len rfl Try.underlying28 rfl) rfl rfl rfl rfl ?_
    refine rgy (y_mov rfl rfl) rfl rfl rfl rfl ?_
    refine rgy (y_neq rfl rfl rfl) rfl rfl rfl rfl ?_
    refine ry (y_pick rfl rfl rfl) rfl rfl ?_
    refine reg_nil ?_
    refine fn_next ?_
    refine cw_condd rfl (fun h16 => ?_) (fun h16 => ?_)
    ·skip
     have c27 := h16
     refine cw_seq ?_
     refine cw_reg ?_
     refine ry (y_asg rfl rfl) rfl rfl ?_
     refine reg_nil ?_
     refine fn_next ?_
     refine cw_ret ?_
     refine fn_then_ret ?_
     refine fn_ret1 rfl rfl ?_
     refine ⟨?_, H13.base⟩
     first | exact btru (.inl k1) | exact bfls (fun q => q.elim k1 (fun q => c14 q.1)) | exact bfls (fun q => q.elim k1 (fun q => c21 q.2.1.1)) | exact bfls (fun q => q.elim k1 (fun q => c27 q.2.2.1)) | exact bfls (fun q => q.elim k1 (fun q => c42 (q.2.1.2.at_ (by omega)))) | exact bfls (fun q => q.elim k1 (fun q => c50 (q.2.2.2.at_ (by omega)))) | exact btru (.inr ⟨c14, ⟨c21, allB_nth (fun j hj => (hp1.out j (by omega)).1)⟩, ⟨c27, allB_nth (fun j hj => (hp1.out j (by omega)).2)⟩⟩)
    ·skip
     have c27 := Classical.not_not.1 h16
     have eoq : p.o.n = p.q.n := by omega
     refine cw_skip ?_
     refine fn_next ?_
     refine cw_seq ?_
     refine cw_seq ?_
     refine cw_reg ?_
     refine ry (y_asg rfl rfl) rfl rfl ?_
     refine reg_nil ?_
     refine fn_next ?_
     refine cw_block ?_
     refine cw_loopJ [2, 4, 28, 29, 30, 31, 32, 33, 34, 35, 36, 37, 38, 39, 40, 41, 42, 43, 44, 45, 46, 47, 48, 49, 50] (fun M wl ml => ∃ (i : Nat), M = [(4, .int .i64 (i : Int))] ∧ HS w wl [Ob.blk b1 [.int .i64 p.x0, .int .i64 p.y0, .int .i64 p.x1, .int .i64 p.y1, .slice p.o.A p.o.n p.o.c, .slice p.q.A p.q.n p.q.c] 30] ∧ (i ≤ p.o.n) ∧ (Hid (∀ j, j < i → B32 (nth p.o.zs j) ∧ B32 (nth p.q.zs j))) ∧ ml = p.o.n - i) ⟨0, rfl, H13, Nat.zero_le _, Lib.hid (fun j hj => absurd hj (Nat.not_lt_zero _)), rfl⟩ ⟨rfl, trivial⟩ ?_
     rintro M w17 m19 ⟨i, rfl, H18, hp0, hp1, rfl⟩
     refine cw_seq ?_
     refine cw_seq ?_
     refine cw_reg ?_
     refine ry (y_mov rfl rfl) rfl rfl ?_
     refine ry (y_fa rfl rfl kfpat2_5 rfl) rfl rfl ?_
     refine ry (y_ld rfl rfl kfpat2_6 (H18.cell (i := 0) rfl rfl)) rfl rfl ?_
     refine ry (y_len rfl Try.underlying28 rfl) rfl rfl ?_
     refine ry (y_lss rfl rfl rfl) rfl rfl ?_
     refine reg_nil ?_
     refine fn_next ?_
     refine cw_condd rfl (fun h20 => ?_) (fun h20 => ?_)
     ·skip
      have go := vi_get (k := .i64) (zs := p.o.zs) (i := i) (by omega)
      have gq := vi_get (k := .i64) (zs := p.q.zs) (i := i) (by omega)
      refine cw_skip ?_
      refine fn_next ?_
      refine cw_seq ?_
      refine cw_block ?_
      refine cw_seq ?_
      refine cw_reg ?_
      refine ry (y_fa rfl rfl kfpat2_5 rfl) rfl rfl ?_
      refine ry (y_ld rfl rfl kfpat2_6 (H18.cell (i := 0) rfl rfl)) rfl rfl ?_
      refine ry (y_mov rfl rfl) rfl rfl ?_
      refine ry (y_iar ((hp.ho.rd.below H18.base)) rfl rfl rfl kfpat2_12 (rfl) (by omega) (Nat.mul_one _) (go)) rfl rfl ?_
      refine ry (y_ldr ((hp.ho.rd.below H18.base)) rfl rfl kfpat2_13 (go)) rfl rfl ?_
      refine reg_op (op_call (refMay_any (nth p.o.zs i) _) rfl kfpat2_14 ⟨rfl, trivial⟩) rfl rfl ?_
      rintro _ w22 ⟨rfl, e21⟩
      have H23 := H18.ext e21
      refine ry (y_notd rfl rfl) rfl rfl ?_
      refine ry (y_mov rfl rfl) rfl rfl ?_
      refine rg_splitd (d := 42) rfl (fun h24 => ?_) (fun h24 => ?_)
      ·skip
       have c42 := h24
       refine rg_off rfl rfl rfl rfl rfl ?_
       refine rg_off rfl rfl rfl rfl rfl ?_
       refine rg_off rfl rfl rfl rfl rfl ?_
       refine rg_off rfl rfl rfl rfl rfl ?_
       refine rg_off rfl rfl rfl rfl rfl ?_
       refine rg_off rfl rfl rfl rfl rfl ?_
       refine rg_off rfl rfl rfl rfl rfl ?_
       refine ry (y_pick rfl rfl rfl) rfl rfl ?_
       refine reg_nil ?_
       refine fn_next ?_
       refine cw_condt rfl ?_
       refine cw_seq ?_
       refine cw_reg ?_
       refine ry (y_asg rfl rfl) rfl rfl ?_
       refine reg_nil ?_
       refine fn_next ?_
       refine cw_ret ?_
       refine fn_block_ret (fn_then_ret (fn_then_ret (fn_block_ret (fn_then_ret ?_))))
       refine fn_ret1 rfl rfl ?_
       refine ⟨?_, H23.base⟩
       first | exact btru (.inl k1) | exact bfls (fun q => q.elim k1 (fun q => c14 q.1)) | exact bfls (fun q => q.elim k1 (fun q => c21 q.2.1.1)) | exact bfls (fun q => q.elim k1 (fun q => c27 q.2.2.1)) | exact bfls (fun q => q.elim k1 (fun q => c42 (q.2.1.2.at_ (by omega)))) | exact bfls (fun q => q.elim k1 (fun q => c50 (q.2.2.2.at_ (by omega)))) | exact btru (.inr ⟨c14, ⟨c21, allB_nth (fun j hj => (hp1.out j (by omega)).1)⟩, ⟨c27, allB_nth (fun j hj => (hp1.out j (by omega)).2)⟩⟩)
      ·skip
       have c42 := Classical.not_not.1 h24
       refine rgy (y_fa rfl rfl kfpat2_7 rfl) rfl rfl rfl rfl ?_
       refine rgy (y_ld rfl rfl kfpat2_6 (H23.cell (i := 0) rfl rfl)) rfl rfl rfl rfl ?_
       refine rgy (y_mov rfl rfl) rfl rfl rfl rfl ?_
       refine rgy (y_iar ((hp.hq.rd.below H23.base)) rfl rfl rfl kfpat2_12 (rfl) (by omega) (Nat.mul_one _) (gq)) rfl rfl rfl rfl ?_
       refine rgy (y_ldr ((hp.hq.rd.below H23.base)) rfl rfl kfpat2_13 (gq)) rfl rfl rfl rfl ?_
       refine rg_on rfl rfl rfl (op_call (refMay_any (nth p.q.zs i) _) rfl kfpat2_14 ⟨rfl, trivial⟩) rfl ?_
       rintro _ w26 ⟨rfl, e25⟩
       have H27 := H23.ext e25
       refine rgy (y_notd rfl rfl) rfl rfl rfl rfl ?_
       refine ry (y_pick rfl rfl rfl) rfl rfl ?_
       refine reg_nil ?_
       refine fn_next ?_
       refine cw_condd rfl (fun h28 => ?_) (fun h28 => ?_)
       ·skip
        have c50 := h28
        refine cw_seq ?_
        refine cw_reg ?_
        refine ry (y_asg rfl rfl) rfl rfl ?_
        refine reg_nil ?_
        refine fn_next ?_
        refine cw_ret ?_
        refine fn_block_ret (fn_then_ret (fn_then_ret (fn_block_ret (fn_then_ret ?_))))
        refine fn_ret1 rfl rfl ?_
        refine ⟨?_, H27.base⟩
        first | exact btru (.inl k1) | exact bfls (fun q => q.elim k1 (fun q => c14 q.1)) | exact bfls (fun q => q.elim k1 (fun q => c21 q.2.1.1)) | exact bfls (fun q => q.elim k1 (fun q => c27 q.2.2.1)) | exact bfls (fun q => q.elim k1 (fun q => c42 (q.2.1.2.at_ (by omega)))) | exact bfls (fun q => q.elim k1 (fun q => c50 (q.2.2.2.at_ (by omega)))) | exact btru (.inr ⟨c14, ⟨c21, allB_nth (fun j hj => (hp1.out j (by omega)).1)⟩, ⟨c27, allB_nth (fun j hj => (hp1.out j (by omega)).2)⟩⟩)
       ·skip
        have c50 := Classical.not_not.1 h28
        refine cw_skip ?_
        refine fn_block ?_
        refine fn_next ?_
        refine cw_reg ?_
        refine ry (y_mov rfl rfl) rfl rfl ?_
        refine ry (y_add rfl rfl rfl (wi (by omega))) rfl rfl ?_
        refine ry (y_asg rfl rfl) rfl rfl ?_
        refine reg_nil ?_
        refine fn_roundJ ⟨i + 1, rfl, H27, by omega, Lib.hid (fun j hj => (Nat.lt_or_eq_of_le (Nat.le_of_lt_succ hj)).elim (hp1.out j) (fun e => by subst e; exact ⟨c42, c50⟩)), rfl⟩ ⟨rfl, trivial⟩ (by omega) (by repeat (first | exact kp_refl | refine kp_app rfl rfl ?_ | refine kp_cons rfl ?_)) rfl
     ·skip
      obtain rfl : i = p.o.n := by omega
      refine cw_exit ?_
      refine fn_then_exit (fn_then_exit (fn_block_exit ?_))
      refine fn_next ?_
      refine cw_seq ?_
      refine cw_reg ?_
      refine ry (y_asg rfl rfl) rfl rfl ?_
      refine reg_nil ?_
      refine fn_next ?_
      refine cw_ret ?_
      refine fn_ret1 rfl rfl ?_
      refine ⟨?_, H18.base⟩
      first | exact btru (.inl k1) | exact bfls (fun q => q.elim k1 (fun q => c14 q.1)) | exact bfls (fun q => q.elim k1 (fun q => c21 q.2.1.1)) | exact bfls (fun q => q.elim k1 (fun q => c27 q.2.2.1)) | exact bfls (fun q => q.elim k1 (fun q => c42 (q.2.1.2.at_ (by omega)))) | exact bfls (fun q => q.elim k1 (fun q => c50 (q.2.2.2.at_ (by omega)))) | exact btru (.inr ⟨c14, ⟨c21, allB_nth (fun j hj => (hp1.out j (by omega)).1)⟩, ⟨c27, allB_nth (fun j hj => (hp1.out j (by omega)).2)⟩⟩)

end Go.Proofs.Ytgkkbeomhkggjaa
