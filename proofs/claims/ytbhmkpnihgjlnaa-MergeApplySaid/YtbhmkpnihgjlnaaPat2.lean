/- Layer 11: the reference's patches. -/
import Derived.Test.YtbhmkpnihgjlnaaPat1
set_option linter.unusedVariables false
set_option linter.unusedSimpArgs false
namespace Go.Proofs.Ytbhmkpnihgjlnaa
open Go Go.RowKit
theorem kfpat2_1 : fldB Try.prog 80 0 0 = true := by kernel_rfl
theorem kfpat2_2 : aggB Try.prog 55 4 = true := by kernel_rfl
theorem kfpat2_3 : (Try.prog.info? 55).bind (fun i => i.zero.map Value.cells) = some (List.toArray [(.int .i64 0), (.int .i64 0), (.int .i64 0), (.int .i64 0)]) := by kernel_rfl
theorem kfpat2_4 : seqB Try.prog 55 4 = true := by kernel_rfl
theorem kfpat2_5 : fldB Try.prog 80 1 4 = true := by kernel_rfl
theorem kfpat2_6 : oneB Try.prog 22 = true := by kernel_rfl
theorem kfpat2_7 : fldB Try.prog 80 2 5 = true := by kernel_rfl
theorem kfpat2_8 : aggB Try.prog 80 6 = true := by kernel_rfl
theorem kfpat2_9 : callB Try.prog 115 = true := by kernel_rfl
theorem kfpat2_10 : callB Try.prog 129 = true := by kernel_rfl
theorem kfpat2_11 : callB Try.prog 130 = true := by kernel_rfl
theorem kfpat2_12 : elB Try.prog 22 1 = true := by kernel_rfl
theorem kfpat2_13 : oneB Try.prog 2 = true := by kernel_rfl
theorem kfpat2_14 : callB Try.prog 53 = true := by kernel_rfl
theorem kfpat2_15 : (Try.prog.info? 25).bind (fun i => i.zero.map Value.cells) = some (List.toArray [(.int .i64 0), (.int .i64 0), (.slice none 0 0)]) := by kernel_rfl
theorem kfpat2_16 : fldB Try.prog 25 0 0 = true := by kernel_rfl
theorem kfpat2_17 : fldB Try.prog 25 1 1 = true := by kernel_rfl
theorem kfpat2_18 : callB Try.prog 104 = true := by kernel_rfl
theorem kfpat2_19 : fldB Try.prog 25 2 2 = true := by kernel_rfl
theorem kfpat2_20 : (Try.prog.info? 2).map (fun i => (i.size, i.zero.map Value.cells)) = some (1, some (List.toArray [(.int .i64 0)])) := by kernel_rfl
theorem kfpat2_21 : (Try.prog.info? 2).map (fun i => (i.zero.map (·.cells.toList), i.size, i.bytes)) = some (some [(.int .i64 0)], 1, 8) := by kernel_rfl
theorem kfpat2_22 : szB Try.prog 25 3 = true := by kernel_rfl
theorem kfpat2_23 : fldB Try.prog 55 1 1 = true := by kernel_rfl
theorem kfpat2_24 : fldB Try.prog 55 3 3 = true := by kernel_rfl
theorem kfpat2_25 : fldB Try.prog 55 0 0 = true := by kernel_rfl
theorem kfpat2_26 : fldB Try.prog 55 2 2 = true := by kernel_rfl
theorem kfpat2_27 : szB Try.prog 2 1 = true := by kernel_rfl
theorem kfpat2_28 : aggB Try.prog 25 3 = true := by kernel_rfl
theorem kfpat2_29 : callB Try.prog 114 = true := by kernel_rfl
theorem kfpat2_30 : callB Try.prog 66 = true := by kernel_rfl
theorem kfpat2_31 : callB Try.prog 37 = true := by kernel_rfl
theorem kfpat2_32 : callB Try.prog 116 = true := by kernel_rfl

set_option maxRecDepth 100000 in
theorem refPEmpty (p : Pt) (w : World) (hp : p.ok w) (mo : p.o.n ≤ 16777216) (mq : p.q.n ≤ 16777216) :
    Ret Try.prog 115 [.agg #[.int .i64 p.x0, .int .i64 p.y0, .int .i64 p.x1, .int .i64 p.y1, .slice p.o.A p.o.n p.o.c, .slice p.q.A p.q.n p.q.c]] w (fun z w' => z = .bool (decide p.emptyP) ∧ Below w.heap.size w w') := by
 refine ret_enter Try.func115 rfl rfl rfl ?_
 have H0 := HS.start w
 refine cw_seq ?_
 refine cw_reg ?_
 refine reg_op (op_box (cs := [.int _ _, .int _ _, .int _ _, .int _ _, .slice _ _ _, .slice _ _ _]) H0 rfl rfl rfl) rfl rfl ?_
 rintro _ w2 ⟨b1, rfl, H3⟩
 refine ry (y_asg rfl rfl) rfl rfl ?_
 refine reg_nil ?_
 refine fn_next ?_
 refine cw_seq ?_
 refine cw_reg ?_
 refine ry (y_fa rfl rfl kfpat2_1 rfl) rfl rfl ?_
 refine ry (y_lda (cs := [_, _, _, _]) rfl rfl kfpat2_2 rfl (fun j v hv => H3.cell (i := 0) rfl (lst_part (a := 0) (m := 4) hv))) rfl rfl ?_
 refine ry (y_build (places := [(0, 1), (1, 1), (2, 1), (3, 1)]) (parts := []) (vs := []) (cs := [.int _ _, .int _ _, .int _ _, .int _ _]) rfl Try.underlying55 (by kernel_rfl) kfpat2_3 rfl trivial rfl) rfl rfl ?_
 refine ry (y_seq (ks := [.i64, .i64, .i64, .i64]) (a := [p.x0, p.y0, p.x1, p.y1]) (b := [0, 0, 0, 0]) rfl (.inl ⟨rfl, rfl⟩) kfpat2_4 rfl rfl rfl rfl rfl rfl rfl) rfl rfl ?_
 refine ry (y_mov rfl rfl) rfl rfl ?_
 refine rg_splitd (d := 7) rfl (fun h4 => ?_) (fun h4 => ?_)
 ·skip
  have c7 := h4
  simp only [List.cons.injEq, and_true] at c7
  refine rgy (y_fa rfl rfl kfpat2_5 rfl) rfl rfl rfl rfl ?_
  refine rgy (y_ld rfl rfl kfpat2_6 (H3.cell (i := 0) rfl rfl)) rfl rfl rfl rfl ?_
  refine rgy (y_len rfl Try.underlying22 rfl) rfl rfl rfl rfl ?_
  refine rgy (y_fa rfl rfl kfpat2_7 rfl) rfl rfl rfl rfl ?_
  refine rgy (y_ld rfl rfl kfpat2_6 (H3.cell (i := 0) rfl rfl)) rfl rfl rfl rfl ?_
  refine rgy (y_len rfl Try.underlying22 rfl) rfl rfl rfl rfl ?_
  refine rgy (y_add rfl rfl rfl (wi (by omega))) rfl rfl rfl rfl ?_
  refine rgy (y_eql rfl rfl rfl) rfl rfl rfl rfl ?_
  refine ry (y_pick rfl rfl rfl) rfl rfl ?_
  refine ry (y_asg rfl rfl) rfl rfl ?_
  refine reg_nil ?_
  refine fn_next ?_
  refine cw_ret ?_
  refine fn_ret1 rfl rfl ?_
  refine ⟨?_, H3.base⟩
  first | exact bdec (by unfold Pt.emptyP; omega) | exact bfls (by unfold Pt.emptyP; omega)
 ·skip
  have c7 := h4
  simp only [List.cons.injEq, and_true] at c7
  refine rg_off rfl rfl rfl rfl rfl ?_
  refine rg_off rfl rfl rfl rfl rfl ?_
  refine rg_off rfl rfl rfl rfl rfl ?_
  refine rg_off rfl rfl rfl rfl rfl ?_
  refine rg_off rfl rfl rfl rfl rfl ?_
  refine rg_off rfl rfl rfl rfl rfl ?_
  refine rg_off rfl rfl rfl rfl rfl ?_
  refine rg_off rfl rfl rfl rfl rfl ?_
  refine ry (y_pick rfl rfl rfl) rfl rfl ?_
  refine ry (y_asg rfl rfl) rfl rfl ?_
  refine reg_nil ?_
  refine fn_next ?_
  refine cw_ret ?_
  refine fn_ret1 rfl rfl ?_
  refine ⟨?_, H3.base⟩
  first | exact bdec (by unfold Pt.emptyP; omega) | exact bfls (by unfold Pt.emptyP; omega)

set_option maxRecDepth 100000 in
theorem refPRight (p : Pt) (w : World) (hp : p.ok w) (mo : p.o.n ≤ 16777216) (mq : p.q.n ≤ 16777216) :
    Ret Try.prog 114 [.agg #[.int .i64 p.x0, .int .i64 p.y0, .int .i64 p.x1, .int .i64 p.y1, .slice p.o.A p.o.n p.o.c, .slice p.q.A p.q.n p.q.c]] w (fun z w' => z = .bool (decide p.rightP) ∧ Below w.heap.size w w') := by
 have hlo := hp.ho.len
 have hlq := hp.hq.len
 refine ret_enter Try.func114 rfl rfl rfl ?_
 have H0 := HS.start w
 refine cw_seq ?_
 refine cw_reg ?_
 refine reg_op (op_box (cs := [.int _ _, .int _ _, .int _ _, .int _ _, .slice _ _ _, .slice _ _ _]) H0 rfl rfl rfl) rfl rfl ?_
 rintro _ w2 ⟨b1, rfl, H3⟩
 refine ry (y_asg rfl rfl) rfl rfl ?_
 refine reg_nil ?_
 refine fn_next ?_
 refine cw_seq ?_
 refine cw_seq ?_
 refine cw_reg ?_
 refine ry (y_ldb (i := 0) (cs := [_, _, _, _, _, _]) H3 rfl rfl kfpat2_8 rfl rfl) rfl rfl ?_
 refine reg_op (op_call (refPEmpty p _ (hp.below H3.base) mo mq) rfl kfpat2_9 ⟨rfl, trivial⟩) rfl rfl ?_
 rintro _ w5 ⟨rfl, e4⟩
 have H6 := H3.ext e4
 refine reg_nil ?_
 refine fn_next ?_
 refine cw_condd rfl (fun k1 => ?_) (fun k1 => ?_)
 ·skip
  refine cw_seq ?_
  refine cw_reg ?_
  refine ry (y_asg rfl rfl) rfl rfl ?_
  refine reg_nil ?_
  refine fn_next ?_
  refine cw_ret ?_
  refine fn_then_ret ?_
  refine fn_ret1 rfl rfl ?_
  refine ⟨?_, H6.base⟩
  first | exact btru (.inl k1) | exact bfls (fun q => q.elim k1 (fun q => c14 q.1)) | exact bfls (fun q => q.elim k1 (fun q => c21 q.2.1.1)) | exact bfls (fun q => q.elim k1 (fun q => c27 q.2.2.1)) | exact bfls (fun q => q.elim k1 (fun q => c42 (q.2.1.2.at_ (by omega)))) | exact bfls (fun q => q.elim k1 (fun q => c50 (q.2.2.2.at_ (by omega)))) | exact btru (.inr ⟨c14, ⟨c21, allB_nth (fun j hj => (hp1.out j (by omega)).1)⟩, ⟨c27, allB_nth (fun j hj => (hp1.out j (by omega)).2)⟩⟩)
 ·skip
  refine cw_skip ?_
  refine fn_next ?_
  refine cw_seq ?_
  refine cw_reg ?_
  refine ry (y_fa rfl rfl kfpat2_1 rfl) rfl rfl ?_
  refine ry (y_lda (cs := [_, _, _, _]) rfl rfl kfpat2_2 rfl (fun j v hv => H6.cell (i := 0) rfl (lst_part (a := 0) (m := 4) hv))) rfl rfl ?_
  refine reg_op (op_call (ret_elder (refArea_any p.x0 p.y0 p.x1 p.y1 _)) rfl kfpat2_10 ⟨rfl, trivial⟩) rfl rfl ?_
  rintro _ w9 ⟨rfl, e8⟩
  have H10 := H6.ext e8
  refine ry (y_asg rfl rfl) rfl rfl ?_
  refine reg_nil ?_
  refine fn_next ?_
  refine cw_seq ?_
  refine cw_seq ?_
  refine cw_reg ?_
  refine ry (y_fa rfl rfl kfpat2_1 rfl) rfl rfl ?_
  refine ry (y_lda (cs := [_, _, _, _]) rfl rfl kfpat2_2 rfl (fun j v hv => H10.cell (i := 0) rfl (lst_part (a := 0) (m := 4) hv))) rfl rfl ?_
  refine reg_op (op_call (ret_v (v := .bool (decide (RightP p.x0 p.y0 p.x1 p.y1))) (ret_elder (refRight_any p.x0 p.y0 p.x1 p.y1 _)) rfl) rfl kfpat2_11 ⟨rfl, trivial⟩) rfl rfl ?_
  rintro _ w12 ⟨rfl, e11⟩
  have H13 := H10.ext e11
  refine ry (y_notd rfl rfl) rfl rfl ?_
  refine ry (y_mov rfl rfl) rfl rfl ?_
  refine rg_splitd (d := 14) rfl (fun h14 => ?_) (fun h14 => ?_)
  ·skip
   have c14 := h14
   refine rg_off rfl rfl rfl rfl rfl ?_
   refine rg_off rfl rfl rfl rfl rfl ?_
   refine rg_off rfl rfl rfl rfl rfl ?_
   refine rg_off rfl rfl rfl rfl rfl ?_
   refine rg_off rfl rfl rfl rfl rfl ?_
   refine ry (y_pick rfl rfl rfl) rfl rfl ?_
   refine ry (y_mov rfl rfl) rfl rfl ?_
   refine rg_off rfl rfl rfl rfl rfl ?_
   refine rg_off rfl rfl rfl rfl rfl ?_
   refine rg_off rfl rfl rfl rfl rfl ?_
   refine rg_off rfl rfl rfl rfl rfl ?_
   refine rg_off rfl rfl rfl rfl rfl ?_
   refine ry (y_pick rfl rfl rfl) rfl rfl ?_
   refine reg_nil ?_
   refine fn_next ?_
   refine cw_condt rfl ?_
   refine cw_seq ?_
   refine cw_reg ?_
   refine ry (y_asg rfl rfl) rfl rfl ?_
   refine reg_nil ?_
   refine fn_next ?_
   refine cw_ret ?_
   refine fn_then_ret ?_
   refine fn_ret1 rfl rfl ?_
   refine ⟨?_, H13.base⟩
   first | exact btru (.inl k1) | exact bfls (fun q => q.elim k1 (fun q => c14 q.1)) | exact bfls (fun q => q.elim k1 (fun q => c21 q.2.1.1)) | exact bfls (fun q => q.elim k1 (fun q => c27 q.2.2.1)) | exact bfls (fun q => q.elim k1 (fun q => c42 (q.2.1.2.at_ (by omega)))) | exact bfls (fun q => q.elim k1 (fun q => c50 (q.2.2.2.at_ (by omega)))) | exact btru (.inr ⟨c14, ⟨c21, allB_nth (fun j hj => (hp1.out j (by omega)).1)⟩, ⟨c27, allB_nth (fun j hj => (hp1.out j (by omega)).2)⟩⟩)
  ·skip
   have c14 := Classical.not_not.1 h14
   refine rgy (y_fa rfl rfl kfpat2_5 rfl) rfl rfl rfl rfl ?_
   refine rgy (y_ld rfl rfl kfpat2_6 (H13.cell (i := 0) rfl rfl)) rfl rfl rfl rfl ?_
   refine rgy (y_len rfl Try.underlying22 rfl) rfl rfl rfl rfl ?_
   refine rgy (y_mov rfl rfl) rfl rfl rfl rfl ?_
   refine rgy (y_neq rfl rfl rfl) rfl rfl rfl rfl ?_
   refine ry (y_pick rfl rfl rfl) rfl rfl ?_
   refine ry (y_mov rfl rfl) rfl rfl ?_
   refine rg_splitd (d := 21) rfl (fun h15 => ?_) (fun h15 => ?_)
   ·skip
    have c21 := h15
    refine rg_off rfl rfl rfl rfl rfl ?_
    refine rg_off rfl rfl rfl rfl rfl ?_
    refine rg_off rfl rfl rfl rfl rfl ?_
    refine rg_off rfl rfl rfl rfl rfl ?_
    refine rg_off rfl rfl rfl rfl rfl ?_
    refine ry (y_pick rfl rfl rfl) rfl rfl ?_
    refine reg_nil ?_
    refine fn_next ?_
    refine cw_condt rfl ?_
    refine cw_seq ?_
    refine cw_reg ?_
    refine ry (y_asg rfl rfl) rfl rfl ?_
    refine reg_nil ?_
    refine fn_next ?_
    refine cw_ret ?_
    refine fn_then_ret ?_
    refine fn_ret1 rfl rfl ?_
    refine ⟨?_, H13.base⟩
    first | exact btru (.inl k1) | exact bfls (fun q => q.elim k1 (fun q => c14 q.1)) | exact bfls (fun q => q.elim k1 (fun q => c21 q.2.1.1)) | exact bfls (fun q => q.elim k1 (fun q => c27 q.2.2.1)) | exact bfls (fun q => q.elim k1 (fun q => c42 (q.2.1.2.at_ (by omega)))) | exact bfls (fun q => q.elim k1 (fun q => c50 (q.2.2.2.at_ (by omega)))) | exact btru (.inr ⟨c14, ⟨c21, allB_nth (fun j hj => (hp1.out j (by omega)).1)⟩, ⟨c27, allB_nth (fun j hj => (hp1.out j (by omega)).2)⟩⟩)
   ·skip
    have c21 := Classical.not_not.1 h15
    refine rgy (y_fa rfl rfl kfpat2_7 rfl) rfl rfl rfl rfl ?_
    refine rgy (y_ld rfl rfl kfpat2_6 (H13.cell (i := 0) rfl rfl)) rfl rfl rfl rfl ?_
    refine rgy (y_len rfl Try.underlying22 rfl) rfl rfl rfl rfl ?_
    refine rgy (y_mov rfl rfl) rfl rfl rfl rfl ?_
    refine rgy (y_neq rfl rfl rfl) rfl rfl rfl rfl ?_
    refine ry (y_pick rfl rfl rfl) rfl rfl ?_
    refine reg_nil ?_
    refine fn_next ?_
    refine cw_condd rfl (fun h16 => ?_) (fun h16 => ?_)
    ·skip
     have c27 := h16
     refine cw_seq ?_
     refine cw_reg ?_
     refine ry (y_asg rfl rfl) rfl rfl ?_
     refine reg_nil ?_
     refine fn_next ?_
     refine cw_ret ?_
     refine fn_then_ret ?_
     refine fn_ret1 rfl rfl ?_
     refine ⟨?_, H13.base⟩
     first | exact btru (.inl k1) | exact bfls (fun q => q.elim k1 (fun q => c14 q.1)) | exact bfls (fun q => q.elim k1 (fun q => c21 q.2.1.1)) | exact bfls (fun q => q.elim k1 (fun q => c27 q.2.2.1)) | exact bfls (fun q => q.elim k1 (fun q => c42 (q.2.1.2.at_ (by omega)))) | exact bfls (fun q => q.elim k1 (fun q => c50 (q.2.2.2.at_ (by omega)))) | exact btru (.inr ⟨c14, ⟨c21, allB_nth (fun j hj => (hp1.out j (by omega)).1)⟩, ⟨c27, allB_nth (fun j hj => (hp1.out j (by omega)).2)⟩⟩)
    ·skip
     have c27 := Classical.not_not.1 h16
     have eoq : p.o.n = p.q.n := by omega
     refine cw_skip ?_
     refine fn_next ?_
     refine cw_seq ?_
     refine cw_seq ?_
     refine cw_reg ?_
     refine ry (y_asg rfl rfl) rfl rfl ?_
     refine reg_nil ?_
     refine fn_next ?_
     refine cw_block ?_
     refine cw_loopJ [2, 4, 28, 29, 30, 31, 32, 33, 34, 35, 36, 37, 38, 39, 40, 41, 42, 43, 44, 45, 46, 47, 48, 49, 50] (fun M wl ml => ∃ (i : Nat), M = [(4, .int .i64 (i : Int))] ∧ HS w wl [Ob.blk b1 [.int .i64 p.x0, .int .i64 p.y0, .int .i64 p.x1, .int .i64 p.y1, .slice p.o.A p.o.n p.o.c, .slice p.q.A p.q.n p.q.c] 80] ∧ (i ≤ p.o.n) ∧ (Hid (∀ j, j < i → B32 (nth p.o.zs j) ∧ B32 (nth p.q.zs j))) ∧ ml = p.o.n - i) ⟨0, rfl, H13, Nat.zero_le _, Lib.hid (fun j hj => absurd hj (Nat.not_lt_zero _)), rfl⟩ ⟨rfl, trivial⟩ ?_
     rintro M w17 m19 ⟨i, rfl, H18, hp0, hp1, rfl⟩
     refine cw_seq ?_
     refine cw_seq ?_
     refine cw_reg ?_
     refine ry (y_mov rfl rfl) rfl rfl ?_
     refine ry (y_fa rfl rfl kfpat2_5 rfl) rfl rfl ?_
     refine ry (y_ld rfl rfl kfpat2_6 (H18.cell (i := 0) rfl rfl)) rfl rfl ?_
     refine ry (y_len rfl Try.underlying22 rfl) rfl rfl ?_
     refine ry (y_lss rfl rfl rfl) rfl rfl ?_
     refine reg_nil ?_
     refine fn_next ?_
     refine cw_condd rfl (fun h20 => ?_) (fun h20 => ?_)
     ·skip
      have go := vi_get (k := .i64) (zs := p.o.zs) (i := i) (by omega)
      have gq := vi_get (k := .i64) (zs := p.q.zs) (i := i) (by omega)
      refine cw_skip ?_
      refine fn_next ?_
      refine cw_seq ?_
      refine cw_block ?_
      refine cw_seq ?_
      refine cw_reg ?_
      refine ry (y_fa rfl rfl kfpat2_5 rfl) rfl rfl ?_
      refine ry (y_ld rfl rfl kfpat2_6 (H18.cell (i := 0) rfl rfl)) rfl rfl ?_
      refine ry (y_mov rfl rfl) rfl rfl ?_
      refine ry (y_iar ((hp.ho.rd.below H18.base)) rfl rfl rfl kfpat2_12 (rfl) (by omega) (Nat.mul_one _) (go)) rfl rfl ?_
      refine ry (y_ldr ((hp.ho.rd.below H18.base)) rfl rfl kfpat2_13 (go)) rfl rfl ?_
      refine reg_op (op_call (refMay_any (nth p.o.zs i) _) rfl kfpat2_14 ⟨rfl, trivial⟩) rfl rfl ?_
      rintro _ w22 ⟨rfl, e21⟩
      have H23 := H18.ext e21
      refine ry (y_notd rfl rfl) rfl rfl ?_
      refine ry (y_mov rfl rfl) rfl rfl ?_
      refine rg_splitd (d := 42) rfl (fun h24 => ?_) (fun h24 => ?_)
      ·skip
       have c42 := h24
       refine rg_off rfl rfl rfl rfl rfl ?_
       refine rg_off rfl rfl rfl rfl rfl ?_
       refine rg_off rfl rfl rfl rfl rfl ?_
       refine rg_off rfl rfl rfl rfl rfl ?_
       refine rg_off rfl rfl rfl rfl rfl ?_
       refine rg_off rfl rfl rfl rfl rfl ?_
       refine rg_off rfl rfl rfl rfl rfl ?_
       refine ry (y_pick rfl rfl rfl) rfl rfl ?_
       refine reg_nil ?_
       refine fn_next ?_
       refine cw_condt rfl ?_
       refine cw_seq ?_
       refine cw_reg ?_
       refine ry (y_asg rfl rfl) rfl rfl ?_
       refine reg_nil ?_
       refine fn_next ?_
       refine cw_ret ?_
       refine fn_block_ret (fn_then_ret (fn_then_ret (fn_block_ret (fn_then_ret ?_))))
       refine fn_ret1 rfl rfl ?_
       refine ⟨?_, H23.base⟩
       first | exact btru (.inl k1) | exact bfls (fun q => q.elim k1 (fun q => c14 q.1)) | exact bfls (fun q => q.elim k1 (fun q => c21 q.2.1.1)) | exact bfls (fun q => q.elim k1 (fun q => c27 q.2.2.1)) | exact bfls (fun q => q.elim k1 (fun q => c42 (q.2.1.2.at_ (by omega)))) | exact bfls (fun q => q.elim k1 (fun q => c50 (q.2.2.2.at_ (by omega)))) | exact btru (.inr ⟨c14, ⟨c21, allB_nth (fun j hj => (hp1.out j (by omega)).1)⟩, ⟨c27, allB_nth (fun j hj => (hp1.out j (by omega)).2)⟩⟩)
      ·skip
       have c42 := Classical.not_not.1 h24
       refine rgy (y_fa rfl rfl kfpat2_7 rfl) rfl rfl rfl rfl ?_
       refine rgy (y_ld rfl rfl kfpat2_6 (H23.cell (i := 0) rfl rfl)) rfl rfl rfl rfl ?_
       refine rgy (y_mov rfl rfl) rfl rfl rfl rfl ?_
       refine rgy (y_iar ((hp.hq.rd.below H23.base)) rfl rfl rfl kfpat2_12 (rfl) (by omega) (Nat.mul_one _) (gq)) rfl rfl rfl rfl ?_
       refine rgy (y_ldr ((hp.hq.rd.below H23.base)) rfl rfl kfpat2_13 (gq)) rfl rfl rfl rfl ?_
       refine rg_on rfl rfl rfl (op_call (refMay_any (nth p.q.zs i) _) rfl kfpat2_14 ⟨rfl, trivial⟩) rfl ?_
       rintro _ w26 ⟨rfl, e25⟩
       have H27 := H23.ext e25
       refine rgy (y_notd rfl rfl) rfl rfl rfl rfl ?_
       refine ry (y_pick rfl rfl rfl) rfl rfl ?_
       refine reg_nil ?_
       refine fn_next ?_
       refine cw_condd rfl (fun h28 => ?_) (fun h28 => ?_)
       ·skip
        have c50 := h28
        refine cw_seq ?_
        refine cw_reg ?_
        refine ry (y_asg rfl rfl) rfl rfl ?_
        refine reg_nil ?_
        refine fn_next ?_
        refine cw_ret ?_
        refine fn_block_ret (fn_then_ret (fn_then_ret (fn_block_ret (fn_then_ret ?_))))
        refine fn_ret1 rfl rfl ?_
        refine ⟨?_, H27.base⟩
        first | exact btru (.inl k1) | exact bfls (fun q => q.elim k1 (fun q => c14 q.1)) | exact bfls (fun q => q.elim k1 (fun q => c21 q.2.1.1)) | exact bfls (fun q => q.elim k1 (fun q => c27 q.2.2.1)) | exact bfls (fun q => q.elim k1 (fun q => c42 (q.2.1.2.at_ (by omega)))) | exact bfls (fun q => q.elim k1 (fun q => c50 (q.2.2.2.at_ (by omega)))) | exact btru (.inr ⟨c14, ⟨c21, allB_nth (fun j hj => (hp1.out j (by omega)).1)⟩, ⟨c27, allB_nth (fun j hj => (hp1.out j (by omega)).2)⟩⟩)
       ·skip
        have c50 := Classical.not_not.1 h28
        refine cw_skip ?_
        refine fn_block ?_
        refine fn_next ?_
        refine cw_reg ?_
        refine ry (y_mov rfl rfl) rfl rfl ?_
        refine ry (y_add rfl rfl rfl (wi (by omega))) rfl rfl ?_
        refine ry (y_asg rfl rfl) rfl rfl ?_
        refine reg_nil ?_
        refine fn_roundJ ⟨i + 1, rfl, H27, by omega, Lib.hid (fun j hj => (Nat.lt_or_eq_of_le (Nat.le_of_lt_succ hj)).elim (hp1.out j) (fun e => by subst e; exact ⟨c42, c50⟩)), rfl⟩ ⟨rfl, trivial⟩ (by omega) (by repeat (first | exact kp_refl | refine kp_app rfl rfl ?_ | refine kp_cons rfl ?_)) rfl
     ·skip
      obtain rfl : i = p.o.n := by omega
      refine cw_exit ?_
      refine fn_then_exit (fn_then_exit (fn_block_exit ?_))
      refine fn_next ?_
      refine cw_seq ?_
      refine cw_reg ?_
      refine ry (y_asg rfl rfl) rfl rfl ?_
      refine reg_nil ?_
      refine fn_next ?_
      refine cw_ret ?_
      refine fn_ret1 rfl rfl ?_
      refine ⟨?_, H18.base⟩
      first | exact btru (.inl k1) | exact bfls (fun q => q.elim k1 (fun q => c14 q.1)) | exact bfls (fun q => q.elim k1 (fun q => c21 q.2.1.1)) | exact bfls (fun q => q.elim k1 (fun q => c27 q.2.2.1)) | exact bfls (fun q => q.elim k1 (fun q => c42 (q.2.1.2.at_ (by omega)))) | exact bfls (fun q => q.elim k1 (fun q => c50 (q.2.2.2.at_ (by omega)))) | exact btru (.inr ⟨c14, ⟨c21, allB_nth (fun j hj => (hp1.out j (by omega)).1)⟩, ⟨c27, allB_nth (fun j hj => (hp1.out j (by omega)).2)⟩⟩)

set_option maxRecDepth 100000 in
theorem rPaste_ok (w0 : World) (l : List Ob) (a h : Nat) (A : Option Addr) (cap : Nat) (V : List Int) (p0 q0 p1 q1 : Nat) (L : List Int) (B : Option Addr) (n c2 : Nat) (w : World) (s : SzG a h) (hV : V.length = a * h) (hv : ∀ X, HS w0 X l → Rd X A (vi .i64 V)) (h1 : p0 ≤ p1) (h2 : p1 < a) (h3 : q0 ≤ q1) (h4 : q1 < h) (hw : withinC p0 q0 p1 q1 a h = 0) (hc : (L.length : Int) = areaI p0 q0 p1 q1) (hb : AllB L) (hr : ∀ X, HS w0 X l → Rd X B (vi .i64 L)) (hl : L.length = n) (hn : n ≤ 16777216) (H0 : HS w0 w l) :
    Ret Try.prog 116 [.agg #[.int .i64 (a : Int), .int .i64 (h : Int), .slice A (a * h) cap], .agg #[.int .i64 (p0 : Int), .int .i64 (q0 : Int), .int .i64 (p1 : Int), .int .i64 (q1 : Int)], .slice B n c2] w (fun z w' => ∃ A' cap', z = .tuple #[.agg #[.int .i64 (a : Int), .int .i64 (h : Int), .slice A' (a * h) cap'], .int .i64 0] ∧ HS w0 w' (Ob.row A' (a * h) cap' (vi .i64 (pasteV V a h p0 q0 p1 q1 L)) 2 1 :: l)) := by
 have hm' := s.mul
 obtain ⟨s1, s2, s3, s4⟩ := id s
 have hnn : n = (q1 + 1 - q0) * (p1 + 1 - p0) := by have := areaI_nat (p0 := p0) (q0 := q0) (p1 := p1) (q1 := q1) h1 (by omega) h3 (by omega); rw [this] at hc; omega
 have hnm : (q1 + 1 - q0) * (p1 + 1 - p0) ≤ 1024 * 1024 := Nat.mul_le_mul (by omega) (by omega)
 refine ret_enter Try.func116 rfl rfl rfl ?_
 refine cw_seq ?_
 refine cw_reg ?_
 refine reg_op (op_box (cs := [.int _ _, .int _ _, .slice _ _ _]) H0 rfl rfl rfl) rfl rfl ?_
 rintro _ w2 ⟨b1, rfl, H3⟩
 refine reg_op (op_box (cs := [.int _ _, .int _ _, .int _ _, .int _ _]) H3 rfl rfl rfl) rfl rfl ?_
 rintro _ w5 ⟨b4, rfl, H6⟩
 refine reg_op (op_alloc H6 rfl kfpat2_15) rfl rfl ?_
 rintro _ w8 ⟨b7, rfl, H9⟩
 refine ry (y_asg rfl rfl) rfl rfl ?_
 refine reg_nil ?_
 refine fn_next ?_
 refine cw_seq ?_
 refine cw_reg ?_
 refine ry (y_ldb (i := 1) (cs := [_, _, _, _]) H9 rfl rfl kfpat2_2 rfl rfl) rfl rfl ?_
 refine ry (y_fa rfl rfl kfpat2_16 rfl) rfl rfl ?_
 refine ry (y_ld rfl rfl kfpat2_13 (H9.cell (i := 2) rfl rfl)) rfl rfl ?_
 refine ry (y_fa rfl rfl kfpat2_17 rfl) rfl rfl ?_
 refine ry (y_ld rfl rfl kfpat2_13 (H9.cell (i := 2) rfl rfl)) rfl rfl ?_
 refine reg_op (op_call (ret_elder (refWithin_any p0 q0 p1 q1 a h _ (by omega) (by omega) (by omega) (by omega))) rfl kfpat2_18 ⟨rfl, rfl, rfl, trivial⟩) rfl rfl ?_
 rintro _ w11 ⟨rfl, e10⟩
 have H12 := H9.ext e10
 refine ry (y_asg rfl rfl) rfl rfl ?_
 refine reg_nil ?_
 refine fn_next ?_
 refine cw_seq ?_
 refine cw_seq ?_
 refine cw_reg ?_
 refine ry (y_mov rfl rfl) rfl rfl ?_
 refine ry (y_neq rfl rfl rfl) rfl rfl ?_
 refine reg_nil ?_
 refine fn_next ?_
 refine cw_condd rfl (fun h13 => ?_) (fun h13 => ?_)
 · exact absurd hw h13
 ·skip
  refine cw_skip ?_
  refine fn_next ?_
  refine cw_seq ?_
  refine cw_seq ?_
  refine cw_reg ?_
  refine ry (y_mov rfl rfl) rfl rfl ?_
  refine ry (y_len rfl Try.underlying22 rfl) rfl rfl ?_
  refine ry (y_ldb (i := 1) (cs := [_, _, _, _]) H12 rfl rfl kfpat2_2 rfl rfl) rfl rfl ?_
  refine reg_op (op_call (ret_elder (refArea_any p0 q0 p1 q1 _)) rfl kfpat2_10 ⟨rfl, trivial⟩) rfl rfl ?_
  rintro _ w15 ⟨rfl, e14⟩
  have H16 := H12.ext e14
  refine ry (y_neq rfl rfl rfl) rfl rfl ?_
  refine reg_nil ?_
  refine fn_next ?_
  refine cw_condd rfl (fun h17 => ?_) (fun h17 => ?_)
  · exact absurd (by rw [← hl]; exact hc) h17
  ·skip
   refine cw_skip ?_
   refine fn_next ?_
   refine cw_seq ?_
   refine cw_seq ?_
   refine cw_reg ?_
   refine ry (y_asg rfl rfl) rfl rfl ?_
   refine reg_nil ?_
   refine fn_next ?_
   refine cw_block ?_
   refine cw_loopJ [7, 9, 30, 31, 32, 33, 34, 35, 36, 37, 38, 39, 40, 41, 42] (fun M wl ml => ∃ (i : Nat), M = [(9, .int .i64 (i : Int))] ∧ HS w0 wl (Ob.blk b1 [.int .i64 (a : Int), .int .i64 (h : Int), .slice A (a * h) cap] 25 :: Ob.blk b4 [.int .i64 (p0 : Int), .int .i64 (q0 : Int), .int .i64 (p1 : Int), .int .i64 (q1 : Int)] 55 :: Ob.blk b7 [.int .i64 0, .int .i64 0, .slice none 0 0] 25 :: l) ∧ (i ≤ n) ∧ ml = n - i) ⟨0, rfl, (H16.pickT (p := [_, _, _]) (m := [_, _, _]) [2, 1, 0] rfl (by decide)), Nat.zero_le _, rfl⟩ ⟨rfl, trivial⟩ ?_
   rintro M w18 m20 ⟨i, rfl, H19, hp0, rfl⟩
   refine cw_seq ?_
   refine cw_seq ?_
   refine cw_reg ?_
   refine ry (y_mov rfl rfl) rfl rfl ?_
   refine ry (y_mov rfl rfl) rfl rfl ?_
   refine ry (y_len rfl Try.underlying22 rfl) rfl rfl ?_
   refine ry (y_lss rfl rfl rfl) rfl rfl ?_
   refine reg_nil ?_
   refine fn_next ?_
   refine cw_condd rfl (fun h21 => ?_) (fun h21 => ?_)
   ·skip
    have hgi := vi_get (k := .i64) (zs := L) (i := i) (by omega)
    refine cw_skip ?_
    refine fn_next ?_
    refine cw_seq ?_
    refine cw_block ?_
    refine cw_seq ?_
    refine cw_reg ?_
    refine ry (y_mov rfl rfl) rfl rfl ?_
    refine ry (y_mov rfl rfl) rfl rfl ?_
    refine ry (y_iar (hr _ (H19.tail.tail.tail)) rfl rfl rfl kfpat2_12 (rfl) (by omega) (Nat.mul_one _) (hgi)) rfl rfl ?_
    refine ry (y_ldr (hr _ (H19.tail.tail.tail)) rfl rfl kfpat2_13 (hgi)) rfl rfl ?_
    refine reg_op (op_call (refMay_any (nth L i) _) rfl kfpat2_14 ⟨rfl, trivial⟩) rfl rfl ?_
    rintro _ w23 ⟨rfl, e22⟩
    have H24 := H19.ext e22
    refine ry (y_notd rfl rfl) rfl rfl ?_
    refine reg_nil ?_
    refine fn_next ?_
    refine cw_condd rfl (fun hne => ?_) (fun hne => ?_)
    · exact absurd (hb.at_ (by omega)) hne
    ·skip
     refine cw_skip ?_
     refine fn_block ?_
     refine fn_next ?_
     refine cw_reg ?_
     refine ry (y_mov rfl rfl) rfl rfl ?_
     refine ry (y_add rfl rfl rfl (wi (by omega))) rfl rfl ?_
     refine ry (y_asg rfl rfl) rfl rfl ?_
     refine reg_nil ?_
     refine fn_roundJ ⟨i + 1, rfl, H24, by omega, rfl⟩ ⟨rfl, trivial⟩ (by omega) (by repeat (first | exact kp_refl | refine kp_app rfl rfl ?_ | refine kp_cons rfl ?_)) rfl
   ·skip
    refine cw_exit ?_
    refine fn_then_exit (fn_then_exit (fn_block_exit ?_))
    refine fn_next ?_
    refine cw_seq ?_
    refine cw_drawT H19 [0, 1, 2, 3, 5, 6] (.alt (.step 4 (.alt (.step 7 (.alt (.step 8 (.step 9 (.step 10 (.leaf)))) (.step 9 (.step 8 (.step 10 (.leaf)))))) (.step 9 (.step 7 (.step 8 (.step 10 (.leaf))))))) (.step 9 (.step 4 (.step 7 (.step 8 (.step 10 (.leaf))))))) (fun X HX => HX) (by kernel_rfl) (by kernel_rfl) (by rfl) ?_
    simp only [pick, List.getElem?_cons_succ, List.getElem?_cons_zero]
    refine hk_y (fun Y HY => y_fa rfl rfl kfpat2_16 rfl) rfl rfl ?_
    refine hk_y (fun Y HY => y_ld rfl rfl kfpat2_13 (HY.cell (i := 0) rfl rfl)) rfl rfl ?_
    refine hk_y (fun Y HY => y_fa rfl rfl kfpat2_17 rfl) rfl rfl ?_
    refine hk_y (fun Y HY => y_ld rfl rfl kfpat2_13 (HY.cell (i := 0) rfl rfl)) rfl rfl ?_
    refine hk_y (fun Y HY => y_fa rfl rfl kfpat2_19 rfl) rfl rfl ?_
    refine hk_y (fun Y HY => y_ld rfl rfl kfpat2_6 (HY.cell (i := 0) rfl rfl)) rfl rfl ?_
    refine hkt_nil [10, 47, 50, 51] (fun M wl => ∃ (b' : Nat) (A' : Option Addr) (cap' : Nat), M = [(10, .pointer (some ⟨b', 0, none⟩))] ∧ HS w0 wl (Ob.row A' (a * h) cap' (vi .i64 (V)) 2 1 :: Ob.blk b' [.int .i64 (a : Int), .int .i64 (h : Int), .slice A' (a * h) cap'] 25 :: Ob.blk b1 [.int .i64 (a : Int), .int .i64 (h : Int), .slice A (a * h) cap] 25 :: Ob.blk b4 [.int .i64 (p0 : Int), .int .i64 (q0 : Int), .int .i64 (p1 : Int), .int .i64 (q1 : Int)] 55 :: Ob.blk b7 [.int .i64 0, .int .i64 0, .slice none 0 0] 25 :: l)) (fun wX HX => ?_) ?_
    ·skip
     refine tt_alt ?_ ?_
     ·skip
      refine tt_op rfl (op_lit (parts := []) (vs := []) (cs := []) HX rfl Try.underlying22 kfpat2_20 rfl trivial rfl rfl) rfl rfl ?_
      rintro _ w27 ⟨b26, rfl, H28⟩
      have H29 := H28.asrow (m := 0) (size := 1) rfl (by decide)
      refine ⟨(H29.pickT (p := [_, _, _, _]) (m := [_, _, _]) [1, 2, 3] rfl (by decide)), fun w30 e32 => ?_⟩
      have H31 := H29.ext e32
      refine tt_alt ?_ ?_
      ·skip
       refine tt_op rfl (op_app (i := 0) (k := 0) (m := a * h) (ys := vi .i64 V) (size := 1) H31 rfl rfl rfl rfl (hv _ (H31.tail.tail.tail.tail)) (by rw [vi_len, hV, Nat.mul_one]) (vi_one) Try.underlying22 kfpat2_21 rfl rfl (by unfold maxLen; omega) (by omega)) rfl rfl ?_
       rintro _ w35 ⟨A33, c34, rfl, H36⟩
       refine ⟨(H36.pickT (p := [_, _, _, _]) (m := [_, _, _]) [1, 2, 3] rfl (by decide)), fun w37 e39 => ?_⟩
       have H38 := H36.ext e39
       refine tt_alt ?_ ?_
       ·skip
        refine tt_op rfl (Yd.op (y_build (places := [(0, 1), (1, 1), (2, 1)]) (parts := [(0, _), (1, _), (2, _)]) (vs := [(0, _), (1, _), (2, _)]) (cs := [.int _ _, .int _ _, .slice _ _ _]) rfl Try.underlying25 (by kernel_rfl) kfpat2_15 rfl ⟨rfl, rfl, rfl, trivial⟩ rfl)) rfl rfl ?_
        rintro _ _ ⟨rfl, rfl⟩
        refine ⟨(H38.pickT (p := [_, _, _, _]) (m := [_, _, _]) [1, 2, 3] rfl (by decide)), fun w40 e42 => ?_⟩
        have H41 := H38.ext e42
        refine tt_op rfl (op_alloc H41 rfl kfpat2_15) rfl rfl ?_
        rintro _ w44 ⟨b43, rfl, H45⟩
        refine ⟨(H45.pickT (p := [_, _, _, _, _]) (m := [_, _, _]) [2, 3, 4] rfl (by decide)), fun w46 e48 => ?_⟩
        have H47 := H45.ext e48
        refine tt_op rfl (op_st (i := 0) (vs := [.int _ _, .int _ _, .slice _ _ _]) H47 rfl rfl rfl rfl rfl kfpat2_22 rfl rfl rfl) rfl rfl ?_
        rintro _ w49 H50
        refine ⟨(H50.pickT (p := [_, _, _, _, _]) (m := [_, _, _]) [2, 3, 4] rfl (by decide)), fun w51 e53 => ?_⟩
        have H52 := H50.ext e53
        simp only [Nat.zero_add, List.nil_append] at H52
        exact tt_leaf ⟨b43, A33, c34, rfl, (H52.pickT (p := [_, _, _, _, _]) (m := [_, _, _, _, _]) [1, 0, 2, 3, 4] rfl (by decide))⟩ ⟨rfl, trivial⟩ (by repeat (first | exact kp_refl | refine kp_app rfl rfl ?_ | refine kp_cons rfl ?_))
       refine tt_op rfl (op_alloc H38 rfl kfpat2_15) rfl rfl ?_
       rintro _ w55 ⟨b54, rfl, H56⟩
       refine ⟨(H56.pickT (p := [_, _, _, _, _]) (m := [_, _, _]) [2, 3, 4] rfl (by decide)), fun w57 e59 => ?_⟩
       have H58 := H56.ext e59
       refine tt_op rfl (Yd.op (y_build (places := [(0, 1), (1, 1), (2, 1)]) (parts := [(0, _), (1, _), (2, _)]) (vs := [(0, _), (1, _), (2, _)]) (cs := [.int _ _, .int _ _, .slice _ _ _]) rfl Try.underlying25 (by kernel_rfl) kfpat2_15 rfl ⟨rfl, rfl, rfl, trivial⟩ rfl)) rfl rfl ?_
       rintro _ _ ⟨rfl, rfl⟩
       refine ⟨(H58.pickT (p := [_, _, _, _, _]) (m := [_, _, _]) [2, 3, 4] rfl (by decide)), fun w60 e62 => ?_⟩
       have H61 := H58.ext e62
       refine tt_op rfl (op_st (i := 0) (vs := [.int _ _, .int _ _, .slice _ _ _]) H61 rfl rfl rfl rfl rfl kfpat2_22 rfl rfl rfl) rfl rfl ?_
       rintro _ w63 H64
       refine ⟨(H64.pickT (p := [_, _, _, _, _]) (m := [_, _, _]) [2, 3, 4] rfl (by decide)), fun w65 e67 => ?_⟩
       have H66 := H64.ext e67
       simp only [Nat.zero_add, List.nil_append] at H66
       exact tt_leaf ⟨b54, A33, c34, rfl, (H66.pickT (p := [_, _, _, _, _]) (m := [_, _, _, _, _]) [1, 0, 2, 3, 4] rfl (by decide))⟩ ⟨rfl, trivial⟩ (by repeat (first | exact kp_refl | refine kp_app rfl rfl ?_ | refine kp_cons rfl ?_))
      refine tt_op rfl (op_alloc H31 rfl kfpat2_15) rfl rfl ?_
      rintro _ w69 ⟨b68, rfl, H70⟩
      refine ⟨(H70.pickT (p := [_, _, _, _, _]) (m := [_, _, _]) [2, 3, 4] rfl (by decide)), fun w71 e73 => ?_⟩
      have H72 := H70.ext e73
      refine tt_op rfl (op_app (i := 1) (k := 0) (m := a * h) (ys := vi .i64 V) (size := 1) H72 rfl rfl rfl rfl (hv _ (H72.tail.tail.tail.tail.tail)) (by rw [vi_len, hV, Nat.mul_one]) (vi_one) Try.underlying22 kfpat2_21 rfl rfl (by unfold maxLen; omega) (by omega)) rfl rfl ?_
      rintro _ w76 ⟨A74, c75, rfl, H77⟩
      refine ⟨(H77.pickT (p := [_, _, _, _, _]) (m := [_, _, _]) [2, 3, 4] rfl (by decide)), fun w78 e80 => ?_⟩
      have H79 := H77.ext e80
      refine tt_op rfl (Yd.op (y_build (places := [(0, 1), (1, 1), (2, 1)]) (parts := [(0, _), (1, _), (2, _)]) (vs := [(0, _), (1, _), (2, _)]) (cs := [.int _ _, .int _ _, .slice _ _ _]) rfl Try.underlying25 (by kernel_rfl) kfpat2_15 rfl ⟨rfl, rfl, rfl, trivial⟩ rfl)) rfl rfl ?_
      rintro _ _ ⟨rfl, rfl⟩
      refine ⟨(H79.pickT (p := [_, _, _, _, _]) (m := [_, _, _]) [2, 3, 4] rfl (by decide)), fun w81 e83 => ?_⟩
      have H82 := H79.ext e83
      refine tt_op rfl (op_st (i := 0) (vs := [.int _ _, .int _ _, .slice _ _ _]) H82 rfl rfl rfl rfl rfl kfpat2_22 rfl rfl rfl) rfl rfl ?_
      rintro _ w84 H85
      refine ⟨(H85.pickT (p := [_, _, _, _, _]) (m := [_, _, _]) [2, 3, 4] rfl (by decide)), fun w86 e88 => ?_⟩
      have H87 := H85.ext e88
      simp only [Nat.zero_add, List.nil_append] at H87
      exact tt_leaf ⟨b68, A74, c75, rfl, (H87.pickT (p := [_, _, _, _, _]) (m := [_, _, _, _, _]) [1, 0, 2, 3, 4] rfl (by decide))⟩ ⟨rfl, trivial⟩ (by repeat (first | exact kp_refl | refine kp_app rfl rfl ?_ | refine kp_cons rfl ?_))
     refine tt_op rfl (op_alloc HX rfl kfpat2_15) rfl rfl ?_
     rintro _ w90 ⟨b89, rfl, H91⟩
     refine ⟨(H91.pickT (p := [_, _, _, _]) (m := [_, _, _]) [1, 2, 3] rfl (by decide)), fun w92 e94 => ?_⟩
     have H93 := H91.ext e94
     refine tt_op rfl (op_lit (parts := []) (vs := []) (cs := []) H93 rfl Try.underlying22 kfpat2_20 rfl trivial rfl rfl) rfl rfl ?_
     rintro _ w96 ⟨b95, rfl, H97⟩
     have H98 := H97.asrow (m := 0) (size := 1) rfl (by decide)
     refine ⟨(H98.pickT (p := [_, _, _, _, _]) (m := [_, _, _]) [2, 3, 4] rfl (by decide)), fun w99 e101 => ?_⟩
     have H100 := H98.ext e101
     refine tt_op rfl (op_app (i := 0) (k := 0) (m := a * h) (ys := vi .i64 V) (size := 1) H100 rfl rfl rfl rfl (hv _ (H100.tail.tail.tail.tail.tail)) (by rw [vi_len, hV, Nat.mul_one]) (vi_one) Try.underlying22 kfpat2_21 rfl rfl (by unfold maxLen; omega) (by omega)) rfl rfl ?_
     rintro _ w104 ⟨A102, c103, rfl, H105⟩
     refine ⟨(H105.pickT (p := [_, _, _, _, _]) (m := [_, _, _]) [2, 3, 4] rfl (by decide)), fun w106 e108 => ?_⟩
     have H107 := H105.ext e108
     refine tt_op rfl (Yd.op (y_build (places := [(0, 1), (1, 1), (2, 1)]) (parts := [(0, _), (1, _), (2, _)]) (vs := [(0, _), (1, _), (2, _)]) (cs := [.int _ _, .int _ _, .slice _ _ _]) rfl Try.underlying25 (by kernel_rfl) kfpat2_15 rfl ⟨rfl, rfl, rfl, trivial⟩ rfl)) rfl rfl ?_
     rintro _ _ ⟨rfl, rfl⟩
     refine ⟨(H107.pickT (p := [_, _, _, _, _]) (m := [_, _, _]) [2, 3, 4] rfl (by decide)), fun w109 e111 => ?_⟩
     have H110 := H107.ext e111
     refine tt_op rfl (op_st (i := 1) (vs := [.int _ _, .int _ _, .slice _ _ _]) H110 rfl rfl rfl rfl rfl kfpat2_22 rfl rfl rfl) rfl rfl ?_
     rintro _ w112 H113
     refine ⟨(H113.pickT (p := [_, _, _, _, _]) (m := [_, _, _]) [2, 3, 4] rfl (by decide)), fun w114 e116 => ?_⟩
     have H115 := H113.ext e116
     simp only [Nat.zero_add, List.nil_append] at H115
     exact tt_leaf ⟨b89, A102, c103, rfl, H115⟩ ⟨rfl, trivial⟩ (by repeat (first | exact kp_refl | refine kp_app rfl rfl ?_ | refine kp_cons rfl ?_))
    ·skip
     rintro M w118 ⟨b', A', cap', rfl, H117⟩
     refine fn_next ?_
     refine cw_seq ?_
     refine cw_reg ?_
     refine ry (y_asg rfl rfl) rfl rfl ?_
     refine reg_nil ?_
     refine fn_next ?_
     refine cw_seq ?_
     refine cw_seq ?_
     refine cw_reg ?_
     refine ry (y_fa rfl rfl kfpat2_23 rfl) rfl rfl ?_
     refine ry (y_ld rfl rfl kfpat2_13 (H117.cell (i := 3) rfl rfl)) rfl rfl ?_
     refine ry (y_asg rfl rfl) rfl rfl ?_
     refine reg_nil ?_
     refine fn_next ?_
     refine cw_block ?_
     have hz : layT V a p0 q0 p1 q1 L (0 * (p1 + 1 - p0)) = V := by rw [Nat.zero_mul]; exact layT_zero
     have hE : HS w0 w118 (Ob.row A' (a * h) cap' (vi .i64 (layT V a p0 q0 p1 q1 L (0 * (p1 + 1 - p0)))) 2 1 :: Ob.blk b' [.int .i64 (a : Int), .int .i64 (h : Int), .slice A' (a * h) cap'] 25 :: Ob.blk b1 [.int .i64 (a : Int), .int .i64 (h : Int), .slice A (a * h) cap] 25 :: Ob.blk b4 [.int .i64 (p0 : Int), .int .i64 (q0 : Int), .int .i64 (p1 : Int), .int .i64 (q1 : Int)] 55 :: Ob.blk b7 [.int .i64 0, .int .i64 0, .slice none 0 0] 25 :: l) := by rw [hz]; exact (H117.pickT (p := [_, _, _, _, _]) (m := [_, _, _, _, _]) [0, 1, 2, 3, 4] rfl (by decide))
     refine cw_loopJ [11, 12, 13, 54, 55, 56, 57, 58, 59, 60, 61, 62, 63, 64, 65, 66, 67, 68, 69, 70, 71, 72, 73, 74, 75, 76, 77, 78, 79, 80, 81, 82] (fun M wl ml => ∃ (r : Nat), M = [(12, .int .i64 ((q0 + r : Nat) : Int)), (11, .int .i64 ((r * (p1 + 1 - p0) : Nat) : Int))] ∧ HS w0 wl (Ob.row A' (a * h) cap' (vi .i64 (layT V a p0 q0 p1 q1 L (r * (p1 + 1 - p0)))) 2 1 :: Ob.blk b' [.int .i64 (a : Int), .int .i64 (h : Int), .slice A' (a * h) cap'] 25 :: Ob.blk b1 [.int .i64 (a : Int), .int .i64 (h : Int), .slice A (a * h) cap] 25 :: Ob.blk b4 [.int .i64 (p0 : Int), .int .i64 (q0 : Int), .int .i64 (p1 : Int), .int .i64 (q1 : Int)] 55 :: Ob.blk b7 [.int .i64 0, .int .i64 0, .slice none 0 0] 25 :: l) ∧ (q0 + r ≤ q1 + 1) ∧ ml = q1 + 2 - (q0 + r)) ⟨0, rfl, hE, by omega, rfl⟩ ⟨rfl, by rw [Nat.zero_mul]; rfl, trivial⟩ ?_
     rintro M w119 m121 ⟨r, rfl, H120, hp0, rfl⟩
     refine cw_seq ?_
     refine cw_seq ?_
     refine cw_reg ?_
     refine ry (y_mov rfl rfl) rfl rfl ?_
     refine ry (y_fa rfl rfl kfpat2_24 rfl) rfl rfl ?_
     refine ry (y_ld rfl rfl kfpat2_13 (H120.cell (i := 3) rfl rfl)) rfl rfl ?_
     refine ry (y_leq rfl rfl rfl) rfl rfl ?_
     refine reg_nil ?_
     refine fn_next ?_
     refine cw_condd rfl (fun h122 => ?_) (fun h122 => ?_)
     ·skip
      have hrn : (r + 1) * (p1 + 1 - p0) ≤ (q1 + 1 - q0) * (p1 + 1 - p0) := Nat.mul_le_mul_right _ (by omega)
      rw [Nat.succ_mul] at hrn
      refine cw_skip ?_
      refine fn_next ?_
      refine cw_seq ?_
      refine cw_block ?_
      refine cw_seq ?_
      refine cw_reg ?_
      refine ry (y_fa rfl rfl kfpat2_25 rfl) rfl rfl ?_
      refine ry (y_ld rfl rfl kfpat2_13 (H120.cell (i := 3) rfl rfl)) rfl rfl ?_
      refine ry (y_asg rfl rfl) rfl rfl ?_
      refine reg_nil ?_
      refine fn_next ?_
      refine cw_block ?_
      refine cw_loopJ [11, 13, 62, 63, 64, 65, 66, 67, 68, 69, 70, 71, 72, 73, 74, 75, 76, 77, 78, 79, 80, 81, 82] (fun M wl ml => ∃ (c : Nat), M = [(13, .int .i64 ((p0 + c : Nat) : Int)), (11, .int .i64 ((r * (p1 + 1 - p0) + c : Nat) : Int))] ∧ HS w0 wl (Ob.row A' (a * h) cap' (vi .i64 (layT V a p0 q0 p1 q1 L (r * (p1 + 1 - p0) + c))) 2 1 :: Ob.blk b' [.int .i64 (a : Int), .int .i64 (h : Int), .slice A' (a * h) cap'] 25 :: Ob.blk b1 [.int .i64 (a : Int), .int .i64 (h : Int), .slice A (a * h) cap] 25 :: Ob.blk b4 [.int .i64 (p0 : Int), .int .i64 (q0 : Int), .int .i64 (p1 : Int), .int .i64 (q1 : Int)] 55 :: Ob.blk b7 [.int .i64 0, .int .i64 0, .slice none 0 0] 25 :: l) ∧ (c ≤ (p1 + 1 - p0)) ∧ ml = p1 + 2 - (p0 + c)) ⟨0, rfl, H120, Nat.zero_le _, rfl⟩ ⟨rfl, rfl, trivial⟩ ?_
      rintro M w123 m125 ⟨c, rfl, H124, hp0, rfl⟩
      refine cw_seq ?_
      refine cw_seq ?_
      refine cw_reg ?_
      refine ry (y_mov rfl rfl) rfl rfl ?_
      refine ry (y_fa rfl rfl kfpat2_26 rfl) rfl rfl ?_
      refine ry (y_ld rfl rfl kfpat2_13 (H124.cell (i := 3) rfl rfl)) rfl rfl ?_
      refine ry (y_leq rfl rfl rfl) rfl rfl ?_
      refine reg_nil ?_
      refine fn_next ?_
      refine cw_condd rfl (fun h126 => ?_) (fun h126 => ?_)
      ·skip
       obtain ⟨e1, e2, e3⟩ := row_bdG (x := p0 + c) (y := q0 + r) s (by omega) (by omega)
       have hgi := vi_get (k := .i64) (zs := L) (i := r * (p1 + 1 - p0) + c) (by omega)
       have hgo := vi_get (k := .i64) (zs := layT V a p0 q0 p1 q1 L (r * (p1 + 1 - p0) + c)) (i := (q0 + r) * a + (p0 + c)) (by rw [layT_len, hV]; exact e2)
       have hAd := H124.addr (i := 0) rfl hm'.1
       refine cw_skip ?_
       refine fn_next ?_
       refine cw_seq ?_
       refine cw_block ?_
       refine cw_seq ?_
       refine cw_draw H124 [0, 1, 2, 3, 4, 5, 6, 7, 8, 9, 10, 11, 12] [13] (fun X HX => (HX.pickT (p := [_, _, _, _, _]) (m := [_, _, _, _]) [1, 2, 3, 4] rfl (by decide))) (by kernel_rfl) (by kernel_rfl) (by rfl) ?_
       simp only [pick, List.getElem?_cons_succ, List.getElem?_cons_zero]
       refine hk_y (fun Y HY => y_fa rfl rfl kfpat2_19 rfl) rfl rfl ?_
       refine hk_y (fun Y HY => y_ld rfl rfl kfpat2_6 (HY.cell (i := 0) rfl rfl)) rfl rfl ?_
       refine hk_y (fun Y HY => y_mov rfl rfl) rfl rfl ?_
       refine hk_y (fun Y HY => y_fa rfl rfl kfpat2_16 rfl) rfl rfl ?_
       refine hk_y (fun Y HY => y_ld rfl rfl kfpat2_13 (HY.cell (i := 1) rfl rfl)) rfl rfl ?_
       refine hk_y (fun Y HY => y_mul rfl rfl rfl (show _ = (((q0 + r) * a : Nat) : Int) from by rw [e1]; exact wi (by omega))) rfl rfl ?_
       refine hk_y (fun Y HY => y_mov rfl rfl) rfl rfl ?_
       refine hk_y (fun Y HY => y_add rfl rfl rfl (show _ = (((q0 + r) * a + (p0 + c) : Nat) : Int) from by rw [Int.natCast_add ((q0 + r) * a)]; exact wi (by omega))) rfl rfl ?_
       refine hk_y (fun Y HY => y_mov rfl rfl) rfl rfl ?_
       refine hk_y (fun Y HY => y_mov rfl rfl) rfl rfl ?_
       refine hk_y (fun Y HY => y_iar (hr _ (HY.tail.tail.tail.tail)) rfl rfl rfl kfpat2_12 (rfl) (by omega) (Nat.mul_one _) (hgi)) rfl rfl ?_
       refine hk_y (fun Y HY => y_ldr (hr _ (HY.tail.tail.tail.tail)) rfl rfl kfpat2_13 (hgi)) rfl rfl ?_
       refine hk_y (fun Y HY => y_iae (hAd) rfl rfl rfl kfpat2_12 (rfl) (by omega) (Nat.mul_one _)) rfl rfl ?_
       refine hk_nil ?_
       intro w127 H128
       refine tv_op (op_ste (i := 0) (vs := [.int _ _]) H128 rfl rfl rfl rfl rfl kfpat2_27 rfl (by rw [vi_len, layT_len, hV]; exact e2) rfl rfl) rfl rfl ?_
       rintro _ w129 H130
       refine ⟨(H130.pickT (p := [_, _, _, _, _]) (m := [_, _, _, _]) [1, 2, 3, 4] rfl (by decide)), fun w131 e133 => ?_⟩
       have H132 := H130.ext e133
       refine tv_nil ?_
       refine fn_next ?_
       refine cw_reg ?_
       refine ry (y_mov rfl rfl) rfl rfl ?_
       refine ry (y_add rfl rfl rfl (wi (by omega))) rfl rfl ?_
       refine ry (y_asg rfl rfl) rfl rfl ?_
       refine reg_nil ?_
       refine fn_block ?_
       refine fn_next ?_
       refine cw_reg ?_
       refine ry (y_mov rfl rfl) rfl rfl ?_
       refine ry (y_add rfl rfl rfl (wi (by omega))) rfl rfl ?_
       refine ry (y_asg rfl rfl) rfl rfl ?_
       refine reg_nil ?_
       rw [vi_set, layT_set s hV h1 h2 h4 (by omega) (by omega)] at H132
       refine fn_roundJ ⟨c + 1, rfl, H132, by omega, rfl⟩ ⟨rfl, rfl, trivial⟩ (by omega) (by repeat (first | exact kp_refl | refine kp_app rfl rfl ?_ | refine kp_cons rfl ?_)) rfl
      ·skip
       obtain rfl : c = (p1 + 1 - p0) := by omega
       refine cw_exit ?_
       refine fn_then_exit (fn_then_exit (fn_block_exit ?_))
       refine fn_block ?_
       refine fn_next ?_
       refine cw_reg ?_
       refine ry (y_mov rfl rfl) rfl rfl ?_
       refine ry (y_add rfl rfl rfl (wi (by omega))) rfl rfl ?_
       refine ry (y_asg rfl rfl) rfl rfl ?_
       refine reg_nil ?_
       rw [← Nat.succ_mul] at H124
       refine fn_roundJ ⟨r + 1, rfl, H124, by omega, rfl⟩ ⟨rfl, by rw [Nat.succ_mul]; rfl, trivial⟩ (by omega) (by repeat (first | exact kp_refl | refine kp_app rfl rfl ?_ | refine kp_cons rfl ?_)) rfl
     ·skip
      obtain rfl : r = q1 + 1 - q0 := by omega
      refine cw_exit ?_
      refine fn_then_exit (fn_then_exit (fn_block_exit ?_))
      refine fn_next ?_
      refine cw_seq ?_
      refine cw_reg ?_
      refine ry (y_ldb (i := 1) (cs := [_, _, _]) H120 rfl rfl kfpat2_28 rfl rfl) rfl rfl ?_
      refine reg_op (op_st (i := 4) (vs := [.int _ _, .int _ _, .slice _ _ _]) H120 rfl rfl rfl rfl rfl kfpat2_22 rfl rfl rfl) rfl rfl ?_
      rintro _ w134 H135
      refine ry (y_asg rfl rfl) rfl rfl ?_
      refine reg_nil ?_
      refine fn_next ?_
      refine cw_ret ?_
      refine fn_retn (vs := [_, _]) rfl ⟨⟨_, rfl, load_agg (cs := [_, _, _]) kfpat2_28 rfl fun j v hv => by rw [Nat.zero_add]; exact H135.cell (i := 4) rfl hv⟩, rfl, trivial⟩ rfl ?_
      rw [pasteV_ok (pasteC_ok hw hc hb), layV_nat, hl, hnn]
      exact ⟨_, _, rfl, (H135.pickT (p := [_, _, _, _, _]) (m := [_]) [0] rfl (by decide))⟩

set_option maxRecDepth 100000 in
theorem refPApply_no (w0 : World) (l : List Ob) (a h : Nat) (A : Option Addr) (cap : Nat) (V : List Int) (p : Pt) (w : World) (s : SzG a h) (hV : V.length = a * h) (hv : ∀ X, HS w0 X l → Rd X A (vi .i64 V)) (hp : ∀ X, HS w0 X l → p.ok X) (mo : p.o.n ≤ 16777216) (mq : p.q.n ≤ 16777216) (H0 : HS w0 w l) (hno : ¬ ApP a h V p) :
    Ret Try.prog 87 [.agg #[.int .i64 (a : Int), .int .i64 (h : Int), .slice A (a * h) cap], .agg #[.int .i64 p.x0, .int .i64 p.y0, .int .i64 p.x1, .int .i64 p.y1, .slice p.o.A p.o.n p.o.c, .slice p.q.A p.q.n p.q.c]] w (fun z w' => z = .tuple #[.agg #[.int .i64 (a : Int), .int .i64 (h : Int), .slice A (a * h) cap], .int .i64 (apC a h V p)] ∧ HS w0 w' l) := by
 have hm' := s.mul
 have hgb := gvalV_le (V := V) (x0 := p.x0) (y0 := p.y0) (x1 := p.x1) (y1 := p.y1) s
 refine ret_enter Try.func87 rfl rfl rfl ?_
 refine cw_seq ?_
 refine cw_reg ?_
 refine reg_op (op_box (cs := [.int _ _, .int _ _, .slice _ _ _]) H0 rfl rfl rfl) rfl rfl ?_
 rintro _ w2 ⟨b1, rfl, H3⟩
 refine reg_op (op_box (cs := [.int _ _, .int _ _, .int _ _, .int _ _, .slice _ _ _, .slice _ _ _]) H3 rfl rfl rfl) rfl rfl ?_
 rintro _ w5 ⟨b4, rfl, H6⟩
 refine reg_op (op_alloc H6 rfl kfpat2_15) rfl rfl ?_
 rintro _ w8 ⟨b7, rfl, H9⟩
 refine ry (y_asg rfl rfl) rfl rfl ?_
 refine reg_nil ?_
 refine fn_next ?_
 refine cw_seq ?_
 refine cw_seq ?_
 refine cw_reg ?_
 refine ry (y_ldb (i := 1) (cs := [_, _, _, _, _, _]) H9 rfl rfl kfpat2_8 rfl rfl) rfl rfl ?_
 refine reg_op (op_call (refPRight p _ (hp _ (H9.tail.tail.tail)) mo mq) rfl kfpat2_29 ⟨rfl, trivial⟩) rfl rfl ?_
 rintro _ w11 ⟨rfl, e10⟩
 have H12 := H9.ext e10
 refine ry (y_notd rfl rfl) rfl rfl ?_
 refine reg_nil ?_
 refine fn_next ?_
 refine cw_condd rfl (fun h13 => ?_) (fun h13 => ?_)
 ·skip
  have k1 := h13
  refine cw_seq ?_
  refine cw_reg ?_
  refine ry (y_ldb (i := 2) (cs := [_, _, _]) H12 rfl rfl kfpat2_28 rfl rfl) rfl rfl ?_
  refine reg_op (op_st (i := 0) (vs := [.int _ _, .int _ _, .slice _ _ _]) H12 rfl rfl rfl rfl rfl kfpat2_22 rfl rfl rfl) rfl rfl ?_
  rintro _ w14 H15
  refine ry (y_asg rfl rfl) rfl rfl ?_
  refine reg_nil ?_
  refine fn_next ?_
  refine cw_ret ?_
  refine fn_then_ret ?_
  refine fn_retn (vs := [_, _]) rfl ⟨⟨_, rfl, load_agg (cs := [_, _, _]) kfpat2_28 rfl fun j v hv => by rw [Nat.zero_add]; exact H15.cell (i := 0) rfl hv⟩, rfl, trivial⟩ rfl ?_
  first | rw [apC_13 k1] | rw [apC_e k1 k2] | rw [apC_w k1 k2 k3] | rw [apC_15 k1 k2 k3 k4]
  exact ⟨rfl, (H15.pickT (p := [_, _, _]) (m := []) [] rfl (by decide))⟩
 ·skip
  have k1 := Classical.not_not.1 h13
  refine cw_skip ?_
  refine fn_next ?_
  refine cw_seq ?_
  refine cw_seq ?_
  refine cw_reg ?_
  refine ry (y_ldb (i := 1) (cs := [_, _, _, _, _, _]) H12 rfl rfl kfpat2_8 rfl rfl) rfl rfl ?_
  refine reg_op (op_call (refPEmpty p _ (hp _ (H12.tail.tail.tail)) mo mq) rfl kfpat2_9 ⟨rfl, trivial⟩) rfl rfl ?_
  rintro _ w17 ⟨rfl, e16⟩
  have H18 := H12.ext e16
  refine reg_nil ?_
  refine fn_next ?_
  refine cw_condd rfl (fun k2 => ?_) (fun k2 => ?_)
  ·skip
   refine cw_seq ?_
   refine cw_reg ?_
   refine ry (y_ldb (i := 2) (cs := [_, _, _]) H18 rfl rfl kfpat2_28 rfl rfl) rfl rfl ?_
   refine reg_op (op_st (i := 0) (vs := [.int _ _, .int _ _, .slice _ _ _]) H18 rfl rfl rfl rfl rfl kfpat2_22 rfl rfl rfl) rfl rfl ?_
   rintro _ w20 H21
   refine ry (y_asg rfl rfl) rfl rfl ?_
   refine reg_nil ?_
   refine fn_next ?_
   refine cw_ret ?_
   refine fn_then_ret ?_
   refine fn_retn (vs := [_, _]) rfl ⟨⟨_, rfl, load_agg (cs := [_, _, _]) kfpat2_28 rfl fun j v hv => by rw [Nat.zero_add]; exact H21.cell (i := 0) rfl hv⟩, rfl, trivial⟩ rfl ?_
   first | rw [apC_13 k1] | rw [apC_e k1 k2] | rw [apC_w k1 k2 k3] | rw [apC_15 k1 k2 k3 k4]
   exact ⟨rfl, (H21.pickT (p := [_, _, _]) (m := []) [] rfl (by decide))⟩
  ·skip
   refine cw_skip ?_
   refine fn_next ?_
   refine cw_seq ?_
   refine cw_reg ?_
   refine ry (y_ldb (i := 2) (cs := [_, _, _]) H18 rfl rfl kfpat2_28 rfl rfl) rfl rfl ?_
   refine ry (y_fa rfl rfl kfpat2_1 rfl) rfl rfl ?_
   refine ry (y_lda (cs := [_, _, _, _]) rfl rfl kfpat2_2 rfl (fun j v hv => H18.cell (i := 1) rfl (lst_part (a := 0) (m := 4) hv))) rfl rfl ?_
   refine reg_op (op_call (rValues a h A cap V p.x0 p.y0 p.x1 p.y1 _ s (hv _ (H18.tail.tail.tail)) hV) rfl kfpat2_30 ⟨rfl, rfl, trivial⟩) rfl rfl ?_
   rintro _ w23 ⟨A25, c26, rfl, k22⟩
   have H24 := H18.call k22
   refine ry (y_mov rfl rfl) rfl rfl ?_
   refine ry (y_ext rfl rfl rfl) rfl rfl ?_
   refine ry (y_ext rfl rfl rfl) rfl rfl ?_
   refine ry (y_asg rfl rfl) rfl rfl ?_
   refine ry (y_asg rfl rfl) rfl rfl ?_
   refine reg_nil ?_
   refine fn_next ?_
   refine cw_seq ?_
   refine cw_seq ?_
   refine cw_reg ?_
   refine ry (y_mov rfl rfl) rfl rfl ?_
   refine ry (y_neq rfl rfl rfl) rfl rfl ?_
   refine reg_nil ?_
   refine fn_next ?_
   refine cw_condd rfl (fun h27 => ?_) (fun h27 => ?_)
   ·skip
    have k3 := h27
    refine cw_seq ?_
    refine cw_reg ?_
    refine ry (y_ldb (i := 3) (cs := [_, _, _]) H24 rfl rfl kfpat2_28 rfl rfl) rfl rfl ?_
    refine ry (y_mov rfl rfl) rfl rfl ?_
    refine reg_op (op_st (i := 1) (vs := [.int _ _, .int _ _, .slice _ _ _]) H24 rfl rfl rfl rfl rfl kfpat2_22 rfl rfl rfl) rfl rfl ?_
    rintro _ w28 H29
    refine ry (y_asg rfl rfl) rfl rfl ?_
    refine reg_nil ?_
    refine fn_next ?_
    refine cw_ret ?_
    refine fn_then_ret ?_
    refine fn_retn (vs := [_, _]) rfl ⟨⟨_, rfl, load_agg (cs := [_, _, _]) kfpat2_28 rfl fun j v hv => by rw [Nat.zero_add]; exact H29.cell (i := 1) rfl hv⟩, rfl, trivial⟩ rfl ?_
    first | rw [apC_13 k1] | rw [apC_e k1 k2] | rw [apC_w k1 k2 k3] | rw [apC_15 k1 k2 k3 k4]
    exact ⟨rfl, (H29.pickT (p := [_, _, _, _]) (m := []) [] rfl (by decide))⟩
   ·skip
    have k3 := Classical.not_not.1 h27
    refine cw_skip ?_
    refine fn_next ?_
    refine cw_seq ?_
    refine cw_seq ?_
    refine cw_reg ?_
    refine ry (y_mov rfl rfl) rfl rfl ?_
    refine ry (y_fa rfl rfl kfpat2_5 rfl) rfl rfl ?_
    refine ry (y_ld rfl rfl kfpat2_6 (H24.cell (i := 2) rfl rfl)) rfl rfl ?_
    refine reg_op (op_call (refSame_any A25 _ c26 _ p.o.A p.o.n p.o.c p.o.zs _ (H24.rd (i := 0) rfl) rfl (hp _ (H24.tail.tail.tail.tail)).ho.rd (hp _ (H24.tail.tail.tail.tail)).ho.len (by omega)) rfl kfpat2_31 ⟨rfl, rfl, trivial⟩) rfl rfl ?_
    rintro _ w31 ⟨rfl, e30⟩
    have H32 := H24.ext e30
    refine ry (y_notd rfl rfl) rfl rfl ?_
    refine reg_nil ?_
    refine fn_next ?_
    refine cw_condd rfl (fun h33 => ?_) (fun h33 => ?_)
    ·skip
     have k4 := h33
     refine cw_seq ?_
     refine cw_reg ?_
     refine ry (y_ldb (i := 3) (cs := [_, _, _]) H32 rfl rfl kfpat2_28 rfl rfl) rfl rfl ?_
     refine reg_op (op_st (i := 1) (vs := [.int _ _, .int _ _, .slice _ _ _]) H32 rfl rfl rfl rfl rfl kfpat2_22 rfl rfl rfl) rfl rfl ?_
     rintro _ w34 H35
     refine ry (y_asg rfl rfl) rfl rfl ?_
     refine reg_nil ?_
     refine fn_next ?_
     refine cw_ret ?_
     refine fn_then_ret ?_
     refine fn_retn (vs := [_, _]) rfl ⟨⟨_, rfl, load_agg (cs := [_, _, _]) kfpat2_28 rfl fun j v hv => by rw [Nat.zero_add]; exact H35.cell (i := 1) rfl hv⟩, rfl, trivial⟩ rfl ?_
     first | rw [apC_13 k1] | rw [apC_e k1 k2] | rw [apC_w k1 k2 k3] | rw [apC_15 k1 k2 k3 k4]
     exact ⟨rfl, (H35.pickT (p := [_, _, _, _]) (m := []) [] rfl (by decide))⟩
    · exact absurd ⟨k1, k2, k3, Classical.not_not.1 h33⟩ hno

theorem rPaste_any (w0 : World) (l : List Ob) (a h : Nat) (A : Option Addr) (cap : Nat) (V : List Int) (p : Pt) (w : World) (s : SzG a h) (hV : V.length = a * h) (hv : ∀ X, HS w0 X l → Rd X A (vi .i64 V)) (hp : ∀ X, HS w0 X l → p.ok X) (mq : p.q.n ≤ 16777216) (k : ApP a h V p) (H0 : HS w0 w l) :
    Ret Try.prog 116 [.agg #[.int .i64 (a : Int), .int .i64 (h : Int), .slice A (a * h) cap], .agg #[.int .i64 p.x0, .int .i64 p.y0, .int .i64 p.x1, .int .i64 p.y1], .slice p.q.A p.q.n p.q.c] w (fun z w' => ∃ A' cap', z = .tuple #[.agg #[.int .i64 (a : Int), .int .i64 (h : Int), .slice A' (a * h) cap'], .int .i64 0] ∧ HS w0 w' (Ob.row A' (a * h) cap' (vi .i64 (pasteV V a h p.x0 p.y0 p.x1 p.y1 p.q.zs)) 2 1 :: l)) := by
  have hl := (hp _ H0).hq.len
  have hc := k.right.2.2.1
  rw [← hl] at hc
  have hb := k.right.2.2.2
  have hw := k.2.2.1
  have hr := fun X HX => (hp X HX).hq.rd
  clear k hp
  obtain ⟨x0, y0, x1, y1, o, ⟨B, n, c2, L⟩⟩ := p
  dsimp only at *
  obtain ⟨p0, q0, p1, q1, rfl, rfl, rfl, rfl, h1, h2, h3, h4⟩ := within_natG s hw
  exact rPaste_ok w0 l a h A cap V p0 q0 p1 q1 L B n c2 w s hV hv h1 h2 h3 h4 hw hc hb hr hl mq H0

set_option maxRecDepth 100000 in
theorem refPApply_ok (w0 : World) (l : List Ob) (a h : Nat) (A : Option Addr) (cap : Nat) (V : List Int) (p : Pt) (w : World) (s : SzG a h) (hV : V.length = a * h) (hv : ∀ X, HS w0 X l → Rd X A (vi .i64 V)) (hp : ∀ X, HS w0 X l → p.ok X) (mo : p.o.n ≤ 16777216) (mq : p.q.n ≤ 16777216) (H0 : HS w0 w l) (hyes : ApP a h V p) :
    Ret Try.prog 87 [.agg #[.int .i64 (a : Int), .int .i64 (h : Int), .slice A (a * h) cap], .agg #[.int .i64 p.x0, .int .i64 p.y0, .int .i64 p.x1, .int .i64 p.y1, .slice p.o.A p.o.n p.o.c, .slice p.q.A p.q.n p.q.c]] w (fun z w' => ∃ A' cap', z = .tuple #[.agg #[.int .i64 (a : Int), .int .i64 (h : Int), .slice A' (a * h) cap'], .int .i64 (apC a h V p)] ∧ HS w0 w' (Ob.row A' (a * h) cap' (vi .i64 (apV a h V p)) 2 1 :: l)) := by
 have hm' := s.mul
 have hgb := gvalV_le (V := V) (x0 := p.x0) (y0 := p.y0) (x1 := p.x1) (y1 := p.y1) s
 refine ret_enter Try.func87 rfl rfl rfl ?_
 refine cw_seq ?_
 refine cw_reg ?_
 refine reg_op (op_box (cs := [.int _ _, .int _ _, .slice _ _ _]) H0 rfl rfl rfl) rfl rfl ?_
 rintro _ w2 ⟨b1, rfl, H3⟩
 refine reg_op (op_box (cs := [.int _ _, .int _ _, .int _ _, .int _ _, .slice _ _ _, .slice _ _ _]) H3 rfl rfl rfl) rfl rfl ?_
 rintro _ w5 ⟨b4, rfl, H6⟩
 refine reg_op (op_alloc H6 rfl kfpat2_15) rfl rfl ?_
 rintro _ w8 ⟨b7, rfl, H9⟩
 refine ry (y_asg rfl rfl) rfl rfl ?_
 refine reg_nil ?_
 refine fn_next ?_
 refine cw_seq ?_
 refine cw_seq ?_
 refine cw_reg ?_
 refine ry (y_ldb (i := 1) (cs := [_, _, _, _, _, _]) H9 rfl rfl kfpat2_8 rfl rfl) rfl rfl ?_
 refine reg_op (op_call (refPRight p _ (hp _ (H9.tail.tail.tail)) mo mq) rfl kfpat2_29 ⟨rfl, trivial⟩) rfl rfl ?_
 rintro _ w11 ⟨rfl, e10⟩
 have H12 := H9.ext e10
 refine ry (y_notd rfl rfl) rfl rfl ?_
 refine reg_nil ?_
 refine fn_next ?_
 refine cw_condd rfl (fun h13 => ?_) (fun h13 => ?_)
 · exact absurd hyes.1 h13
 ·skip
  refine cw_skip ?_
  refine fn_next ?_
  refine cw_seq ?_
  refine cw_seq ?_
  refine cw_reg ?_
  refine ry (y_ldb (i := 1) (cs := [_, _, _, _, _, _]) H12 rfl rfl kfpat2_8 rfl rfl) rfl rfl ?_
  refine reg_op (op_call (refPEmpty p _ (hp _ (H12.tail.tail.tail)) mo mq) rfl kfpat2_9 ⟨rfl, trivial⟩) rfl rfl ?_
  rintro _ w15 ⟨rfl, e14⟩
  have H16 := H12.ext e14
  refine reg_nil ?_
  refine fn_next ?_
  refine cw_condd rfl (fun h17 => ?_) (fun h17 => ?_)
  · exact absurd h17 hyes.2.1
  ·skip
   refine cw_skip ?_
   refine fn_next ?_
   refine cw_seq ?_
   refine cw_reg ?_
   refine ry (y_ldb (i := 2) (cs := [_, _, _]) H16 rfl rfl kfpat2_28 rfl rfl) rfl rfl ?_
   refine ry (y_fa rfl rfl kfpat2_1 rfl) rfl rfl ?_
   refine ry (y_lda (cs := [_, _, _, _]) rfl rfl kfpat2_2 rfl (fun j v hv => H16.cell (i := 1) rfl (lst_part (a := 0) (m := 4) hv))) rfl rfl ?_
   refine reg_op (op_call (rValues a h A cap V p.x0 p.y0 p.x1 p.y1 _ s (hv _ (H16.tail.tail.tail)) hV) rfl kfpat2_30 ⟨rfl, rfl, trivial⟩) rfl rfl ?_
   rintro _ w19 ⟨A21, c22, rfl, k18⟩
   have H20 := H16.call k18
   refine ry (y_mov rfl rfl) rfl rfl ?_
   refine ry (y_ext rfl rfl rfl) rfl rfl ?_
   refine ry (y_ext rfl rfl rfl) rfl rfl ?_
   refine ry (y_asg rfl rfl) rfl rfl ?_
   refine ry (y_asg rfl rfl) rfl rfl ?_
   refine reg_nil ?_
   refine fn_next ?_
   refine cw_seq ?_
   refine cw_seq ?_
   refine cw_reg ?_
   refine ry (y_mov rfl rfl) rfl rfl ?_
   refine ry (y_neq rfl rfl rfl) rfl rfl ?_
   refine reg_nil ?_
   refine fn_next ?_
   refine cw_condd rfl (fun h23 => ?_) (fun h23 => ?_)
   · exact absurd hyes.2.2.1 h23
   ·skip
    refine cw_skip ?_
    refine fn_next ?_
    refine cw_seq ?_
    refine cw_seq ?_
    refine cw_reg ?_
    refine ry (y_mov rfl rfl) rfl rfl ?_
    refine ry (y_fa rfl rfl kfpat2_5 rfl) rfl rfl ?_
    refine ry (y_ld rfl rfl kfpat2_6 (H20.cell (i := 2) rfl rfl)) rfl rfl ?_
    refine reg_op (op_call (refSame_any A21 _ c22 _ p.o.A p.o.n p.o.c p.o.zs _ (H20.rd (i := 0) rfl) rfl (hp _ (H20.tail.tail.tail.tail)).ho.rd (hp _ (H20.tail.tail.tail.tail)).ho.len (by omega)) rfl kfpat2_31 ⟨rfl, rfl, trivial⟩) rfl rfl ?_
    rintro _ w25 ⟨rfl, e24⟩
    have H26 := H20.ext e24
    refine ry (y_notd rfl rfl) rfl rfl ?_
    refine reg_nil ?_
    refine fn_next ?_
    refine cw_condd rfl (fun h27 => ?_) (fun h27 => ?_)
    · exact absurd hyes.2.2.2 h27
    ·skip
     refine cw_skip ?_
     refine fn_next ?_
     refine cw_seq ?_
     refine cw_reg ?_
     refine ry (y_ldb (i := 3) (cs := [_, _, _]) H26 rfl rfl kfpat2_28 rfl rfl) rfl rfl ?_
     refine ry (y_fa rfl rfl kfpat2_1 rfl) rfl rfl ?_
     refine ry (y_lda (cs := [_, _, _, _]) rfl rfl kfpat2_2 rfl (fun j v hv => H26.cell (i := 2) rfl (lst_part (a := 0) (m := 4) hv))) rfl rfl ?_
     refine ry (y_fa rfl rfl kfpat2_7 rfl) rfl rfl ?_
     refine ry (y_ld rfl rfl kfpat2_6 (H26.cell (i := 2) rfl rfl)) rfl rfl ?_
     refine reg_op (op_call (rPaste_any w0 _ a h A cap V p _ s hV (fun X HX => hv X (HX.tail.tail.tail.tail)) (fun X HX => hp X (HX.tail.tail.tail.tail)) mq hyes H26) rfl kfpat2_32 ⟨rfl, rfl, rfl, trivial⟩) rfl rfl ?_
     rintro _ w29 ⟨A30, c31, rfl, H28⟩
     refine ry (y_ext rfl rfl rfl) rfl rfl ?_
     refine ry (y_ext rfl rfl rfl) rfl rfl ?_
     refine reg_op (op_st (i := 2) (vs := [.int _ _, .int _ _, .slice _ _ _]) H28 rfl rfl rfl rfl rfl kfpat2_22 rfl rfl rfl) rfl rfl ?_
     rintro _ w32 H33
     refine ry (y_asg rfl rfl) rfl rfl ?_
     refine reg_nil ?_
     refine fn_next ?_
     refine cw_ret ?_
     refine fn_retn (vs := [_, _]) rfl ⟨⟨_, rfl, load_agg (cs := [_, _, _]) kfpat2_28 rfl fun j v hv => by rw [Nat.zero_add]; exact H33.cell (i := 2) rfl hv⟩, rfl, trivial⟩ rfl ?_
     rw [apC_ok hyes, apV_ok hyes]
     exact ⟨_, _, rfl, (H33.pickT (p := [_, _, _, _, _]) (m := [_]) [0] rfl (by decide))⟩

/-- behind others that stay in front -/
theorem refPApply (w0 : World) (r l : List Ob) (a h : Nat) (A : Option Addr) (cap : Nat) (V : List Int) (p : Pt) (w : World) (s : SzG a h) (hV : V.length = a * h) (hv : ∀ X, HS w0 X l → Rd X A (vi .i64 V)) (hp : ∀ X, HS w0 X (r ++ l) → p.ok X) (mo : p.o.n ≤ 16777216) (mq : p.q.n ≤ 16777216) (H0 : HS w0 w (r ++ l)) :
    Ret Try.prog 87 [.agg #[.int .i64 (a : Int), .int .i64 (h : Int), .slice A (a * h) cap], .agg #[.int .i64 p.x0, .int .i64 p.y0, .int .i64 p.x1, .int .i64 p.y1, .slice p.o.A p.o.n p.o.c, .slice p.q.A p.q.n p.q.c]] w (fun z w' => ∃ A' cap' l', z = .tuple #[.agg #[.int .i64 (a : Int), .int .i64 (h : Int), .slice A' (a * h) cap'], .int .i64 (apC a h V p)] ∧ (∀ X, HS w0 X l' → Rd X A' (vi .i64 (apV a h V p))) ∧ HS w0 w' (r ++ l')) := by
  by_cases hy : ApP a h V p
  · refine Ret.mono (refPApply_ok w0 (r ++ l) a h A cap V p w s hV (fun X HX => hv X HX.right) hp mo mq H0 hy) ?_
    rintro v w' ⟨A', cap', rfl, k⟩
    exact ⟨A', cap', _ :: l, rfl, fun X HX => HX.rd (i := 0) rfl, k.perm (List.perm_middle.symm)⟩
  · refine Ret.mono (refPApply_no w0 (r ++ l) a h A cap V p w s hV (fun X HX => hv X HX.right) hp mo mq H0 hy) ?_
    rintro v w' ⟨rfl, k⟩
    exact ⟨A, cap, l, rfl, fun X HX => by rw [apV_no hy]; exact hv X HX, k⟩

end Go.Proofs.Ytbhmkpnihgjlnaa
