/- Layer 8: Fill and Set. -/
import Derived.Test.YtbnjbgcadkdljaaGreatDoorMF
set_option linter.unusedVariables false
set_option linter.unusedSimpArgs false
namespace Go.Proofs.YtbnjbgcadkdljaaGreatDoor
open Go Go.RowKit
theorem kfslab2_1 : fldB Tryz.prog 121 2 2 = true := by kernel_rfl
theorem kfslab2_2 : oneB Tryz.prog 119 = true := by kernel_rfl
theorem kfslab2_3 : concB Tryz.prog 152 = true := by kernel_rfl
theorem kfslab2_4 : (Tryz.prog.info? 152).bind (·.zero) = some (.slice none 0 0) := by kernel_rfl
theorem kfslab2_5 : concB Tryz.prog 117 = true := by kernel_rfl
theorem kfslab2_6 : fldB Tryz.prog 121 0 0 = true := by kernel_rfl
theorem kfslab2_7 : oneB Tryz.prog 2 = true := by kernel_rfl
theorem kfslab2_8 : fldB Tryz.prog 121 1 1 = true := by kernel_rfl
theorem kfslab2_9 : (Tryz.prog.info? 21).map (fun i => (i.size, i.zero.map Value.cells)) = some (1, some (List.toArray [(.int .i32 0)])) := by kernel_rfl
theorem kfslab2_10 : callB Tryz.prog 116 = true := by kernel_rfl
theorem kfslab2_11 : szB Tryz.prog 119 1 = true := by kernel_rfl
theorem kfslab2_12 : aggB Tryz.prog 54 4 = true := by kernel_rfl
theorem kfslab2_13 : callB Tryz.prog 101 = true := by kernel_rfl
theorem kfslab2_14 : callB Tryz.prog 81 = true := by kernel_rfl
theorem kfslab2_15 : callB Tryz.prog 62 = true := by kernel_rfl
theorem kfslab2_16 : callB Tryz.prog 113 = true := by kernel_rfl
theorem kfslab2_17 : (Tryz.prog.info? 152).bind (fun i => i.zero.map Value.cells) = some (List.toArray [(.slice none 0 0)]) := by kernel_rfl
theorem kfslab2_18 : szB Tryz.prog 152 1 = true := by kernel_rfl
theorem kfslab2_19 : fldB Tryz.prog 54 1 1 = true := by kernel_rfl
theorem kfslab2_20 : fldB Tryz.prog 54 3 3 = true := by kernel_rfl
theorem kfslab2_21 : oneB Tryz.prog 152 = true := by kernel_rfl
theorem kfslab2_22 : elB Tryz.prog 152 1 = true := by kernel_rfl
theorem kfslab2_23 : fldB Tryz.prog 54 0 0 = true := by kernel_rfl
theorem kfslab2_24 : fldB Tryz.prog 54 2 2 = true := by kernel_rfl
theorem kfslab2_25 : szB Tryz.prog 21 1 = true := by kernel_rfl
theorem kfslab2_26 : callB Tryz.prog 114 = true := by kernel_rfl
theorem kfslab2_27 : oneB Tryz.prog 21 = true := by kernel_rfl
theorem kfslab2_28 : (Tryz.prog.info? 117).bind (·.zero) = some (.int .i32 0) := by kernel_rfl
theorem pt_sub1 {A : Option Addr} {cap lo k : Nat} (h : lo < cap) : pt (subA A cap lo 1) k = pt A (lo + k) := by rw [pt_sub h, Nat.mul_one]
theorem sub_get {k : IntKind} {F : List Int} {lo hi x : Nat} (h : lo + x < hi) (hh : hi ≤ F.length) : (((vi k F).take (hi * 1)).drop (lo * 1))[x]? = some (.int k (nth F (lo + x))) := by
  rw [List.getElem?_drop, Nat.mul_one, Nat.mul_one, List.getElem?_take, if_pos h]
  exact vi_get (by omega)
theorem HS.capn {w0 w : World} {l : List Ob} {i n cap size : Nat} {A : Option Addr} {xs : List Value} {e : TypeId} (h : HS w0 w l) (hi : l[i]? = some (.row A n cap xs e size)) : n ≤ cap := by
  have hO : Own _ _ _ _ _ _ _ _ := h.at_ hi
  exact hO.2.1

set_option maxRecDepth 100000 in
theorem slabRough_flat (w0 : World) (l : List Ob) (b a h : Nat) (u : Int) (w : World) (p : sizeP a h) (H0 : HS w0 w (.blk b [.int .i64 (a : Int), .int .i64 (h : Int), .iface 117 (.int .i32 u)] 121 :: .row none 0 0 [] 21 1 :: l)) :
    Ret Tryz.prog 113 [.pointer (some ⟨b, 0, none⟩)] w (fun v w' => ∃ A' cap', v = .slice A' (a * h) cap' ∧ HS w0 w' (.blk b [.int .i64 (a : Int), .int .i64 (h : Int), .iface 152 (.slice A' (a * h) cap')] 121 :: .row A' (a * h) cap' (vi .i32 (List.replicate (a * h) u)) 21 1 :: l)) := by
  have hm := p.mul
  refine ret_enter Tryz.func113 rfl rfl rfl ?_
  refine cw_seq ?_
  refine cw_reg ?_
  refine ry (y_asg rfl rfl) rfl rfl ?_
  refine reg_nil ?_
  refine fn_next ?_
  refine cw_seq ?_
  refine cw_seq ?_
  refine cw_reg ?_
  refine ry (y_mov rfl rfl) rfl rfl ?_
  refine ry (y_nilck rfl rfl) rfl rfl ?_
  refine ry (y_fa rfl rfl kfslab2_1 rfl) rfl rfl ?_
  refine ry (y_ld rfl rfl kfslab2_2 (H0.cell (i := 0) rfl rfl)) rfl rfl ?_
  refine ry (y_tano rfl kfslab2_3 rfl kfslab2_4 rfl) rfl rfl ?_
  refine ry (y_mov rfl rfl) rfl rfl ?_
  refine ry (y_ext rfl rfl rfl) rfl rfl ?_
  refine ry (y_ext rfl rfl rfl) rfl rfl ?_
  refine ry (y_asg rfl rfl) rfl rfl ?_
  refine ry (y_asg rfl rfl) rfl rfl ?_
  refine reg_nil ?_
  refine fn_next ?_
  refine cw_seq ?_
  refine cw_reg ?_
  refine ry (y_mov rfl rfl) rfl rfl ?_
  refine reg_nil ?_
  refine fn_next ?_
  refine cw_condf rfl ?_
  refine cw_skip ?_
  refine fn_next ?_
  refine cw_seq ?_
  refine cw_draw H0 [0, 1, 2, 3, 4, 6, 7, 8, 9, 10, 11, 12, 13, 14] [5, 15, 16] (fun X HX => HX) (by kernel_rfl) (by kernel_rfl) (by rfl) ?_
  simp only [pick, List.getElem?_cons_succ, List.getElem?_cons_zero]
  refine hk_y (fun Y HY => y_mov rfl rfl) rfl rfl ?_
  refine hk_y (fun Y HY => y_nilck rfl rfl) rfl rfl ?_
  refine hk_y (fun Y HY => y_fa rfl rfl kfslab2_1 rfl) rfl rfl ?_
  refine hk_y (fun Y HY => y_ld rfl rfl kfslab2_2 (HY.cell (i := 0) rfl rfl)) rfl rfl ?_
  refine hk_y (fun Y HY => y_tav rfl kfslab2_5 rfl) rfl rfl ?_
  refine hk_y (fun Y HY => y_mov rfl rfl) rfl rfl ?_
  refine hk_y (fun Y HY => y_nilck rfl rfl) rfl rfl ?_
  refine hk_y (fun Y HY => y_fa rfl rfl kfslab2_6 rfl) rfl rfl ?_
  refine hk_y (fun Y HY => y_ld rfl rfl kfslab2_7 (HY.cell (i := 0) rfl rfl)) rfl rfl ?_
  refine hk_y (fun Y HY => y_mov rfl rfl) rfl rfl ?_
  refine hk_y (fun Y HY => y_nilck rfl rfl) rfl rfl ?_
  refine hk_y (fun Y HY => y_fa rfl rfl kfslab2_8 rfl) rfl rfl ?_
  refine hk_y (fun Y HY => y_ld rfl rfl kfslab2_7 (HY.cell (i := 0) rfl rfl)) rfl rfl ?_
  refine hk_y (fun Y HY => y_mul rfl rfl rfl (show _ = ((a * h : Nat) : Int) from by rw [← Int.natCast_mul]; exact wi (by omega))) rfl rfl ?_
  refine hk_nil ?_
  intro w1 H2
  refine tv_op (op_lit (parts := [(0, _)]) (vs := [(0, _)]) (cs := [.int _ _]) H2 rfl Tryz.underlying152 kfslab2_9 rfl ⟨rfl, trivial⟩ rfl rfl) rfl rfl ?_
  rintro _ w4 ⟨b3, rfl, H5⟩
  have H6 := H5.asrow (m := 1) (size := 1) rfl (by decide)
  refine ⟨(H6.pickT (p := [_, _, _]) (m := [_, _]) [1, 2] rfl (by decide)), fun w7 e9 => ?_⟩
  have H8 := H6.ext e9
  refine tv_op (op_call (RepeatR_any _ _ (a * h) u _ (H8.rd (i := 0) rfl) hm.2 hm.1) rfl kfslab2_10 ⟨rfl, rfl, trivial⟩) rfl rfl ?_
  rintro _ w11 ⟨A13, c14, rfl, k10⟩
  have H12 := H8.call k10
  refine ⟨(H12.pickT (p := [_, _, _, _]) (m := [_, _]) [2, 3] rfl (by decide)), fun w15 e17 => ?_⟩
  have H16 := H12.ext e17
  refine tv_op (Yd.op (y_asg rfl rfl)) rfl rfl ?_
  rintro _ _ ⟨rfl, rfl⟩
  refine ⟨(H16.pickT (p := [_, _, _, _]) (m := [_, _]) [2, 3] rfl (by decide)), fun w18 e20 => ?_⟩
  have H19 := H16.ext e20
  refine tv_nil ?_
  refine fn_next ?_
  refine cw_seq ?_
  refine cw_reg ?_
  refine ry (y_mov rfl rfl) rfl rfl ?_
  refine ry (y_mov rfl rfl) rfl rfl ?_
  refine ry (y_iface rfl kfslab2_3 rfl) rfl rfl ?_
  refine ry (y_nilck rfl rfl) rfl rfl ?_
  refine ry (y_fa rfl rfl kfslab2_1 rfl) rfl rfl ?_
  refine reg_op (op_st (i := 2) (vs := [_]) H19 rfl rfl rfl rfl rfl kfslab2_11 rfl rfl rfl) rfl rfl ?_
  rintro _ w21 H22
  refine reg_nil ?_
  refine fn_next ?_
  refine cw_seq ?_
  refine cw_reg ?_
  refine ry (y_mov rfl rfl) rfl rfl ?_
  refine ry (y_asg rfl rfl) rfl rfl ?_
  refine reg_nil ?_
  refine fn_next ?_
  refine cw_ret ?_
  refine fn_ret1 rfl rfl ?_
  exact ⟨_, _, rfl, (H22.pickT (p := [_, _, _, _]) (m := [_, _]) [2, 0] rfl (by decide))⟩

set_option maxRecDepth 100000 in
theorem slabRough_rough (w0 : World) (l : List Ob) (b a h : Nat) (A : Option Addr) (cap : Nat) (V : List Int) (w : World) (H0 : HS w0 w (.blk b [.int .i64 (a : Int), .int .i64 (h : Int), .iface 152 (.slice A (a * h) cap)] 121 :: .row A (a * h) cap (vi .i32 V) 21 1 :: l)) :
    Ret Tryz.prog 113 [.pointer (some ⟨b, 0, none⟩)] w (fun v w' => ∃ A' cap', v = .slice A' (a * h) cap' ∧ HS w0 w' (.blk b [.int .i64 (a : Int), .int .i64 (h : Int), .iface 152 (.slice A' (a * h) cap')] 121 :: .row A' (a * h) cap' (vi .i32 (V)) 21 1 :: l)) := by
  refine ret_enter Tryz.func113 rfl rfl rfl ?_
  refine cw_seq ?_
  refine cw_reg ?_
  refine ry (y_asg rfl rfl) rfl rfl ?_
  refine reg_nil ?_
  refine fn_next ?_
  refine cw_seq ?_
  refine cw_seq ?_
  refine cw_reg ?_
  refine ry (y_mov rfl rfl) rfl rfl ?_
  refine ry (y_nilck rfl rfl) rfl rfl ?_
  refine ry (y_fa rfl rfl kfslab2_1 rfl) rfl rfl ?_
  refine ry (y_ld rfl rfl kfslab2_2 (H0.cell (i := 0) rfl rfl)) rfl rfl ?_
  refine ry (y_tayes rfl kfslab2_3 rfl) rfl rfl ?_
  refine ry (y_mov rfl rfl) rfl rfl ?_
  refine ry (y_ext rfl rfl rfl) rfl rfl ?_
  refine ry (y_ext rfl rfl rfl) rfl rfl ?_
  refine ry (y_asg rfl rfl) rfl rfl ?_
  refine ry (y_asg rfl rfl) rfl rfl ?_
  refine reg_nil ?_
  refine fn_next ?_
  refine cw_seq ?_
  refine cw_reg ?_
  refine ry (y_mov rfl rfl) rfl rfl ?_
  refine reg_nil ?_
  refine fn_next ?_
  refine cw_condt rfl ?_
  refine cw_seq ?_
  refine cw_reg ?_
  refine ry (y_mov rfl rfl) rfl rfl ?_
  refine ry (y_asg rfl rfl) rfl rfl ?_
  refine reg_nil ?_
  refine fn_next ?_
  refine cw_ret ?_
  refine fn_then_ret ?_
  refine fn_ret1 rfl rfl ?_
  exact ⟨_, _, rfl, H0⟩

set_option maxRecDepth 100000 in
theorem slabFill_w (w0 : World) (l : List Ob) (b a h : Nat) (L : Ld) (x0 y0 x1 y1 v : Int) (w : World) (hL : L.ok (a * h)) (hw : ¬ withinC x0 y0 x1 y1 a h = 0) (H0 : HS w0 w (.blk b [.int .i64 (a : Int), .int .i64 (h : Int), L.val (a * h)] 121 :: L.ob (a * h) :: l)) :
    Ret Tryz.prog 108 [.pointer (some ⟨b, 0, none⟩), .agg #[.int .i64 x0, .int .i64 y0, .int .i64 x1, .int .i64 y1], .int .i64 v] w (fun z w' => ∃ L' : Ld, z = .int .i64 (fillC a h x0 y0 x1 y1 v) ∧ HS w0 w' (.blk b [.int .i64 (a : Int), .int .i64 (h : Int), L'.val (a * h)] 121 :: L'.ob (a * h) :: l) ∧ L'.ok (a * h) ∧ L'.lst (a * h) = fillV (L.lst (a * h)) a h x0 y0 x1 y1 v) := by
  refine ret_enter Tryz.func108 rfl rfl rfl ?_
  refine cw_seq ?_
  refine cw_reg ?_
  refine reg_op (op_box (cs := [.int _ _, .int _ _, .int _ _, .int _ _]) H0 rfl rfl rfl) rfl rfl ?_
  rintro _ w2 ⟨b1, rfl, H3⟩
  refine ry (y_asg rfl rfl) rfl rfl ?_
  refine reg_nil ?_
  refine fn_next ?_
  refine cw_seq ?_
  refine cw_seq ?_
  refine cw_reg ?_
  refine ry (y_mov rfl rfl) rfl rfl ?_
  refine ry (y_ldb (i := 0) (cs := [_, _, _, _]) H3 rfl rfl kfslab2_12 rfl rfl) rfl rfl ?_
  refine reg_op (op_call (slabCheck_any b a h _ x0 y0 x1 y1 _ (H3.rdb (i := 1) rfl)) rfl kfslab2_13 ⟨rfl, rfl, trivial⟩) rfl rfl ?_
  rintro _ w5 ⟨rfl, e4⟩
  have H6 := H3.ext e4
  refine ry (y_asg rfl rfl) rfl rfl ?_
  refine reg_nil ?_
  refine fn_next ?_
  refine cw_seq ?_
  refine cw_reg ?_
  refine ry (y_mov rfl rfl) rfl rfl ?_
  refine ry (y_neq rfl rfl rfl) rfl rfl ?_
  refine reg_nil ?_
  refine fn_next ?_
  refine cw_condd rfl (fun h7 => ?_) (fun h7 => ?_)
  · skip
    refine cw_seq ?_
    refine cw_reg ?_
    refine ry (y_mov rfl rfl) rfl rfl ?_
    refine ry (y_asg rfl rfl) rfl rfl ?_
    refine reg_nil ?_
    refine fn_next ?_
    refine cw_ret ?_
    refine fn_then_ret ?_
    refine fn_ret1 rfl rfl ?_
    exact ⟨L, by rw [fillC_w hw], (H6.pickT (p := [_, _, _]) (m := [_, _]) [1, 2] rfl (by decide)), hL, by rw [fillV_w hw]⟩
  · exact absurd (Classical.not_not.1 h7) hw

set_option maxRecDepth 100000 in
theorem slabFill_v (w0 : World) (l : List Ob) (b a h : Nat) (L : Ld) (x0 y0 x1 y1 v : Int) (w : World) (hL : L.ok (a * h)) (hw : withinC x0 y0 x1 y1 a h = 0) (hv : ¬ B32 v) (H0 : HS w0 w (.blk b [.int .i64 (a : Int), .int .i64 (h : Int), L.val (a * h)] 121 :: L.ob (a * h) :: l)) :
    Ret Tryz.prog 108 [.pointer (some ⟨b, 0, none⟩), .agg #[.int .i64 x0, .int .i64 y0, .int .i64 x1, .int .i64 y1], .int .i64 v] w (fun z w' => ∃ L' : Ld, z = .int .i64 (fillC a h x0 y0 x1 y1 v) ∧ HS w0 w' (.blk b [.int .i64 (a : Int), .int .i64 (h : Int), L'.val (a * h)] 121 :: L'.ob (a * h) :: l) ∧ L'.ok (a * h) ∧ L'.lst (a * h) = fillV (L.lst (a * h)) a h x0 y0 x1 y1 v) := by
  refine ret_enter Tryz.func108 rfl rfl rfl ?_
  refine cw_seq ?_
  refine cw_reg ?_
  refine reg_op (op_box (cs := [.int _ _, .int _ _, .int _ _, .int _ _]) H0 rfl rfl rfl) rfl rfl ?_
  rintro _ w2 ⟨b1, rfl, H3⟩
  refine ry (y_asg rfl rfl) rfl rfl ?_
  refine reg_nil ?_
  refine fn_next ?_
  refine cw_seq ?_
  refine cw_seq ?_
  refine cw_reg ?_
  refine ry (y_mov rfl rfl) rfl rfl ?_
  refine ry (y_ldb (i := 0) (cs := [_, _, _, _]) H3 rfl rfl kfslab2_12 rfl rfl) rfl rfl ?_
  refine reg_op (op_call (slabCheck_any b a h _ x0 y0 x1 y1 _ (H3.rdb (i := 1) rfl)) rfl kfslab2_13 ⟨rfl, rfl, trivial⟩) rfl rfl ?_
  rintro _ w5 ⟨rfl, e4⟩
  have H6 := H3.ext e4
  refine ry (y_asg rfl rfl) rfl rfl ?_
  refine reg_nil ?_
  refine fn_next ?_
  refine cw_seq ?_
  refine cw_reg ?_
  refine ry (y_mov rfl rfl) rfl rfl ?_
  refine ry (y_neq rfl rfl rfl) rfl rfl ?_
  refine reg_nil ?_
  refine fn_next ?_
  refine cw_condd rfl (fun h7 => ?_) (fun h7 => ?_)
  · exact absurd hw h7
  · skip
    refine cw_skip ?_
    refine fn_next ?_
    refine cw_seq ?_
    refine cw_seq ?_
    refine cw_reg ?_
    refine ry (y_mov rfl rfl) rfl rfl ?_
    refine reg_op (op_call (slabMay_any v _) rfl kfslab2_14 ⟨rfl, trivial⟩) rfl rfl ?_
    rintro _ w9 ⟨rfl, e8⟩
    have H10 := H6.ext e8
    refine ry (y_notd rfl rfl) rfl rfl ?_
    refine reg_nil ?_
    refine fn_next ?_
    refine cw_condd rfl (fun h11 => ?_) (fun h11 => ?_)
    · skip
      refine cw_seq ?_
      refine cw_reg ?_
      refine ry (y_asg rfl rfl) rfl rfl ?_
      refine reg_nil ?_
      refine fn_next ?_
      refine cw_ret ?_
      refine fn_then_ret ?_
      refine fn_ret1 rfl rfl ?_
      exact ⟨L, by rw [fillC_v hw hv], (H10.pickT (p := [_, _, _]) (m := [_, _]) [1, 2] rfl (by decide)), hL, by rw [fillV_v hw hv]⟩
    · exact absurd (Classical.not_not.1 h11) hv

set_option maxRecDepth 100000 in
set_option maxHeartbeats 400000 in
theorem slabFill_flat (w0 : World) (l : List Ob) (b a h : Nat) (u : Int) (p0 q0 p1 q1 : Nat) (v : Int) (w : World) (p : sizeP a h) (hL : (Ld.flat u).ok (a * h)) (h1 : p0 ≤ p1) (h2 : p1 < a) (h3 : q0 ≤ q1) (h4 : q1 < h) (hw : withinC p0 q0 p1 q1 a h = 0) (hv : B32 v) (H0 : HS w0 w (.blk b [.int .i64 (a : Int), .int .i64 (h : Int), .iface 117 (.int .i32 u)] 121 :: .row none 0 0 [] 21 1 :: l)) :
    Ret Tryz.prog 108 [.pointer (some ⟨b, 0, none⟩), .agg #[.int .i64 (p0 : Int), .int .i64 (q0 : Int), .int .i64 (p1 : Int), .int .i64 (q1 : Int)], .int .i64 v] w (fun z w' => ∃ L' : Ld, z = .int .i64 (fillC a h (p0 : Int) (q0 : Int) (p1 : Int) (q1 : Int) v) ∧ HS w0 w' (.blk b [.int .i64 (a : Int), .int .i64 (h : Int), L'.val (a * h)] 121 :: L'.ob (a * h) :: l) ∧ L'.ok (a * h) ∧ L'.lst (a * h) = fillV (List.replicate (a * h) u) a h (p0 : Int) (q0 : Int) (p1 : Int) (q1 : Int) v) := by
  have hm := p.mul
  obtain ⟨s1, s2, s3, s4⟩ := id p
  have hvb := hv
  unfold B32 at hvb
  have hVl : (List.replicate (a * h) u).length = a * h := by simp
  have hVb : AllB (List.replicate (a * h) u) := allB_rep hL
  refine ret_enter Tryz.func108 rfl rfl rfl ?_
  refine cw_seq ?_
  refine cw_reg ?_
  refine reg_op (op_box (cs := [.int _ _, .int _ _, .int _ _, .int _ _]) H0 rfl rfl rfl) rfl rfl ?_
  rintro _ w2 ⟨b1, rfl, H3⟩
  refine ry (y_asg rfl rfl) rfl rfl ?_
  refine reg_nil ?_
  refine fn_next ?_
  refine cw_seq ?_
  refine cw_seq ?_
  refine cw_reg ?_
  refine ry (y_mov rfl rfl) rfl rfl ?_
  refine ry (y_ldb (i := 0) (cs := [_, _, _, _]) H3 rfl rfl kfslab2_12 rfl rfl) rfl rfl ?_
  refine reg_op (op_call (slabCheck_any b a h _ p0 q0 p1 q1 _ (H3.rdb (i := 1) rfl)) rfl kfslab2_13 ⟨rfl, rfl, trivial⟩) rfl rfl ?_
  rintro _ w5 ⟨rfl, e4⟩
  have H6 := H3.ext e4
  refine ry (y_asg rfl rfl) rfl rfl ?_
  refine reg_nil ?_
  refine fn_next ?_
  refine cw_seq ?_
  refine cw_reg ?_
  refine ry (y_mov rfl rfl) rfl rfl ?_
  refine ry (y_neq rfl rfl rfl) rfl rfl ?_
  refine reg_nil ?_
  refine fn_next ?_
  refine cw_condd rfl (fun h7 => ?_) (fun h7 => ?_)
  · exact absurd hw h7
  · skip
    refine cw_skip ?_
    refine fn_next ?_
    refine cw_seq ?_
    refine cw_seq ?_
    refine cw_reg ?_
    refine ry (y_mov rfl rfl) rfl rfl ?_
    refine reg_op (op_call (slabMay_any v _) rfl kfslab2_14 ⟨rfl, trivial⟩) rfl rfl ?_
    rintro _ w9 ⟨rfl, e8⟩
    have H10 := H6.ext e8
    refine ry (y_notd rfl rfl) rfl rfl ?_
    refine reg_nil ?_
    refine fn_next ?_
    refine cw_condd rfl (fun h11 => ?_) (fun h11 => ?_)
    · exact absurd hv h11
    · skip
      refine cw_skip ?_
      refine fn_next ?_
      refine cw_seq ?_
      refine cw_seq ?_
      refine cw_reg ?_
      refine ry (y_mov rfl rfl) rfl rfl ?_
      refine ry (y_nilck rfl rfl) rfl rfl ?_
      refine ry (y_fa rfl rfl kfslab2_1 rfl) rfl rfl ?_
      refine ry (y_ld rfl rfl kfslab2_2 (H10.cell (i := 1) rfl rfl)) rfl rfl ?_
      refine ry (y_tayes rfl kfslab2_5 rfl) rfl rfl ?_
      refine ry (y_mov rfl rfl) rfl rfl ?_
      refine ry (y_ext rfl rfl rfl) rfl rfl ?_
      refine ry (y_ext rfl rfl rfl) rfl rfl ?_
      refine ry (y_asg rfl rfl) rfl rfl ?_
      refine ry (y_asg rfl rfl) rfl rfl ?_
      refine reg_nil ?_
      refine fn_next ?_
      refine cw_seq ?_
      refine cw_draw H10 [0, 1, 2, 3, 4, 5, 6, 7, 8, 9, 10, 11, 12, 13, 14, 15, 16, 17, 18, 19, 20] [] (fun X HX => HX) (by kernel_rfl) (by kernel_rfl) (by rfl) ?_
      simp only [pick, List.getElem?_cons_succ, List.getElem?_cons_zero]
      refine hk_y (fun Y HY => y_mov rfl rfl) rfl rfl ?_
      refine hk_y (fun Y HY => y_mov rfl rfl) rfl rfl ?_
      refine hk_on (qy_yd fun Y HY => y_mov rfl rfl) rfl rfl rfl rfl ?_
      refine hk_on (qy_yd fun Y HY => y_mov rfl rfl) rfl rfl rfl rfl ?_
      refine hk_on (qy_yd fun Y HY => y_conv rfl Tryz.underlying2 Tryz.underlying117 rfl (wi32 (show _ from by omega))) rfl rfl rfl rfl ?_
      refine hk_on (qy_yd fun Y HY => y_eql rfl rfl rfl) rfl rfl rfl rfl ?_
      refine hk_y (fun Y HY => y_pick rfl rfl rfl) rfl rfl ?_
      refine hk_y (fun Y HY => y_mov rfl rfl) rfl rfl ?_
      refine hk_splitd tv_all (d := 38) rfl (fun h12 => ?_) (fun h12 => ?_)
      · skip
        have hfin : fillL (List.replicate (a * h) u) a p0 q0 p1 q1 v = List.replicate (a * h) v := by rw [h12]; exact fillL_same
        refine hk_off rfl rfl rfl rfl rfl ?_
        refine hk_off rfl rfl rfl rfl rfl ?_
        refine hk_off rfl rfl rfl rfl rfl ?_
        refine hk_off rfl rfl rfl rfl rfl ?_
        refine hk_off rfl rfl rfl rfl rfl ?_
        refine hk_off rfl rfl rfl rfl rfl ?_
        refine hk_off rfl rfl rfl rfl rfl ?_
        refine hk_off rfl rfl rfl rfl rfl ?_
        refine hk_off rfl rfl rfl rfl rfl ?_
        refine hk_off rfl rfl rfl rfl rfl ?_
        refine hk_off rfl rfl rfl rfl rfl ?_
        refine hk_off rfl rfl rfl rfl rfl ?_
        refine hk_y (fun Y HY => y_pick rfl rfl rfl) rfl rfl ?_
        refine hk_nil ?_
        intro w13 H14
        refine tv_nil ?_
        refine fn_next ?_
        refine cw_condt rfl ?_
        refine cw_seq ?_
        refine cw_reg ?_
        refine ry (y_mov rfl rfl) rfl rfl ?_
        refine ry (y_mov rfl rfl) rfl rfl ?_
        refine ry (y_conv rfl Tryz.underlying2 Tryz.underlying117 rfl (wi32 (show _ from by omega))) rfl rfl ?_
        refine ry (y_iface rfl kfslab2_5 rfl) rfl rfl ?_
        refine ry (y_nilck rfl rfl) rfl rfl ?_
        refine ry (y_fa rfl rfl kfslab2_1 rfl) rfl rfl ?_
        refine reg_op (op_st (i := 1) (vs := [_]) H14 rfl rfl rfl rfl rfl kfslab2_11 rfl rfl rfl) rfl rfl ?_
        rintro _ w15 H16
        refine reg_nil ?_
        refine fn_next ?_
        refine cw_seq ?_
        refine cw_reg ?_
        refine ry (y_asg rfl rfl) rfl rfl ?_
        refine reg_nil ?_
        refine fn_next ?_
        refine cw_ret ?_
        refine fn_then_ret ?_
        refine fn_ret1 rfl rfl ?_
        exact ⟨.flat v, by rw [fillC_ok hw hv], ((H16.nilrow 21 1).pickT (p := [_, _, _, _]) (m := [_, _]) [2, 0] rfl (by decide)), hv, by rw [fillV_ok hw hv, hfin]; rfl⟩
      · skip
        refine hk_on (qy_yd fun Y HY => y_ldb (i := 0) (cs := [_, _, _, _]) HY rfl rfl kfslab2_12 rfl rfl) rfl rfl rfl rfl ?_
        refine hk_on (qy_call (fun Y HY => ret_elder (area_any p0 q0 p1 q1 _)) rfl kfslab2_15 ⟨rfl, trivial⟩) rfl rfl rfl rfl ?_
        refine hk_on (qy_yd fun Y HY => y_mov rfl rfl) rfl rfl rfl rfl ?_
        refine hk_on (qy_yd fun Y HY => y_nilck rfl rfl) rfl rfl rfl rfl ?_
        refine hk_on (qy_yd fun Y HY => y_fa rfl rfl kfslab2_6 rfl) rfl rfl rfl rfl ?_
        refine hk_on (qy_yd fun Y HY => y_ld rfl rfl kfslab2_7 (HY.cell (i := 1) rfl rfl)) rfl rfl rfl rfl ?_
        refine hk_on (qy_yd fun Y HY => y_mov rfl rfl) rfl rfl rfl rfl ?_
        refine hk_on (qy_yd fun Y HY => y_nilck rfl rfl) rfl rfl rfl rfl ?_
        refine hk_on (qy_yd fun Y HY => y_fa rfl rfl kfslab2_8 rfl) rfl rfl rfl rfl ?_
        refine hk_on (qy_yd fun Y HY => y_ld rfl rfl kfslab2_7 (HY.cell (i := 1) rfl rfl)) rfl rfl rfl rfl ?_
        refine hk_on (qy_yd fun Y HY => y_mul rfl rfl rfl (show _ = ((a * h : Nat) : Int) from by rw [← Int.natCast_mul]; exact wi (by omega))) rfl rfl rfl rfl ?_
        refine hk_on (qy_yd fun Y HY => y_eql rfl rfl rfl) rfl rfl rfl rfl ?_
        refine hk_y (fun Y HY => y_pick rfl rfl rfl) rfl rfl ?_
        refine hk_nil ?_
        intro w17 H18
        refine tv_nil ?_
        refine fn_next ?_
        refine cw_condd rfl (fun h19 => ?_) (fun h19 => ?_)
        · skip
          rw [area_nat p h1 h2 h3 h4] at h19
          obtain ⟨e1, e2⟩ := whole_of (p := p1 - p0 + 1) (q := q1 - q0 + 1) p.1 p.2.2.1 (by omega) (by omega) (by omega)
          obtain rfl : p0 = 0 := by omega
          obtain rfl : q0 = 0 := by omega
          obtain rfl : p1 = a - 1 := by omega
          obtain rfl : q1 = h - 1 := by omega
          have hfin : fillL (List.replicate (a * h) u) a 0 0 (a - 1) (h - 1) v = List.replicate (a * h) v := fillL_whole p.1 hVl
          refine cw_seq ?_
          refine cw_reg ?_
          refine ry (y_mov rfl rfl) rfl rfl ?_
          refine ry (y_mov rfl rfl) rfl rfl ?_
          refine ry (y_conv rfl Tryz.underlying2 Tryz.underlying117 rfl (wi32 (show _ from by omega))) rfl rfl ?_
          refine ry (y_iface rfl kfslab2_5 rfl) rfl rfl ?_
          refine ry (y_nilck rfl rfl) rfl rfl ?_
          refine ry (y_fa rfl rfl kfslab2_1 rfl) rfl rfl ?_
          refine reg_op (op_st (i := 1) (vs := [_]) H18 rfl rfl rfl rfl rfl kfslab2_11 rfl rfl rfl) rfl rfl ?_
          rintro _ w20 H21
          refine reg_nil ?_
          refine fn_next ?_
          refine cw_seq ?_
          refine cw_reg ?_
          refine ry (y_asg rfl rfl) rfl rfl ?_
          refine reg_nil ?_
          refine fn_next ?_
          refine cw_ret ?_
          refine fn_then_ret ?_
          refine fn_ret1 rfl rfl ?_
          exact ⟨.flat v, by rw [fillC_ok hw hv], ((H21.nilrow 21 1).pickT (p := [_, _, _, _]) (m := [_, _]) [2, 0] rfl (by decide)), hv, by rw [fillV_ok hw hv, hfin]; rfl⟩
        · skip
          refine cw_skip ?_
          refine fn_next ?_
          refine cw_seq ?_
          refine cw_reg ?_
          refine ry (y_mov rfl rfl) rfl rfl ?_
          refine reg_op (op_call (slabRough_flat w0 _ b a h u _ p (H18.pickT (p := [_, _, _]) (m := [_, _, _]) [1, 2, 0] rfl (by decide))) rfl kfslab2_16 ⟨rfl, trivial⟩) rfl rfl ?_
          rintro _ w23 ⟨A24, c25, rfl, H22⟩
          have hcap := H22.capn (i := 1) rfl
          have hfi : fl (List.replicate (a * h) u) a v p0 p1 q0 q0 p0 = List.replicate (a * h) u := fl_init
          rw [← hfi] at H22
          refine reg_op (op_alloc H22 rfl kfslab2_17) rfl rfl ?_
          rintro _ w27 ⟨b26, rfl, H28⟩
          refine reg_op (op_st (i := 0) (vs := [.slice _ _ _]) H28 rfl rfl rfl rfl rfl kfslab2_18 rfl rfl rfl) rfl rfl ?_
          rintro _ w29 H30
          refine reg_nil ?_
          refine fn_next ?_
          refine cw_seq ?_
          refine cw_seq ?_
          refine cw_reg ?_
          refine ry (y_fa rfl rfl kfslab2_19 rfl) rfl rfl ?_
          refine ry (y_ld rfl rfl kfslab2_7 (H30.cell (i := 3) rfl rfl)) rfl rfl ?_
          refine ry (y_asg rfl rfl) rfl rfl ?_
          refine reg_nil ?_
          refine fn_next ?_
          refine cw_block ?_
          refine cw_loopJ [11, 12, 13, 62, 63, 64, 65, 66, 67, 68, 69, 70, 71, 72, 73, 74, 75, 76, 77, 78, 79, 80, 81, 82, 83, 84, 85, 86, 87, 88, 89, 90, 91, 92, 93, 94, 95] (fun M wl ml => ∃ (y : Nat), M = [(11, .int .i64 (y : Int))] ∧ HS w0 wl (Ob.blk b [.int .i64 (a : Int), .int .i64 (h : Int), .iface 152 (.slice A24 (a * h) c25)] 121 :: Ob.row A24 (a * h) c25 (vi .i32 (fl (List.replicate (a * h) u) a v p0 p1 q0 y p0)) 21 1 :: Ob.blk b26 [.slice A24 (a * h) c25] 152 :: Ob.blk b1 [.int .i64 (p0 : Int), .int .i64 (q0 : Int), .int .i64 (p1 : Int), .int .i64 (q1 : Int)] 54 :: l) ∧ (q0 ≤ y ∧ y ≤ q1 + 1) ∧ ml = q1 + 1 - y) ⟨q0, rfl, (H30.pickT (p := [_, _, _, _]) (m := [_, _, _, _]) [1, 2, 0, 3] rfl (by decide)), ⟨by omega, by omega⟩, rfl⟩ ⟨rfl, trivial⟩ ?_
          rintro M w31 m33 ⟨y, rfl, H32, hp0, rfl⟩
          refine cw_seq ?_
          refine cw_seq ?_
          refine cw_reg ?_
          refine ry (y_mov rfl rfl) rfl rfl ?_
          refine ry (y_fa rfl rfl kfslab2_20 rfl) rfl rfl ?_
          refine ry (y_ld rfl rfl kfslab2_7 (H32.cell (i := 3) rfl rfl)) rfl rfl ?_
          refine ry (y_leq rfl rfl rfl) rfl rfl ?_
          refine reg_nil ?_
          refine fn_next ?_
          refine cw_condd rfl (fun h34 => ?_) (fun h34 => ?_)
          · skip
            have hyq : (y + 1) * a = y * a + a := Nat.succ_mul y a
            have hyh := cell_lt (a := a) (h := h) (x := a - 1) (y := y) (by omega) (by omega)
            refine cw_skip ?_
            refine fn_next ?_
            refine cw_seq ?_
            refine cw_block ?_
            refine cw_seq ?_
            refine cw_draw H32 [0, 1, 2, 3, 4, 5, 6, 7, 8, 9, 10, 11, 12, 13, 14, 15] [] (fun X HX => HX) (by kernel_rfl) (by kernel_rfl) (by rfl) ?_
            simp only [pick, List.getElem?_cons_succ, List.getElem?_cons_zero]
            refine hk_y (fun Y HY => y_ld rfl rfl kfslab2_21 (HY.cell (i := 2) rfl rfl)) rfl rfl ?_
            refine hk_y (fun Y HY => y_mov rfl rfl) rfl rfl ?_
            refine hk_y (fun Y HY => y_mov rfl rfl) rfl rfl ?_
            refine hk_y (fun Y HY => y_nilck rfl rfl) rfl rfl ?_
            refine hk_y (fun Y HY => y_fa rfl rfl kfslab2_6 rfl) rfl rfl ?_
            refine hk_y (fun Y HY => y_ld rfl rfl kfslab2_7 (HY.cell (i := 0) rfl rfl)) rfl rfl ?_
            refine hk_y (fun Y HY => y_mul rfl rfl rfl (show _ = ((y * a : Nat) : Int) from by rw [← Int.natCast_mul]; exact wi (by omega))) rfl rfl ?_
            refine hk_y (fun Y HY => y_mov rfl rfl) rfl rfl ?_
            refine hk_y (fun Y HY => y_add rfl rfl rfl (show _ = ((y + 1 : Nat) : Int) from wi (by omega))) rfl rfl ?_
            refine hk_y (fun Y HY => y_mov rfl rfl) rfl rfl ?_
            refine hk_y (fun Y HY => y_nilck rfl rfl) rfl rfl ?_
            refine hk_y (fun Y HY => y_fa rfl rfl kfslab2_6 rfl) rfl rfl ?_
            refine hk_y (fun Y HY => y_ld rfl rfl kfslab2_7 (HY.cell (i := 0) rfl rfl)) rfl rfl ?_
            refine hk_y (fun Y HY => y_mul rfl rfl rfl (show _ = (((y + 1) * a : Nat) : Int) from by rw [← Int.natCast_mul]; exact wi (by omega))) rfl rfl ?_
            refine hk_y (fun Y HY => y_slh (lo := y * a) (hi := (y + 1) * a) rfl rfl rfl rfl kfslab2_22 (rfl) (rfl) (by omega) (by omega)) rfl rfl ?_
            refine hk_y (fun Y HY => y_asg rfl rfl) rfl rfl ?_
            refine hk_nil ?_
            intro w35 H36
            refine tv_nil ?_
            refine fn_next ?_
            refine cw_seq ?_
            refine cw_reg ?_
            refine ry (y_fa rfl rfl kfslab2_23 rfl) rfl rfl ?_
            refine ry (y_ld rfl rfl kfslab2_7 (H36.cell (i := 3) rfl rfl)) rfl rfl ?_
            refine ry (y_asg rfl rfl) rfl rfl ?_
            refine reg_nil ?_
            refine fn_next ?_
            refine cw_block ?_
            refine cw_loopJ [13, 85, 86, 87, 88, 89, 90, 91, 92, 93, 94, 95] (fun M wl ml => ∃ (x : Nat), M = [(13, .int .i64 (x : Int))] ∧ HS w0 wl (Ob.blk b [.int .i64 (a : Int), .int .i64 (h : Int), .iface 152 (.slice A24 (a * h) c25)] 121 :: Ob.row A24 (a * h) c25 (vi .i32 (fl (List.replicate (a * h) u) a v p0 p1 q0 y x)) 21 1 :: Ob.blk b26 [.slice A24 (a * h) c25] 152 :: Ob.blk b1 [.int .i64 (p0 : Int), .int .i64 (q0 : Int), .int .i64 (p1 : Int), .int .i64 (q1 : Int)] 54 :: l) ∧ (p0 ≤ x ∧ x ≤ p1 + 1) ∧ ml = p1 + 1 - x) ⟨p0, rfl, H36, ⟨by omega, by omega⟩, rfl⟩ ⟨rfl, trivial⟩ ?_
            rintro M w37 m39 ⟨x, rfl, H38, hp0, rfl⟩
            refine cw_seq ?_
            refine cw_seq ?_
            refine cw_reg ?_
            refine ry (y_mov rfl rfl) rfl rfl ?_
            refine ry (y_fa rfl rfl kfslab2_24 rfl) rfl rfl ?_
            refine ry (y_ld rfl rfl kfslab2_7 (H38.cell (i := 3) rfl rfl)) rfl rfl ?_
            refine ry (y_leq rfl rfl rfl) rfl rfl ?_
            refine reg_nil ?_
            refine fn_next ?_
            refine cw_condd rfl (fun h40 => ?_) (fun h40 => ?_)
            · skip
              refine cw_skip ?_
              refine fn_next ?_
              refine cw_seq ?_
              refine cw_block ?_
              refine cw_reg ?_
              refine ry (y_mov rfl rfl) rfl rfl ?_
              refine ry (y_mov rfl rfl) rfl rfl ?_
              refine ry (y_mov rfl rfl) rfl rfl ?_
              refine ry (y_conv rfl Tryz.underlying2 Tryz.underlying21 rfl (wi32 (show _ from by omega))) rfl rfl ?_
              refine ry (yv (pt_sub1 (by omega)) (y_iar (i := x) (Rd.slice (lo := y * a) (hi := (y + 1) * a) (H38.rd (i := 1) rfl) (by omega) (by omega)) rfl rfl rfl kfslab2_22 rfl (by omega) (Nat.mul_one _) (sub_get (by omega) (by rw [fl_len]; omega)))) rfl rfl ?_
              refine reg_op (op_ste (i := 1) (vs := [.int _ _]) H38 rfl rfl rfl rfl rfl kfslab2_25 rfl (by rw [vi_len, fl_len]; show y * a + x + 1 ≤ _; omega) rfl rfl) rfl rfl ?_
              rintro _ w41 H42
              refine reg_nil ?_
              refine fn_block ?_
              refine fn_next ?_
              refine cw_reg ?_
              refine ry (y_mov rfl rfl) rfl rfl ?_
              refine ry (y_add rfl rfl rfl (wi (by omega))) rfl rfl ?_
              refine ry (y_asg rfl rfl) rfl rfl ?_
              refine reg_nil ?_
              rw [vi_set, fl_set (by omega) (by omega) (by omega)] at H42
              refine fn_roundJ ⟨x + 1, rfl, H42, ⟨by omega, by omega⟩, rfl⟩ ⟨rfl, trivial⟩ (by omega) (by repeat (first | exact kp_refl | refine kp_app rfl rfl ?_ | refine kp_cons rfl ?_)) rfl
            · skip
              obtain rfl : x = p1 + 1 := by omega
              refine cw_exit ?_
              refine fn_then_exit (fn_then_exit (fn_block_exit ?_))
              refine fn_block ?_
              refine fn_next ?_
              refine cw_reg ?_
              refine ry (y_mov rfl rfl) rfl rfl ?_
              refine ry (y_add rfl rfl rfl (wi (by omega))) rfl rfl ?_
              refine ry (y_asg rfl rfl) rfl rfl ?_
              refine reg_nil ?_
              rw [fl_row (by omega)] at H38
              refine fn_roundJ ⟨y + 1, rfl, H38, ⟨by omega, by omega⟩, rfl⟩ ⟨rfl, trivial⟩ (by omega) (by repeat (first | exact kp_refl | refine kp_app rfl rfl ?_ | refine kp_cons rfl ?_)) rfl
          · skip
            obtain rfl : y = q1 + 1 := by omega
            obtain ⟨F, hF⟩ : ∃ F, fillL (List.replicate (a * h) u) a p0 q0 p1 q1 v = F := ⟨_, rfl⟩
            have hFl : F.length = a * h := by rw [← hF]; unfold fillL; rw [fl_len]; exact hVl
            have hFb : AllB F := by rw [← hF]; unfold fillL; exact fl_bd hVb hv
            rw [show fl (List.replicate (a * h) u) a v p0 p1 q0 (q1 + 1) p0 = F from hF] at H32
            have hg0 := vi_get (k := .i32) (zs := F) (i := 0) (by omega)
            refine cw_exit ?_
            refine fn_then_exit (fn_then_exit (fn_block_exit ?_))
            refine fn_next ?_
            refine cw_seq ?_
            refine cw_seq ?_
            refine cw_reg ?_
            refine ry (y_ld rfl rfl kfslab2_21 (H32.cell (i := 2) rfl rfl)) rfl rfl ?_
            refine ry (y_mkf (first := []) (caps := [_]) (fs := []) (cs := [_]) rfl trivial ⟨rfl, trivial⟩) rfl rfl ?_
            refine reg_op (op_call (containsF_any b26 A24 (a * h) c25 F _ (H32.rdb (i := 2) rfl) (H32.rd (i := 1) rfl) hFl hm.1 hm.2) rfl kfslab2_26 ⟨rfl, rfl, trivial⟩) rfl rfl ?_
            rintro _ w44 ⟨rfl, e43⟩
            have H45 := H32.ext e43
            refine ry (y_notd rfl rfl) rfl rfl ?_
            refine reg_nil ?_
            refine fn_next ?_
            refine cw_condd rfl (fun hne => ?_) (fun hne => ?_)
            · skip
              refine cw_reg ?_
              refine ry (y_mov rfl rfl) rfl rfl ?_
              refine ry (y_ld rfl rfl kfslab2_21 (H45.cell (i := 2) rfl rfl)) rfl rfl ?_
              refine ry (y_iar (i := 0) (H45.rd (i := 1) rfl) rfl rfl rfl kfslab2_22 (rfl) (by omega) (Nat.mul_one _) (hg0)) rfl rfl ?_
              refine ry (y_ldr (H45.rd (i := 1) rfl) rfl rfl kfslab2_27 (hg0)) rfl rfl ?_
              refine ry (y_iface rfl kfslab2_5 rfl) rfl rfl ?_
              refine ry (y_nilck rfl rfl) rfl rfl ?_
              refine ry (y_fa rfl rfl kfslab2_1 rfl) rfl rfl ?_
              refine reg_op (op_st (i := 0) (vs := [_]) H45 rfl rfl rfl rfl rfl kfslab2_11 rfl rfl rfl) rfl rfl ?_
              rintro _ w47 H48
              refine reg_nil ?_
              refine fn_next ?_
              refine cw_seq ?_
              refine cw_reg ?_
              refine ry (y_asg rfl rfl) rfl rfl ?_
              refine reg_nil ?_
              refine fn_next ?_
              refine cw_ret ?_
              refine fn_ret1 rfl rfl ?_
              exact ⟨.flat (nth F 0), by rw [fillC_ok hw hv], ((H48.nilrow 21 1).pickT (p := [_, _, _, _, _]) (m := [_, _]) [1, 0] rfl (by decide)), hFb.at_ (by omega), by rw [fillV_ok hw hv, hF]; exact (rep_of hFl (ixNe_neg hne)).symm⟩
            · skip
              refine cw_skip ?_
              refine fn_next ?_
              refine cw_seq ?_
              refine cw_reg ?_
              refine ry (y_asg rfl rfl) rfl rfl ?_
              refine reg_nil ?_
              refine fn_next ?_
              refine cw_ret ?_
              refine fn_ret1 rfl rfl ?_
              exact ⟨.rough A24 c25 F, by rw [fillC_ok hw hv], (H45.pickT (p := [_, _, _, _]) (m := [_, _]) [0, 1] rfl (by decide)), ⟨hFl, hFb, ixNe_pos (Classical.not_not.1 hne)⟩, by rw [fillV_ok hw hv, hF]; rfl⟩

set_option maxRecDepth 100000 in
set_option maxHeartbeats 400000 in
theorem slabFill_rough (w0 : World) (l : List Ob) (b a h : Nat) (A : Option Addr) (cap : Nat) (V : List Int) (p0 q0 p1 q1 : Nat) (v : Int) (w : World) (p : sizeP a h) (hL : (Ld.rough A cap V).ok (a * h)) (h1 : p0 ≤ p1) (h2 : p1 < a) (h3 : q0 ≤ q1) (h4 : q1 < h) (hw : withinC p0 q0 p1 q1 a h = 0) (hv : B32 v) (H0 : HS w0 w (.blk b [.int .i64 (a : Int), .int .i64 (h : Int), .iface 152 (.slice A (a * h) cap)] 121 :: .row A (a * h) cap (vi .i32 V) 21 1 :: l)) :
    Ret Tryz.prog 108 [.pointer (some ⟨b, 0, none⟩), .agg #[.int .i64 (p0 : Int), .int .i64 (q0 : Int), .int .i64 (p1 : Int), .int .i64 (q1 : Int)], .int .i64 v] w (fun z w' => ∃ L' : Ld, z = .int .i64 (fillC a h (p0 : Int) (q0 : Int) (p1 : Int) (q1 : Int) v) ∧ HS w0 w' (.blk b [.int .i64 (a : Int), .int .i64 (h : Int), L'.val (a * h)] 121 :: L'.ob (a * h) :: l) ∧ L'.ok (a * h) ∧ L'.lst (a * h) = fillV (V) a h (p0 : Int) (q0 : Int) (p1 : Int) (q1 : Int) v) := by
  have hm := p.mul
  obtain ⟨s1, s2, s3, s4⟩ := id p
  have hvb := hv
  unfold B32 at hvb
  have hVl : (V).length = a * h := hL.1
  have hVb : AllB (V) := hL.2.1
  refine ret_enter Tryz.func108 rfl rfl rfl ?_
  refine cw_seq ?_
  refine cw_reg ?_
  refine reg_op (op_box (cs := [.int _ _, .int _ _, .int _ _, .int _ _]) H0 rfl rfl rfl) rfl rfl ?_
  rintro _ w2 ⟨b1, rfl, H3⟩
  refine ry (y_asg rfl rfl) rfl rfl ?_
  refine reg_nil ?_
  refine fn_next ?_
  refine cw_seq ?_
  refine cw_seq ?_
  refine cw_reg ?_
  refine ry (y_mov rfl rfl) rfl rfl ?_
  refine ry (y_ldb (i := 0) (cs := [_, _, _, _]) H3 rfl rfl kfslab2_12 rfl rfl) rfl rfl ?_
  refine reg_op (op_call (slabCheck_any b a h _ p0 q0 p1 q1 _ (H3.rdb (i := 1) rfl)) rfl kfslab2_13 ⟨rfl, rfl, trivial⟩) rfl rfl ?_
  rintro _ w5 ⟨rfl, e4⟩
  have H6 := H3.ext e4
  refine ry (y_asg rfl rfl) rfl rfl ?_
  refine reg_nil ?_
  refine fn_next ?_
  refine cw_seq ?_
  refine cw_reg ?_
  refine ry (y_mov rfl rfl) rfl rfl ?_
  refine ry (y_neq rfl rfl rfl) rfl rfl ?_
  refine reg_nil ?_
  refine fn_next ?_
  refine cw_condd rfl (fun h7 => ?_) (fun h7 => ?_)
  · exact absurd hw h7
  · skip
    refine cw_skip ?_
    refine fn_next ?_
    refine cw_seq ?_
    refine cw_seq ?_
    refine cw_reg ?_
    refine ry (y_mov rfl rfl) rfl rfl ?_
    refine reg_op (op_call (slabMay_any v _) rfl kfslab2_14 ⟨rfl, trivial⟩) rfl rfl ?_
    rintro _ w9 ⟨rfl, e8⟩
    have H10 := H6.ext e8
    refine ry (y_notd rfl rfl) rfl rfl ?_
    refine reg_nil ?_
    refine fn_next ?_
    refine cw_condd rfl (fun h11 => ?_) (fun h11 => ?_)
    · exact absurd hv h11
    · skip
      refine cw_skip ?_
      refine fn_next ?_
      refine cw_seq ?_
      refine cw_seq ?_
      refine cw_reg ?_
      refine ry (y_mov rfl rfl) rfl rfl ?_
      refine ry (y_nilck rfl rfl) rfl rfl ?_
      refine ry (y_fa rfl rfl kfslab2_1 rfl) rfl rfl ?_
      refine ry (y_ld rfl rfl kfslab2_2 (H10.cell (i := 1) rfl rfl)) rfl rfl ?_
      refine ry (y_tano rfl kfslab2_5 rfl kfslab2_28 rfl) rfl rfl ?_
      refine ry (y_mov rfl rfl) rfl rfl ?_
      refine ry (y_ext rfl rfl rfl) rfl rfl ?_
      refine ry (y_ext rfl rfl rfl) rfl rfl ?_
      refine ry (y_asg rfl rfl) rfl rfl ?_
      refine ry (y_asg rfl rfl) rfl rfl ?_
      refine reg_nil ?_
      refine fn_next ?_
      refine cw_seq ?_
      refine cw_draw H10 [0, 1, 2, 3, 4, 5, 6, 7, 8, 9, 10, 11, 12, 13, 14, 15, 16, 17, 18, 19, 20] [] (fun X HX => HX) (by kernel_rfl) (by kernel_rfl) (by rfl) ?_
      simp only [pick, List.getElem?_cons_succ, List.getElem?_cons_zero]
      refine hk_y (fun Y HY => y_mov rfl rfl) rfl rfl ?_
      refine hk_y (fun Y HY => y_mov rfl rfl) rfl rfl ?_
      refine hk_off rfl rfl rfl rfl rfl ?_
      refine hk_off rfl rfl rfl rfl rfl ?_
      refine hk_off rfl rfl rfl rfl rfl ?_
      refine hk_off rfl rfl rfl rfl rfl ?_
      refine hk_y (fun Y HY => y_pick rfl rfl rfl) rfl rfl ?_
      refine hk_y (fun Y HY => y_mov rfl rfl) rfl rfl ?_
      refine hk_on (qy_yd fun Y HY => y_ldb (i := 0) (cs := [_, _, _, _]) HY rfl rfl kfslab2_12 rfl rfl) rfl rfl rfl rfl ?_
      refine hk_on (qy_call (fun Y HY => ret_elder (area_any p0 q0 p1 q1 _)) rfl kfslab2_15 ⟨rfl, trivial⟩) rfl rfl rfl rfl ?_
      refine hk_on (qy_yd fun Y HY => y_mov rfl rfl) rfl rfl rfl rfl ?_
      refine hk_on (qy_yd fun Y HY => y_nilck rfl rfl) rfl rfl rfl rfl ?_
      refine hk_on (qy_yd fun Y HY => y_fa rfl rfl kfslab2_6 rfl) rfl rfl rfl rfl ?_
      refine hk_on (qy_yd fun Y HY => y_ld rfl rfl kfslab2_7 (HY.cell (i := 1) rfl rfl)) rfl rfl rfl rfl ?_
      refine hk_on (qy_yd fun Y HY => y_mov rfl rfl) rfl rfl rfl rfl ?_
      refine hk_on (qy_yd fun Y HY => y_nilck rfl rfl) rfl rfl rfl rfl ?_
      refine hk_on (qy_yd fun Y HY => y_fa rfl rfl kfslab2_8 rfl) rfl rfl rfl rfl ?_
      refine hk_on (qy_yd fun Y HY => y_ld rfl rfl kfslab2_7 (HY.cell (i := 1) rfl rfl)) rfl rfl rfl rfl ?_
      refine hk_on (qy_yd fun Y HY => y_mul rfl rfl rfl (show _ = ((a * h : Nat) : Int) from by rw [← Int.natCast_mul]; exact wi (by omega))) rfl rfl rfl rfl ?_
      refine hk_on (qy_yd fun Y HY => y_eql rfl rfl rfl) rfl rfl rfl rfl ?_
      refine hk_y (fun Y HY => y_pick rfl rfl rfl) rfl rfl ?_
      refine hk_nil ?_
      intro w12 H13
      refine tv_nil ?_
      refine fn_next ?_
      refine cw_condd rfl (fun h14 => ?_) (fun h14 => ?_)
      · skip
        rw [area_nat p h1 h2 h3 h4] at h14
        obtain ⟨e1, e2⟩ := whole_of (p := p1 - p0 + 1) (q := q1 - q0 + 1) p.1 p.2.2.1 (by omega) (by omega) (by omega)
        obtain rfl : p0 = 0 := by omega
        obtain rfl : q0 = 0 := by omega
        obtain rfl : p1 = a - 1 := by omega
        obtain rfl : q1 = h - 1 := by omega
        have hfin : fillL (V) a 0 0 (a - 1) (h - 1) v = List.replicate (a * h) v := fillL_whole p.1 hVl
        refine cw_seq ?_
        refine cw_reg ?_
        refine ry (y_mov rfl rfl) rfl rfl ?_
        refine ry (y_mov rfl rfl) rfl rfl ?_
        refine ry (y_conv rfl Tryz.underlying2 Tryz.underlying117 rfl (wi32 (show _ from by omega))) rfl rfl ?_
        refine ry (y_iface rfl kfslab2_5 rfl) rfl rfl ?_
        refine ry (y_nilck rfl rfl) rfl rfl ?_
        refine ry (y_fa rfl rfl kfslab2_1 rfl) rfl rfl ?_
        refine reg_op (op_st (i := 1) (vs := [_]) H13 rfl rfl rfl rfl rfl kfslab2_11 rfl rfl rfl) rfl rfl ?_
        rintro _ w15 H16
        refine reg_nil ?_
        refine fn_next ?_
        refine cw_seq ?_
        refine cw_reg ?_
        refine ry (y_asg rfl rfl) rfl rfl ?_
        refine reg_nil ?_
        refine fn_next ?_
        refine cw_ret ?_
        refine fn_then_ret ?_
        refine fn_ret1 rfl rfl ?_
        exact ⟨.flat v, by rw [fillC_ok hw hv], ((H16.nilrow 21 1).pickT (p := [_, _, _, _]) (m := [_, _]) [2, 0] rfl (by decide)), hv, by rw [fillV_ok hw hv, hfin]; rfl⟩
      · skip
        refine cw_skip ?_
        refine fn_next ?_
        refine cw_seq ?_
        refine cw_reg ?_
        refine ry (y_mov rfl rfl) rfl rfl ?_
        refine reg_op (op_call (slabRough_rough w0 _ b a h A cap V _ (H13.pickT (p := [_, _, _]) (m := [_, _, _]) [1, 2, 0] rfl (by decide))) rfl kfslab2_16 ⟨rfl, trivial⟩) rfl rfl ?_
        rintro _ w18 ⟨A19, c20, rfl, H17⟩
        have hcap := H17.capn (i := 1) rfl
        have hfi : fl (V) a v p0 p1 q0 q0 p0 = V := fl_init
        rw [← hfi] at H17
        refine reg_op (op_alloc H17 rfl kfslab2_17) rfl rfl ?_
        rintro _ w22 ⟨b21, rfl, H23⟩
        refine reg_op (op_st (i := 0) (vs := [.slice _ _ _]) H23 rfl rfl rfl rfl rfl kfslab2_18 rfl rfl rfl) rfl rfl ?_
        rintro _ w24 H25
        refine reg_nil ?_
        refine fn_next ?_
        refine cw_seq ?_
        refine cw_seq ?_
        refine cw_reg ?_
        refine ry (y_fa rfl rfl kfslab2_19 rfl) rfl rfl ?_
        refine ry (y_ld rfl rfl kfslab2_7 (H25.cell (i := 3) rfl rfl)) rfl rfl ?_
        refine ry (y_asg rfl rfl) rfl rfl ?_
        refine reg_nil ?_
        refine fn_next ?_
        refine cw_block ?_
        refine cw_loopJ [11, 12, 13, 62, 63, 64, 65, 66, 67, 68, 69, 70, 71, 72, 73, 74, 75, 76, 77, 78, 79, 80, 81, 82, 83, 84, 85, 86, 87, 88, 89, 90, 91, 92, 93, 94, 95] (fun M wl ml => ∃ (y : Nat), M = [(11, .int .i64 (y : Int))] ∧ HS w0 wl (Ob.blk b [.int .i64 (a : Int), .int .i64 (h : Int), .iface 152 (.slice A19 (a * h) c20)] 121 :: Ob.row A19 (a * h) c20 (vi .i32 (fl (V) a v p0 p1 q0 y p0)) 21 1 :: Ob.blk b21 [.slice A19 (a * h) c20] 152 :: Ob.blk b1 [.int .i64 (p0 : Int), .int .i64 (q0 : Int), .int .i64 (p1 : Int), .int .i64 (q1 : Int)] 54 :: l) ∧ (q0 ≤ y ∧ y ≤ q1 + 1) ∧ ml = q1 + 1 - y) ⟨q0, rfl, (H25.pickT (p := [_, _, _, _]) (m := [_, _, _, _]) [1, 2, 0, 3] rfl (by decide)), ⟨by omega, by omega⟩, rfl⟩ ⟨rfl, trivial⟩ ?_
        rintro M w26 m28 ⟨y, rfl, H27, hp0, rfl⟩
        refine cw_seq ?_
        refine cw_seq ?_
        refine cw_reg ?_
        refine ry (y_mov rfl rfl) rfl rfl ?_
        refine ry (y_fa rfl rfl kfslab2_20 rfl) rfl rfl ?_
        refine ry (y_ld rfl rfl kfslab2_7 (H27.cell (i := 3) rfl rfl)) rfl rfl ?_
        refine ry (y_leq rfl rfl rfl) rfl rfl ?_
        refine reg_nil ?_
        refine fn_next ?_
        refine cw_condd rfl (fun h29 => ?_) (fun h29 => ?_)
        · skip
          have hyq : (y + 1) * a = y * a + a := Nat.succ_mul y a
          have hyh := cell_lt (a := a) (h := h) (x := a - 1) (y := y) (by omega) (by omega)
          refine cw_skip ?_
          refine fn_next ?_
          refine cw_seq ?_
          refine cw_block ?_
          refine cw_seq ?_
          refine cw_draw H27 [0, 1, 2, 3, 4, 5, 6, 7, 8, 9, 10, 11, 12, 13, 14, 15] [] (fun X HX => HX) (by kernel_rfl) (by kernel_rfl) (by rfl) ?_
          simp only [pick, List.getElem?_cons_succ, List.getElem?_cons_zero]
          refine hk_y (fun Y HY => y_ld rfl rfl kfslab2_21 (HY.cell (i := 2) rfl rfl)) rfl rfl ?_
          refine hk_y (fun Y HY => y_mov rfl rfl) rfl rfl ?_
          refine hk_y (fun Y HY => y_mov rfl rfl) rfl rfl ?_
          refine hk_y (fun Y HY => y_nilck rfl rfl) rfl rfl ?_
          refine hk_y (fun Y HY => y_fa rfl rfl kfslab2_6 rfl) rfl rfl ?_
          refine hk_y (fun Y HY => y_ld rfl rfl kfslab2_7 (HY.cell (i := 0) rfl rfl)) rfl rfl ?_
          refine hk_y (fun Y HY => y_mul rfl rfl rfl (show _ = ((y * a : Nat) : Int) from by rw [← Int.natCast_mul]; exact wi (by omega))) rfl rfl ?_
          refine hk_y (fun Y HY => y_mov rfl rfl) rfl rfl ?_
          refine hk_y (fun Y HY => y_add rfl rfl rfl (show _ = ((y + 1 : Nat) : Int) from wi (by omega))) rfl rfl ?_
          refine hk_y (fun Y HY => y_mov rfl rfl) rfl rfl ?_
          refine hk_y (fun Y HY => y_nilck rfl rfl) rfl rfl ?_
          refine hk_y (fun Y HY => y_fa rfl rfl kfslab2_6 rfl) rfl rfl ?_
          refine hk_y (fun Y HY => y_ld rfl rfl kfslab2_7 (HY.cell (i := 0) rfl rfl)) rfl rfl ?_
          refine hk_y (fun Y HY => y_mul rfl rfl rfl (show _ = (((y + 1) * a : Nat) : Int) from by rw [← Int.natCast_mul]; exact wi (by omega))) rfl rfl ?_
          refine hk_y (fun Y HY => y_slh (lo := y * a) (hi := (y + 1) * a) rfl rfl rfl rfl kfslab2_22 (rfl) (rfl) (by omega) (by omega)) rfl rfl ?_
          refine hk_y (fun Y HY => y_asg rfl rfl) rfl rfl ?_
          refine hk_nil ?_
          intro w30 H31
          refine tv_nil ?_
          refine fn_next ?_
          refine cw_seq ?_
          refine cw_reg ?_
          refine ry (y_fa rfl rfl kfslab2_23 rfl) rfl rfl ?_
          refine ry (y_ld rfl rfl kfslab2_7 (H31.cell (i := 3) rfl rfl)) rfl rfl ?_
          refine ry (y_asg rfl rfl) rfl rfl ?_
          refine reg_nil ?_
          refine fn_next ?_
          refine cw_block ?_
          refine cw_loopJ [13, 85, 86, 87, 88, 89, 90, 91, 92, 93, 94, 95] (fun M wl ml => ∃ (x : Nat), M = [(13, .int .i64 (x : Int))] ∧ HS w0 wl (Ob.blk b [.int .i64 (a : Int), .int .i64 (h : Int), .iface 152 (.slice A19 (a * h) c20)] 121 :: Ob.row A19 (a * h) c20 (vi .i32 (fl (V) a v p0 p1 q0 y x)) 21 1 :: Ob.blk b21 [.slice A19 (a * h) c20] 152 :: Ob.blk b1 [.int .i64 (p0 : Int), .int .i64 (q0 : Int), .int .i64 (p1 : Int), .int .i64 (q1 : Int)] 54 :: l) ∧ (p0 ≤ x ∧ x ≤ p1 + 1) ∧ ml = p1 + 1 - x) ⟨p0, rfl, H31, ⟨by omega, by omega⟩, rfl⟩ ⟨rfl, trivial⟩ ?_
          rintro M w32 m34 ⟨x, rfl, H33, hp0, rfl⟩
          refine cw_seq ?_
          refine cw_seq ?_
          refine cw_reg ?_
          refine ry (y_mov rfl rfl) rfl rfl ?_
          refine ry (y_fa rfl rfl kfslab2_24 rfl) rfl rfl ?_
          refine ry (y_ld rfl rfl kfslab2_7 (H33.cell (i := 3) rfl rfl)) rfl rfl ?_
          refine ry (y_leq rfl rfl rfl) rfl rfl ?_
          refine reg_nil ?_
          refine fn_next ?_
          refine cw_condd rfl (fun h35 => ?_) (fun h35 => ?_)
          · skip
            refine cw_skip ?_
            refine fn_next ?_
            refine cw_seq ?_
            refine cw_block ?_
            refine cw_reg ?_
            refine ry (y_mov rfl rfl) rfl rfl ?_
            refine ry (y_mov rfl rfl) rfl rfl ?_
            refine ry (y_mov rfl rfl) rfl rfl ?_
            refine ry (y_conv rfl Tryz.underlying2 Tryz.underlying21 rfl (wi32 (show _ from by omega))) rfl rfl ?_
            refine ry (yv (pt_sub1 (by omega)) (y_iar (i := x) (Rd.slice (lo := y * a) (hi := (y + 1) * a) (H33.rd (i := 1) rfl) (by omega) (by omega)) rfl rfl rfl kfslab2_22 rfl (by omega) (Nat.mul_one _) (sub_get (by omega) (by rw [fl_len]; omega)))) rfl rfl ?_
            refine reg_op (op_ste (i := 1) (vs := [.int _ _]) H33 rfl rfl rfl rfl rfl kfslab2_25 rfl (by rw [vi_len, fl_len]; show y * a + x + 1 ≤ _; omega) rfl rfl) rfl rfl ?_
            rintro _ w36 H37
            refine reg_nil ?_
            refine fn_block ?_
            refine fn_next ?_
            refine cw_reg ?_
            refine ry (y_mov rfl rfl) rfl rfl ?_
            refine ry (y_add rfl rfl rfl (wi (by omega))) rfl rfl ?_
            refine ry (y_asg rfl rfl) rfl rfl ?_
            refine reg_nil ?_
            rw [vi_set, fl_set (by omega) (by omega) (by omega)] at H37
            refine fn_roundJ ⟨x + 1, rfl, H37, ⟨by omega, by omega⟩, rfl⟩ ⟨rfl, trivial⟩ (by omega) (by repeat (first | exact kp_refl | refine kp_app rfl rfl ?_ | refine kp_cons rfl ?_)) rfl
          · skip
            obtain rfl : x = p1 + 1 := by omega
            refine cw_exit ?_
            refine fn_then_exit (fn_then_exit (fn_block_exit ?_))
            refine fn_block ?_
            refine fn_next ?_
            refine cw_reg ?_
            refine ry (y_mov rfl rfl) rfl rfl ?_
            refine ry (y_add rfl rfl rfl (wi (by omega))) rfl rfl ?_
            refine ry (y_asg rfl rfl) rfl rfl ?_
            refine reg_nil ?_
            rw [fl_row (by omega)] at H33
            refine fn_roundJ ⟨y + 1, rfl, H33, ⟨by omega, by omega⟩, rfl⟩ ⟨rfl, trivial⟩ (by omega) (by repeat (first | exact kp_refl | refine kp_app rfl rfl ?_ | refine kp_cons rfl ?_)) rfl
        · skip
          obtain rfl : y = q1 + 1 := by omega
          obtain ⟨F, hF⟩ : ∃ F, fillL (V) a p0 q0 p1 q1 v = F := ⟨_, rfl⟩
          have hFl : F.length = a * h := by rw [← hF]; unfold fillL; rw [fl_len]; exact hVl
          have hFb : AllB F := by rw [← hF]; unfold fillL; exact fl_bd hVb hv
          rw [show fl (V) a v p0 p1 q0 (q1 + 1) p0 = F from hF] at H27
          have hg0 := vi_get (k := .i32) (zs := F) (i := 0) (by omega)
          refine cw_exit ?_
          refine fn_then_exit (fn_then_exit (fn_block_exit ?_))
          refine fn_next ?_
          refine cw_seq ?_
          refine cw_seq ?_
          refine cw_reg ?_
          refine ry (y_ld rfl rfl kfslab2_21 (H27.cell (i := 2) rfl rfl)) rfl rfl ?_
          refine ry (y_mkf (first := []) (caps := [_]) (fs := []) (cs := [_]) rfl trivial ⟨rfl, trivial⟩) rfl rfl ?_
          refine reg_op (op_call (containsF_any b21 A19 (a * h) c20 F _ (H27.rdb (i := 2) rfl) (H27.rd (i := 1) rfl) hFl hm.1 hm.2) rfl kfslab2_26 ⟨rfl, rfl, trivial⟩) rfl rfl ?_
          rintro _ w39 ⟨rfl, e38⟩
          have H40 := H27.ext e38
          refine ry (y_notd rfl rfl) rfl rfl ?_
          refine reg_nil ?_
          refine fn_next ?_
          refine cw_condd rfl (fun hne => ?_) (fun hne => ?_)
          · skip
            refine cw_reg ?_
            refine ry (y_mov rfl rfl) rfl rfl ?_
            refine ry (y_ld rfl rfl kfslab2_21 (H40.cell (i := 2) rfl rfl)) rfl rfl ?_
            refine ry (y_iar (i := 0) (H40.rd (i := 1) rfl) rfl rfl rfl kfslab2_22 (rfl) (by omega) (Nat.mul_one _) (hg0)) rfl rfl ?_
            refine ry (y_ldr (H40.rd (i := 1) rfl) rfl rfl kfslab2_27 (hg0)) rfl rfl ?_
            refine ry (y_iface rfl kfslab2_5 rfl) rfl rfl ?_
            refine ry (y_nilck rfl rfl) rfl rfl ?_
            refine ry (y_fa rfl rfl kfslab2_1 rfl) rfl rfl ?_
            refine reg_op (op_st (i := 0) (vs := [_]) H40 rfl rfl rfl rfl rfl kfslab2_11 rfl rfl rfl) rfl rfl ?_
            rintro _ w42 H43
            refine reg_nil ?_
            refine fn_next ?_
            refine cw_seq ?_
            refine cw_reg ?_
            refine ry (y_asg rfl rfl) rfl rfl ?_
            refine reg_nil ?_
            refine fn_next ?_
            refine cw_ret ?_
            refine fn_ret1 rfl rfl ?_
            exact ⟨.flat (nth F 0), by rw [fillC_ok hw hv], ((H43.nilrow 21 1).pickT (p := [_, _, _, _, _]) (m := [_, _]) [1, 0] rfl (by decide)), hFb.at_ (by omega), by rw [fillV_ok hw hv, hF]; exact (rep_of hFl (ixNe_neg hne)).symm⟩
          · skip
            refine cw_skip ?_
            refine fn_next ?_
            refine cw_seq ?_
            refine cw_reg ?_
            refine ry (y_asg rfl rfl) rfl rfl ?_
            refine reg_nil ?_
            refine fn_next ?_
            refine cw_ret ?_
            refine fn_ret1 rfl rfl ?_
            exact ⟨.rough A19 c20 F, by rw [fillC_ok hw hv], (H40.pickT (p := [_, _, _, _]) (m := [_, _]) [0, 1] rfl (by decide)), ⟨hFl, hFb, ixNe_pos (Classical.not_not.1 hne)⟩, by rw [fillV_ok hw hv, hF]; rfl⟩

theorem slabFill_any (w0 : World) (l : List Ob) (b a h : Nat) (L : Ld) (x0 y0 x1 y1 v : Int) (w : World) (p : sizeP a h) (hL : L.ok (a * h)) (H0 : HS w0 w (.blk b [.int .i64 (a : Int), .int .i64 (h : Int), L.val (a * h)] 121 :: L.ob (a * h) :: l)) : Ret Tryz.prog 108 [.pointer (some ⟨b, 0, none⟩), .agg #[.int .i64 x0, .int .i64 y0, .int .i64 x1, .int .i64 y1], .int .i64 v] w (fun z w' => ∃ L' : Ld, z = .int .i64 (fillC a h x0 y0 x1 y1 v) ∧ HS w0 w' (.blk b [.int .i64 (a : Int), .int .i64 (h : Int), L'.val (a * h)] 121 :: L'.ob (a * h) :: l) ∧ L'.ok (a * h) ∧ L'.lst (a * h) = fillV (L.lst (a * h)) a h x0 y0 x1 y1 v) := by
  by_cases hw : withinC x0 y0 x1 y1 a h = 0
  · by_cases hv : B32 v
    · obtain ⟨p0, q0, p1, q1, rfl, rfl, rfl, rfl, h1, h2, h3, h4⟩ := within_nat p hw
      cases L with
      | flat u => exact slabFill_flat w0 l b a h u p0 q0 p1 q1 v w p hL h1 h2 h3 h4 hw hv H0
      | rough A cap V => exact slabFill_rough w0 l b a h A cap V p0 q0 p1 q1 v w p hL h1 h2 h3 h4 hw hv H0
    · exact slabFill_v w0 l b a h L x0 y0 x1 y1 v w hL hw hv H0
  · exact slabFill_w w0 l b a h L x0 y0 x1 y1 v w hL hw H0

end Go.Proofs.YtbnjbgcadkdljaaGreatDoor
