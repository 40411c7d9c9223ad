/- Layer 43: which one is nearest; what isn't there; the answers. -/
import Derived.Test.YtbhmkpnihgjlnaaDist2
set_option linter.unusedVariables false
set_option linter.unusedSimpArgs false
namespace Go.Proofs.Ytbhmkpnihgjlnaa
open Go Go.RowKit
theorem kfdist3_1 : (Try.prog.info? 46).bind (fun i => i.zero.map Value.cells) = some (List.toArray [(.int .i64 0), (.int .i64 0)]) := by kernel_rfl
theorem kfdist3_2 : aggB Try.prog 46 2 = true := by kernel_rfl
theorem kfdist3_3 : callB Try.prog 64 = true := by kernel_rfl
theorem kfdist3_4 : szB Try.prog 46 2 = true := by kernel_rfl
theorem kfdist3_5 : callB Try.prog 55 = true := by kernel_rfl
theorem kfdist3_6 : (Try.prog.info? 93).bind (fun i => i.zero.map Value.cells) = some (List.toArray [(.int .i64 0), (.slice none 0 0)]) := by kernel_rfl
theorem kfdist3_7 : szB Try.prog 93 2 = true := by kernel_rfl
theorem kfdist3_8 : aggB Try.prog 93 2 = true := by kernel_rfl
theorem kfdist3_9 : callB Try.prog 56 = true := by kernel_rfl
theorem kfdist3_10 : fldB Try.prog 93 1 1 = true := by kernel_rfl
theorem kfdist3_11 : oneB Try.prog 22 = true := by kernel_rfl
theorem kfdist3_12 : fldB Try.prog 46 1 1 = true := by kernel_rfl
theorem kfdist3_13 : oneB Try.prog 2 = true := by kernel_rfl
theorem kfdist3_14 : fldB Try.prog 93 0 0 = true := by kernel_rfl
theorem kfdist3_15 : oneB Try.prog 3 = true := by kernel_rfl
theorem kfdist3_16 : fldB Try.prog 46 0 0 = true := by kernel_rfl
theorem kfdist3_17 : elB Try.prog 22 1 = true := by kernel_rfl
theorem kfdist3_18 : (Try.prog.info? 106).bind (fun i => i.zero.map Value.cells) = some (List.toArray [(.int .i64 0), (.int .i64 0)]) := by kernel_rfl
theorem kfdist3_19 : szB Try.prog 2 1 = true := by kernel_rfl
theorem kfdist3_20 : callB Try.prog 59 = true := by kernel_rfl
theorem kfdist3_21 : callB Try.prog 58 = true := by kernel_rfl
theorem kfdist3_22 : fldB Try.prog 25 0 0 = true := by kernel_rfl
theorem kfdist3_23 : fldB Try.prog 25 1 1 = true := by kernel_rfl
theorem kfdist3_24 : fldB Try.prog 25 2 2 = true := by kernel_rfl
theorem kfdist3_25 : callB Try.prog 65 = true := by kernel_rfl
theorem kfdist3_26 : (Try.prog.info? 2).map (fun i => (i.size, i.zero.map Value.cells)) = some (1, some (List.toArray [(.int .i64 0)])) := by kernel_rfl
theorem kfdist3_27 : aggB Try.prog 25 3 = true := by kernel_rfl
theorem kfdist3_28 : callB Try.prog 28 = true := by kernel_rfl
theorem kfdist3_29 : (Try.prog.info? 2).map (fun i => (i.zero.map (·.cells.toList), i.size, i.bytes)) = some (some [(.int .i64 0)], 1, 8) := by kernel_rfl
theorem nth_iff {V D : List Int} {a h k : Nat} {t : Int} (H : DOk V D a t) (s : SzG a h) (hl : V.length = a * h) (hk : k < V.length) (hn : ¬ noS V t) : nth D k = 0 ↔ t ≤ nth V k := by
  rw [H.val s hl hk hn]
  exact toF_zero (by have := s.1; omega) hk
theorem nr_yes {V : List Int} {a k b : Nat} {t : Int} (h : nr V a k t V.length = some b) : ¬ noS V t := fun q => by rw [nr_noS.2 q] at h; cases h

set_option maxRecDepth 100000 in
theorem dNear_out (g a h : Nat) (V : List Int) (cx cy t : Int) (w : World) (R : GRd w g a h V) (hw : ¬ withinC cx cy cx cy a h = 0) :
    Ret Try.prog 26 [.pointer (some ⟨g, 0, none⟩), .agg #[.int .i64 cx, .int .i64 cy], .int .i64 t] w (fun z w' => z = .tuple #[.agg #[.int .i64 0, .int .i64 0], .int .i64 0, .bool false, .int .i64 (withinC cx cy cx cy a h)] ∧ Below w.heap.size w w') := by
 have hgv := R.gv
 have ha : 1 ≤ a := hgv.a1
 have hm := hgv.sz.mul
 have ha2 := hgv.a2
 have hh2 := hgv.h2
 refine ret_enter Try.func26 rfl rfl rfl ?_
 have H0 := HS.start w
 refine cw_seq ?_
 refine cw_reg ?_
 refine reg_op (op_box (cs := [.int _ _, .int _ _]) H0 rfl rfl rfl) rfl rfl ?_
 rintro _ w2 ⟨b1, rfl, H3⟩
 refine reg_op (op_alloc H3 rfl kfdist3_1) rfl rfl ?_
 rintro _ w5 ⟨b4, rfl, H6⟩
 refine ry (y_asg rfl rfl) rfl rfl ?_
 refine ry (y_asg rfl rfl) rfl rfl ?_
 refine ry (y_asg rfl rfl) rfl rfl ?_
 refine reg_nil ?_
 refine fn_next ?_
 refine cw_seq ?_
 refine cw_seq ?_
 refine cw_reg ?_
 refine ry (y_mov rfl rfl) rfl rfl ?_
 refine ry (y_ldb (i := 1) (cs := [_, _]) H6 rfl rfl kfdist3_2 rfl rfl) rfl rfl ?_
 refine reg_op (op_call (gAt g a h (V) cx cy _ (R.below H6.base)) rfl kfdist3_3 ⟨rfl, rfl, trivial⟩) rfl rfl ?_
 rintro _ w8 ⟨rfl, e7⟩
 have H9 := H6.ext e7
 refine ry (y_mov rfl rfl) rfl rfl ?_
 refine ry (y_ext rfl rfl rfl) rfl rfl ?_
 refine ry (y_ext rfl rfl rfl) rfl rfl ?_
 refine ry (y_asg rfl rfl) rfl rfl ?_
 refine ry (y_asg rfl rfl) rfl rfl ?_
 refine reg_nil ?_
 refine fn_next ?_
 refine cw_seq ?_
 refine cw_reg ?_
 refine ry (y_mov rfl rfl) rfl rfl ?_
 refine ry (y_neq rfl rfl rfl) rfl rfl ?_
 refine reg_nil ?_
 refine fn_next ?_
 refine cw_condd rfl (fun h10 => ?_) (fun h10 => ?_)
 ·skip
  refine cw_seq ?_
  refine cw_reg ?_
  refine ry (y_build (places := [(0, 1), (1, 1)]) (parts := []) (vs := []) (cs := [.int _ _, .int _ _]) rfl Try.underlying46 (by kernel_rfl) kfdist3_1 rfl trivial rfl) rfl rfl ?_
  refine ry (y_mov rfl rfl) rfl rfl ?_
  refine reg_op (op_st (i := 0) (vs := [.int _ _, .int _ _]) H9 rfl rfl rfl rfl rfl kfdist3_4 rfl rfl rfl) rfl rfl ?_
  rintro _ w11 H12
  refine ry (y_asg rfl rfl) rfl rfl ?_
  refine ry (y_asg rfl rfl) rfl rfl ?_
  refine ry (y_asg rfl rfl) rfl rfl ?_
  refine reg_nil ?_
  refine fn_next ?_
  refine cw_ret ?_
  refine fn_then_ret ?_
  refine fn_retn (vs := [_, _, _, _]) rfl ⟨⟨_, rfl, load_agg (cs := [_, _]) kfdist3_2 rfl fun j v hv => by rw [Nat.zero_add]; exact H12.cell (i := 0) rfl hv⟩, rfl, rfl, rfl, trivial⟩ rfl ?_
  exact ⟨rfl, H12.base⟩
 · exact absurd (Classical.not_not.1 h10) hw

set_option maxRecDepth 100000 in
theorem dNear_no (g a h : Nat) (V : List Int) (cx cy : Nat) (t : Int) (w : World) (R : GRd w g a h V) (hx : cx < a) (hy : cy < h) (hno : noS V t) :
    Ret Try.prog 26 [.pointer (some ⟨g, 0, none⟩), .agg #[.int .i64 (cx : Int), .int .i64 (cy : Int)], .int .i64 t] w (fun z w' => z = .tuple #[.agg #[.int .i64 0, .int .i64 0], .int .i64 0, .bool false, .int .i64 0] ∧ Below w.heap.size w w') := by
 have hgv := R.gv
 have ha : 1 ≤ a := hgv.a1
 have hm := hgv.sz.mul
 have ha2 := hgv.a2
 have hh2 := hgv.h2
 have hw := within_inG (x := (cx : Int)) (y := (cy : Int)) hgv.sz (by omega)
 refine ret_enter Try.func26 rfl rfl rfl ?_
 have H0 := HS.start w
 refine cw_seq ?_
 refine cw_reg ?_
 refine reg_op (op_box (cs := [.int _ _, .int _ _]) H0 rfl rfl rfl) rfl rfl ?_
 rintro _ w2 ⟨b1, rfl, H3⟩
 refine reg_op (op_alloc H3 rfl kfdist3_1) rfl rfl ?_
 rintro _ w5 ⟨b4, rfl, H6⟩
 refine ry (y_asg rfl rfl) rfl rfl ?_
 refine ry (y_asg rfl rfl) rfl rfl ?_
 refine ry (y_asg rfl rfl) rfl rfl ?_
 refine reg_nil ?_
 refine fn_next ?_
 refine cw_seq ?_
 refine cw_seq ?_
 refine cw_reg ?_
 refine ry (y_mov rfl rfl) rfl rfl ?_
 refine ry (y_ldb (i := 1) (cs := [_, _]) H6 rfl rfl kfdist3_2 rfl rfl) rfl rfl ?_
 refine reg_op (op_call (gAt g a h (V) cx cy _ (R.below H6.base)) rfl kfdist3_3 ⟨rfl, rfl, trivial⟩) rfl rfl ?_
 rintro _ w8 ⟨rfl, e7⟩
 have H9 := H6.ext e7
 refine ry (y_mov rfl rfl) rfl rfl ?_
 refine ry (y_ext rfl rfl rfl) rfl rfl ?_
 refine ry (y_ext rfl rfl rfl) rfl rfl ?_
 refine ry (y_asg rfl rfl) rfl rfl ?_
 refine ry (y_asg rfl rfl) rfl rfl ?_
 refine reg_nil ?_
 refine fn_next ?_
 refine cw_seq ?_
 refine cw_reg ?_
 refine ry (y_mov rfl rfl) rfl rfl ?_
 refine ry (y_neq rfl rfl rfl) rfl rfl ?_
 refine reg_nil ?_
 refine fn_next ?_
 refine cw_condd rfl (fun h10 => ?_) (fun h10 => ?_)
 · exact absurd hw h10
 ·skip
  refine cw_skip ?_
  refine fn_next ?_
  refine cw_seq ?_
  refine cw_reg ?_
  refine ry (y_mov rfl rfl) rfl rfl ?_
  refine ry (y_mov rfl rfl) rfl rfl ?_
  refine reg_op (op_call (dOf g a h (V) t _ (R.below H9.base)) rfl kfdist3_5 ⟨rfl, rfl, trivial⟩) rfl rfl ?_
  rintro _ w12 ⟨A14, c15, D, rfl, k11, hok⟩
  have H13 := H9.call k11
  have hDl : D.length = a * h := hok.len.trans hgv.len
  refine ry (y_mov rfl rfl) rfl rfl ?_
  refine ry (y_ext rfl rfl rfl) rfl rfl ?_
  refine ry (y_ext rfl rfl rfl) rfl rfl ?_
  refine reg_op (op_alloc H13 rfl kfdist3_6) rfl rfl ?_
  rintro _ w17 ⟨b16, rfl, H18⟩
  refine reg_op (op_st (i := 0) (vs := [.int _ _, .slice _ _ _]) H18 rfl rfl rfl rfl rfl kfdist3_7 rfl rfl rfl) rfl rfl ?_
  rintro _ w19 H20
  refine ry (y_asg rfl rfl) rfl rfl ?_
  refine reg_nil ?_
  refine fn_next ?_
  refine cw_seq ?_
  refine cw_seq ?_
  refine cw_reg ?_
  refine ry (y_ldb (i := 0) (cs := [_, _]) H20 rfl rfl kfdist3_8 rfl rfl) rfl rfl ?_
  refine reg_op (op_call (dNone a (a * h) c15 A14 D _ (H20.rd (i := 1) rfl) hDl hm.1) rfl kfdist3_9 ⟨rfl, trivial⟩) rfl rfl ?_
  rintro _ w22 ⟨rfl, e21⟩
  have H23 := H20.ext e21
  refine reg_nil ?_
  refine fn_next ?_
  refine cw_condd rfl (fun h24 => ?_) (fun h24 => ?_)
  ·skip
   refine cw_seq ?_
   refine cw_reg ?_
   refine ry (y_build (places := [(0, 1), (1, 1)]) (parts := []) (vs := []) (cs := [.int _ _, .int _ _]) rfl Try.underlying46 (by kernel_rfl) kfdist3_1 rfl trivial rfl) rfl rfl ?_
   refine reg_op (op_st (i := 2) (vs := [.int _ _, .int _ _]) H23 rfl rfl rfl rfl rfl kfdist3_4 rfl rfl rfl) rfl rfl ?_
   rintro _ w25 H26
   refine ry (y_asg rfl rfl) rfl rfl ?_
   refine ry (y_asg rfl rfl) rfl rfl ?_
   refine ry (y_asg rfl rfl) rfl rfl ?_
   refine reg_nil ?_
   refine fn_next ?_
   refine cw_ret ?_
   refine fn_then_ret ?_
   refine fn_retn (vs := [_, _, _, _]) rfl ⟨⟨_, rfl, load_agg (cs := [_, _]) kfdist3_2 rfl fun j v hv => by rw [Nat.zero_add]; exact H26.cell (i := 2) rfl hv⟩, rfl, rfl, rfl, trivial⟩ rfl ?_
   exact ⟨rfl, H26.base⟩
  · exact absurd ((hok.no hgv.sz hgv.len (show 0 < V.length by rw [hgv.len]; exact hm.1)).2 hno) h24

set_option maxRecDepth 100000 in
set_option maxHeartbeats 2000000 in
theorem dNear_ok (g a h : Nat) (V : List Int) (cx cy b : Nat) (t : Int) (w : World) (R : GRd w g a h V) (hx : cx < a) (hy : cy < h) (hb : nr V a (cy * a + cx) t V.length = some b) :
    Ret Try.prog 26 [.pointer (some ⟨g, 0, none⟩), .agg #[.int .i64 (cx : Int), .int .i64 (cy : Int)], .int .i64 t] w (fun z w' => z = .tuple #[.agg #[.int .i64 ((b % a : Nat) : Int), .int .i64 ((b / a : Nat) : Int)], .int .i64 ((l1 a (cy * a + cx) b : Nat) : Int), .bool true, .int .i64 0] ∧ Below w.heap.size w w') := by
 have hgv := R.gv
 have ha : 1 ≤ a := hgv.a1
 have hm := hgv.sz.mul
 have ha2 := hgv.a2
 have hh2 := hgv.h2
 have hw := within_inG (x := (cx : Int)) (y := (cy : Int)) hgv.sz (by omega)
 have hno := nr_yes hb
 have hcl0 := cell_lt hx hy
 have hkV : (cy * a + cx) < V.length := by rw [hgv.len]; exact hcl0
 obtain ⟨hb1, hb2, hb3⟩ := nr_some hb
 have hF := l1_lt hgv.sz hcl0 (show b < a * h by rw [← hgv.len]; exact hb1)
 generalize hFe : l1 a (cy * a + cx) b = F at *
 refine ret_enter Try.func26 rfl rfl rfl ?_
 have H0 := HS.start w
 refine cw_seq ?_
 refine cw_reg ?_
 refine reg_op (op_box (cs := [.int _ _, .int _ _]) H0 rfl rfl rfl) rfl rfl ?_
 rintro _ w2 ⟨b1, rfl, H3⟩
 refine reg_op (op_alloc H3 rfl kfdist3_1) rfl rfl ?_
 rintro _ w5 ⟨b4, rfl, H6⟩
 refine ry (y_asg rfl rfl) rfl rfl ?_
 refine ry (y_asg rfl rfl) rfl rfl ?_
 refine ry (y_asg rfl rfl) rfl rfl ?_
 refine reg_nil ?_
 refine fn_next ?_
 refine cw_seq ?_
 refine cw_seq ?_
 refine cw_reg ?_
 refine ry (y_mov rfl rfl) rfl rfl ?_
 refine ry (y_ldb (i := 1) (cs := [_, _]) H6 rfl rfl kfdist3_2 rfl rfl) rfl rfl ?_
 refine reg_op (op_call (gAt g a h (V) cx cy _ (R.below H6.base)) rfl kfdist3_3 ⟨rfl, rfl, trivial⟩) rfl rfl ?_
 rintro _ w8 ⟨rfl, e7⟩
 have H9 := H6.ext e7
 refine ry (y_mov rfl rfl) rfl rfl ?_
 refine ry (y_ext rfl rfl rfl) rfl rfl ?_
 refine ry (y_ext rfl rfl rfl) rfl rfl ?_
 refine ry (y_asg rfl rfl) rfl rfl ?_
 refine ry (y_asg rfl rfl) rfl rfl ?_
 refine reg_nil ?_
 refine fn_next ?_
 refine cw_seq ?_
 refine cw_reg ?_
 refine ry (y_mov rfl rfl) rfl rfl ?_
 refine ry (y_neq rfl rfl rfl) rfl rfl ?_
 refine reg_nil ?_
 refine fn_next ?_
 refine cw_condd rfl (fun h10 => ?_) (fun h10 => ?_)
 · exact absurd hw h10
 ·skip
  refine cw_skip ?_
  refine fn_next ?_
  refine cw_seq ?_
  refine cw_reg ?_
  refine ry (y_mov rfl rfl) rfl rfl ?_
  refine ry (y_mov rfl rfl) rfl rfl ?_
  refine reg_op (op_call (dOf g a h (V) t _ (R.below H9.base)) rfl kfdist3_5 ⟨rfl, rfl, trivial⟩) rfl rfl ?_
  rintro _ w12 ⟨A14, c15, D, rfl, k11, hok⟩
  have H13 := H9.call k11
  have hDl : D.length = a * h := hok.len.trans hgv.len
  refine ry (y_mov rfl rfl) rfl rfl ?_
  refine ry (y_ext rfl rfl rfl) rfl rfl ?_
  refine ry (y_ext rfl rfl rfl) rfl rfl ?_
  refine reg_op (op_alloc H13 rfl kfdist3_6) rfl rfl ?_
  rintro _ w17 ⟨b16, rfl, H18⟩
  refine reg_op (op_st (i := 0) (vs := [.int _ _, .slice _ _ _]) H18 rfl rfl rfl rfl rfl kfdist3_7 rfl rfl rfl) rfl rfl ?_
  rintro _ w19 H20
  refine ry (y_asg rfl rfl) rfl rfl ?_
  refine reg_nil ?_
  refine fn_next ?_
  refine cw_seq ?_
  refine cw_seq ?_
  refine cw_reg ?_
  refine ry (y_ldb (i := 0) (cs := [_, _]) H20 rfl rfl kfdist3_8 rfl rfl) rfl rfl ?_
  refine reg_op (op_call (dNone a (a * h) c15 A14 D _ (H20.rd (i := 1) rfl) hDl hm.1) rfl kfdist3_9 ⟨rfl, trivial⟩) rfl rfl ?_
  rintro _ w22 ⟨rfl, e21⟩
  have H23 := H20.ext e21
  refine reg_nil ?_
  refine fn_next ?_
  refine cw_condd rfl (fun h24 => ?_) (fun h24 => ?_)
  · exact absurd ((hok.no hgv.sz hgv.len (show 0 < V.length by rw [hgv.len]; exact hm.1)).1 h24) hno
  ·skip
   have g50 : (vi .i64 D)[(cy * a + cx)]? = some (.int .i64 (F : Int)) := (vi_get (by rw [hDl]; exact hcl0)).trans (by rw [hok.val hgv.sz hgv.len hkV hno, fardist hx hb, hFe])
   refine cw_skip ?_
   refine fn_next ?_
   refine cw_seq ?_
   refine cw_reg ?_
   refine ry (y_fa rfl rfl kfdist3_10 rfl) rfl rfl ?_
   refine ry (y_ld rfl rfl kfdist3_11 (H23.cell (i := 0) rfl rfl)) rfl rfl ?_
   refine ry (y_fa rfl rfl kfdist3_12 rfl) rfl rfl ?_
   refine ry (y_ld rfl rfl kfdist3_13 (H23.cell (i := 3) rfl rfl)) rfl rfl ?_
   refine ry (y_fa rfl rfl kfdist3_14 rfl) rfl rfl ?_
   refine ry (y_ld rfl rfl kfdist3_15 (H23.cell (i := 0) rfl rfl)) rfl rfl ?_
   refine ry (y_mul rfl rfl rfl (mulN (by omega))) rfl rfl ?_
   refine ry (y_fa rfl rfl kfdist3_16 rfl) rfl rfl ?_
   refine ry (y_ld rfl rfl kfdist3_13 (H23.cell (i := 3) rfl rfl)) rfl rfl ?_
   refine ry (y_add rfl rfl rfl (addN (by omega))) rfl rfl ?_
   refine ry (y_iar (H23.rd (i := 1) rfl) rfl rfl rfl kfdist3_17 (rfl) (by omega) (Nat.mul_one _) (g50)) rfl rfl ?_
   refine ry (y_ldr (H23.rd (i := 1) rfl) rfl rfl kfdist3_13 (g50)) rfl rfl ?_
   refine ry (y_asg rfl rfl) rfl rfl ?_
   refine reg_nil ?_
   refine fn_next ?_
   refine cw_seq ?_
   refine cw_reg ?_
   refine ry (y_fa rfl rfl kfdist3_10 rfl) rfl rfl ?_
   refine ry (y_ld rfl rfl kfdist3_11 (H23.cell (i := 0) rfl rfl)) rfl rfl ?_
   refine ry (y_len rfl Try.underlying22 rfl) rfl rfl ?_
   refine ry (y_fa rfl rfl kfdist3_14 rfl) rfl rfl ?_
   refine ry (y_ld rfl rfl kfdist3_15 (H23.cell (i := 0) rfl rfl)) rfl rfl ?_
   refine ry (y_quo rfl rfl rfl (by omega) ((quoN (by omega)).trans (congrArg _ (Nat.mul_div_cancel_left h ha)))) rfl rfl ?_
   refine ry (y_asg rfl rfl) rfl rfl ?_
   refine reg_nil ?_
   refine fn_next ?_
   refine cw_seq ?_
   refine cw_seq ?_
   refine cw_reg ?_
   refine ry (y_fa rfl rfl kfdist3_12 rfl) rfl rfl ?_
   refine ry (y_ld rfl rfl kfdist3_13 (H23.cell (i := 3) rfl rfl)) rfl rfl ?_
   refine ry (y_mov rfl rfl) rfl rfl ?_
   refine ry (y_sub rfl rfl rfl (wi (by omega))) rfl rfl ?_
   refine ry (y_max rfl rfl rfl) rfl rfl ?_
   refine ry (y_asg rfl rfl) rfl rfl ?_
   refine reg_nil ?_
   refine fn_next ?_
   refine cw_block ?_
   refine cw_loopJ [7, 8, 9, 16, 17, 19, 62, 63, 64, 65, 66, 67, 68, 69, 70, 71, 72, 73, 74, 75, 76, 77, 78, 79, 80, 81, 82, 83, 84, 85, 86, 87, 88, 89, 90, 91, 92, 93, 94, 95, 96, 97, 98, 99, 100, 101, 102, 103, 104, 105, 106, 107, 108, 109, 110, 111, 112, 113, 114, 115, 116, 117, 118, 119, 120, 121] (fun M wl ml => ∃ (y : Nat), M = [(16, .int .i64 (y : Int))] ∧ HS w wl [Ob.blk b16 [.int .i64 (a : Int), .slice A14 (a * h) c15] 93, Ob.row A14 (a * h) c15 (vi .i64 (D)) 2 1, Ob.blk b4 [.int .i64 0, .int .i64 0] 46, Ob.blk b1 [.int .i64 (cx : Int), .int .i64 (cy : Int)] 46] ∧ (cy - F ≤ y ∧ y ≤ cy + F + 1) ∧ (Scan V a (cy * a + cx) t F y) ∧ ml = h + cy + F + 1 - y) ⟨cy - F, rfl, H23, ⟨by omega, by omega⟩, Scan.start hx hgv.len, rfl⟩ ⟨si (by omega), trivial⟩ ?_
   rintro M w25 m27 ⟨y, rfl, H26, hp0, hp1, rfl⟩
   refine cw_seq ?_
   refine cw_seq ?_
   refine cw_reg ?_
   refine ry (y_mov rfl rfl) rfl rfl ?_
   refine ry (y_fa rfl rfl kfdist3_12 rfl) rfl rfl ?_
   refine ry (y_ld rfl rfl kfdist3_13 (H26.cell (i := 3) rfl rfl)) rfl rfl ?_
   refine ry (y_mov rfl rfl) rfl rfl ?_
   refine ry (y_add rfl rfl rfl (wi (by omega))) rfl rfl ?_
   refine ry (y_mov rfl rfl) rfl rfl ?_
   refine ry (y_sub rfl rfl rfl (wi (by omega))) rfl rfl ?_
   refine ry (y_min rfl rfl rfl) rfl rfl ?_
   refine ry (y_leq rfl rfl rfl) rfl rfl ?_
   refine reg_nil ?_
   refine fn_next ?_
   refine cw_condd rfl (fun h28 => ?_) (fun h28 => ?_)
   ·skip
    have hyh : y < h := by omega
    have hyc : y ≤ cy + F := by omega
    have hdy : dif cy y ≤ F := by unfold dif; omega
    have hya : y * a ≤ a * h := by rw [Nat.mul_comm a h]; exact Nat.mul_le_mul_right _ (Nat.le_of_lt hyh)
    refine cw_skip ?_
    refine fn_next ?_
    refine cw_seq ?_
    refine cw_block ?_
    refine cw_seq ?_
    refine cw_reg ?_
    refine ry (y_mov rfl rfl) rfl rfl ?_
    refine ry (y_mov rfl rfl) rfl rfl ?_
    refine ry (y_fa rfl rfl kfdist3_12 rfl) rfl rfl ?_
    refine ry (y_ld rfl rfl kfdist3_13 (H26.cell (i := 3) rfl rfl)) rfl rfl ?_
    refine ry (y_sub rfl rfl rfl (wi (by omega))) rfl rfl ?_
    refine ry (y_fa rfl rfl kfdist3_12 rfl) rfl rfl ?_
    refine ry (y_ld rfl rfl kfdist3_13 (H26.cell (i := 3) rfl rfl)) rfl rfl ?_
    refine ry (y_mov rfl rfl) rfl rfl ?_
    refine ry (y_sub rfl rfl rfl (wi (by omega))) rfl rfl ?_
    refine ry (y_max rfl rfl rfl) rfl rfl ?_
    refine ry (y_sub rfl rfl rfl (show _ = ((F - dif cy y : Nat) : Int) from (wi (by omega)).trans (by unfold dif; omega))) rfl rfl ?_
    refine ry (y_asg rfl rfl) rfl rfl ?_
    refine reg_nil ?_
    refine fn_next ?_
    refine cw_seq ?_
    refine cw_reg ?_
    refine ry (y_fa rfl rfl kfdist3_16 rfl) rfl rfl ?_
    refine ry (y_ld rfl rfl kfdist3_13 (H26.cell (i := 3) rfl rfl)) rfl rfl ?_
    refine ry (y_mov rfl rfl) rfl rfl ?_
    refine ry (y_sub rfl rfl rfl (wi (by omega))) rfl rfl ?_
    refine ry (y_fa rfl rfl kfdist3_16 rfl) rfl rfl ?_
    refine ry (y_ld rfl rfl kfdist3_13 (H26.cell (i := 3) rfl rfl)) rfl rfl ?_
    refine ry (y_mov rfl rfl) rfl rfl ?_
    refine ry (y_add rfl rfl rfl (wi (by omega))) rfl rfl ?_
    refine ry (y_builda (parts := [(0, _), (1, _)]) (vs := [(0, _), (1, _)]) (cs := [.int _ _, .int _ _]) rfl Try.underlying106 kfdist3_19 kfdist3_18 rfl ⟨rfl, rfl, trivial⟩ rfl) rfl rfl ?_
    refine ry (y_mov rfl rfl) rfl rfl ?_
    refine reg_nil ?_
    refine fn_next ?_
    refine cw_block ?_
    refine cw_loopR 2 ?_
    refine cw_seq ?_
    refine cw_reg ?_
    refine ry (y_lss rfl rfl rfl) rfl rfl ?_
    refine reg_nil ?_
    refine fn_next ?_
    refine cw_seq ?_
    refine cw_condt rfl ?_
    refine cw_skip ?_
    refine fn_next ?_
    refine cw_seq ?_
    refine cw_block ?_
    refine cw_seq ?_
    refine cw_reg ?_
    refine ry (y_index1 (i := 0) rfl Try.underlying106 rfl rfl (rfl) (by decide) kfdist3_13 kfdist3_19 rfl) rfl rfl ?_
    refine ry (y_asg rfl rfl) rfl rfl ?_
    refine reg_nil ?_
    refine fn_next ?_
    refine cw_seq ?_
    refine cw_reg ?_
    refine ry (y_mov rfl rfl) rfl rfl ?_
    refine ry (y_geq rfl rfl rfl) rfl rfl ?_
    refine ry (y_mov rfl rfl) rfl rfl ?_
    refine rg_splitd (d := 98) rfl (fun h29 => ?_) (fun h29 => ?_)
    ·skip
     have q1 := h29
     refine rgy (y_mov rfl rfl) rfl rfl rfl rfl ?_
     refine rgy (y_fa rfl rfl kfdist3_14 rfl) rfl rfl rfl rfl ?_
     refine rgy (y_ld rfl rfl kfdist3_15 (H26.cell (i := 0) rfl rfl)) rfl rfl rfl rfl ?_
     refine rgy (y_lss rfl rfl rfl) rfl rfl rfl rfl ?_
     refine ry (y_pick rfl rfl rfl) rfl rfl ?_
     refine ry (y_mov rfl rfl) rfl rfl ?_
     refine rg_splitd (d := 104) rfl (fun h30 => ?_) (fun h30 => ?_)
     ·skip
      have q2 := h30
      obtain ⟨x, hxe⟩ : ∃ x : Nat, (x : Int) = _ := ⟨_, Int.toNat_of_nonneg q1⟩
      have hxa : x < a := by omega
      have hcl := cell_lt hxa hyh
      have hgx := vi_get (k := .i64) (zs := D) (i := y * a + x) (by omega)
      have hz := nth_iff hok hgv.sz hgv.len (show y * a + x < V.length by rw [hgv.len]; exact hcl) hno
      refine rgy (y_fa rfl rfl kfdist3_10 rfl) rfl rfl rfl rfl ?_
      refine rgy (y_ld rfl rfl kfdist3_11 (H26.cell (i := 0) rfl rfl)) rfl rfl rfl rfl ?_
      refine rgy (y_mov rfl rfl) rfl rfl rfl rfl ?_
      refine rgy (y_fa rfl rfl kfdist3_14 rfl) rfl rfl rfl rfl ?_
      refine rgy (y_ld rfl rfl kfdist3_15 (H26.cell (i := 0) rfl rfl)) rfl rfl rfl rfl ?_
      refine rgy (y_mul rfl rfl rfl (mulN (by omega))) rfl rfl rfl rfl ?_
      refine rgy (y_mov rfl rfl) rfl rfl rfl rfl ?_
      refine rgy (y_add rfl rfl rfl (show _ = ((y * a + x : Nat) : Int) from (wi (by omega)).trans (by omega))) rfl rfl rfl rfl ?_
      refine rgy (y_iar (H26.rd (i := 1) rfl) rfl rfl rfl kfdist3_17 (rfl) (by omega) (Nat.mul_one _) (hgx)) rfl rfl rfl rfl ?_
      refine rgy (y_ldr (H26.rd (i := 1) rfl) rfl rfl kfdist3_13 (hgx)) rfl rfl rfl rfl ?_
      refine rgy (y_eql rfl rfl rfl) rfl rfl rfl rfl ?_
      refine ry (y_pick rfl rfl rfl) rfl rfl ?_
      refine reg_nil ?_
      refine fn_next ?_
      refine cw_condd rfl (fun h31 => ?_) (fun h31 => ?_)
      ·skip
       have hh := hz.1 h31
       refine cw_seq ?_
       refine cw_reg ?_
       refine ry (y_mov rfl rfl) rfl rfl ?_
       refine ry (y_mov rfl rfl) rfl rfl ?_
       refine ry (y_build (places := [(0, 1), (1, 1)]) (parts := [(0, _), (1, _)]) (vs := [(0, _), (1, _)]) (cs := [.int _ _, .int _ _]) rfl Try.underlying46 (by kernel_rfl) kfdist3_1 rfl ⟨rfl, rfl, trivial⟩ rfl) rfl rfl ?_
       refine ry (y_mov rfl rfl) rfl rfl ?_
       refine reg_op (op_st (i := 2) (vs := [.int _ _, .int _ _]) H26 rfl rfl rfl rfl rfl kfdist3_4 rfl rfl rfl) rfl rfl ?_
       rintro _ w32 H33
       refine ry (y_asg rfl rfl) rfl rfl ?_
       refine ry (y_asg rfl rfl) rfl rfl ?_
       refine ry (y_asg rfl rfl) rfl rfl ?_
       refine reg_nil ?_
       refine fn_next ?_
       refine cw_ret ?_
       refine fn_block_ret (fn_then_ret (fn_then_ret (fn_block_ret (fn_block_ret (fn_then_ret (fn_then_ret (fn_block_ret (fn_then_ret ?_))))))))
       refine fn_retn (vs := [_, _, _, _]) rfl ⟨⟨_, rfl, load_agg (cs := [_, _]) kfdist3_2 rfl fun j v hv => by rw [Nat.zero_add]; exact H33.cell (i := 2) rfl hv⟩, rfl, rfl, rfl, trivial⟩ rfl ?_
       have hbe : b = y * a + x := Scan.hit hx hgv.len hb hyh hxa (by rw [hFe]; exact hp1) (by rw [hFe]; exact hdy) (by rw [hFe]; unfold dif at *; omega) hh (by rw [hFe]; first | exact .inl hxe | exact .inr n1)
       obtain ⟨e1, e2⟩ := div_of hxa hbe
       rw [e1, e2]
       rw [hxe]
       exact ⟨rfl, H33.base⟩
      ·skip
       have nn := (show ¬ hitX V a t y (x : Int) from fun q => h31 (hz.2 q.2.2))
       rw [hxe] at nn
       refine cw_skip ?_
       refine fn_block ?_
       refine fn_next ?_
       refine cw_reg ?_
       refine ry (y_add rfl rfl rfl (wi (by omega))) rfl rfl ?_
       refine ry (y_mov rfl rfl) rfl rfl ?_
       refine reg_nil ?_
       refine fn_roundR ?_
       have n1 := nn
       clear nn
       refine cw_seq ?_
       refine cw_reg ?_
       refine ry (y_lss rfl rfl rfl) rfl rfl ?_
       refine reg_nil ?_
       refine fn_next ?_
       refine cw_seq ?_
       refine cw_condt rfl ?_
       refine cw_skip ?_
       refine fn_next ?_
       refine cw_seq ?_
       refine cw_block ?_
       refine cw_seq ?_
       refine cw_reg ?_
       refine ry (y_index1 (i := 1) rfl Try.underlying106 rfl rfl (rfl) (by decide) kfdist3_13 kfdist3_19 rfl) rfl rfl ?_
       refine ry (y_asg rfl rfl) rfl rfl ?_
       refine reg_nil ?_
       refine fn_next ?_
       refine cw_seq ?_
       refine cw_reg ?_
       refine ry (y_mov rfl rfl) rfl rfl ?_
       refine ry (y_geq rfl rfl rfl) rfl rfl ?_
       refine ry (y_mov rfl rfl) rfl rfl ?_
       refine rg_splitd (d := 98) rfl (fun h34 => ?_) (fun h34 => ?_)
       ·skip
        have q1 := h34
        refine rgy (y_mov rfl rfl) rfl rfl rfl rfl ?_
        refine rgy (y_fa rfl rfl kfdist3_14 rfl) rfl rfl rfl rfl ?_
        refine rgy (y_ld rfl rfl kfdist3_15 (H26.cell (i := 0) rfl rfl)) rfl rfl rfl rfl ?_
        refine rgy (y_lss rfl rfl rfl) rfl rfl rfl rfl ?_
        refine ry (y_pick rfl rfl rfl) rfl rfl ?_
        refine ry (y_mov rfl rfl) rfl rfl ?_
        refine rg_splitd (d := 104) rfl (fun h35 => ?_) (fun h35 => ?_)
        ·skip
         have q2 := h35
         obtain ⟨x, hxe⟩ : ∃ x : Nat, (x : Int) = _ := ⟨_, Int.toNat_of_nonneg q1⟩
         have hxa : x < a := by omega
         have hcl := cell_lt hxa hyh
         have hgx := vi_get (k := .i64) (zs := D) (i := y * a + x) (by omega)
         have hz := nth_iff hok hgv.sz hgv.len (show y * a + x < V.length by rw [hgv.len]; exact hcl) hno
         refine rgy (y_fa rfl rfl kfdist3_10 rfl) rfl rfl rfl rfl ?_
         refine rgy (y_ld rfl rfl kfdist3_11 (H26.cell (i := 0) rfl rfl)) rfl rfl rfl rfl ?_
         refine rgy (y_mov rfl rfl) rfl rfl rfl rfl ?_
         refine rgy (y_fa rfl rfl kfdist3_14 rfl) rfl rfl rfl rfl ?_
         refine rgy (y_ld rfl rfl kfdist3_15 (H26.cell (i := 0) rfl rfl)) rfl rfl rfl rfl ?_
         refine rgy (y_mul rfl rfl rfl (mulN (by omega))) rfl rfl rfl rfl ?_
         refine rgy (y_mov rfl rfl) rfl rfl rfl rfl ?_
         refine rgy (y_add rfl rfl rfl (show _ = ((y * a + x : Nat) : Int) from (wi (by omega)).trans (by omega))) rfl rfl rfl rfl ?_
         refine rgy (y_iar (H26.rd (i := 1) rfl) rfl rfl rfl kfdist3_17 (rfl) (by omega) (Nat.mul_one _) (hgx)) rfl rfl rfl rfl ?_
         refine rgy (y_ldr (H26.rd (i := 1) rfl) rfl rfl kfdist3_13 (hgx)) rfl rfl rfl rfl ?_
         refine rgy (y_eql rfl rfl rfl) rfl rfl rfl rfl ?_
         refine ry (y_pick rfl rfl rfl) rfl rfl ?_
         refine reg_nil ?_
         refine fn_next ?_
         refine cw_condd rfl (fun h36 => ?_) (fun h36 => ?_)
         ·skip
          have hh := hz.1 h36
          refine cw_seq ?_
          refine cw_reg ?_
          refine ry (y_mov rfl rfl) rfl rfl ?_
          refine ry (y_mov rfl rfl) rfl rfl ?_
          refine ry (y_build (places := [(0, 1), (1, 1)]) (parts := [(0, _), (1, _)]) (vs := [(0, _), (1, _)]) (cs := [.int _ _, .int _ _]) rfl Try.underlying46 (by kernel_rfl) kfdist3_1 rfl ⟨rfl, rfl, trivial⟩ rfl) rfl rfl ?_
          refine ry (y_mov rfl rfl) rfl rfl ?_
          refine reg_op (op_st (i := 2) (vs := [.int _ _, .int _ _]) H26 rfl rfl rfl rfl rfl kfdist3_4 rfl rfl rfl) rfl rfl ?_
          rintro _ w37 H38
          refine ry (y_asg rfl rfl) rfl rfl ?_
          refine ry (y_asg rfl rfl) rfl rfl ?_
          refine ry (y_asg rfl rfl) rfl rfl ?_
          refine reg_nil ?_
          refine fn_next ?_
          refine cw_ret ?_
          refine fn_block_ret (fn_then_ret (fn_then_ret (fn_block_ret (fn_block_ret (fn_then_ret (fn_then_ret (fn_block_ret (fn_then_ret ?_))))))))
          refine fn_retn (vs := [_, _, _, _]) rfl ⟨⟨_, rfl, load_agg (cs := [_, _]) kfdist3_2 rfl fun j v hv => by rw [Nat.zero_add]; exact H38.cell (i := 2) rfl hv⟩, rfl, rfl, rfl, trivial⟩ rfl ?_
          have hbe : b = y * a + x := Scan.hit hx hgv.len hb hyh hxa (by rw [hFe]; exact hp1) (by rw [hFe]; exact hdy) (by rw [hFe]; unfold dif at *; omega) hh (by rw [hFe]; first | exact .inl hxe | exact .inr n1)
          obtain ⟨e1, e2⟩ := div_of hxa hbe
          rw [e1, e2]
          rw [hxe]
          exact ⟨rfl, H38.base⟩
         ·skip
          have nn := (show ¬ hitX V a t y (x : Int) from fun q => h36 (hz.2 q.2.2))
          rw [hxe] at nn
          refine cw_skip ?_
          refine fn_block ?_
          refine fn_next ?_
          refine cw_reg ?_
          refine ry (y_add rfl rfl rfl (wi (by omega))) rfl rfl ?_
          refine ry (y_mov rfl rfl) rfl rfl ?_
          refine reg_nil ?_
          refine fn_roundR ?_
          refine cw_seq ?_
          refine cw_reg ?_
          refine ry (y_lss rfl rfl rfl) rfl rfl ?_
          refine reg_nil ?_
          refine fn_next ?_
          refine cw_seq ?_
          refine cw_condf rfl ?_
          refine cw_exit ?_
          refine fn_then_exit (fn_then_exit (fn_block_exit ?_))
          refine fn_block ?_
          refine fn_next ?_
          refine cw_reg ?_
          refine ry (y_mov rfl rfl) rfl rfl ?_
          refine ry (y_add rfl rfl rfl (wi (by omega))) rfl rfl ?_
          refine ry (y_asg rfl rfl) rfl rfl ?_
          refine reg_nil ?_
          refine fn_roundJ ⟨y + 1, rfl, H26, ⟨by omega, by omega⟩, Scan.step hx hgv.len hp1 hdy n1 nn, rfl⟩ ⟨rfl, trivial⟩ (by omega) (by repeat (first | exact kp_refl | refine kp_app rfl rfl ?_ | refine kp_cons rfl ?_)) rfl
        ·skip
         have nn : ¬ hitX V a t y _ := fun q => h35 (by have := q.2.1; omega)
         refine rg_off rfl rfl rfl rfl rfl ?_
         refine rg_off rfl rfl rfl rfl rfl ?_
         refine rg_off rfl rfl rfl rfl rfl ?_
         refine rg_off rfl rfl rfl rfl rfl ?_
         refine rg_off rfl rfl rfl rfl rfl ?_
         refine rg_off rfl rfl rfl rfl rfl ?_
         refine rg_off rfl rfl rfl rfl rfl ?_
         refine rg_off rfl rfl rfl rfl rfl ?_
         refine rg_off rfl rfl rfl rfl rfl ?_
         refine rg_off rfl rfl rfl rfl rfl ?_
         refine rg_off rfl rfl rfl rfl rfl ?_
         refine ry (y_pick rfl rfl rfl) rfl rfl ?_
         refine reg_nil ?_
         refine fn_next ?_
         refine cw_condf rfl ?_
         refine cw_skip ?_
         refine fn_block ?_
         refine fn_next ?_
         refine cw_reg ?_
         refine ry (y_add rfl rfl rfl (wi (by omega))) rfl rfl ?_
         refine ry (y_mov rfl rfl) rfl rfl ?_
         refine reg_nil ?_
         refine fn_roundR ?_
         refine cw_seq ?_
         refine cw_reg ?_
         refine ry (y_lss rfl rfl rfl) rfl rfl ?_
         refine reg_nil ?_
         refine fn_next ?_
         refine cw_seq ?_
         refine cw_condf rfl ?_
         refine cw_exit ?_
         refine fn_then_exit (fn_then_exit (fn_block_exit ?_))
         refine fn_block ?_
         refine fn_next ?_
         refine cw_reg ?_
         refine ry (y_mov rfl rfl) rfl rfl ?_
         refine ry (y_add rfl rfl rfl (wi (by omega))) rfl rfl ?_
         refine ry (y_asg rfl rfl) rfl rfl ?_
         refine reg_nil ?_
         refine fn_roundJ ⟨y + 1, rfl, H26, ⟨by omega, by omega⟩, Scan.step hx hgv.len hp1 hdy n1 nn, rfl⟩ ⟨rfl, trivial⟩ (by omega) (by repeat (first | exact kp_refl | refine kp_app rfl rfl ?_ | refine kp_cons rfl ?_)) rfl
       ·skip
        have nn : ¬ hitX V a t y _ := fun q => h34 q.1
        refine rg_off rfl rfl rfl rfl rfl ?_
        refine rg_off rfl rfl rfl rfl rfl ?_
        refine rg_off rfl rfl rfl rfl rfl ?_
        refine rg_off rfl rfl rfl rfl rfl ?_
        refine ry (y_pick rfl rfl rfl) rfl rfl ?_
        refine ry (y_mov rfl rfl) rfl rfl ?_
        refine rg_off rfl rfl rfl rfl rfl ?_
        refine rg_off rfl rfl rfl rfl rfl ?_
        refine rg_off rfl rfl rfl rfl rfl ?_
        refine rg_off rfl rfl rfl rfl rfl ?_
        refine rg_off rfl rfl rfl rfl rfl ?_
        refine rg_off rfl rfl rfl rfl rfl ?_
        refine rg_off rfl rfl rfl rfl rfl ?_
        refine rg_off rfl rfl rfl rfl rfl ?_
        refine rg_off rfl rfl rfl rfl rfl ?_
        refine rg_off rfl rfl rfl rfl rfl ?_
        refine rg_off rfl rfl rfl rfl rfl ?_
        refine ry (y_pick rfl rfl rfl) rfl rfl ?_
        refine reg_nil ?_
        refine fn_next ?_
        refine cw_condf rfl ?_
        refine cw_skip ?_
        refine fn_block ?_
        refine fn_next ?_
        refine cw_reg ?_
        refine ry (y_add rfl rfl rfl (wi (by omega))) rfl rfl ?_
        refine ry (y_mov rfl rfl) rfl rfl ?_
        refine reg_nil ?_
        refine fn_roundR ?_
        refine cw_seq ?_
        refine cw_reg ?_
        refine ry (y_lss rfl rfl rfl) rfl rfl ?_
        refine reg_nil ?_
        refine fn_next ?_
        refine cw_seq ?_
        refine cw_condf rfl ?_
        refine cw_exit ?_
        refine fn_then_exit (fn_then_exit (fn_block_exit ?_))
        refine fn_block ?_
        refine fn_next ?_
        refine cw_reg ?_
        refine ry (y_mov rfl rfl) rfl rfl ?_
        refine ry (y_add rfl rfl rfl (wi (by omega))) rfl rfl ?_
        refine ry (y_asg rfl rfl) rfl rfl ?_
        refine reg_nil ?_
        refine fn_roundJ ⟨y + 1, rfl, H26, ⟨by omega, by omega⟩, Scan.step hx hgv.len hp1 hdy n1 nn, rfl⟩ ⟨rfl, trivial⟩ (by omega) (by repeat (first | exact kp_refl | refine kp_app rfl rfl ?_ | refine kp_cons rfl ?_)) rfl
     ·skip
      have nn : ¬ hitX V a t y _ := fun q => h30 (by have := q.2.1; omega)
      refine rg_off rfl rfl rfl rfl rfl ?_
      refine rg_off rfl rfl rfl rfl rfl ?_
      refine rg_off rfl rfl rfl rfl rfl ?_
      refine rg_off rfl rfl rfl rfl rfl ?_
      refine rg_off rfl rfl rfl rfl rfl ?_
      refine rg_off rfl rfl rfl rfl rfl ?_
      refine rg_off rfl rfl rfl rfl rfl ?_
      refine rg_off rfl rfl rfl rfl rfl ?_
      refine rg_off rfl rfl rfl rfl rfl ?_
      refine rg_off rfl rfl rfl rfl rfl ?_
      refine rg_off rfl rfl rfl rfl rfl ?_
      refine ry (y_pick rfl rfl rfl) rfl rfl ?_
      refine reg_nil ?_
      refine fn_next ?_
      refine cw_condf rfl ?_
      refine cw_skip ?_
      refine fn_block ?_
      refine fn_next ?_
      refine cw_reg ?_
      refine ry (y_add rfl rfl rfl (wi (by omega))) rfl rfl ?_
      refine ry (y_mov rfl rfl) rfl rfl ?_
      refine reg_nil ?_
      refine fn_roundR ?_
      have n1 := nn
      clear nn
      refine cw_seq ?_
      refine cw_reg ?_
      refine ry (y_lss rfl rfl rfl) rfl rfl ?_
      refine reg_nil ?_
      refine fn_next ?_
      refine cw_seq ?_
      refine cw_condt rfl ?_
      refine cw_skip ?_
      refine fn_next ?_
      refine cw_seq ?_
      refine cw_block ?_
      refine cw_seq ?_
      refine cw_reg ?_
      refine ry (y_index1 (i := 1) rfl Try.underlying106 rfl rfl (rfl) (by decide) kfdist3_13 kfdist3_19 rfl) rfl rfl ?_
      refine ry (y_asg rfl rfl) rfl rfl ?_
      refine reg_nil ?_
      refine fn_next ?_
      refine cw_seq ?_
      refine cw_reg ?_
      refine ry (y_mov rfl rfl) rfl rfl ?_
      refine ry (y_geq rfl rfl rfl) rfl rfl ?_
      refine ry (y_mov rfl rfl) rfl rfl ?_
      refine rg_splitd (d := 98) rfl (fun h39 => ?_) (fun h39 => ?_)
      ·skip
       have q1 := h39
       refine rgy (y_mov rfl rfl) rfl rfl rfl rfl ?_
       refine rgy (y_fa rfl rfl kfdist3_14 rfl) rfl rfl rfl rfl ?_
       refine rgy (y_ld rfl rfl kfdist3_15 (H26.cell (i := 0) rfl rfl)) rfl rfl rfl rfl ?_
       refine rgy (y_lss rfl rfl rfl) rfl rfl rfl rfl ?_
       refine ry (y_pick rfl rfl rfl) rfl rfl ?_
       refine ry (y_mov rfl rfl) rfl rfl ?_
       refine rg_splitd (d := 104) rfl (fun h40 => ?_) (fun h40 => ?_)
       ·skip
        have q2 := h40
        obtain ⟨x, hxe⟩ : ∃ x : Nat, (x : Int) = _ := ⟨_, Int.toNat_of_nonneg q1⟩
        have hxa : x < a := by omega
        have hcl := cell_lt hxa hyh
        have hgx := vi_get (k := .i64) (zs := D) (i := y * a + x) (by omega)
        have hz := nth_iff hok hgv.sz hgv.len (show y * a + x < V.length by rw [hgv.len]; exact hcl) hno
        refine rgy (y_fa rfl rfl kfdist3_10 rfl) rfl rfl rfl rfl ?_
        refine rgy (y_ld rfl rfl kfdist3_11 (H26.cell (i := 0) rfl rfl)) rfl rfl rfl rfl ?_
        refine rgy (y_mov rfl rfl) rfl rfl rfl rfl ?_
        refine rgy (y_fa rfl rfl kfdist3_14 rfl) rfl rfl rfl rfl ?_
        refine rgy (y_ld rfl rfl kfdist3_15 (H26.cell (i := 0) rfl rfl)) rfl rfl rfl rfl ?_
        refine rgy (y_mul rfl rfl rfl (mulN (by omega))) rfl rfl rfl rfl ?_
        refine rgy (y_mov rfl rfl) rfl rfl rfl rfl ?_
        refine rgy (y_add rfl rfl rfl (show _ = ((y * a + x : Nat) : Int) from (wi (by omega)).trans (by omega))) rfl rfl rfl rfl ?_
        refine rgy (y_iar (H26.rd (i := 1) rfl) rfl rfl rfl kfdist3_17 (rfl) (by omega) (Nat.mul_one _) (hgx)) rfl rfl rfl rfl ?_
        refine rgy (y_ldr (H26.rd (i := 1) rfl) rfl rfl kfdist3_13 (hgx)) rfl rfl rfl rfl ?_
        refine rgy (y_eql rfl rfl rfl) rfl rfl rfl rfl ?_
        refine ry (y_pick rfl rfl rfl) rfl rfl ?_
        refine reg_nil ?_
        refine fn_next ?_
        refine cw_condd rfl (fun h41 => ?_) (fun h41 => ?_)
        ·skip
         have hh := hz.1 h41
         refine cw_seq ?_
         refine cw_reg ?_
         refine ry (y_mov rfl rfl) rfl rfl ?_
         refine ry (y_mov rfl rfl) rfl rfl ?_
         refine ry (y_build (places := [(0, 1), (1, 1)]) (parts := [(0, _), (1, _)]) (vs := [(0, _), (1, _)]) (cs := [.int _ _, .int _ _]) rfl Try.underlying46 (by kernel_rfl) kfdist3_1 rfl ⟨rfl, rfl, trivial⟩ rfl) rfl rfl ?_
         refine ry (y_mov rfl rfl) rfl rfl ?_
         refine reg_op (op_st (i := 2) (vs := [.int _ _, .int _ _]) H26 rfl rfl rfl rfl rfl kfdist3_4 rfl rfl rfl) rfl rfl ?_
         rintro _ w42 H43
         refine ry (y_asg rfl rfl) rfl rfl ?_
         refine ry (y_asg rfl rfl) rfl rfl ?_
         refine ry (y_asg rfl rfl) rfl rfl ?_
         refine reg_nil ?_
         refine fn_next ?_
         refine cw_ret ?_
         refine fn_block_ret (fn_then_ret (fn_then_ret (fn_block_ret (fn_block_ret (fn_then_ret (fn_then_ret (fn_block_ret (fn_then_ret ?_))))))))
         refine fn_retn (vs := [_, _, _, _]) rfl ⟨⟨_, rfl, load_agg (cs := [_, _]) kfdist3_2 rfl fun j v hv => by rw [Nat.zero_add]; exact H43.cell (i := 2) rfl hv⟩, rfl, rfl, rfl, trivial⟩ rfl ?_
         have hbe : b = y * a + x := Scan.hit hx hgv.len hb hyh hxa (by rw [hFe]; exact hp1) (by rw [hFe]; exact hdy) (by rw [hFe]; unfold dif at *; omega) hh (by rw [hFe]; first | exact .inl hxe | exact .inr n1)
         obtain ⟨e1, e2⟩ := div_of hxa hbe
         rw [e1, e2]
         rw [hxe]
         exact ⟨rfl, H43.base⟩
        ·skip
         have nn := (show ¬ hitX V a t y (x : Int) from fun q => h41 (hz.2 q.2.2))
         rw [hxe] at nn
         refine cw_skip ?_
         refine fn_block ?_
         refine fn_next ?_
         refine cw_reg ?_
         refine ry (y_add rfl rfl rfl (wi (by omega))) rfl rfl ?_
         refine ry (y_mov rfl rfl) rfl rfl ?_
         refine reg_nil ?_
         refine fn_roundR ?_
         refine cw_seq ?_
         refine cw_reg ?_
         refine ry (y_lss rfl rfl rfl) rfl rfl ?_
         refine reg_nil ?_
         refine fn_next ?_
         refine cw_seq ?_
         refine cw_condf rfl ?_
         refine cw_exit ?_
         refine fn_then_exit (fn_then_exit (fn_block_exit ?_))
         refine fn_block ?_
         refine fn_next ?_
         refine cw_reg ?_
         refine ry (y_mov rfl rfl) rfl rfl ?_
         refine ry (y_add rfl rfl rfl (wi (by omega))) rfl rfl ?_
         refine ry (y_asg rfl rfl) rfl rfl ?_
         refine reg_nil ?_
         refine fn_roundJ ⟨y + 1, rfl, H26, ⟨by omega, by omega⟩, Scan.step hx hgv.len hp1 hdy n1 nn, rfl⟩ ⟨rfl, trivial⟩ (by omega) (by repeat (first | exact kp_refl | refine kp_app rfl rfl ?_ | refine kp_cons rfl ?_)) rfl
       ·skip
        have nn : ¬ hitX V a t y _ := fun q => h40 (by have := q.2.1; omega)
        refine rg_off rfl rfl rfl rfl rfl ?_
        refine rg_off rfl rfl rfl rfl rfl ?_
        refine rg_off rfl rfl rfl rfl rfl ?_
        refine rg_off rfl rfl rfl rfl rfl ?_
        refine rg_off rfl rfl rfl rfl rfl ?_
        refine rg_off rfl rfl rfl rfl rfl ?_
        refine rg_off rfl rfl rfl rfl rfl ?_
        refine rg_off rfl rfl rfl rfl rfl ?_
        refine rg_off rfl rfl rfl rfl rfl ?_
        refine rg_off rfl rfl rfl rfl rfl ?_
        refine rg_off rfl rfl rfl rfl rfl ?_
        refine ry (y_pick rfl rfl rfl) rfl rfl ?_
        refine reg_nil ?_
        refine fn_next ?_
        refine cw_condf rfl ?_
        refine cw_skip ?_
        refine fn_block ?_
        refine fn_next ?_
        refine cw_reg ?_
        refine ry (y_add rfl rfl rfl (wi (by omega))) rfl rfl ?_
        refine ry (y_mov rfl rfl) rfl rfl ?_
        refine reg_nil ?_
        refine fn_roundR ?_
        refine cw_seq ?_
        refine cw_reg ?_
        refine ry (y_lss rfl rfl rfl) rfl rfl ?_
        refine reg_nil ?_
        refine fn_next ?_
        refine cw_seq ?_
        refine cw_condf rfl ?_
        refine cw_exit ?_
        refine fn_then_exit (fn_then_exit (fn_block_exit ?_))
        refine fn_block ?_
        refine fn_next ?_
        refine cw_reg ?_
        refine ry (y_mov rfl rfl) rfl rfl ?_
        refine ry (y_add rfl rfl rfl (wi (by omega))) rfl rfl ?_
        refine ry (y_asg rfl rfl) rfl rfl ?_
        refine reg_nil ?_
        refine fn_roundJ ⟨y + 1, rfl, H26, ⟨by omega, by omega⟩, Scan.step hx hgv.len hp1 hdy n1 nn, rfl⟩ ⟨rfl, trivial⟩ (by omega) (by repeat (first | exact kp_refl | refine kp_app rfl rfl ?_ | refine kp_cons rfl ?_)) rfl
      ·skip
       have nn : ¬ hitX V a t y _ := fun q => h39 q.1
       refine rg_off rfl rfl rfl rfl rfl ?_
       refine rg_off rfl rfl rfl rfl rfl ?_
       refine rg_off rfl rfl rfl rfl rfl ?_
       refine rg_off rfl rfl rfl rfl rfl ?_
       refine ry (y_pick rfl rfl rfl) rfl rfl ?_
       refine ry (y_mov rfl rfl) rfl rfl ?_
       refine rg_off rfl rfl rfl rfl rfl ?_
       refine rg_off rfl rfl rfl rfl rfl ?_
       refine rg_off rfl rfl rfl rfl rfl ?_
       refine rg_off rfl rfl rfl rfl rfl ?_
       refine rg_off rfl rfl rfl rfl rfl ?_
       refine rg_off rfl rfl rfl rfl rfl ?_
       refine rg_off rfl rfl rfl rfl rfl ?_
       refine rg_off rfl rfl rfl rfl rfl ?_
       refine rg_off rfl rfl rfl rfl rfl ?_
       refine rg_off rfl rfl rfl rfl rfl ?_
       refine rg_off rfl rfl rfl rfl rfl ?_
       refine ry (y_pick rfl rfl rfl) rfl rfl ?_
       refine reg_nil ?_
       refine fn_next ?_
       refine cw_condf rfl ?_
       refine cw_skip ?_
       refine fn_block ?_
       refine fn_next ?_
       refine cw_reg ?_
       refine ry (y_add rfl rfl rfl (wi (by omega))) rfl rfl ?_
       refine ry (y_mov rfl rfl) rfl rfl ?_
       refine reg_nil ?_
       refine fn_roundR ?_
       refine cw_seq ?_
       refine cw_reg ?_
       refine ry (y_lss rfl rfl rfl) rfl rfl ?_
       refine reg_nil ?_
       refine fn_next ?_
       refine cw_seq ?_
       refine cw_condf rfl ?_
       refine cw_exit ?_
       refine fn_then_exit (fn_then_exit (fn_block_exit ?_))
       refine fn_block ?_
       refine fn_next ?_
       refine cw_reg ?_
       refine ry (y_mov rfl rfl) rfl rfl ?_
       refine ry (y_add rfl rfl rfl (wi (by omega))) rfl rfl ?_
       refine ry (y_asg rfl rfl) rfl rfl ?_
       refine reg_nil ?_
       refine fn_roundJ ⟨y + 1, rfl, H26, ⟨by omega, by omega⟩, Scan.step hx hgv.len hp1 hdy n1 nn, rfl⟩ ⟨rfl, trivial⟩ (by omega) (by repeat (first | exact kp_refl | refine kp_app rfl rfl ?_ | refine kp_cons rfl ?_)) rfl
    ·skip
     have nn : ¬ hitX V a t y _ := fun q => h29 q.1
     refine rg_off rfl rfl rfl rfl rfl ?_
     refine rg_off rfl rfl rfl rfl rfl ?_
     refine rg_off rfl rfl rfl rfl rfl ?_
     refine rg_off rfl rfl rfl rfl rfl ?_
     refine ry (y_pick rfl rfl rfl) rfl rfl ?_
     refine ry (y_mov rfl rfl) rfl rfl ?_
     refine rg_off rfl rfl rfl rfl rfl ?_
     refine rg_off rfl rfl rfl rfl rfl ?_
     refine rg_off rfl rfl rfl rfl rfl ?_
     refine rg_off rfl rfl rfl rfl rfl ?_
     refine rg_off rfl rfl rfl rfl rfl ?_
     refine rg_off rfl rfl rfl rfl rfl ?_
     refine rg_off rfl rfl rfl rfl rfl ?_
     refine rg_off rfl rfl rfl rfl rfl ?_
     refine rg_off rfl rfl rfl rfl rfl ?_
     refine rg_off rfl rfl rfl rfl rfl ?_
     refine rg_off rfl rfl rfl rfl rfl ?_
     refine ry (y_pick rfl rfl rfl) rfl rfl ?_
     refine reg_nil ?_
     refine fn_next ?_
     refine cw_condf rfl ?_
     refine cw_skip ?_
     refine fn_block ?_
     refine fn_next ?_
     refine cw_reg ?_
     refine ry (y_add rfl rfl rfl (wi (by omega))) rfl rfl ?_
     refine ry (y_mov rfl rfl) rfl rfl ?_
     refine reg_nil ?_
     refine fn_roundR ?_
     have n1 := nn
     clear nn
     refine cw_seq ?_
     refine cw_reg ?_
     refine ry (y_lss rfl rfl rfl) rfl rfl ?_
     refine reg_nil ?_
     refine fn_next ?_
     refine cw_seq ?_
     refine cw_condt rfl ?_
     refine cw_skip ?_
     refine fn_next ?_
     refine cw_seq ?_
     refine cw_block ?_
     refine cw_seq ?_
     refine cw_reg ?_
     refine ry (y_index1 (i := 1) rfl Try.underlying106 rfl rfl (rfl) (by decide) kfdist3_13 kfdist3_19 rfl) rfl rfl ?_
     refine ry (y_asg rfl rfl) rfl rfl ?_
     refine reg_nil ?_
     refine fn_next ?_
     refine cw_seq ?_
     refine cw_reg ?_
     refine ry (y_mov rfl rfl) rfl rfl ?_
     refine ry (y_geq rfl rfl rfl) rfl rfl ?_
     refine ry (y_mov rfl rfl) rfl rfl ?_
     refine rg_splitd (d := 98) rfl (fun h44 => ?_) (fun h44 => ?_)
     ·skip
      have q1 := h44
      refine rgy (y_mov rfl rfl) rfl rfl rfl rfl ?_
      refine rgy (y_fa rfl rfl kfdist3_14 rfl) rfl rfl rfl rfl ?_
      refine rgy (y_ld rfl rfl kfdist3_15 (H26.cell (i := 0) rfl rfl)) rfl rfl rfl rfl ?_
      refine rgy (y_lss rfl rfl rfl) rfl rfl rfl rfl ?_
      refine ry (y_pick rfl rfl rfl) rfl rfl ?_
      refine ry (y_mov rfl rfl) rfl rfl ?_
      refine rg_splitd (d := 104) rfl (fun h45 => ?_) (fun h45 => ?_)
      ·skip
       have q2 := h45
       obtain ⟨x, hxe⟩ : ∃ x : Nat, (x : Int) = _ := ⟨_, Int.toNat_of_nonneg q1⟩
       have hxa : x < a := by omega
       have hcl := cell_lt hxa hyh
       have hgx := vi_get (k := .i64) (zs := D) (i := y * a + x) (by omega)
       have hz := nth_iff hok hgv.sz hgv.len (show y * a + x < V.length by rw [hgv.len]; exact hcl) hno
       refine rgy (y_fa rfl rfl kfdist3_10 rfl) rfl rfl rfl rfl ?_
       refine rgy (y_ld rfl rfl kfdist3_11 (H26.cell (i := 0) rfl rfl)) rfl rfl rfl rfl ?_
       refine rgy (y_mov rfl rfl) rfl rfl rfl rfl ?_
       refine rgy (y_fa rfl rfl kfdist3_14 rfl) rfl rfl rfl rfl ?_
       refine rgy (y_ld rfl rfl kfdist3_15 (H26.cell (i := 0) rfl rfl)) rfl rfl rfl rfl ?_
       refine rgy (y_mul rfl rfl rfl (mulN (by omega))) rfl rfl rfl rfl ?_
       refine rgy (y_mov rfl rfl) rfl rfl rfl rfl ?_
       refine rgy (y_add rfl rfl rfl (show _ = ((y * a + x : Nat) : Int) from (wi (by omega)).trans (by omega))) rfl rfl rfl rfl ?_
       refine rgy (y_iar (H26.rd (i := 1) rfl) rfl rfl rfl kfdist3_17 (rfl) (by omega) (Nat.mul_one _) (hgx)) rfl rfl rfl rfl ?_
       refine rgy (y_ldr (H26.rd (i := 1) rfl) rfl rfl kfdist3_13 (hgx)) rfl rfl rfl rfl ?_
       refine rgy (y_eql rfl rfl rfl) rfl rfl rfl rfl ?_
       refine ry (y_pick rfl rfl rfl) rfl rfl ?_
       refine reg_nil ?_
       refine fn_next ?_
       refine cw_condd rfl (fun h46 => ?_) (fun h46 => ?_)
       ·skip
        have hh := hz.1 h46
        refine cw_seq ?_
        refine cw_reg ?_
        refine ry (y_mov rfl rfl) rfl rfl ?_
        refine ry (y_mov rfl rfl) rfl rfl ?_
        refine ry (y_build (places := [(0, 1), (1, 1)]) (parts := [(0, _), (1, _)]) (vs := [(0, _), (1, _)]) (cs := [.int _ _, .int _ _]) rfl Try.underlying46 (by kernel_rfl) kfdist3_1 rfl ⟨rfl, rfl, trivial⟩ rfl) rfl rfl ?_
        refine ry (y_mov rfl rfl) rfl rfl ?_
        refine reg_op (op_st (i := 2) (vs := [.int _ _, .int _ _]) H26 rfl rfl rfl rfl rfl kfdist3_4 rfl rfl rfl) rfl rfl ?_
        rintro _ w47 H48
        refine ry (y_asg rfl rfl) rfl rfl ?_
        refine ry (y_asg rfl rfl) rfl rfl ?_
        refine ry (y_asg rfl rfl) rfl rfl ?_
        refine reg_nil ?_
        refine fn_next ?_
        refine cw_ret ?_
        refine fn_block_ret (fn_then_ret (fn_then_ret (fn_block_ret (fn_block_ret (fn_then_ret (fn_then_ret (fn_block_ret (fn_then_ret ?_))))))))
        refine fn_retn (vs := [_, _, _, _]) rfl ⟨⟨_, rfl, load_agg (cs := [_, _]) kfdist3_2 rfl fun j v hv => by rw [Nat.zero_add]; exact H48.cell (i := 2) rfl hv⟩, rfl, rfl, rfl, trivial⟩ rfl ?_
        have hbe : b = y * a + x := Scan.hit hx hgv.len hb hyh hxa (by rw [hFe]; exact hp1) (by rw [hFe]; exact hdy) (by rw [hFe]; unfold dif at *; omega) hh (by rw [hFe]; first | exact .inl hxe | exact .inr n1)
        obtain ⟨e1, e2⟩ := div_of hxa hbe
        rw [e1, e2]
        rw [hxe]
        exact ⟨rfl, H48.base⟩
       ·skip
        have nn := (show ¬ hitX V a t y (x : Int) from fun q => h46 (hz.2 q.2.2))
        rw [hxe] at nn
        refine cw_skip ?_
        refine fn_block ?_
        refine fn_next ?_
        refine cw_reg ?_
        refine ry (y_add rfl rfl rfl (wi (by omega))) rfl rfl ?_
        refine ry (y_mov rfl rfl) rfl rfl ?_
        refine reg_nil ?_
        refine fn_roundR ?_
        refine cw_seq ?_
        refine cw_reg ?_
        refine ry (y_lss rfl rfl rfl) rfl rfl ?_
        refine reg_nil ?_
        refine fn_next ?_
        refine cw_seq ?_
        refine cw_condf rfl ?_
        refine cw_exit ?_
        refine fn_then_exit (fn_then_exit (fn_block_exit ?_))
        refine fn_block ?_
        refine fn_next ?_
        refine cw_reg ?_
        refine ry (y_mov rfl rfl) rfl rfl ?_
        refine ry (y_add rfl rfl rfl (wi (by omega))) rfl rfl ?_
        refine ry (y_asg rfl rfl) rfl rfl ?_
        refine reg_nil ?_
        refine fn_roundJ ⟨y + 1, rfl, H26, ⟨by omega, by omega⟩, Scan.step hx hgv.len hp1 hdy n1 nn, rfl⟩ ⟨rfl, trivial⟩ (by omega) (by repeat (first | exact kp_refl | refine kp_app rfl rfl ?_ | refine kp_cons rfl ?_)) rfl
      ·skip
       have nn : ¬ hitX V a t y _ := fun q => h45 (by have := q.2.1; omega)
       refine rg_off rfl rfl rfl rfl rfl ?_
       refine rg_off rfl rfl rfl rfl rfl ?_
       refine rg_off rfl rfl rfl rfl rfl ?_
       refine rg_off rfl rfl rfl rfl rfl ?_
       refine rg_off rfl rfl rfl rfl rfl ?_
       refine rg_off rfl rfl rfl rfl rfl ?_
       refine rg_off rfl rfl rfl rfl rfl ?_
       refine rg_off rfl rfl rfl rfl rfl ?_
       refine rg_off rfl rfl rfl rfl rfl ?_
       refine rg_off rfl rfl rfl rfl rfl ?_
       refine rg_off rfl rfl rfl rfl rfl ?_
       refine ry (y_pick rfl rfl rfl) rfl rfl ?_
       refine reg_nil ?_
       refine fn_next ?_
       refine cw_condf rfl ?_
       refine cw_skip ?_
       refine fn_block ?_
       refine fn_next ?_
       refine cw_reg ?_
       refine ry (y_add rfl rfl rfl (wi (by omega))) rfl rfl ?_
       refine ry (y_mov rfl rfl) rfl rfl ?_
       refine reg_nil ?_
       refine fn_roundR ?_
       refine cw_seq ?_
       refine cw_reg ?_
       refine ry (y_lss rfl rfl rfl) rfl rfl ?_
       refine reg_nil ?_
       refine fn_next ?_
       refine cw_seq ?_
       refine cw_condf rfl ?_
       refine cw_exit ?_
       refine fn_then_exit (fn_then_exit (fn_block_exit ?_))
       refine fn_block ?_
       refine fn_next ?_
       refine cw_reg ?_
       refine ry (y_mov rfl rfl) rfl rfl ?_
       refine ry (y_add rfl rfl rfl (wi (by omega))) rfl rfl ?_
       refine ry (y_asg rfl rfl) rfl rfl ?_
       refine reg_nil ?_
       refine fn_roundJ ⟨y + 1, rfl, H26, ⟨by omega, by omega⟩, Scan.step hx hgv.len hp1 hdy n1 nn, rfl⟩ ⟨rfl, trivial⟩ (by omega) (by repeat (first | exact kp_refl | refine kp_app rfl rfl ?_ | refine kp_cons rfl ?_)) rfl
     ·skip
      have nn : ¬ hitX V a t y _ := fun q => h44 q.1
      refine rg_off rfl rfl rfl rfl rfl ?_
      refine rg_off rfl rfl rfl rfl rfl ?_
      refine rg_off rfl rfl rfl rfl rfl ?_
      refine rg_off rfl rfl rfl rfl rfl ?_
      refine ry (y_pick rfl rfl rfl) rfl rfl ?_
      refine ry (y_mov rfl rfl) rfl rfl ?_
      refine rg_off rfl rfl rfl rfl rfl ?_
      refine rg_off rfl rfl rfl rfl rfl ?_
      refine rg_off rfl rfl rfl rfl rfl ?_
      refine rg_off rfl rfl rfl rfl rfl ?_
      refine rg_off rfl rfl rfl rfl rfl ?_
      refine rg_off rfl rfl rfl rfl rfl ?_
      refine rg_off rfl rfl rfl rfl rfl ?_
      refine rg_off rfl rfl rfl rfl rfl ?_
      refine rg_off rfl rfl rfl rfl rfl ?_
      refine rg_off rfl rfl rfl rfl rfl ?_
      refine rg_off rfl rfl rfl rfl rfl ?_
      refine ry (y_pick rfl rfl rfl) rfl rfl ?_
      refine reg_nil ?_
      refine fn_next ?_
      refine cw_condf rfl ?_
      refine cw_skip ?_
      refine fn_block ?_
      refine fn_next ?_
      refine cw_reg ?_
      refine ry (y_add rfl rfl rfl (wi (by omega))) rfl rfl ?_
      refine ry (y_mov rfl rfl) rfl rfl ?_
      refine reg_nil ?_
      refine fn_roundR ?_
      refine cw_seq ?_
      refine cw_reg ?_
      refine ry (y_lss rfl rfl rfl) rfl rfl ?_
      refine reg_nil ?_
      refine fn_next ?_
      refine cw_seq ?_
      refine cw_condf rfl ?_
      refine cw_exit ?_
      refine fn_then_exit (fn_then_exit (fn_block_exit ?_))
      refine fn_block ?_
      refine fn_next ?_
      refine cw_reg ?_
      refine ry (y_mov rfl rfl) rfl rfl ?_
      refine ry (y_add rfl rfl rfl (wi (by omega))) rfl rfl ?_
      refine ry (y_asg rfl rfl) rfl rfl ?_
      refine reg_nil ?_
      refine fn_roundJ ⟨y + 1, rfl, H26, ⟨by omega, by omega⟩, Scan.step hx hgv.len hp1 hdy n1 nn, rfl⟩ ⟨rfl, trivial⟩ (by omega) (by repeat (first | exact kp_refl | refine kp_app rfl rfl ?_ | refine kp_cons rfl ?_)) rfl
   ·skip
    exact (Scan.end_ hx hgv.len hb (by rw [hFe]; exact hp1) (by rw [hFe]; omega)).elim

set_option maxRecDepth 100000 in
theorem dNil_of (t : Int) (w : World) :
    Ret Try.prog 55 [.pointer none, .int .i64 t] w (fun z w' => z = .tuple #[.agg #[.int .i64 0, .slice none 0 0], .int .i64 1] ∧ Below w.heap.size w w') := by
 refine ret_enter Try.func55 rfl rfl rfl ?_
 have H0 := HS.start w
 refine cw_seq ?_
 refine cw_reg ?_
 refine reg_op (op_alloc H0 rfl kfdist3_6) rfl rfl ?_
 rintro _ w2 ⟨b1, rfl, H3⟩
 refine ry (y_asg rfl rfl) rfl rfl ?_
 refine reg_nil ?_
 refine fn_next ?_
 refine cw_seq ?_
 refine cw_reg ?_
 refine ry (y_mov rfl rfl) rfl rfl ?_
 refine ry (y_mov rfl rfl) rfl rfl ?_
 refine reg_op (op_call (gNil_All _) rfl kfdist3_20 ⟨rfl, trivial⟩) rfl rfl ?_
 rintro _ w5 ⟨rfl, e4⟩
 have H6 := H3.ext e4
 refine reg_op (op_call (gNil_Values _ _ _ _ _) rfl kfdist3_21 ⟨rfl, rfl, trivial⟩) rfl rfl ?_
 rintro _ w8 ⟨rfl, e7⟩
 have H9 := H6.ext e7
 refine ry (y_mov rfl rfl) rfl rfl ?_
 refine ry (y_ext rfl rfl rfl) rfl rfl ?_
 refine ry (y_ext rfl rfl rfl) rfl rfl ?_
 refine ry (y_asg rfl rfl) rfl rfl ?_
 refine ry (y_asg rfl rfl) rfl rfl ?_
 refine reg_nil ?_
 refine fn_next ?_
 refine cw_seq ?_
 refine cw_seq ?_
 refine cw_reg ?_
 refine ry (y_mov rfl rfl) rfl rfl ?_
 refine ry (y_neq rfl rfl rfl) rfl rfl ?_
 refine reg_nil ?_
 refine fn_next ?_
 refine cw_condt rfl ?_
 refine cw_seq ?_
 refine cw_reg ?_
 refine ry (y_build (places := [(0, 1), (1, 1)]) (parts := []) (vs := []) (cs := [.int _ _, .slice _ _ _]) rfl Try.underlying93 (by kernel_rfl) kfdist3_6 rfl trivial rfl) rfl rfl ?_
 refine ry (y_mov rfl rfl) rfl rfl ?_
 refine reg_op (op_st (i := 0) (vs := [.int _ _, .slice _ _ _]) H9 rfl rfl rfl rfl rfl kfdist3_7 rfl rfl rfl) rfl rfl ?_
 rintro _ w10 H11
 refine ry (y_asg rfl rfl) rfl rfl ?_
 refine reg_nil ?_
 refine fn_next ?_
 refine cw_ret ?_
 refine fn_then_ret ?_
 refine fn_retn (vs := [_, _]) rfl ⟨⟨_, rfl, load_agg (cs := [_, _]) kfdist3_8 rfl fun j v hv => by rw [Nat.zero_add]; exact H11.cell (i := 0) rfl hv⟩, rfl, trivial⟩ rfl ?_
 exact ⟨rfl, H11.base⟩

set_option maxRecDepth 100000 in
theorem dNil_To (t : Int) (w : World) :
    Ret Try.prog 18 [.pointer none, .int .i64 t] w (fun z w' => z = .tuple #[.slice none 0 0, .int .i64 1] ∧ Below w.heap.size w w') := by
 refine ret_enter Try.func18 rfl rfl rfl ?_
 have H0 := HS.start w
 refine cw_seq ?_
 refine cw_reg ?_
 refine ry (y_asg rfl rfl) rfl rfl ?_
 refine ry (y_asg rfl rfl) rfl rfl ?_
 refine reg_nil ?_
 refine fn_next ?_
 refine cw_seq ?_
 refine cw_reg ?_
 refine ry (y_mov rfl rfl) rfl rfl ?_
 refine ry (y_mov rfl rfl) rfl rfl ?_
 refine reg_op (op_call (dNil_of t _) rfl kfdist3_5 ⟨rfl, rfl, trivial⟩) rfl rfl ?_
 rintro _ w2 ⟨rfl, e1⟩
 have H3 := H0.ext e1
 refine ry (y_mov rfl rfl) rfl rfl ?_
 refine ry (y_ext rfl rfl rfl) rfl rfl ?_
 refine ry (y_ext rfl rfl rfl) rfl rfl ?_
 refine reg_op (op_alloc H3 rfl kfdist3_6) rfl rfl ?_
 rintro _ w5 ⟨b4, rfl, H6⟩
 refine reg_op (op_st (i := 0) (vs := [.int _ _, .slice _ _ _]) H6 rfl rfl rfl rfl rfl kfdist3_7 rfl rfl rfl) rfl rfl ?_
 rintro _ w7 H8
 refine ry (y_asg rfl rfl) rfl rfl ?_
 refine reg_nil ?_
 refine fn_next ?_
 refine cw_seq ?_
 refine cw_seq ?_
 refine cw_reg ?_
 refine ry (y_mov rfl rfl) rfl rfl ?_
 refine ry (y_neq rfl rfl rfl) rfl rfl ?_
 refine reg_nil ?_
 refine fn_next ?_
 refine cw_condt rfl ?_
 refine cw_seq ?_
 refine cw_reg ?_
 refine ry (y_mov rfl rfl) rfl rfl ?_
 refine ry (y_asg rfl rfl) rfl rfl ?_
 refine ry (y_asg rfl rfl) rfl rfl ?_
 refine reg_nil ?_
 refine fn_next ?_
 refine cw_ret ?_
 refine fn_then_ret ?_
 refine fn_retn (vs := [_, _]) rfl ⟨rfl, rfl, trivial⟩ rfl ?_
 exact ⟨rfl, H8.base⟩

set_option maxRecDepth 100000 in
theorem dNil_Within (t m : Int) (w : World) :
    Ret Try.prog 34 [.pointer none, .int .i64 t, .int .i64 m] w (fun z w' => z = .tuple #[.slice none 0 0, .int .i64 1] ∧ Below w.heap.size w w') := by
 refine ret_enter Try.func34 rfl rfl rfl ?_
 have H0 := HS.start w
 refine cw_seq ?_
 refine cw_reg ?_
 refine ry (y_asg rfl rfl) rfl rfl ?_
 refine ry (y_asg rfl rfl) rfl rfl ?_
 refine reg_nil ?_
 refine fn_next ?_
 refine cw_seq ?_
 refine cw_reg ?_
 refine ry (y_mov rfl rfl) rfl rfl ?_
 refine ry (y_mov rfl rfl) rfl rfl ?_
 refine reg_op (op_call (dNil_of t _) rfl kfdist3_5 ⟨rfl, rfl, trivial⟩) rfl rfl ?_
 rintro _ w2 ⟨rfl, e1⟩
 have H3 := H0.ext e1
 refine ry (y_mov rfl rfl) rfl rfl ?_
 refine ry (y_ext rfl rfl rfl) rfl rfl ?_
 refine ry (y_ext rfl rfl rfl) rfl rfl ?_
 refine reg_op (op_alloc H3 rfl kfdist3_6) rfl rfl ?_
 rintro _ w5 ⟨b4, rfl, H6⟩
 refine reg_op (op_st (i := 0) (vs := [.int _ _, .slice _ _ _]) H6 rfl rfl rfl rfl rfl kfdist3_7 rfl rfl rfl) rfl rfl ?_
 rintro _ w7 H8
 refine ry (y_asg rfl rfl) rfl rfl ?_
 refine reg_nil ?_
 refine fn_next ?_
 refine cw_seq ?_
 refine cw_seq ?_
 refine cw_reg ?_
 refine ry (y_mov rfl rfl) rfl rfl ?_
 refine ry (y_neq rfl rfl rfl) rfl rfl ?_
 refine reg_nil ?_
 refine fn_next ?_
 refine cw_condt rfl ?_
 refine cw_seq ?_
 refine cw_reg ?_
 refine ry (y_mov rfl rfl) rfl rfl ?_
 refine ry (y_asg rfl rfl) rfl rfl ?_
 refine ry (y_asg rfl rfl) rfl rfl ?_
 refine reg_nil ?_
 refine fn_next ?_
 refine cw_ret ?_
 refine fn_then_ret ?_
 refine fn_retn (vs := [_, _]) rfl ⟨rfl, rfl, trivial⟩ rfl ?_
 exact ⟨rfl, H8.base⟩

set_option maxRecDepth 100000 in
theorem dNil_Farthest (t : Int) (w : World) :
    Ret Try.prog 35 [.pointer none, .int .i64 t] w (fun z w' => z = .tuple #[.agg #[.int .i64 0, .int .i64 0], .int .i64 0, .bool false, .int .i64 1] ∧ Below w.heap.size w w') := by
 refine ret_enter Try.func35 rfl rfl rfl ?_
 have H0 := HS.start w
 refine cw_seq ?_
 refine cw_reg ?_
 refine reg_op (op_alloc H0 rfl kfdist3_1) rfl rfl ?_
 rintro _ w2 ⟨b1, rfl, H3⟩
 refine ry (y_asg rfl rfl) rfl rfl ?_
 refine ry (y_asg rfl rfl) rfl rfl ?_
 refine ry (y_asg rfl rfl) rfl rfl ?_
 refine reg_nil ?_
 refine fn_next ?_
 refine cw_seq ?_
 refine cw_reg ?_
 refine ry (y_mov rfl rfl) rfl rfl ?_
 refine ry (y_mov rfl rfl) rfl rfl ?_
 refine reg_op (op_call (dNil_of t _) rfl kfdist3_5 ⟨rfl, rfl, trivial⟩) rfl rfl ?_
 rintro _ w5 ⟨rfl, e4⟩
 have H6 := H3.ext e4
 refine ry (y_mov rfl rfl) rfl rfl ?_
 refine ry (y_ext rfl rfl rfl) rfl rfl ?_
 refine ry (y_ext rfl rfl rfl) rfl rfl ?_
 refine reg_op (op_alloc H6 rfl kfdist3_6) rfl rfl ?_
 rintro _ w8 ⟨b7, rfl, H9⟩
 refine reg_op (op_st (i := 0) (vs := [.int _ _, .slice _ _ _]) H9 rfl rfl rfl rfl rfl kfdist3_7 rfl rfl rfl) rfl rfl ?_
 rintro _ w10 H11
 refine ry (y_asg rfl rfl) rfl rfl ?_
 refine reg_nil ?_
 refine fn_next ?_
 refine cw_seq ?_
 refine cw_seq ?_
 refine cw_reg ?_
 refine ry (y_mov rfl rfl) rfl rfl ?_
 refine ry (y_neq rfl rfl rfl) rfl rfl ?_
 refine ry (y_mov rfl rfl) rfl rfl ?_
 refine rg_off rfl rfl rfl rfl rfl ?_
 refine rg_off rfl rfl rfl rfl rfl ?_
 refine ry (y_pick rfl rfl rfl) rfl rfl ?_
 refine reg_nil ?_
 refine fn_next ?_
 refine cw_condt rfl ?_
 refine cw_seq ?_
 refine cw_reg ?_
 refine ry (y_build (places := [(0, 1), (1, 1)]) (parts := []) (vs := []) (cs := [.int _ _, .int _ _]) rfl Try.underlying46 (by kernel_rfl) kfdist3_1 rfl trivial rfl) rfl rfl ?_
 refine ry (y_mov rfl rfl) rfl rfl ?_
 refine reg_op (op_st (i := 1) (vs := [.int _ _, .int _ _]) H11 rfl rfl rfl rfl rfl kfdist3_4 rfl rfl rfl) rfl rfl ?_
 rintro _ w12 H13
 refine ry (y_asg rfl rfl) rfl rfl ?_
 refine ry (y_asg rfl rfl) rfl rfl ?_
 refine ry (y_asg rfl rfl) rfl rfl ?_
 refine reg_nil ?_
 refine fn_next ?_
 refine cw_ret ?_
 refine fn_then_ret ?_
 refine fn_retn (vs := [_, _, _, _]) rfl ⟨⟨_, rfl, load_agg (cs := [_, _]) kfdist3_2 rfl fun j v hv => by rw [Nat.zero_add]; exact H13.cell (i := 1) rfl hv⟩, rfl, rfl, rfl, trivial⟩ rfl ?_
 exact ⟨rfl, H13.base⟩

set_option maxRecDepth 100000 in
theorem dNil_Nearest (cx cy t : Int) (w : World) :
    Ret Try.prog 26 [.pointer none, .agg #[.int .i64 cx, .int .i64 cy], .int .i64 t] w (fun z w' => z = .tuple #[.agg #[.int .i64 0, .int .i64 0], .int .i64 0, .bool false, .int .i64 1] ∧ Below w.heap.size w w') := by
 refine ret_enter Try.func26 rfl rfl rfl ?_
 have H0 := HS.start w
 refine cw_seq ?_
 refine cw_reg ?_
 refine reg_op (op_box (cs := [.int _ _, .int _ _]) H0 rfl rfl rfl) rfl rfl ?_
 rintro _ w2 ⟨b1, rfl, H3⟩
 refine reg_op (op_alloc H3 rfl kfdist3_1) rfl rfl ?_
 rintro _ w5 ⟨b4, rfl, H6⟩
 refine ry (y_asg rfl rfl) rfl rfl ?_
 refine ry (y_asg rfl rfl) rfl rfl ?_
 refine ry (y_asg rfl rfl) rfl rfl ?_
 refine reg_nil ?_
 refine fn_next ?_
 refine cw_seq ?_
 refine cw_seq ?_
 refine cw_reg ?_
 refine ry (y_mov rfl rfl) rfl rfl ?_
 refine ry (y_ldb (i := 1) (cs := [_, _]) H6 rfl rfl kfdist3_2 rfl rfl) rfl rfl ?_
 refine reg_op (op_call (gNil_At _ _ _) rfl kfdist3_3 ⟨rfl, rfl, trivial⟩) rfl rfl ?_
 rintro _ w8 ⟨rfl, e7⟩
 have H9 := H6.ext e7
 refine ry (y_mov rfl rfl) rfl rfl ?_
 refine ry (y_ext rfl rfl rfl) rfl rfl ?_
 refine ry (y_ext rfl rfl rfl) rfl rfl ?_
 refine ry (y_asg rfl rfl) rfl rfl ?_
 refine ry (y_asg rfl rfl) rfl rfl ?_
 refine reg_nil ?_
 refine fn_next ?_
 refine cw_seq ?_
 refine cw_reg ?_
 refine ry (y_mov rfl rfl) rfl rfl ?_
 refine ry (y_neq rfl rfl rfl) rfl rfl ?_
 refine reg_nil ?_
 refine fn_next ?_
 refine cw_condt rfl ?_
 refine cw_seq ?_
 refine cw_reg ?_
 refine ry (y_build (places := [(0, 1), (1, 1)]) (parts := []) (vs := []) (cs := [.int _ _, .int _ _]) rfl Try.underlying46 (by kernel_rfl) kfdist3_1 rfl trivial rfl) rfl rfl ?_
 refine ry (y_mov rfl rfl) rfl rfl ?_
 refine reg_op (op_st (i := 0) (vs := [.int _ _, .int _ _]) H9 rfl rfl rfl rfl rfl kfdist3_4 rfl rfl rfl) rfl rfl ?_
 rintro _ w10 H11
 refine ry (y_asg rfl rfl) rfl rfl ?_
 refine ry (y_asg rfl rfl) rfl rfl ?_
 refine ry (y_asg rfl rfl) rfl rfl ?_
 refine reg_nil ?_
 refine fn_next ?_
 refine cw_ret ?_
 refine fn_then_ret ?_
 refine fn_retn (vs := [_, _, _, _]) rfl ⟨⟨_, rfl, load_agg (cs := [_, _]) kfdist3_2 rfl fun j v hv => by rw [Nat.zero_add]; exact H11.cell (i := 0) rfl hv⟩, rfl, rfl, rfl, trivial⟩ rfl ?_
 exact ⟨rfl, H11.base⟩

set_option maxRecDepth 100000 in
theorem mBetween (a cx cy i : Nat) (w : World) (hx : cx < a) (b1 : cx ≤ 1024) (b2 : cy ≤ 1024) (b3 : i % a ≤ 1024) (b4 : i / a ≤ 1024) :
    Ret Try.prog 65 [.agg #[.int .i64 (cx : Int), .int .i64 (cy : Int)], .agg #[.int .i64 ((i % a : Nat) : Int), .int .i64 ((i / a : Nat) : Int)]] w (fun z w' => z = .int .i64 ((l1 a (cy * a + cx) i : Nat) : Int) ∧ Below w.heap.size w w') := by
 generalize hp : i % a = p at *
 generalize hq : i / a = q at *
 refine ret_enter Try.func65 rfl rfl rfl ?_
 have H0 := HS.start w
 refine cw_seq ?_
 refine cw_reg ?_
 refine reg_op (op_box (cs := [.int _ _, .int _ _]) H0 rfl rfl rfl) rfl rfl ?_
 rintro _ w2 ⟨b1, rfl, H3⟩
 refine reg_op (op_box (cs := [.int _ _, .int _ _]) H3 rfl rfl rfl) rfl rfl ?_
 rintro _ w5 ⟨b4, rfl, H6⟩
 refine ry (y_asg rfl rfl) rfl rfl ?_
 refine reg_nil ?_
 refine fn_next ?_
 refine cw_seq ?_
 refine cw_draw H6 [0, 1, 2, 3, 4, 5, 6, 7, 8, 9, 10, 11] [] (fun X HX => HX) (by kernel_rfl) (by kernel_rfl) (by rfl) ?_
 simp only [pick, List.getElem?_cons_succ, List.getElem?_cons_zero]
 refine hk_y (fun Y HY => y_fa rfl rfl kfdist3_16 rfl) rfl rfl ?_
 refine hk_y (fun Y HY => y_ld rfl rfl kfdist3_13 (HY.cell (i := 1) rfl rfl)) rfl rfl ?_
 refine hk_y (fun Y HY => y_fa rfl rfl kfdist3_16 rfl) rfl rfl ?_
 refine hk_y (fun Y HY => y_ld rfl rfl kfdist3_13 (HY.cell (i := 0) rfl rfl)) rfl rfl ?_
 refine hk_y (fun Y HY => y_sub rfl rfl rfl (wi (by omega))) rfl rfl ?_
 refine hk_y (fun Y HY => y_fa rfl rfl kfdist3_12 rfl) rfl rfl ?_
 refine hk_y (fun Y HY => y_ld rfl rfl kfdist3_13 (HY.cell (i := 1) rfl rfl)) rfl rfl ?_
 refine hk_y (fun Y HY => y_fa rfl rfl kfdist3_12 rfl) rfl rfl ?_
 refine hk_y (fun Y HY => y_ld rfl rfl kfdist3_13 (HY.cell (i := 0) rfl rfl)) rfl rfl ?_
 refine hk_y (fun Y HY => y_sub rfl rfl rfl (wi (by omega))) rfl rfl ?_
 refine hk_y (fun Y HY => y_asg rfl rfl) rfl rfl ?_
 refine hk_y (fun Y HY => y_asg rfl rfl) rfl rfl ?_
 refine hk_nil ?_
 intro w7 H8
 refine tv_nil ?_
 refine fn_next ?_
 refine cw_seq ?_
 refine cw_seq ?_
 refine cw_reg ?_
 refine ry (y_mov rfl rfl) rfl rfl ?_
 refine ry (y_lss rfl rfl rfl) rfl rfl ?_
 refine reg_nil ?_
 refine fn_next ?_
 refine cw_condd rfl (fun h9 => ?_) (fun h9 => ?_)
 ·skip
  refine cw_reg ?_
  refine ry (y_mov rfl rfl) rfl rfl ?_
  refine ry (y_sub rfl rfl rfl (wi (by omega))) rfl rfl ?_
  refine ry (y_asg rfl rfl) rfl rfl ?_
  refine reg_nil ?_
  refine fn_next ?_
  refine cw_seq ?_
  refine cw_seq ?_
  refine cw_reg ?_
  refine ry (y_mov rfl rfl) rfl rfl ?_
  refine ry (y_lss rfl rfl rfl) rfl rfl ?_
  refine reg_nil ?_
  refine fn_next ?_
  refine cw_condd rfl (fun h10 => ?_) (fun h10 => ?_)
  ·skip
   refine cw_reg ?_
   refine ry (y_mov rfl rfl) rfl rfl ?_
   refine ry (y_sub rfl rfl rfl (wi (by omega))) rfl rfl ?_
   refine ry (y_asg rfl rfl) rfl rfl ?_
   refine reg_nil ?_
   refine fn_next ?_
   refine cw_seq ?_
   refine cw_reg ?_
   refine ry (y_mov rfl rfl) rfl rfl ?_
   refine ry (y_mov rfl rfl) rfl rfl ?_
   refine ry (y_add rfl rfl rfl (wi (by omega))) rfl rfl ?_
   refine ry (y_asg rfl rfl) rfl rfl ?_
   refine reg_nil ?_
   refine fn_next ?_
   refine cw_ret ?_
   refine fn_ret1 rfl rfl ?_
   refine ⟨?_, H8.base⟩
   congr 1
   rw [l1_int hx, hp, hq]
   unfold dif
   omega
  ·skip
   refine cw_skip ?_
   refine fn_next ?_
   refine cw_seq ?_
   refine cw_reg ?_
   refine ry (y_mov rfl rfl) rfl rfl ?_
   refine ry (y_mov rfl rfl) rfl rfl ?_
   refine ry (y_add rfl rfl rfl (wi (by omega))) rfl rfl ?_
   refine ry (y_asg rfl rfl) rfl rfl ?_
   refine reg_nil ?_
   refine fn_next ?_
   refine cw_ret ?_
   refine fn_ret1 rfl rfl ?_
   refine ⟨?_, H8.base⟩
   congr 1
   rw [l1_int hx, hp, hq]
   unfold dif
   omega
 ·skip
  refine cw_skip ?_
  refine fn_next ?_
  refine cw_seq ?_
  refine cw_seq ?_
  refine cw_reg ?_
  refine ry (y_mov rfl rfl) rfl rfl ?_
  refine ry (y_lss rfl rfl rfl) rfl rfl ?_
  refine reg_nil ?_
  refine fn_next ?_
  refine cw_condd rfl (fun h11 => ?_) (fun h11 => ?_)
  ·skip
   refine cw_reg ?_
   refine ry (y_mov rfl rfl) rfl rfl ?_
   refine ry (y_sub rfl rfl rfl (wi (by omega))) rfl rfl ?_
   refine ry (y_asg rfl rfl) rfl rfl ?_
   refine reg_nil ?_
   refine fn_next ?_
   refine cw_seq ?_
   refine cw_reg ?_
   refine ry (y_mov rfl rfl) rfl rfl ?_
   refine ry (y_mov rfl rfl) rfl rfl ?_
   refine ry (y_add rfl rfl rfl (wi (by omega))) rfl rfl ?_
   refine ry (y_asg rfl rfl) rfl rfl ?_
   refine reg_nil ?_
   refine fn_next ?_
   refine cw_ret ?_
   refine fn_ret1 rfl rfl ?_
   refine ⟨?_, H8.base⟩
   congr 1
   rw [l1_int hx, hp, hq]
   unfold dif
   omega
  ·skip
   refine cw_skip ?_
   refine fn_next ?_
   refine cw_seq ?_
   refine cw_reg ?_
   refine ry (y_mov rfl rfl) rfl rfl ?_
   refine ry (y_mov rfl rfl) rfl rfl ?_
   refine ry (y_add rfl rfl rfl (wi (by omega))) rfl rfl ?_
   refine ry (y_asg rfl rfl) rfl rfl ?_
   refine reg_nil ?_
   refine fn_next ?_
   refine cw_ret ?_
   refine fn_ret1 rfl rfl ?_
   refine ⟨?_, H8.base⟩
   congr 1
   rw [l1_int hx, hp, hq]
   unfold dif
   omega

set_option maxRecDepth 100000 in
theorem mNearest (a h : Nat) (A : Option Addr) (cap : Nat) (V : List Int) (cx cy : Nat) (t : Int) (w : World) (s : SzG a h) (hr : Rd w A (vi .i64 V)) (hl : V.length = a * h) (hx : cx < a) (hy : cy < h) :
    Ret Try.prog 28 [.agg #[.int .i64 (a : Int), .int .i64 (h : Int), .slice A (a * h) cap], .agg #[.int .i64 (cx : Int), .int .i64 (cy : Int)], .int .i64 t] w (fun z w' => z = .tuple #[.agg #[.int .i64 (nrX a (nr V a (cy * a + cx) t (a * h))), .int .i64 (nrY a (nr V a (cy * a + cx) t (a * h)))], .int .i64 (nrF a (cy * a + cx) (nr V a (cy * a + cx) t (a * h))), .bool (nr V a (cy * a + cx) t (a * h)).isSome] ∧ Below w.heap.size w w') := by
 obtain ⟨s1, s2, s3, s4⟩ := id s
 have hm := s.mul
 refine ret_enter Try.func28 rfl rfl rfl ?_
 have H0 := HS.start w
 refine cw_seq ?_
 refine cw_reg ?_
 refine reg_op (op_box (cs := [.int _ _, .int _ _, .slice _ _ _]) H0 rfl rfl rfl) rfl rfl ?_
 rintro _ w2 ⟨b1, rfl, H3⟩
 refine reg_op (op_box (cs := [.int _ _, .int _ _]) H3 rfl rfl rfl) rfl rfl ?_
 rintro _ w5 ⟨b4, rfl, H6⟩
 refine reg_op (op_alloc H6 rfl kfdist3_1) rfl rfl ?_
 rintro _ w8 ⟨b7, rfl, H9⟩
 refine ry (y_asg rfl rfl) rfl rfl ?_
 refine ry (y_asg rfl rfl) rfl rfl ?_
 refine reg_nil ?_
 refine fn_next ?_
 refine cw_seq ?_
 refine cw_reg ?_
 refine ry (y_build (places := [(0, 1), (1, 1)]) (parts := []) (vs := []) (cs := [.int _ _, .int _ _]) rfl Try.underlying46 (by kernel_rfl) kfdist3_1 rfl trivial rfl) rfl rfl ?_
 refine reg_op (op_alloc H9 rfl kfdist3_1) rfl rfl ?_
 rintro _ w11 ⟨b10, rfl, H12⟩
 refine reg_op (op_st (i := 0) (vs := [.int _ _, .int _ _]) H12 rfl rfl rfl rfl rfl kfdist3_4 rfl rfl rfl) rfl rfl ?_
 rintro _ w13 H14
 refine ry (y_asg rfl rfl) rfl rfl ?_
 refine ry (y_asg rfl rfl) rfl rfl ?_
 refine reg_nil ?_
 refine fn_next ?_
 refine cw_seq ?_
 refine cw_seq ?_
 refine cw_reg ?_
 refine ry (y_asg rfl rfl) rfl rfl ?_
 refine reg_nil ?_
 refine fn_next ?_
 refine cw_block ?_
 refine cw_loopJ [10, 11, 12, 13, 15, 16, 17, 18, 19, 20, 21, 22, 23, 24, 25, 26, 27, 28, 29, 30, 31, 32, 33, 34, 35, 36, 37, 38, 39, 40, 41, 42, 43, 44, 45, 46, 47, 48, 49, 50, 51, 52] (fun M wl ml => ∃ (i : Nat) (r : Option Nat), M = [(12, .int .i64 (i : Int)), (10, .int .i64 (nrF a (cy * a + cx) r)), (11, .bool r.isSome)] ∧ HS w wl [Ob.blk b10 [.int .i64 (nrX a r), .int .i64 (nrY a r)] 46, Ob.blk b7 [.int .i64 0, .int .i64 0] 46, Ob.blk b4 [.int .i64 (cx : Int), .int .i64 (cy : Int)] 46, Ob.blk b1 [.int .i64 (a : Int), .int .i64 (h : Int), .slice A (a * h) cap] 25] ∧ (i ≤ a * h) ∧ (nr V a (cy * a + cx) t i = r) ∧ ml = a * h - i) ⟨0, none, rfl, H14, Nat.zero_le _, rfl, rfl⟩ ⟨rfl, rfl, rfl, trivial⟩ ?_
 rintro M w15 m17 ⟨i, r, rfl, H16, hp0, hp1, rfl⟩
 refine cw_seq ?_
 refine cw_seq ?_
 refine cw_reg ?_
 refine ry (y_mov rfl rfl) rfl rfl ?_
 refine ry (y_fa rfl rfl kfdist3_22 rfl) rfl rfl ?_
 refine ry (y_ld rfl rfl kfdist3_13 (H16.cell (i := 3) rfl rfl)) rfl rfl ?_
 refine ry (y_fa rfl rfl kfdist3_23 rfl) rfl rfl ?_
 refine ry (y_ld rfl rfl kfdist3_13 (H16.cell (i := 3) rfl rfl)) rfl rfl ?_
 refine ry (y_mul rfl rfl rfl (mulN (by omega))) rfl rfl ?_
 refine ry (y_lss rfl rfl rfl) rfl rfl ?_
 refine reg_nil ?_
 refine fn_next ?_
 refine cw_condd rfl (fun h18 => ?_) (fun h18 => ?_)
 ·skip
  have hi : i < a * h := by omega
  have hgi := vi_get (k := .i64) (zs := V) (i := i) (by omega)
  have hi1 : i % a ≤ 1024 := by have := Nat.mod_lt i (show a > 0 by omega); omega
  have hi2 : i / a ≤ 1024 := by have : i / a < h := Nat.div_lt_of_lt_mul hi; omega
  refine cw_skip ?_
  refine fn_next ?_
  refine cw_seq ?_
  refine cw_block ?_
  refine cw_seq ?_
  refine cw_seq ?_
  refine cw_reg ?_
  refine ry (y_fa rfl rfl kfdist3_24 rfl) rfl rfl ?_
  refine ry (y_ld rfl rfl kfdist3_11 (H16.cell (i := 3) rfl rfl)) rfl rfl ?_
  refine ry (y_mov rfl rfl) rfl rfl ?_
  refine ry (y_iar (hr.below H16.base) rfl rfl rfl kfdist3_17 (rfl) (by omega) (Nat.mul_one _) (hgi)) rfl rfl ?_
  refine ry (y_ldr (hr.below H16.base) rfl rfl kfdist3_13 (hgi)) rfl rfl ?_
  refine ry (y_mov rfl rfl) rfl rfl ?_
  refine ry (y_lss rfl rfl rfl) rfl rfl ?_
  refine reg_nil ?_
  refine fn_next ?_
  refine cw_condd rfl (fun hv => ?_) (fun hv => ?_)
  ·skip
   refine cw_exit ?_
   refine fn_then_exit (fn_block_exit ?_)
   refine fn_next ?_
   refine cw_reg ?_
   refine ry (y_mov rfl rfl) rfl rfl ?_
   refine ry (y_add rfl rfl rfl (wi (by omega))) rfl rfl ?_
   refine ry (y_asg rfl rfl) rfl rfl ?_
   refine reg_nil ?_
   refine fn_roundJ ⟨i + 1, _, rfl, H16, by omega, by first | exact (nr_skip hv).symm.trans hp1 | exact (nr_far hv hp1 (fun q => hnear (Int.ofNat_lt.2 q))).trans hp1, rfl⟩ ⟨rfl, rfl, rfl, trivial⟩ (by omega) (by repeat (first | exact kp_refl | refine kp_app rfl rfl ?_ | refine kp_cons rfl ?_)) rfl
  ·skip
   refine cw_skip ?_
   refine fn_next ?_
   refine cw_seq ?_
   refine cw_draw H16 [0, 1, 2, 3, 4, 5, 6, 7, 8] [9, 10] (fun X HX => HX) (by kernel_rfl) (by kernel_rfl) (by rfl) ?_
   simp only [pick, List.getElem?_cons_succ, List.getElem?_cons_zero]
   refine hk_y (fun Y HY => y_mov rfl rfl) rfl rfl ?_
   refine hk_y (fun Y HY => y_fa rfl rfl kfdist3_22 rfl) rfl rfl ?_
   refine hk_y (fun Y HY => y_ld rfl rfl kfdist3_13 (HY.cell (i := 3) rfl rfl)) rfl rfl ?_
   refine hk_y (fun Y HY => y_rem rfl rfl rfl (by omega) (remN)) rfl rfl ?_
   refine hk_y (fun Y HY => y_mov rfl rfl) rfl rfl ?_
   refine hk_y (fun Y HY => y_fa rfl rfl kfdist3_22 rfl) rfl rfl ?_
   refine hk_y (fun Y HY => y_ld rfl rfl kfdist3_13 (HY.cell (i := 3) rfl rfl)) rfl rfl ?_
   refine hk_y (fun Y HY => y_quo rfl rfl rfl (by omega) (quoN (by omega))) rfl rfl ?_
   refine hk_y (fun Y HY => y_build (places := [(0, 1), (1, 1)]) (parts := [(0, _), (1, _)]) (vs := [(0, _), (1, _)]) (cs := [.int _ _, .int _ _]) rfl Try.underlying46 (by kernel_rfl) kfdist3_1 rfl ⟨rfl, rfl, trivial⟩ rfl) rfl rfl ?_
   refine hk_nil ?_
   intro w20 H21
   refine tv_op (op_alloc H21 rfl kfdist3_1) rfl rfl ?_
   rintro _ w23 ⟨b22, rfl, H24⟩
   refine ⟨(H24.pick (m := [_, _, _, _]) [1, 2, 3, 4] rfl (by decide)), fun w25 e27 => ?_⟩
   have H26 := H24.ext e27
   refine tv_op (op_st (i := 0) (vs := [.int _ _, .int _ _]) H26 rfl rfl rfl rfl rfl kfdist3_4 rfl rfl rfl) rfl rfl ?_
   rintro _ w28 H29
   refine ⟨(H29.pick (m := [_, _, _, _]) [1, 2, 3, 4] rfl (by decide)), fun w30 e32 => ?_⟩
   have H31 := H29.ext e32
   refine tv_nil ?_
   refine fn_next ?_
   refine cw_seq ?_
   refine cw_reg ?_
   refine ry (y_mov rfl rfl) rfl rfl ?_
   refine ry (y_not rfl rfl) rfl rfl ?_
   refine ry (y_mov rfl rfl) rfl rfl ?_
   refine rg_split (d := 42) rfl (fun h33 => ?_) (fun h33 => ?_)
   ·skip
    have hr : nr V a (cy * a + cx) t i = none := by rw [hp1]; cases r <;> simp_all
    refine rg_off rfl rfl rfl rfl rfl ?_
    refine rg_off rfl rfl rfl rfl rfl ?_
    refine rg_off rfl rfl rfl rfl rfl ?_
    refine rg_off rfl rfl rfl rfl rfl ?_
    refine rg_off rfl rfl rfl rfl rfl ?_
    refine ry (y_pick rfl rfl rfl) rfl rfl ?_
    refine reg_nil ?_
    refine fn_next ?_
    refine cw_condt rfl ?_
    refine cw_seq ?_
    refine cw_reg ?_
    refine ry (y_ldb (i := 0) (cs := [_, _]) H31 rfl rfl kfdist3_2 rfl rfl) rfl rfl ?_
    refine reg_op (op_st (i := 1) (vs := [.int _ _, .int _ _]) H31 rfl rfl rfl rfl rfl kfdist3_4 rfl rfl rfl) rfl rfl ?_
    rintro _ w34 H35
    refine reg_nil ?_
    refine fn_next ?_
    refine cw_seq ?_
    refine cw_reg ?_
    refine ry (y_ldb (i := 3) (cs := [_, _]) H35 rfl rfl kfdist3_2 rfl rfl) rfl rfl ?_
    refine ry (y_ldb (i := 0) (cs := [_, _]) H35 rfl rfl kfdist3_2 rfl rfl) rfl rfl ?_
    refine reg_op (op_call (mBetween a cx cy i _ hx (by omega) (by omega) hi1 hi2) rfl kfdist3_25 ⟨rfl, rfl, trivial⟩) rfl rfl ?_
    rintro _ w37 ⟨rfl, e36⟩
    have H38 := H35.ext e36
    refine ry (y_asg rfl rfl) rfl rfl ?_
    refine reg_nil ?_
    refine fn_next ?_
    refine cw_reg ?_
    refine ry (y_asg rfl rfl) rfl rfl ?_
    refine reg_nil ?_
    refine fn_block ?_
    refine fn_next ?_
    refine cw_reg ?_
    refine ry (y_mov rfl rfl) rfl rfl ?_
    refine ry (y_add rfl rfl rfl (wi (by omega))) rfl rfl ?_
    refine ry (y_asg rfl rfl) rfl rfl ?_
    refine reg_nil ?_
    refine fn_roundJ ⟨i + 1, some i, rfl, (H38.pick (m := [_, _, _, _]) [1, 2, 3, 4] rfl (by decide)), by omega, by first | exact nr_first hv hr | exact nr_near hv hp1 (Int.ofNat_lt.1 hnear), rfl⟩ ⟨rfl, rfl, rfl, trivial⟩ (by omega) (by repeat (first | exact kp_refl | refine kp_app rfl rfl ?_ | refine kp_cons rfl ?_)) rfl
   ·skip
    obtain ⟨q, rfl⟩ : ∃ q, r = some q := by cases r <;> simp_all
    refine rgy (y_ldb (i := 3) (cs := [_, _]) H31 rfl rfl kfdist3_2 rfl rfl) rfl rfl rfl rfl ?_
    refine rgy (y_ldb (i := 0) (cs := [_, _]) H31 rfl rfl kfdist3_2 rfl rfl) rfl rfl rfl rfl ?_
    refine rg_on rfl rfl rfl (op_call (mBetween a cx cy i _ hx (by omega) (by omega) hi1 hi2) rfl kfdist3_25 ⟨rfl, rfl, trivial⟩) rfl ?_
    rintro _ w40 ⟨rfl, e39⟩
    have H41 := H31.ext e39
    refine rgy (y_mov rfl rfl) rfl rfl rfl rfl ?_
    refine rgy (y_lss rfl rfl rfl) rfl rfl rfl rfl ?_
    refine ry (y_pick rfl rfl rfl) rfl rfl ?_
    refine reg_nil ?_
    refine fn_next ?_
    refine cw_condd rfl (fun hnear => ?_) (fun hnear => ?_)
    ·skip
     refine cw_seq ?_
     refine cw_reg ?_
     refine ry (y_ldb (i := 0) (cs := [_, _]) H41 rfl rfl kfdist3_2 rfl rfl) rfl rfl ?_
     refine reg_op (op_st (i := 1) (vs := [.int _ _, .int _ _]) H41 rfl rfl rfl rfl rfl kfdist3_4 rfl rfl rfl) rfl rfl ?_
     rintro _ w43 H44
     refine reg_nil ?_
     refine fn_next ?_
     refine cw_seq ?_
     refine cw_reg ?_
     refine ry (y_ldb (i := 3) (cs := [_, _]) H44 rfl rfl kfdist3_2 rfl rfl) rfl rfl ?_
     refine ry (y_ldb (i := 0) (cs := [_, _]) H44 rfl rfl kfdist3_2 rfl rfl) rfl rfl ?_
     refine reg_op (op_call (mBetween a cx cy i _ hx (by omega) (by omega) hi1 hi2) rfl kfdist3_25 ⟨rfl, rfl, trivial⟩) rfl rfl ?_
     rintro _ w46 ⟨rfl, e45⟩
     have H47 := H44.ext e45
     refine ry (y_asg rfl rfl) rfl rfl ?_
     refine reg_nil ?_
     refine fn_next ?_
     refine cw_reg ?_
     refine ry (y_asg rfl rfl) rfl rfl ?_
     refine reg_nil ?_
     refine fn_block ?_
     refine fn_next ?_
     refine cw_reg ?_
     refine ry (y_mov rfl rfl) rfl rfl ?_
     refine ry (y_add rfl rfl rfl (wi (by omega))) rfl rfl ?_
     refine ry (y_asg rfl rfl) rfl rfl ?_
     refine reg_nil ?_
     refine fn_roundJ ⟨i + 1, some i, rfl, (H47.pick (m := [_, _, _, _]) [1, 2, 3, 4] rfl (by decide)), by omega, by first | exact nr_first hv hr | exact nr_near hv hp1 (Int.ofNat_lt.1 hnear), rfl⟩ ⟨rfl, rfl, rfl, trivial⟩ (by omega) (by repeat (first | exact kp_refl | refine kp_app rfl rfl ?_ | refine kp_cons rfl ?_)) rfl
    ·skip
     refine cw_skip ?_
     refine fn_block ?_
     refine fn_next ?_
     refine cw_reg ?_
     refine ry (y_mov rfl rfl) rfl rfl ?_
     refine ry (y_add rfl rfl rfl (wi (by omega))) rfl rfl ?_
     refine ry (y_asg rfl rfl) rfl rfl ?_
     refine reg_nil ?_
     refine fn_roundJ ⟨i + 1, _, rfl, (H41.pick (m := [_, _, _, _]) [1, 2, 3, 4] rfl (by decide)), by omega, by first | exact (nr_skip hv).symm.trans hp1 | exact (nr_far hv hp1 (fun q => hnear (Int.ofNat_lt.2 q))).trans hp1, rfl⟩ ⟨rfl, rfl, rfl, trivial⟩ (by omega) (by repeat (first | exact kp_refl | refine kp_app rfl rfl ?_ | refine kp_cons rfl ?_)) rfl
 ·skip
  have hie : i = a * h := by omega
  subst hie
  subst hp1
  refine cw_exit ?_
  refine fn_then_exit (fn_then_exit (fn_block_exit ?_))
  refine fn_next ?_
  refine cw_seq ?_
  refine cw_reg ?_
  refine ry (y_ldb (i := 0) (cs := [_, _]) H16 rfl rfl kfdist3_2 rfl rfl) rfl rfl ?_
  refine ry (y_mov rfl rfl) rfl rfl ?_
  refine ry (y_mov rfl rfl) rfl rfl ?_
  refine reg_op (op_st (i := 1) (vs := [.int _ _, .int _ _]) H16 rfl rfl rfl rfl rfl kfdist3_4 rfl rfl rfl) rfl rfl ?_
  rintro _ w48 H49
  refine ry (y_asg rfl rfl) rfl rfl ?_
  refine ry (y_asg rfl rfl) rfl rfl ?_
  refine reg_nil ?_
  refine fn_next ?_
  refine cw_ret ?_
  refine fn_retn (vs := [_, _, _]) rfl ⟨⟨_, rfl, load_agg (cs := [_, _]) kfdist3_2 rfl fun j v hv => by rw [Nat.zero_add]; exact H49.cell (i := 1) rfl hv⟩, rfl, rfl, trivial⟩ rfl ?_
  exact ⟨rfl, H49.base⟩

set_option maxRecDepth 100000 in
theorem mTo (a h : Nat) (A : Option Addr) (cap : Nat) (V : List Int) (t : Int) (w : World) (s : SzG a h) (hr : Rd w A (vi .i64 V)) (hl : V.length = a * h) :
    Ret Try.prog 36 [.agg #[.int .i64 (a : Int), .int .i64 (h : Int), .slice A (a * h) cap], .int .i64 t] w (fun z w' => ∃ A' cap', z = .slice A' (a * h) cap' ∧ HS w w' [.row A' (a * h) cap' (vi .i64 (toL V a t (a * h))) 2 1]) := by
 obtain ⟨s1, s2, s3, s4⟩ := id s
 have hm := s.mul
 refine ret_enter Try.func36 rfl rfl rfl ?_
 have H0 := HS.start w
 refine cw_seq ?_
 refine cw_reg ?_
 refine reg_op (op_box (cs := [.int _ _, .int _ _, .slice _ _ _]) H0 rfl rfl rfl) rfl rfl ?_
 rintro _ w2 ⟨b1, rfl, H3⟩
 refine ry (y_asg rfl rfl) rfl rfl ?_
 refine reg_nil ?_
 refine fn_next ?_
 refine cw_seq ?_
 refine cw_reg ?_
 refine reg_op (op_lit (parts := []) (vs := []) (cs := []) H3 rfl Try.underlying22 kfdist3_26 rfl trivial rfl rfl) rfl rfl ?_
 rintro _ w5 ⟨b4, rfl, H6⟩
 have H7 := H6.asrow (m := 0) (size := 1) rfl (by decide)
 refine ry (y_asg rfl rfl) rfl rfl ?_
 refine reg_nil ?_
 refine fn_next ?_
 refine cw_seq ?_
 refine cw_seq ?_
 refine cw_reg ?_
 refine ry (y_asg rfl rfl) rfl rfl ?_
 refine reg_nil ?_
 refine fn_next ?_
 refine cw_block ?_
 refine cw_loopJ [5, 6, 7, 8, 9, 11, 12, 13, 14, 15, 16, 17, 18, 19, 20, 21, 22, 23, 24, 25, 26, 27, 28, 29, 30, 31, 32, 33, 34, 35, 36, 37, 38, 39, 40, 41] (fun M wl ml => ∃ (i : Nat) (A' : Option Addr) (cap' : Nat), M = [(6, .int .i64 (i : Int)), (5, .slice A' i cap')] ∧ HS w wl [Ob.row A' i cap' (vi .i64 (toL V a t i)) 2 1, Ob.blk b1 [.int .i64 (a : Int), .int .i64 (h : Int), .slice A (a * h) cap] 25] ∧ (i ≤ a * h) ∧ ml = a * h - i) ⟨0, _, _, rfl, H7, Nat.zero_le _, rfl⟩ ⟨rfl, rfl, trivial⟩ ?_
 rintro M w8 m10 ⟨i, A', cap', rfl, H9, hp0, rfl⟩
 refine cw_seq ?_
 refine cw_seq ?_
 refine cw_reg ?_
 refine ry (y_mov rfl rfl) rfl rfl ?_
 refine ry (y_fa rfl rfl kfdist3_22 rfl) rfl rfl ?_
 refine ry (y_ld rfl rfl kfdist3_13 (H9.cell (i := 1) rfl rfl)) rfl rfl ?_
 refine ry (y_fa rfl rfl kfdist3_23 rfl) rfl rfl ?_
 refine ry (y_ld rfl rfl kfdist3_13 (H9.cell (i := 1) rfl rfl)) rfl rfl ?_
 refine ry (y_mul rfl rfl rfl (mulN (by omega))) rfl rfl ?_
 refine ry (y_lss rfl rfl rfl) rfl rfl ?_
 refine reg_nil ?_
 refine fn_next ?_
 refine cw_condd rfl (fun h11 => ?_) (fun h11 => ?_)
 ·skip
  have hi : i < a * h := by omega
  have hi1 : i % a < a := Nat.mod_lt i (by omega)
  have hi2 : i / a < h := Nat.div_lt_of_lt_mul hi
  have hie : i / a * a + i % a = i := by rw [Nat.mul_comm]; exact Nat.div_add_mod i a
  refine cw_skip ?_
  refine fn_next ?_
  refine cw_seq ?_
  refine cw_block ?_
  refine cw_seq ?_
  refine cw_draw H9 [0, 1, 2, 3, 4, 5, 6, 7, 8, 9, 10, 11, 12, 13, 14, 15] [16, 17, 18, 19] (fun X HX => HX) (by kernel_rfl) (by kernel_rfl) (by rfl) ?_
  simp only [pick, List.getElem?_cons_succ, List.getElem?_cons_zero]
  refine hk_y (fun Y HY => y_ldb (i := 1) (cs := [_, _, _]) HY rfl rfl kfdist3_27 rfl rfl) rfl rfl ?_
  refine hk_y (fun Y HY => y_mov rfl rfl) rfl rfl ?_
  refine hk_y (fun Y HY => y_fa rfl rfl kfdist3_22 rfl) rfl rfl ?_
  refine hk_y (fun Y HY => y_ld rfl rfl kfdist3_13 (HY.cell (i := 1) rfl rfl)) rfl rfl ?_
  refine hk_y (fun Y HY => y_rem rfl rfl rfl (by omega) (remN)) rfl rfl ?_
  refine hk_y (fun Y HY => y_mov rfl rfl) rfl rfl ?_
  refine hk_y (fun Y HY => y_fa rfl rfl kfdist3_22 rfl) rfl rfl ?_
  refine hk_y (fun Y HY => y_ld rfl rfl kfdist3_13 (HY.cell (i := 1) rfl rfl)) rfl rfl ?_
  refine hk_y (fun Y HY => y_quo rfl rfl rfl (by omega) (quoN (by omega))) rfl rfl ?_
  refine hk_y (fun Y HY => y_build (places := [(0, 1), (1, 1)]) (parts := [(0, _), (1, _)]) (vs := [(0, _), (1, _)]) (cs := [.int _ _, .int _ _]) rfl Try.underlying46 (by kernel_rfl) kfdist3_1 rfl ⟨rfl, rfl, trivial⟩ rfl) rfl rfl ?_
  refine hk_y (fun Y HY => y_mov rfl rfl) rfl rfl ?_
  refine hk_q (qy_call (fun Y HY => mNearest a h A cap V (i % a) (i / a) t _ s (hr.below HY.base) hl hi1 hi2) rfl kfdist3_28 ⟨rfl, rfl, rfl, trivial⟩) rfl rfl ?_
  refine hk_y (fun Y HY => y_mov rfl rfl) rfl rfl ?_
  refine hk_y (fun Y HY => y_ext rfl rfl rfl) rfl rfl ?_
  refine hk_y (fun Y HY => y_ext rfl rfl rfl) rfl rfl ?_
  refine hk_y (fun Y HY => y_ext rfl rfl rfl) rfl rfl ?_
  refine hk_nil ?_
  intro w12 H13
  refine tv_op (op_alloc H13 rfl kfdist3_1) rfl rfl ?_
  rintro _ w15 ⟨b14, rfl, H16⟩
  refine ⟨(H16.pick (m := [_, _]) [1, 2] rfl (by decide)), fun w17 e19 => ?_⟩
  have H18 := H16.ext e19
  refine tv_op (op_st (i := 0) (vs := [.int _ _, .int _ _]) H18 rfl rfl rfl rfl rfl kfdist3_4 rfl rfl rfl) rfl rfl ?_
  rintro _ w20 H21
  refine ⟨(H21.pick (m := [_, _]) [1, 2] rfl (by decide)), fun w22 e24 => ?_⟩
  have H23 := H21.ext e24
  refine tv_op (Yd.op (y_asg rfl rfl)) rfl rfl ?_
  rintro _ _ ⟨rfl, rfl⟩
  refine ⟨(H23.pick (m := [_, _]) [1, 2] rfl (by decide)), fun w25 e27 => ?_⟩
  have H26 := H23.ext e27
  refine tv_op (Yd.op (y_asg rfl rfl)) rfl rfl ?_
  rintro _ _ ⟨rfl, rfl⟩
  refine ⟨(H26.pick (m := [_, _]) [1, 2] rfl (by decide)), fun w28 e30 => ?_⟩
  have H29 := H26.ext e30
  refine tv_nil ?_
  refine fn_next ?_
  refine cw_seq ?_
  refine cw_seq ?_
  refine cw_reg ?_
  refine ry (y_mov rfl rfl) rfl rfl ?_
  refine ry (y_not rfl rfl) rfl rfl ?_
  refine reg_nil ?_
  refine fn_next ?_
  refine cw_cond rfl (fun h31 => ?_) (fun h31 => ?_)
  ·skip
   have hq : (-1 : Int) = toF V a t i := by rw [hie] at h31; unfold toF; rw [hl]; cases e : nr V a i t (a * h) <;> simp_all
   refine cw_reg ?_
   refine ry (y_asg rfl rfl) rfl rfl ?_
   refine reg_nil ?_
   refine fn_next ?_
   refine cw_reg ?_
   refine ry (y_mov rfl rfl) rfl rfl ?_
   refine ry (y_mov rfl rfl) rfl rfl ?_
   refine reg_op (op_lit (parts := [(0, _)]) (vs := [(0, _)]) (cs := [.int _ _]) H29 rfl Try.underlying22 kfdist3_26 rfl ⟨rfl, trivial⟩ rfl rfl) rfl rfl ?_
   rintro _ w33 ⟨b32, rfl, H34⟩
   have H35 := H34.asrow (m := 1) (size := 1) rfl (by decide)
   refine reg_op (op_app (i := 2) H35 rfl rfl rfl rfl (H35.rd (i := 0) rfl) (rfl) (rfl) Try.underlying22 kfdist3_29 rfl rfl (by unfold maxLen; omega) (by omega)) rfl rfl ?_
   rintro _ w38 ⟨A36, c37, rfl, H39⟩
   refine ry (y_asg rfl rfl) rfl rfl ?_
   refine reg_nil ?_
   refine fn_block ?_
   refine fn_next ?_
   refine cw_reg ?_
   refine ry (y_mov rfl rfl) rfl rfl ?_
   refine ry (y_add rfl rfl rfl (wi (by omega))) rfl rfl ?_
   refine ry (y_asg rfl rfl) rfl rfl ?_
   refine reg_nil ?_
   rw [vi_snoc, hq, toL_succ] at H39
   refine fn_roundJ ⟨i + 1, _, _, rfl, (H39.pick (m := [_, _]) [2, 3] rfl (by decide)), by omega, rfl⟩ ⟨rfl, rfl, trivial⟩ (by omega) (by repeat (first | exact kp_refl | refine kp_app rfl rfl ?_ | refine kp_cons rfl ?_)) rfl
  ·skip
   have hq : nrF a (i / a * a + i % a) (nr V a (i / a * a + i % a) t (a * h)) = toF V a t i := by rw [hie] at h31 ⊢; unfold toF; rw [hl]; cases e : nr V a i t (a * h) <;> simp_all [nrF]
   refine cw_skip ?_
   refine fn_next ?_
   refine cw_reg ?_
   refine ry (y_mov rfl rfl) rfl rfl ?_
   refine ry (y_mov rfl rfl) rfl rfl ?_
   refine reg_op (op_lit (parts := [(0, _)]) (vs := [(0, _)]) (cs := [.int _ _]) H29 rfl Try.underlying22 kfdist3_26 rfl ⟨rfl, trivial⟩ rfl rfl) rfl rfl ?_
   rintro _ w41 ⟨b40, rfl, H42⟩
   have H43 := H42.asrow (m := 1) (size := 1) rfl (by decide)
   refine reg_op (op_app (i := 2) H43 rfl rfl rfl rfl (H43.rd (i := 0) rfl) (rfl) (rfl) Try.underlying22 kfdist3_29 rfl rfl (by unfold maxLen; omega) (by omega)) rfl rfl ?_
   rintro _ w46 ⟨A44, c45, rfl, H47⟩
   refine ry (y_asg rfl rfl) rfl rfl ?_
   refine reg_nil ?_
   refine fn_block ?_
   refine fn_next ?_
   refine cw_reg ?_
   refine ry (y_mov rfl rfl) rfl rfl ?_
   refine ry (y_add rfl rfl rfl (wi (by omega))) rfl rfl ?_
   refine ry (y_asg rfl rfl) rfl rfl ?_
   refine reg_nil ?_
   rw [vi_snoc, hq, toL_succ] at H47
   refine fn_roundJ ⟨i + 1, _, _, rfl, (H47.pick (m := [_, _]) [2, 3] rfl (by decide)), by omega, rfl⟩ ⟨rfl, rfl, trivial⟩ (by omega) (by repeat (first | exact kp_refl | refine kp_app rfl rfl ?_ | refine kp_cons rfl ?_)) rfl
 ·skip
  have hie : i = a * h := by omega
  subst hie
  refine cw_exit ?_
  refine fn_then_exit (fn_then_exit (fn_block_exit ?_))
  refine fn_next ?_
  refine cw_seq ?_
  refine cw_reg ?_
  refine ry (y_mov rfl rfl) rfl rfl ?_
  refine ry (y_asg rfl rfl) rfl rfl ?_
  refine reg_nil ?_
  refine fn_next ?_
  refine cw_ret ?_
  refine fn_ret1 rfl rfl ?_
  exact ⟨_, _, rfl, (H9.pick (m := [_]) [0] rfl (by decide))⟩

theorem aw43 : fromC ((4 : Nat) : Int) ((1 : Nat) : Int) [0, 9, 0, 0] = 0 ∧ toL [0, 9, 0, 0] 4 5 (4 * 1) = [1, 0, 1, 2] := by decide +kernel

end Go.Proofs.Ytbhmkpnihgjlnaa
