/- Layer 20: a table of sums; AreaNil. -/
import Derived.Test.YtkphmcaoioaglaaRef10
import Derived.Test.YtkphmcaoioaglaaLaw9a
import Derived.Test.YtkphmcaoioaglaaK11
set_option linter.unusedVariables false
set_option linter.unusedSimpArgs false
namespace Go.Proofs.Ytkphmcaoioaglaa
open Go Go.RowKit
theorem kflaw20_1 : aggB Try.prog 24 4 = true := by kernel_rfl
theorem kflaw20_2 : fldB Try.prog 151 0 0 = true := by kernel_rfl
theorem kflaw20_3 : oneB Try.prog 2 = true := by kernel_rfl
theorem kflaw20_4 : fldB Try.prog 151 1 1 = true := by kernel_rfl
theorem kflaw20_5 : callB Try.prog 78 = true := by kernel_rfl
theorem kflaw20_6 : fldB Try.prog 26 0 0 = true := by kernel_rfl
theorem kflaw20_7 : fldB Try.prog 26 1 1 = true := by kernel_rfl
theorem kflaw20_8 : (Try.prog.info? 24).bind (fun i => i.zero.map Value.cells) = some (List.toArray [(.int .i64 0), (.int .i64 0), (.int .i64 0), (.int .i64 0)]) := by kernel_rfl
theorem kflaw20_9 : callB Try.prog 107 = true := by kernel_rfl
theorem kflaw20_10 : fldB Try.prog 151 2 2 = true := by kernel_rfl
theorem kflaw20_11 : oneB Try.prog 149 = true := by kernel_rfl
theorem kflaw20_12 : elB Try.prog 149 1 = true := by kernel_rfl
theorem kflaw20_13 : oneB Try.prog 32 = true := by kernel_rfl
theorem kflaw20_14 : elB Try.prog 32 1 = true := by kernel_rfl
theorem kflaw20_15 : fldB Try.prog 24 1 1 = true := by kernel_rfl
theorem kflaw20_16 : fldB Try.prog 24 3 3 = true := by kernel_rfl
theorem kflaw20_17 : fldB Try.prog 24 2 2 = true := by kernel_rfl
theorem kflaw20_18 : fldB Try.prog 24 0 0 = true := by kernel_rfl
theorem kflaw20_19 : callB Try.prog 67 = true := by kernel_rfl
theorem kflaw20_20 : callB Try.prog 85 = true := by kernel_rfl
theorem kflaw20_21 : callB Try.prog 69 = true := by kernel_rfl
theorem kflaw20_22 : (Try.prog.info? 2).map (fun i => (i.zero.map (·.cells.toList), i.size, i.bytes)) = some (some [(.int .i64 0)], 1, 8) := by kernel_rfl
theorem kflaw20_23 : (Try.prog.info? 32).map (fun i => (i.size, i.zero.map Value.cells)) = some (1, some (List.toArray [(.slice none 0 0)])) := by kernel_rfl
theorem kflaw20_24 : (Try.prog.info? 151).bind (fun i => i.zero.map Value.cells) = some (List.toArray [(.int .i64 0), (.int .i64 0), (.slice none 0 0)]) := by kernel_rfl
theorem kflaw20_25 : callB Try.prog 46 = true := by kernel_rfl
theorem kflaw20_26 : (Try.prog.info? 2).map (fun i => (i.size, i.zero.map Value.cells)) = some (1, some (List.toArray [(.int .i64 0)])) := by kernel_rfl
theorem kflaw20_27 : (Try.prog.info? 32).map (fun i => (i.zero.map (·.cells.toList), i.size, i.bytes)) = some (some [(.slice none 0 0)], 1, 24) := by kernel_rfl
theorem kflaw20_28 : szB Try.prog 149 1 = true := by kernel_rfl
theorem kflaw20_29 : callB Try.prog 57 = true := by kernel_rfl
theorem kflaw20_30 : callB Try.prog 64 = true := by kernel_rfl
theorem kflaw20_31 : (Try.prog.info? 26).bind (fun i => i.zero.map Value.cells) = some (List.toArray [(.int .i64 0), (.int .i64 0)]) := by kernel_rfl
theorem kflaw20_32 : callB Try.prog 66 = true := by kernel_rfl
theorem kflaw20_33 : callB Try.prog 68 = true := by kernel_rfl
theorem kflaw20_34 : callB Try.prog 63 = true := by kernel_rfl
theorem kflaw20_35 : callB Try.prog 65 = true := by kernel_rfl
theorem kflaw20_36 : aggB Try.prog 26 2 = true := by kernel_rfl
/-- a table that is there, to be read: row y is P y -/
structure TR (w : World) (t a h : Nat) (A : Option Addr) (cap : Nat) (rs : List Value) (P : Nat → List Int) : Prop where
  blk : Rd w (some ⟨t, 0, none⟩) [.int .i64 (a : Int), .int .i64 (h : Int), .slice A (h + 1) cap]
  row : Rd w A rs
  el : ∀ y, y ≤ h → ∃ B c, rs[y]? = some (.slice B (a + 1) c) ∧ Rd w B (vi .i64 (P y)) ∧ (P y).length = a + 1
theorem TR.below {w w' : World} {t a h : Nat} {A : Option Addr} {cap : Nat} {rs : List Value} {P : Nat → List Int} (R : TR w t a h A cap rs P) (hb : Below w.heap.size w w') : TR w' t a h A cap rs P :=
  ⟨R.blk.below hb, R.row.below hb, fun y hy => by
    obtain ⟨B, c, h1, h2, h3⟩ := R.el y hy
    exact ⟨B, c, h1, h2.below hb, h3⟩⟩
def tbV (P : Nat → List Int) (p0 q0 p1 q1 : Nat) : Int := nth (P (q1 + 1)) (p1 + 1) - nth (P (q1 + 1)) p0 - nth (P q0) (p1 + 1) + nth (P q0) p0
/-- all of it is small -/
def TB (P : Nat → List Int) : Prop := ∀ y x, -1000000000000000 ≤ nth (P y) x ∧ nth (P y) x ≤ 1000000000000000

set_option maxRecDepth 100000 in
theorem tabCheck (t a h : Nat) (A : Option Addr) (cap : Nat) (rs : List Value) (P : Nat → List Int) (x0 y0 x1 y1 : Int) (w : World) (s : SzG a h) (R : TR w t a h A cap rs P) :
    Ret Try.prog 107 [pt (some ⟨t, 0, none⟩) 0, .agg #[.int .i64 x0, .int .i64 y0, .int .i64 x1, .int .i64 y1]] w (fun v w' => v = .int .i64 (withinC x0 y0 x1 y1 a h) ∧ Below w.heap.size w w') := by
  obtain ⟨s1, s2, s3, s4⟩ := id s
  refine ret_enter Try.func107 rfl rfl rfl ?_
  have H0 := HS.start w
  refine cw_seq ?_
  refine cw_reg ?_
  refine reg_op (op_box (cs := [.int _ _, .int _ _, .int _ _, .int _ _]) H0 rfl rfl rfl) rfl rfl ?_
  rintro _ w2 ⟨b1, rfl, H3⟩
  refine ry (y_asg rfl rfl) rfl rfl ?_
  refine reg_nil ?_
  refine fn_next ?_
  refine cw_seq ?_
  refine cw_seq ?_
  refine cw_reg ?_
  refine ry (y_mov rfl rfl) rfl rfl ?_
  refine ry (y_peqlnil rfl Try.underlying100 rfl rfl) rfl rfl ?_
  refine reg_nil ?_
  refine fn_next ?_
  refine cw_condf rfl ?_
  refine cw_skip ?_
  refine fn_next ?_
  refine cw_seq ?_
  refine cw_draw H3 [0, 1, 2, 3, 4, 5, 6, 7, 8, 9, 10] [] (fun X HX => HX) (by kernel_rfl) (by kernel_rfl) (by rfl) ?_
  simp only [pick, List.getElem?_cons_succ, List.getElem?_cons_zero]
  refine hk_y (fun Y HY => y_ldb (i := 0) (cs := [_, _, _, _]) HY rfl rfl kflaw20_1 rfl rfl) rfl rfl ?_
  refine hk_y (fun Y HY => y_mov rfl rfl) rfl rfl ?_
  refine hk_y (fun Y HY => y_nilck rfl rfl) rfl rfl ?_
  refine hk_y (fun Y HY => y_far ((R.blk.below HY.base)) rfl rfl kflaw20_2 rfl (rfl)) rfl rfl ?_
  refine hk_y (fun Y HY => y_ldr ((R.blk.below HY.base)) rfl rfl kflaw20_3 (rfl)) rfl rfl ?_
  refine hk_y (fun Y HY => y_mov rfl rfl) rfl rfl ?_
  refine hk_y (fun Y HY => y_nilck rfl rfl) rfl rfl ?_
  refine hk_y (fun Y HY => y_far ((R.blk.below HY.base)) rfl rfl kflaw20_4 rfl (rfl)) rfl rfl ?_
  refine hk_y (fun Y HY => y_ldr ((R.blk.below HY.base)) rfl rfl kflaw20_3 (rfl)) rfl rfl ?_
  refine hk_q (qy_call (fun Y HY => ret_elder (within_any x0 y0 x1 y1 a h _)) rfl kflaw20_5 ⟨rfl, rfl, rfl, trivial⟩) rfl rfl ?_
  refine hk_y (fun Y HY => y_asg rfl rfl) rfl rfl ?_
  refine hk_nil ?_
  intro w4 H5
  refine tv_nil ?_
  refine fn_next ?_
  refine cw_ret ?_
  refine fn_ret1 rfl rfl ?_
  exact ⟨rfl, H5.base⟩

set_option maxRecDepth 100000 in
theorem tabAt (t a h : Nat) (A : Option Addr) (cap : Nat) (rs : List Value) (P : Nat → List Int) (x y : Nat) (w : World) (s : SzG a h) (R : TR w t a h A cap rs P) (hx : x < a) (hy : y < h) :
    Ret Try.prog 66 [pt (some ⟨t, 0, none⟩) 0, .agg #[.int .i64 (x : Int), .int .i64 (y : Int)]] w (fun v w' => v = .tuple #[.int .i64 (nth (P (y + 1)) (x + 1)), .int .i64 0] ∧ Below w.heap.size w w') := by
  obtain ⟨s1, s2, s3, s4⟩ := id s
  have hw : withinC x y x y a h = 0 := by unfold withinC; simp only [insideB_not]; rw [if_neg (by unfold wrap64; omega), if_neg (by omega), if_neg (by omega)]
  obtain ⟨B1, c1, hr1, hR1, hl1⟩ := R.el (y + 1) (by omega)
  have hg := vi_get (k := .i64) (zs := P (y + 1)) (i := x + 1) (by omega)
  refine ret_enter Try.func66 rfl rfl rfl ?_
  have H0 := HS.start w
  refine cw_seq ?_
  refine cw_reg ?_
  refine reg_op (op_box (cs := [.int _ _, .int _ _]) H0 rfl rfl rfl) rfl rfl ?_
  rintro _ w2 ⟨b1, rfl, H3⟩
  refine ry (y_asg rfl rfl) rfl rfl ?_
  refine ry (y_asg rfl rfl) rfl rfl ?_
  refine reg_nil ?_
  refine fn_next ?_
  refine cw_seq ?_
  refine cw_seq ?_
  refine cw_reg ?_
  refine ry (y_mov rfl rfl) rfl rfl ?_
  refine ry (y_fa rfl rfl kflaw20_6 rfl) rfl rfl ?_
  refine ry (y_ld rfl rfl kflaw20_3 (H3.cell (i := 0) rfl rfl)) rfl rfl ?_
  refine ry (y_fa rfl rfl kflaw20_7 rfl) rfl rfl ?_
  refine ry (y_ld rfl rfl kflaw20_3 (H3.cell (i := 0) rfl rfl)) rfl rfl ?_
  refine ry (y_fa rfl rfl kflaw20_6 rfl) rfl rfl ?_
  refine ry (y_ld rfl rfl kflaw20_3 (H3.cell (i := 0) rfl rfl)) rfl rfl ?_
  refine ry (y_fa rfl rfl kflaw20_7 rfl) rfl rfl ?_
  refine ry (y_ld rfl rfl kflaw20_3 (H3.cell (i := 0) rfl rfl)) rfl rfl ?_
  refine ry (y_build (places := [(0, 1), (1, 1), (2, 1), (3, 1)]) (parts := [(0, _), (1, _), (2, _), (3, _)]) (vs := [(0, _), (1, _), (2, _), (3, _)]) (cs := [.int _ _, .int _ _, .int _ _, .int _ _]) rfl Try.underlying24 (by kernel_rfl) kflaw20_8 rfl ⟨rfl, rfl, rfl, rfl, trivial⟩ rfl) rfl rfl ?_
  refine reg_op (op_call (tabCheck t a h A cap rs P x y x y _ s (R.below H3.base)) rfl kflaw20_9 ⟨rfl, rfl, trivial⟩) rfl rfl ?_
  rintro _ w5 ⟨rfl, e4⟩
  have H6 := H3.ext e4
  refine ry (y_asg rfl rfl) rfl rfl ?_
  refine reg_nil ?_
  refine fn_next ?_
  refine cw_seq ?_
  refine cw_reg ?_
  refine ry (y_mov rfl rfl) rfl rfl ?_
  refine ry (y_neq rfl rfl rfl) rfl rfl ?_
  refine reg_nil ?_
  refine fn_next ?_
  refine cw_condd rfl (fun h7 => ?_) (fun h7 => ?_)
  · exact absurd hw h7
  · skip
    refine cw_skip ?_
    refine fn_next ?_
    refine cw_seq ?_
    refine cw_draw H6 [0, 1, 2, 3, 4, 5, 6, 7, 8, 9, 10, 11, 12, 13, 14, 15] [] (fun X HX => HX) (by kernel_rfl) (by kernel_rfl) (by rfl) ?_
    simp only [pick, List.getElem?_cons_succ, List.getElem?_cons_zero]
    refine hk_y (fun Y HY => y_mov rfl rfl) rfl rfl ?_
    refine hk_y (fun Y HY => y_nilck rfl rfl) rfl rfl ?_
    refine hk_y (fun Y HY => y_far ((R.blk.below HY.base)) rfl rfl kflaw20_10 rfl (rfl)) rfl rfl ?_
    refine hk_y (fun Y HY => y_ldr ((R.blk.below HY.base)) rfl rfl kflaw20_11 (rfl)) rfl rfl ?_
    refine hk_y (fun Y HY => y_fa rfl rfl kflaw20_7 rfl) rfl rfl ?_
    refine hk_y (fun Y HY => y_ld rfl rfl kflaw20_3 (HY.cell (i := 0) rfl rfl)) rfl rfl ?_
    refine hk_y (fun Y HY => y_add rfl rfl rfl (wi (by omega))) rfl rfl ?_
    refine hk_y (fun Y HY => y_iar (i := y + 1) ((R.row.below HY.base)) rfl rfl rfl kflaw20_12 (rfl) (by omega) (Nat.mul_one _) (hr1)) rfl rfl ?_
    refine hk_y (fun Y HY => y_ldr ((R.row.below HY.base)) rfl rfl kflaw20_13 (hr1)) rfl rfl ?_
    refine hk_y (fun Y HY => y_fa rfl rfl kflaw20_6 rfl) rfl rfl ?_
    refine hk_y (fun Y HY => y_ld rfl rfl kflaw20_3 (HY.cell (i := 0) rfl rfl)) rfl rfl ?_
    refine hk_y (fun Y HY => y_add rfl rfl rfl (wi (by omega))) rfl rfl ?_
    refine hk_y (fun Y HY => y_iar (i := x + 1) ((hR1.below HY.base)) rfl rfl rfl kflaw20_14 (rfl) (by omega) (Nat.mul_one _) (hg)) rfl rfl ?_
    refine hk_y (fun Y HY => y_ldr ((hR1.below HY.base)) rfl rfl kflaw20_3 (hg)) rfl rfl ?_
    refine hk_y (fun Y HY => y_asg rfl rfl) rfl rfl ?_
    refine hk_y (fun Y HY => y_asg rfl rfl) rfl rfl ?_
    refine hk_nil ?_
    intro w8 H9
    refine tv_nil ?_
    refine fn_next ?_
    refine cw_ret ?_
    refine fn_retn (vs := [_, _]) rfl ⟨rfl, rfl, trivial⟩ rfl ?_
    exact ⟨rfl, H9.base⟩

set_option maxRecDepth 100000 in
theorem tabSum (t a h : Nat) (A : Option Addr) (cap : Nat) (rs : List Value) (P : Nat → List Int) (p0 q0 p1 q1 : Nat) (w : World) (s : SzG a h) (R : TR w t a h A cap rs P) (h1 : p0 ≤ p1) (h2 : p1 < a) (h3 : q0 ≤ q1) (h4 : q1 < h) (hB : TB P) :
    Ret Try.prog 67 [pt (some ⟨t, 0, none⟩) 0, .agg #[.int .i64 (p0 : Int), .int .i64 (q0 : Int), .int .i64 (p1 : Int), .int .i64 (q1 : Int)]] w (fun v w' => v = .tuple #[.int .i64 (tbV P p0 q0 p1 q1), .int .i64 0] ∧ Below w.heap.size w w') := by
  obtain ⟨s1, s2, s3, s4⟩ := id s
  have hw : withinC p0 q0 p1 q1 a h = 0 := by unfold withinC; simp only [insideB_not]; rw [if_neg (by unfold wrap64; omega), if_neg (by omega), if_neg (by omega)]
  obtain ⟨B1, c1, hr1, hR1, hl1⟩ := R.el q0 (by omega)
  obtain ⟨B2, c2, hr2, hR2, hl2⟩ := R.el (q1 + 1) (by omega)
  have hg1 := vi_get (k := .i64) (zs := P (q1 + 1)) (i := p1 + 1) (by omega)
  have hg2 := vi_get (k := .i64) (zs := P (q1 + 1)) (i := p0) (by omega)
  have hg3 := vi_get (k := .i64) (zs := P q0) (i := p1 + 1) (by omega)
  have hg4 := vi_get (k := .i64) (zs := P q0) (i := p0) (by omega)
  have b1 := hB (q1 + 1) (p1 + 1)
  have b2 := hB (q1 + 1) p0
  have b3 := hB q0 (p1 + 1)
  have b4 := hB q0 p0
  refine ret_enter Try.func67 rfl rfl rfl ?_
  have H0 := HS.start w
  refine cw_seq ?_
  refine cw_reg ?_
  refine reg_op (op_box (cs := [.int _ _, .int _ _, .int _ _, .int _ _]) H0 rfl rfl rfl) rfl rfl ?_
  rintro _ w2 ⟨b1, rfl, H3⟩
  refine ry (y_asg rfl rfl) rfl rfl ?_
  refine ry (y_asg rfl rfl) rfl rfl ?_
  refine reg_nil ?_
  refine fn_next ?_
  refine cw_seq ?_
  refine cw_seq ?_
  refine cw_reg ?_
  refine ry (y_mov rfl rfl) rfl rfl ?_
  refine ry (y_ldb (i := 0) (cs := [_, _, _, _]) H3 rfl rfl kflaw20_1 rfl rfl) rfl rfl ?_
  refine reg_op (op_call (tabCheck t a h A cap rs P p0 q0 p1 q1 _ s (R.below H3.base)) rfl kflaw20_9 ⟨rfl, rfl, trivial⟩) rfl rfl ?_
  rintro _ w5 ⟨rfl, e4⟩
  have H6 := H3.ext e4
  refine ry (y_asg rfl rfl) rfl rfl ?_
  refine reg_nil ?_
  refine fn_next ?_
  refine cw_seq ?_
  refine cw_reg ?_
  refine ry (y_mov rfl rfl) rfl rfl ?_
  refine ry (y_neq rfl rfl rfl) rfl rfl ?_
  refine reg_nil ?_
  refine fn_next ?_
  refine cw_condd rfl (fun h7 => ?_) (fun h7 => ?_)
  · exact absurd hw h7
  · skip
    refine cw_skip ?_
    refine fn_next ?_
    refine cw_seq ?_
    refine cw_draw H6 [0, 1, 2, 3, 4, 5, 6, 7, 8, 9, 10, 11, 12, 13, 14, 15, 16, 17, 18] [] (fun X HX => HX) (by kernel_rfl) (by kernel_rfl) (by rfl) ?_
    simp only [pick, List.getElem?_cons_succ, List.getElem?_cons_zero]
    refine hk_y (fun Y HY => y_mov rfl rfl) rfl rfl ?_
    refine hk_y (fun Y HY => y_nilck rfl rfl) rfl rfl ?_
    refine hk_y (fun Y HY => y_far ((R.blk.below HY.base)) rfl rfl kflaw20_10 rfl (rfl)) rfl rfl ?_
    refine hk_y (fun Y HY => y_ldr ((R.blk.below HY.base)) rfl rfl kflaw20_11 (rfl)) rfl rfl ?_
    refine hk_y (fun Y HY => y_fa rfl rfl kflaw20_15 rfl) rfl rfl ?_
    refine hk_y (fun Y HY => y_ld rfl rfl kflaw20_3 (HY.cell (i := 0) rfl rfl)) rfl rfl ?_
    refine hk_y (fun Y HY => y_iar (i := q0) ((R.row.below HY.base)) rfl rfl rfl kflaw20_12 (rfl) (by omega) (Nat.mul_one _) (hr1)) rfl rfl ?_
    refine hk_y (fun Y HY => y_ldr ((R.row.below HY.base)) rfl rfl kflaw20_13 (hr1)) rfl rfl ?_
    refine hk_y (fun Y HY => y_mov rfl rfl) rfl rfl ?_
    refine hk_y (fun Y HY => y_nilck rfl rfl) rfl rfl ?_
    refine hk_y (fun Y HY => y_far ((R.blk.below HY.base)) rfl rfl kflaw20_10 rfl (rfl)) rfl rfl ?_
    refine hk_y (fun Y HY => y_ldr ((R.blk.below HY.base)) rfl rfl kflaw20_11 (rfl)) rfl rfl ?_
    refine hk_y (fun Y HY => y_fa rfl rfl kflaw20_16 rfl) rfl rfl ?_
    refine hk_y (fun Y HY => y_ld rfl rfl kflaw20_3 (HY.cell (i := 0) rfl rfl)) rfl rfl ?_
    refine hk_y (fun Y HY => y_add rfl rfl rfl (wi (by omega))) rfl rfl ?_
    refine hk_y (fun Y HY => y_iar (i := q1 + 1) ((R.row.below HY.base)) rfl rfl rfl kflaw20_12 (rfl) (by omega) (Nat.mul_one _) (hr2)) rfl rfl ?_
    refine hk_y (fun Y HY => y_ldr ((R.row.below HY.base)) rfl rfl kflaw20_13 (hr2)) rfl rfl ?_
    refine hk_y (fun Y HY => y_asg rfl rfl) rfl rfl ?_
    refine hk_y (fun Y HY => y_asg rfl rfl) rfl rfl ?_
    refine hk_nil ?_
    intro w8 H9
    refine tv_nil ?_
    refine fn_next ?_
    refine cw_seq ?_
    refine cw_draw H9 [0, 1, 2, 3, 4, 5, 6, 7, 8, 9, 10, 11, 12, 13, 14, 15, 16, 17, 18, 19, 20, 21, 22, 23, 24, 25, 26] [] (fun X HX => HX) (by kernel_rfl) (by kernel_rfl) (by rfl) ?_
    simp only [pick, List.getElem?_cons_succ, List.getElem?_cons_zero]
    refine hk_y (fun Y HY => y_mov rfl rfl) rfl rfl ?_
    refine hk_y (fun Y HY => y_fa rfl rfl kflaw20_17 rfl) rfl rfl ?_
    refine hk_y (fun Y HY => y_ld rfl rfl kflaw20_3 (HY.cell (i := 0) rfl rfl)) rfl rfl ?_
    refine hk_y (fun Y HY => y_add rfl rfl rfl (wi (by omega))) rfl rfl ?_
    refine hk_y (fun Y HY => y_iar (i := p1 + 1) ((hR2.below HY.base)) rfl rfl rfl kflaw20_14 (rfl) (by omega) (Nat.mul_one _) (hg1)) rfl rfl ?_
    refine hk_y (fun Y HY => y_ldr ((hR2.below HY.base)) rfl rfl kflaw20_3 (hg1)) rfl rfl ?_
    refine hk_y (fun Y HY => y_mov rfl rfl) rfl rfl ?_
    refine hk_y (fun Y HY => y_fa rfl rfl kflaw20_18 rfl) rfl rfl ?_
    refine hk_y (fun Y HY => y_ld rfl rfl kflaw20_3 (HY.cell (i := 0) rfl rfl)) rfl rfl ?_
    refine hk_y (fun Y HY => y_iar (i := p0) ((hR2.below HY.base)) rfl rfl rfl kflaw20_14 (rfl) (by omega) (Nat.mul_one _) (hg2)) rfl rfl ?_
    refine hk_y (fun Y HY => y_ldr ((hR2.below HY.base)) rfl rfl kflaw20_3 (hg2)) rfl rfl ?_
    refine hk_y (fun Y HY => y_sub rfl rfl rfl (wi (by omega))) rfl rfl ?_
    refine hk_y (fun Y HY => y_mov rfl rfl) rfl rfl ?_
    refine hk_y (fun Y HY => y_fa rfl rfl kflaw20_17 rfl) rfl rfl ?_
    refine hk_y (fun Y HY => y_ld rfl rfl kflaw20_3 (HY.cell (i := 0) rfl rfl)) rfl rfl ?_
    refine hk_y (fun Y HY => y_add rfl rfl rfl (wi (by omega))) rfl rfl ?_
    refine hk_y (fun Y HY => y_iar (i := p1 + 1) ((hR1.below HY.base)) rfl rfl rfl kflaw20_14 (rfl) (by omega) (Nat.mul_one _) (hg3)) rfl rfl ?_
    refine hk_y (fun Y HY => y_ldr ((hR1.below HY.base)) rfl rfl kflaw20_3 (hg3)) rfl rfl ?_
    refine hk_y (fun Y HY => y_sub rfl rfl rfl (wi (by omega))) rfl rfl ?_
    refine hk_y (fun Y HY => y_mov rfl rfl) rfl rfl ?_
    refine hk_y (fun Y HY => y_fa rfl rfl kflaw20_18 rfl) rfl rfl ?_
    refine hk_y (fun Y HY => y_ld rfl rfl kflaw20_3 (HY.cell (i := 0) rfl rfl)) rfl rfl ?_
    refine hk_y (fun Y HY => y_iar (i := p0) ((hR1.below HY.base)) rfl rfl rfl kflaw20_14 (rfl) (by omega) (Nat.mul_one _) (hg4)) rfl rfl ?_
    refine hk_y (fun Y HY => y_ldr ((hR1.below HY.base)) rfl rfl kflaw20_3 (hg4)) rfl rfl ?_
    refine hk_y (fun Y HY => y_add rfl rfl rfl (wi (by omega))) rfl rfl ?_
    refine hk_y (fun Y HY => y_asg rfl rfl) rfl rfl ?_
    refine hk_y (fun Y HY => y_asg rfl rfl) rfl rfl ?_
    refine hk_nil ?_
    intro w10 H11
    refine tv_nil ?_
    refine fn_next ?_
    refine cw_ret ?_
    refine fn_retn (vs := [_, _]) rfl ⟨rfl, rfl, trivial⟩ rfl ?_
    exact ⟨rfl, H11.base⟩

theorem tm_bd (x n : Int) (h : 0 < n) : -n < x.tmod n ∧ x.tmod n < n := by
  have h1 := Int.tmod_lt_of_pos x h
  have h2 := Int.lt_tmod_of_pos x h
  omega
theorem td_bd (x n B : Int) (h : 0 < n) (hb : -B ≤ x ∧ x ≤ B) : -B ≤ x.tdiv n ∧ x.tdiv n ≤ B := by
  have h1 : (x.tdiv n).natAbs ≤ x.natAbs := Int.natAbs_tdiv_le_natAbs x n
  omega

set_option maxRecDepth 100000 in
theorem tabMean (t a h : Nat) (A : Option Addr) (cap : Nat) (rs : List Value) (P : Nat → List Int) (p0 q0 p1 q1 : Nat) (w : World) (s : SzG a h) (R : TR w t a h A cap rs P) (h1 : p0 ≤ p1) (h2 : p1 < a) (h3 : q0 ≤ q1) (h4 : q1 < h) (hB : TB P) :
    Ret Try.prog 68 [pt (some ⟨t, 0, none⟩) 0, .agg #[.int .i64 (p0 : Int), .int .i64 (q0 : Int), .int .i64 (p1 : Int), .int .i64 (q1 : Int)]] w (fun v w' => v = .tuple #[.int .i64 ((tbV P p0 q0 p1 q1 - ((tbV P p0 q0 p1 q1).tmod (((q1 + 1 - q0) * (p1 + 1 - p0) : Nat) : Int) + (((q1 + 1 - q0) * (p1 + 1 - p0) : Nat) : Int)).tmod (((q1 + 1 - q0) * (p1 + 1 - p0) : Nat) : Int)).tdiv (((q1 + 1 - q0) * (p1 + 1 - p0) : Nat) : Int)), .int .i64 0] ∧ Below w.heap.size w w') := by
  obtain ⟨s1, s2, s3, s4⟩ := id s
  have hnm : (q1 + 1 - q0) * (p1 + 1 - p0) ≤ 1024 * 1024 := Nat.mul_le_mul (by omega) (by omega)
  have hn1 : 1 * 1 ≤ (q1 + 1 - q0) * (p1 + 1 - p0) := Nat.mul_le_mul (by omega) (by omega)
  have b1 := hB (q1 + 1) (p1 + 1)
  have b2 := hB (q1 + 1) p0
  have b3 := hB q0 (p1 + 1)
  have b4 := hB q0 p0
  have hsb : -4000000000000000 ≤ tbV P p0 q0 p1 q1 ∧ tbV P p0 q0 p1 q1 ≤ 4000000000000000 := by unfold tbV; omega
  have m1 := tm_bd (tbV P p0 q0 p1 q1) (((q1 + 1 - q0) * (p1 + 1 - p0) : Nat) : Int) (by omega)
  have m2 := tm_bd ((tbV P p0 q0 p1 q1).tmod (((q1 + 1 - q0) * (p1 + 1 - p0) : Nat) : Int) + (((q1 + 1 - q0) * (p1 + 1 - p0) : Nat) : Int)) (((q1 + 1 - q0) * (p1 + 1 - p0) : Nat) : Int) (by omega)
  have m3 := td_bd (tbV P p0 q0 p1 q1 - ((tbV P p0 q0 p1 q1).tmod (((q1 + 1 - q0) * (p1 + 1 - p0) : Nat) : Int) + (((q1 + 1 - q0) * (p1 + 1 - p0) : Nat) : Int)).tmod (((q1 + 1 - q0) * (p1 + 1 - p0) : Nat) : Int)) (((q1 + 1 - q0) * (p1 + 1 - p0) : Nat) : Int) 5000000000000000 (by omega) (by omega)
  refine ret_enter Try.func68 rfl rfl rfl ?_
  have H0 := HS.start w
  refine cw_seq ?_
  refine cw_reg ?_
  refine reg_op (op_box (cs := [.int _ _, .int _ _, .int _ _, .int _ _]) H0 rfl rfl rfl) rfl rfl ?_
  rintro _ w2 ⟨b1, rfl, H3⟩
  refine ry (y_asg rfl rfl) rfl rfl ?_
  refine ry (y_asg rfl rfl) rfl rfl ?_
  refine reg_nil ?_
  refine fn_next ?_
  refine cw_seq ?_
  refine cw_reg ?_
  refine ry (y_mov rfl rfl) rfl rfl ?_
  refine ry (y_ldb (i := 0) (cs := [_, _, _, _]) H3 rfl rfl kflaw20_1 rfl rfl) rfl rfl ?_
  refine reg_op (op_call (tabSum t a h A cap rs P p0 q0 p1 q1 _ s (R.below H3.base) h1 h2 h3 h4 hB) rfl kflaw20_19 ⟨rfl, rfl, trivial⟩) rfl rfl ?_
  rintro _ w5 ⟨rfl, e4⟩
  have H6 := H3.ext e4
  refine ry (y_mov rfl rfl) rfl rfl ?_
  refine ry (y_ext rfl rfl rfl) rfl rfl ?_
  refine ry (y_ext rfl rfl rfl) rfl rfl ?_
  refine ry (y_asg rfl rfl) rfl rfl ?_
  refine ry (y_asg rfl rfl) rfl rfl ?_
  refine reg_nil ?_
  refine fn_next ?_
  refine cw_seq ?_
  refine cw_seq ?_
  refine cw_reg ?_
  refine ry (y_mov rfl rfl) rfl rfl ?_
  refine ry (y_neq rfl rfl rfl) rfl rfl ?_
  refine reg_nil ?_
  refine fn_next ?_
  refine cw_condd rfl (fun h7 => ?_) (fun h7 => ?_)
  · exact absurd rfl h7
  · skip
    refine cw_skip ?_
    refine fn_next ?_
    refine cw_seq ?_
    refine cw_reg ?_
    refine ry (y_ldb (i := 0) (cs := [_, _, _, _]) H6 rfl rfl kflaw20_1 rfl rfl) rfl rfl ?_
    refine reg_op (op_call (ret_v (v := .int .i64 (((q1 + 1 - q0) * (p1 + 1 - p0) : Nat) : Int)) (ret_elder (area_any p0 q0 p1 q1 _)) (by rw [areaI_nat h1 (by omega) h3 (by omega)])) rfl kflaw20_20 ⟨rfl, trivial⟩) rfl rfl ?_
    rintro _ w9 ⟨rfl, e8⟩
    have H10 := H6.ext e8
    refine ry (y_asg rfl rfl) rfl rfl ?_
    refine reg_nil ?_
    refine fn_next ?_
    refine cw_seq ?_
    refine cw_reg ?_
    refine ry (y_mov rfl rfl) rfl rfl ?_
    refine ry (y_mov rfl rfl) rfl rfl ?_
    refine ry (y_rem rfl rfl rfl (by omega) (rfl)) rfl rfl ?_
    refine ry (y_mov rfl rfl) rfl rfl ?_
    refine ry (y_add rfl rfl rfl (wi (by omega))) rfl rfl ?_
    refine ry (y_mov rfl rfl) rfl rfl ?_
    refine ry (y_rem rfl rfl rfl (by omega) (rfl)) rfl rfl ?_
    refine ry (y_asg rfl rfl) rfl rfl ?_
    refine reg_nil ?_
    refine fn_next ?_
    refine cw_seq ?_
    refine cw_reg ?_
    refine ry (y_mov rfl rfl) rfl rfl ?_
    refine ry (y_mov rfl rfl) rfl rfl ?_
    refine ry (y_sub rfl rfl rfl (wi (by omega))) rfl rfl ?_
    refine ry (y_mov rfl rfl) rfl rfl ?_
    refine ry (y_quo rfl rfl rfl (by omega) (wi (by omega))) rfl rfl ?_
    refine ry (y_asg rfl rfl) rfl rfl ?_
    refine ry (y_asg rfl rfl) rfl rfl ?_
    refine reg_nil ?_
    refine fn_next ?_
    refine cw_ret ?_
    refine fn_retn (vs := [_, _]) rfl ⟨rfl, rfl, trivial⟩ rfl ?_
    exact ⟨rfl, H10.base⟩

set_option maxRecDepth 100000 in
theorem tabBuild (g : Nat) (w : World) (R : GRd w g 3 1 [3, 4, -8]) :
    Ret Try.prog 64 [.pointer (some ⟨g, 0, none⟩)] w (fun z w' => ∃ t, z = .tuple #[.pointer (some ⟨t, 0, none⟩), .int .i64 0] ∧ ∃ A cap rs, TR w' t 3 1 A cap rs (fun y => if y = 0 then [0, 0, 0, 0] else [0, 3, 7, -1]) ∧ Below w.heap.size w w') := by
  refine ret_enter Try.func64 rfl rfl rfl ?_
  have H0 := HS.start w
  refine cw_seq ?_
  refine cw_reg ?_
  refine ry (y_asg rfl rfl) rfl rfl ?_
  refine ry (y_asg rfl rfl) rfl rfl ?_
  refine reg_nil ?_
  refine fn_next ?_
  refine cw_seq ?_
  refine cw_seq ?_
  refine cw_reg ?_
  refine ry (y_mov rfl rfl) rfl rfl ?_
  refine ry (y_peqlnil rfl Try.underlying74 rfl rfl) rfl rfl ?_
  refine reg_nil ?_
  refine fn_next ?_
  refine cw_condf rfl ?_
  refine cw_skip ?_
  refine fn_next ?_
  refine cw_seq ?_
  refine cw_reg ?_
  refine ry (y_mov rfl rfl) rfl rfl ?_
  refine reg_op (op_call (gSize g 3 1 ([3, 4, -8])  _ (R.below H0.base)) rfl kflaw20_21 ⟨rfl, trivial⟩) rfl rfl ?_
  rintro _ w2 ⟨rfl, e1⟩
  have H3 := H0.ext e1
  refine ry (y_mov rfl rfl) rfl rfl ?_
  refine ry (y_ext rfl rfl rfl) rfl rfl ?_
  refine ry (y_ext rfl rfl rfl) rfl rfl ?_
  refine ry (y_asg rfl rfl) rfl rfl ?_
  refine ry (y_asg rfl rfl) rfl rfl ?_
  refine reg_nil ?_
  refine fn_next ?_
  refine cw_seq ?_
  refine cw_reg ?_
  refine ry (y_mov rfl rfl) rfl rfl ?_
  refine ry (y_mov rfl rfl) rfl rfl ?_
  refine ry (y_mov rfl rfl) rfl rfl ?_
  refine ry (y_add rfl rfl rfl (wi (by omega))) rfl rfl ?_
  refine reg_op (op_make (m := 4) H3 rfl rfl rfl (rfl) (rfl) Try.underlying32 kflaw20_22 (by decide) (by decide)) rfl rfl ?_
  rintro _ w5 ⟨b4, rfl, H6⟩
  refine reg_op (op_lit (parts := [(0, _)]) (vs := [(0, _)]) (cs := [.slice _ _ _]) H6 rfl Try.underlying149 kflaw20_23 rfl ⟨rfl, trivial⟩ rfl rfl) rfl rfl ?_
  rintro _ w8 ⟨b7, rfl, H9⟩
  have H10 := H9.asrow (m := 1) (size := 1) rfl (by decide)
  refine ry (y_build (places := [(0, 1), (1, 1), (2, 1)]) (parts := [(0, _), (1, _), (2, _)]) (vs := [(0, _), (1, _), (2, _)]) (cs := [.int _ _, .int _ _, .slice _ _ _]) rfl Try.underlying151 (by kernel_rfl) kflaw20_24 rfl ⟨rfl, rfl, rfl, trivial⟩ rfl) rfl rfl ?_
  refine reg_op (op_box (cs := [.int _ _, .int _ _, .slice _ _ _]) H10 rfl rfl rfl) rfl rfl ?_
  rintro _ w12 ⟨b11, rfl, H13⟩
  refine ry (y_asg rfl rfl) rfl rfl ?_
  refine reg_nil ?_
  refine fn_next ?_
  refine cw_seq ?_
  refine cw_seq ?_
  refine cw_reg ?_
  refine ry (y_mov rfl rfl) rfl rfl ?_
  refine ry (y_mov rfl rfl) rfl rfl ?_
  refine reg_nil ?_
  refine fn_next ?_
  refine cw_block ?_
  refine cw_loopR 2 ?_
  rw [vi_zero] at H13
  refine cw_seq ?_
  refine cw_reg ?_
  refine ry (y_lss rfl rfl rfl) rfl rfl ?_
  refine reg_nil ?_
  refine fn_next ?_
  refine cw_seq ?_
  refine cw_condd rfl (fun h14 => ?_) (fun h14 => ?_)
  · skip
    refine cw_skip ?_
    refine fn_next ?_
    refine cw_seq ?_
    refine cw_block ?_
    refine cw_seq ?_
    refine cw_reg ?_
    refine ry (y_mov rfl rfl) rfl rfl ?_
    refine ry (y_asg rfl rfl) rfl rfl ?_
    refine reg_nil ?_
    refine fn_next ?_
    refine cw_seq ?_
    refine cw_reg ?_
    refine ry (y_mov rfl rfl) rfl rfl ?_
    refine ry (y_mov rfl rfl) rfl rfl ?_
    refine ry (y_mov rfl rfl) rfl rfl ?_
    refine ry (y_sub rfl rfl rfl (wi (by omega))) rfl rfl ?_
    refine ry (y_mov rfl rfl) rfl rfl ?_
    refine ry (y_build (places := [(0, 1), (1, 1), (2, 1), (3, 1)]) (parts := [(0, _), (1, _), (2, _), (3, _)]) (vs := [(0, _), (1, _), (2, _), (3, _)]) (cs := [.int _ _, .int _ _, .int _ _, .int _ _]) rfl Try.underlying24 (by kernel_rfl) kflaw20_8 rfl ⟨rfl, rfl, rfl, rfl, trivial⟩ rfl) rfl rfl ?_
    refine reg_op (op_call (gValuesAll g 3 1 ([3, 4, -8]) _ (R.below H13.base)) rfl kflaw20_25 ⟨rfl, rfl, trivial⟩) rfl rfl ?_
    rintro _ w16 ⟨A18, c19, rfl, k15⟩
    have H17 := H13.call k15
    refine ry (y_mov rfl rfl) rfl rfl ?_
    refine ry (y_ext rfl rfl rfl) rfl rfl ?_
    refine ry (y_ext rfl rfl rfl) rfl rfl ?_
    refine ry (y_asg rfl rfl) rfl rfl ?_
    refine ry (y_asg rfl rfl) rfl rfl ?_
    refine reg_nil ?_
    refine fn_next ?_
    refine cw_seq ?_
    refine cw_reg ?_
    refine ry (y_mov rfl rfl) rfl rfl ?_
    refine ry (y_add rfl rfl rfl (wi (by omega))) rfl rfl ?_
    refine reg_op (op_mkn (k := 1) (m := 4) H17 rfl rfl rfl (rfl) (rfl) (by omega) Try.underlying32 kflaw20_22 (by decide) (by decide)) rfl rfl ?_
    rintro _ w21 ⟨b20, rfl, H22⟩
    refine ry (y_asg rfl rfl) rfl rfl ?_
    refine reg_nil ?_
    refine fn_next ?_
    refine cw_seq ?_
    refine cw_reg ?_
    refine ry (y_asg rfl rfl) rfl rfl ?_
    refine reg_nil ?_
    refine fn_next ?_
    refine cw_seq ?_
    refine cw_seq ?_
    refine cw_reg ?_
    refine ry (y_mov rfl rfl) rfl rfl ?_
    refine ry (y_len rfl Try.underlying32 rfl) rfl rfl ?_
    refine ry (y_mov rfl rfl) rfl rfl ?_
    refine reg_nil ?_
    refine fn_next ?_
    refine cw_block ?_
    refine cw_loopR 4 ?_
    rw [vi_zero] at H22
    refine cw_seq ?_
    refine cw_reg ?_
    refine ry (y_lss rfl rfl rfl) rfl rfl ?_
    refine reg_nil ?_
    refine fn_next ?_
    refine cw_seq ?_
    refine cw_condd rfl (fun h23 => ?_) (fun h23 => ?_)
    · skip
      refine cw_skip ?_
      refine fn_next ?_
      refine cw_seq ?_
      refine cw_block ?_
      refine cw_seq ?_
      refine cw_reg ?_
      refine ry (y_mov rfl rfl) rfl rfl ?_
      refine ry (y_iar (i := 0) (H22.rd (i := 1) rfl) rfl rfl rfl kflaw20_14 (by decide) (by decide) (Nat.mul_one _) (rfl)) rfl rfl ?_
      refine ry (y_ldr (H22.rd (i := 1) rfl) rfl rfl kflaw20_3 (rfl)) rfl rfl ?_
      refine ry (y_asg rfl rfl) rfl rfl ?_
      refine ry (y_asg rfl rfl) rfl rfl ?_
      refine reg_nil ?_
      refine fn_next ?_
      refine cw_seq ?_
      refine cw_reg ?_
      refine ry (y_mov rfl rfl) rfl rfl ?_
      refine ry (y_mov rfl rfl) rfl rfl ?_
      refine ry (y_add rfl rfl rfl (show _ = (3 : Int) from by decide)) rfl rfl ?_
      refine ry (y_asg rfl rfl) rfl rfl ?_
      refine reg_nil ?_
      refine fn_next ?_
      refine cw_reg ?_
      refine ry (y_mov rfl rfl) rfl rfl ?_
      refine ry (y_mov rfl rfl) rfl rfl ?_
      refine ry (y_mov rfl rfl) rfl rfl ?_
      refine ry (y_nilck rfl rfl) rfl rfl ?_
      refine ry (y_fa rfl rfl kflaw20_10 rfl) rfl rfl ?_
      refine ry (y_ld rfl rfl kflaw20_11 (H22.cell (i := 2) rfl rfl)) rfl rfl ?_
      refine ry (y_mov rfl rfl) rfl rfl ?_
      refine ry (y_iar (i := 0) (H22.rd (i := 3) rfl) rfl rfl rfl kflaw20_12 (rfl) (by decide) (Nat.mul_one _) (rfl)) rfl rfl ?_
      refine ry (y_ldr (H22.rd (i := 3) rfl) rfl rfl kflaw20_13 (rfl)) rfl rfl ?_
      refine ry (y_mov rfl rfl) rfl rfl ?_
      refine ry (y_add rfl rfl rfl (wi (by omega))) rfl rfl ?_
      refine ry (y_iar (i := 1) (H22.rd (i := 4) rfl) rfl rfl rfl kflaw20_14 (by decide) (by decide) (Nat.mul_one _) (rfl)) rfl rfl ?_
      refine ry (y_ldr (H22.rd (i := 4) rfl) rfl rfl kflaw20_3 (rfl)) rfl rfl ?_
      refine ry (y_add rfl rfl rfl (show _ = (3 : Int) from by decide)) rfl rfl ?_
      refine reg_op (op_lit (parts := [(0, _)]) (vs := [(0, _)]) (cs := [.int _ _]) H22 rfl Try.underlying32 kflaw20_26 rfl ⟨rfl, trivial⟩ rfl rfl) rfl rfl ?_
      rintro _ w25 ⟨b24, rfl, H26⟩
      have H27 := H26.asrow (m := 1) (size := 1) rfl (by decide)
      refine reg_op (op_app (i := 1) H27 rfl rfl rfl rfl (H27.rd (i := 0) rfl) (rfl) (rfl) Try.underlying32 kflaw20_22 rfl rfl (by decide) (by decide)) rfl rfl ?_
      rintro _ w30 ⟨A28, c29, rfl, H31⟩
      refine ry (y_asg rfl rfl) rfl rfl ?_
      refine reg_nil ?_
      refine fn_block ?_
      refine fn_next ?_
      refine cw_reg ?_
      refine ry (y_add rfl rfl rfl (wi (by omega))) rfl rfl ?_
      refine ry (y_mov rfl rfl) rfl rfl ?_
      refine reg_nil ?_
      refine fn_roundR ?_
      refine cw_seq ?_
      refine cw_reg ?_
      refine ry (y_lss rfl rfl rfl) rfl rfl ?_
      refine reg_nil ?_
      refine fn_next ?_
      refine cw_seq ?_
      refine cw_condd rfl (fun h32 => ?_) (fun h32 => ?_)
      · skip
        refine cw_skip ?_
        refine fn_next ?_
        refine cw_seq ?_
        refine cw_block ?_
        refine cw_seq ?_
        refine cw_reg ?_
        refine ry (y_mov rfl rfl) rfl rfl ?_
        refine ry (y_iar (i := 1) (H31.rd (i := 2) rfl) rfl rfl rfl kflaw20_14 (by decide) (by decide) (Nat.mul_one _) (rfl)) rfl rfl ?_
        refine ry (y_ldr (H31.rd (i := 2) rfl) rfl rfl kflaw20_3 (rfl)) rfl rfl ?_
        refine ry (y_asg rfl rfl) rfl rfl ?_
        refine ry (y_asg rfl rfl) rfl rfl ?_
        refine reg_nil ?_
        refine fn_next ?_
        refine cw_seq ?_
        refine cw_reg ?_
        refine ry (y_mov rfl rfl) rfl rfl ?_
        refine ry (y_mov rfl rfl) rfl rfl ?_
        refine ry (y_add rfl rfl rfl (show _ = (7 : Int) from by decide)) rfl rfl ?_
        refine ry (y_asg rfl rfl) rfl rfl ?_
        refine reg_nil ?_
        refine fn_next ?_
        refine cw_reg ?_
        refine ry (y_mov rfl rfl) rfl rfl ?_
        refine ry (y_mov rfl rfl) rfl rfl ?_
        refine ry (y_mov rfl rfl) rfl rfl ?_
        refine ry (y_nilck rfl rfl) rfl rfl ?_
        refine ry (y_fa rfl rfl kflaw20_10 rfl) rfl rfl ?_
        refine ry (y_ld rfl rfl kflaw20_11 (H31.cell (i := 3) rfl rfl)) rfl rfl ?_
        refine ry (y_mov rfl rfl) rfl rfl ?_
        refine ry (y_iar (i := 0) (H31.rd (i := 4) rfl) rfl rfl rfl kflaw20_12 (rfl) (by decide) (Nat.mul_one _) (rfl)) rfl rfl ?_
        refine ry (y_ldr (H31.rd (i := 4) rfl) rfl rfl kflaw20_13 (rfl)) rfl rfl ?_
        refine ry (y_mov rfl rfl) rfl rfl ?_
        refine ry (y_add rfl rfl rfl (wi (by omega))) rfl rfl ?_
        refine ry (y_iar (i := 2) (H31.rd (i := 5) rfl) rfl rfl rfl kflaw20_14 (by decide) (by decide) (Nat.mul_one _) (rfl)) rfl rfl ?_
        refine ry (y_ldr (H31.rd (i := 5) rfl) rfl rfl kflaw20_3 (rfl)) rfl rfl ?_
        refine ry (y_add rfl rfl rfl (show _ = (7 : Int) from by decide)) rfl rfl ?_
        refine reg_op (op_lit (parts := [(0, _)]) (vs := [(0, _)]) (cs := [.int _ _]) H31 rfl Try.underlying32 kflaw20_26 rfl ⟨rfl, trivial⟩ rfl rfl) rfl rfl ?_
        rintro _ w34 ⟨b33, rfl, H35⟩
        have H36 := H35.asrow (m := 1) (size := 1) rfl (by decide)
        refine reg_op (op_app (i := 2) H36 rfl rfl rfl rfl (H36.rd (i := 0) rfl) (rfl) (rfl) Try.underlying32 kflaw20_22 rfl rfl (by decide) (by decide)) rfl rfl ?_
        rintro _ w39 ⟨A37, c38, rfl, H40⟩
        refine ry (y_asg rfl rfl) rfl rfl ?_
        refine reg_nil ?_
        refine fn_block ?_
        refine fn_next ?_
        refine cw_reg ?_
        refine ry (y_add rfl rfl rfl (wi (by omega))) rfl rfl ?_
        refine ry (y_mov rfl rfl) rfl rfl ?_
        refine reg_nil ?_
        refine fn_roundR ?_
        refine cw_seq ?_
        refine cw_reg ?_
        refine ry (y_lss rfl rfl rfl) rfl rfl ?_
        refine reg_nil ?_
        refine fn_next ?_
        refine cw_seq ?_
        refine cw_condd rfl (fun h41 => ?_) (fun h41 => ?_)
        · skip
          refine cw_skip ?_
          refine fn_next ?_
          refine cw_seq ?_
          refine cw_block ?_
          refine cw_seq ?_
          refine cw_reg ?_
          refine ry (y_mov rfl rfl) rfl rfl ?_
          refine ry (y_iar (i := 2) (H40.rd (i := 3) rfl) rfl rfl rfl kflaw20_14 (by decide) (by decide) (Nat.mul_one _) (rfl)) rfl rfl ?_
          refine ry (y_ldr (H40.rd (i := 3) rfl) rfl rfl kflaw20_3 (rfl)) rfl rfl ?_
          refine ry (y_asg rfl rfl) rfl rfl ?_
          refine ry (y_asg rfl rfl) rfl rfl ?_
          refine reg_nil ?_
          refine fn_next ?_
          refine cw_seq ?_
          refine cw_reg ?_
          refine ry (y_mov rfl rfl) rfl rfl ?_
          refine ry (y_mov rfl rfl) rfl rfl ?_
          refine ry (y_add rfl rfl rfl (show _ = (-1 : Int) from by decide)) rfl rfl ?_
          refine ry (y_asg rfl rfl) rfl rfl ?_
          refine reg_nil ?_
          refine fn_next ?_
          refine cw_reg ?_
          refine ry (y_mov rfl rfl) rfl rfl ?_
          refine ry (y_mov rfl rfl) rfl rfl ?_
          refine ry (y_mov rfl rfl) rfl rfl ?_
          refine ry (y_nilck rfl rfl) rfl rfl ?_
          refine ry (y_fa rfl rfl kflaw20_10 rfl) rfl rfl ?_
          refine ry (y_ld rfl rfl kflaw20_11 (H40.cell (i := 4) rfl rfl)) rfl rfl ?_
          refine ry (y_mov rfl rfl) rfl rfl ?_
          refine ry (y_iar (i := 0) (H40.rd (i := 5) rfl) rfl rfl rfl kflaw20_12 (rfl) (by decide) (Nat.mul_one _) (rfl)) rfl rfl ?_
          refine ry (y_ldr (H40.rd (i := 5) rfl) rfl rfl kflaw20_13 (rfl)) rfl rfl ?_
          refine ry (y_mov rfl rfl) rfl rfl ?_
          refine ry (y_add rfl rfl rfl (wi (by omega))) rfl rfl ?_
          refine ry (y_iar (i := 3) (H40.rd (i := 6) rfl) rfl rfl rfl kflaw20_14 (by decide) (by decide) (Nat.mul_one _) (rfl)) rfl rfl ?_
          refine ry (y_ldr (H40.rd (i := 6) rfl) rfl rfl kflaw20_3 (rfl)) rfl rfl ?_
          refine ry (y_add rfl rfl rfl (show _ = (-1 : Int) from by decide)) rfl rfl ?_
          refine reg_op (op_lit (parts := [(0, _)]) (vs := [(0, _)]) (cs := [.int _ _]) H40 rfl Try.underlying32 kflaw20_26 rfl ⟨rfl, trivial⟩ rfl rfl) rfl rfl ?_
          rintro _ w43 ⟨b42, rfl, H44⟩
          have H45 := H44.asrow (m := 1) (size := 1) rfl (by decide)
          refine reg_op (op_app (i := 3) H45 rfl rfl rfl rfl (H45.rd (i := 0) rfl) (rfl) (rfl) Try.underlying32 kflaw20_22 rfl rfl (by decide) (by decide)) rfl rfl ?_
          rintro _ w48 ⟨A46, c47, rfl, H49⟩
          refine ry (y_asg rfl rfl) rfl rfl ?_
          refine reg_nil ?_
          refine fn_block ?_
          refine fn_next ?_
          refine cw_reg ?_
          refine ry (y_add rfl rfl rfl (wi (by omega))) rfl rfl ?_
          refine ry (y_mov rfl rfl) rfl rfl ?_
          refine reg_nil ?_
          refine fn_roundR ?_
          refine cw_seq ?_
          refine cw_reg ?_
          refine ry (y_lss rfl rfl rfl) rfl rfl ?_
          refine reg_nil ?_
          refine fn_next ?_
          refine cw_seq ?_
          refine cw_condd rfl (fun h50 => ?_) (fun h50 => ?_)
          · exact absurd h50 (by decide)
          · skip
            refine cw_exit ?_
            refine fn_then_exit (fn_then_exit (fn_block_exit ?_))
            refine fn_next ?_
            refine cw_reg ?_
            refine ry (y_mov rfl rfl) rfl rfl ?_
            refine ry (y_mov rfl rfl) rfl rfl ?_
            refine ry (y_nilck rfl rfl) rfl rfl ?_
            refine ry (y_fa rfl rfl kflaw20_10 rfl) rfl rfl ?_
            refine ry (y_ld rfl rfl kflaw20_11 (H49.cell (i := 5) rfl rfl)) rfl rfl ?_
            refine ry (y_mov rfl rfl) rfl rfl ?_
            refine reg_op (op_lit (parts := [(0, _)]) (vs := [(0, _)]) (cs := [.slice _ _ _]) H49 rfl Try.underlying149 kflaw20_23 rfl ⟨rfl, trivial⟩ rfl rfl) rfl rfl ?_
            rintro _ w52 ⟨b51, rfl, H53⟩
            have H54 := H53.asrow (m := 1) (size := 1) rfl (by decide)
            refine reg_op (op_app (i := 7) H54 rfl rfl rfl rfl (H54.rd (i := 0) rfl) (rfl) (rfl) Try.underlying149 kflaw20_27 rfl rfl (by decide) (by decide)) rfl rfl ?_
            rintro _ w57 ⟨A55, c56, rfl, H58⟩
            refine ry (y_nilck rfl rfl) rfl rfl ?_
            refine ry (y_fa rfl rfl kflaw20_10 rfl) rfl rfl ?_
            refine reg_op (op_st (i := 6) (vs := [.slice _ _ _]) H58 rfl rfl rfl rfl rfl kflaw20_28 rfl rfl rfl) rfl rfl ?_
            rintro _ w59 H60
            refine reg_nil ?_
            refine fn_block ?_
            refine fn_next ?_
            refine cw_reg ?_
            refine ry (y_add rfl rfl rfl (wi (by omega))) rfl rfl ?_
            refine ry (y_mov rfl rfl) rfl rfl ?_
            refine reg_nil ?_
            refine fn_roundR ?_
            refine cw_seq ?_
            refine cw_reg ?_
            refine ry (y_lss rfl rfl rfl) rfl rfl ?_
            refine reg_nil ?_
            refine fn_next ?_
            refine cw_seq ?_
            refine cw_condd rfl (fun h61 => ?_) (fun h61 => ?_)
            · exact absurd h61 (by decide)
            · skip
              refine cw_exit ?_
              refine fn_then_exit (fn_then_exit (fn_block_exit ?_))
              refine fn_next ?_
              refine cw_seq ?_
              refine cw_reg ?_
              refine ry (y_mov rfl rfl) rfl rfl ?_
              refine ry (y_asg rfl rfl) rfl rfl ?_
              refine ry (y_asg rfl rfl) rfl rfl ?_
              refine reg_nil ?_
              refine fn_next ?_
              refine cw_ret ?_
              refine fn_retn (vs := [_, _]) rfl ⟨rfl, rfl, trivial⟩ rfl ?_
              refine ⟨_, rfl, _, _, _, ⟨H60.rdb (i := 6) rfl, H60.rd (i := 7) rfl, fun y hy => ?_⟩, H60.base⟩
              match y, hy with
              | 0, _ => exact ⟨_, _, rfl, H60.rd (i := 8) rfl, rfl⟩
              | 1, _ => exact ⟨_, _, rfl, H60.rd (i := 4) rfl, rfl⟩
        · exact absurd (by decide) h41
      · exact absurd (by decide) h32
    · exact absurd (by decide) h23
  · exact absurd (by decide) h14

set_option maxRecDepth 100000 in
theorem tabNil_Size  (w : World) :
    Ret Try.prog 65 [.pointer none] w (fun v w' => v = .tuple #[.int .i64 0, .int .i64 0] ∧ Below w.heap.size w w') := by
  refine ret_enter Try.func65 rfl rfl rfl ?_
  have H0 := HS.start w
  refine cw_seq ?_
  refine cw_reg ?_
  refine ry (y_asg rfl rfl) rfl rfl ?_
  refine ry (y_asg rfl rfl) rfl rfl ?_
  refine reg_nil ?_
  refine fn_next ?_
  refine cw_seq ?_
  refine cw_seq ?_
  refine cw_reg ?_
  refine ry (y_mov rfl rfl) rfl rfl ?_
  refine ry (y_peqlnil rfl Try.underlying100 rfl rfl) rfl rfl ?_
  refine reg_nil ?_
  refine fn_next ?_
  refine cw_condt rfl ?_
  refine cw_seq ?_
  refine cw_reg ?_
  refine ry (y_asg rfl rfl) rfl rfl ?_
  refine ry (y_asg rfl rfl) rfl rfl ?_
  refine reg_nil ?_
  refine fn_next ?_
  refine cw_ret ?_
  refine fn_then_ret ?_
  refine fn_retn (vs := [_, _]) rfl ⟨rfl, rfl, trivial⟩ rfl ?_
  exact ⟨rfl, H0.base⟩

set_option maxRecDepth 100000 in
theorem tabNil_check (x0 y0 x1 y1 : Int) (w : World) :
    Ret Try.prog 107 [.pointer none, .agg #[.int .i64 x0, .int .i64 y0, .int .i64 x1, .int .i64 y1]] w (fun v w' => v = .int .i64 1 ∧ Below w.heap.size w w') := by
  refine ret_enter Try.func107 rfl rfl rfl ?_
  have H0 := HS.start w
  refine cw_seq ?_
  refine cw_reg ?_
  refine reg_op (op_box (cs := [.int _ _, .int _ _, .int _ _, .int _ _]) H0 rfl rfl rfl) rfl rfl ?_
  rintro _ w2 ⟨b1, rfl, H3⟩
  refine ry (y_asg rfl rfl) rfl rfl ?_
  refine reg_nil ?_
  refine fn_next ?_
  refine cw_seq ?_
  refine cw_seq ?_
  refine cw_reg ?_
  refine ry (y_mov rfl rfl) rfl rfl ?_
  refine ry (y_peqlnil rfl Try.underlying100 rfl rfl) rfl rfl ?_
  refine reg_nil ?_
  refine fn_next ?_
  refine cw_condt rfl ?_
  refine cw_seq ?_
  refine cw_reg ?_
  refine ry (y_asg rfl rfl) rfl rfl ?_
  refine reg_nil ?_
  refine fn_next ?_
  refine cw_ret ?_
  refine fn_then_ret ?_
  refine fn_ret1 rfl rfl ?_
  exact ⟨rfl, H3.base⟩

set_option maxRecDepth 100000 in
theorem tabNil_At (x y : Int) (w : World) :
    Ret Try.prog 66 [.pointer none, .agg #[.int .i64 x, .int .i64 y]] w (fun v w' => v = .tuple #[.int .i64 0, .int .i64 1] ∧ Below w.heap.size w w') := by
  refine ret_enter Try.func66 rfl rfl rfl ?_
  have H0 := HS.start w
  refine cw_seq ?_
  refine cw_reg ?_
  refine reg_op (op_box (cs := [.int _ _, .int _ _]) H0 rfl rfl rfl) rfl rfl ?_
  rintro _ w2 ⟨b1, rfl, H3⟩
  refine ry (y_asg rfl rfl) rfl rfl ?_
  refine ry (y_asg rfl rfl) rfl rfl ?_
  refine reg_nil ?_
  refine fn_next ?_
  refine cw_seq ?_
  refine cw_seq ?_
  refine cw_reg ?_
  refine ry (y_mov rfl rfl) rfl rfl ?_
  refine ry (y_fa rfl rfl kflaw20_6 rfl) rfl rfl ?_
  refine ry (y_ld rfl rfl kflaw20_3 (H3.cell (i := 0) rfl rfl)) rfl rfl ?_
  refine ry (y_fa rfl rfl kflaw20_7 rfl) rfl rfl ?_
  refine ry (y_ld rfl rfl kflaw20_3 (H3.cell (i := 0) rfl rfl)) rfl rfl ?_
  refine ry (y_fa rfl rfl kflaw20_6 rfl) rfl rfl ?_
  refine ry (y_ld rfl rfl kflaw20_3 (H3.cell (i := 0) rfl rfl)) rfl rfl ?_
  refine ry (y_fa rfl rfl kflaw20_7 rfl) rfl rfl ?_
  refine ry (y_ld rfl rfl kflaw20_3 (H3.cell (i := 0) rfl rfl)) rfl rfl ?_
  refine ry (y_build (places := [(0, 1), (1, 1), (2, 1), (3, 1)]) (parts := [(0, _), (1, _), (2, _), (3, _)]) (vs := [(0, _), (1, _), (2, _), (3, _)]) (cs := [.int _ _, .int _ _, .int _ _, .int _ _]) rfl Try.underlying24 (by kernel_rfl) kflaw20_8 rfl ⟨rfl, rfl, rfl, rfl, trivial⟩ rfl) rfl rfl ?_
  refine reg_op (op_call (tabNil_check _ _ _ _ _) rfl kflaw20_9 ⟨rfl, rfl, trivial⟩) rfl rfl ?_
  rintro _ w5 ⟨rfl, e4⟩
  have H6 := H3.ext e4
  refine ry (y_asg rfl rfl) rfl rfl ?_
  refine reg_nil ?_
  refine fn_next ?_
  refine cw_seq ?_
  refine cw_reg ?_
  refine ry (y_mov rfl rfl) rfl rfl ?_
  refine ry (y_neq rfl rfl rfl) rfl rfl ?_
  refine reg_nil ?_
  refine fn_next ?_
  refine cw_condd rfl (fun h7 => ?_) (fun h7 => ?_)
  · skip
    refine cw_seq ?_
    refine cw_reg ?_
    refine ry (y_mov rfl rfl) rfl rfl ?_
    refine ry (y_asg rfl rfl) rfl rfl ?_
    refine ry (y_asg rfl rfl) rfl rfl ?_
    refine reg_nil ?_
    refine fn_next ?_
    refine cw_ret ?_
    refine fn_then_ret ?_
    refine fn_retn (vs := [_, _]) rfl ⟨rfl, rfl, trivial⟩ rfl ?_
    exact ⟨rfl, H6.base⟩
  · exact absurd (by decide) h7

set_option maxRecDepth 100000 in
theorem tabNil_Sum (x0 y0 x1 y1 : Int) (w : World) :
    Ret Try.prog 67 [.pointer none, .agg #[.int .i64 x0, .int .i64 y0, .int .i64 x1, .int .i64 y1]] w (fun v w' => v = .tuple #[.int .i64 0, .int .i64 1] ∧ Below w.heap.size w w') := by
  refine ret_enter Try.func67 rfl rfl rfl ?_
  have H0 := HS.start w
  refine cw_seq ?_
  refine cw_reg ?_
  refine reg_op (op_box (cs := [.int _ _, .int _ _, .int _ _, .int _ _]) H0 rfl rfl rfl) rfl rfl ?_
  rintro _ w2 ⟨b1, rfl, H3⟩
  refine ry (y_asg rfl rfl) rfl rfl ?_
  refine ry (y_asg rfl rfl) rfl rfl ?_
  refine reg_nil ?_
  refine fn_next ?_
  refine cw_seq ?_
  refine cw_seq ?_
  refine cw_reg ?_
  refine ry (y_mov rfl rfl) rfl rfl ?_
  refine ry (y_ldb (i := 0) (cs := [_, _, _, _]) H3 rfl rfl kflaw20_1 rfl rfl) rfl rfl ?_
  refine reg_op (op_call (tabNil_check _ _ _ _ _) rfl kflaw20_9 ⟨rfl, rfl, trivial⟩) rfl rfl ?_
  rintro _ w5 ⟨rfl, e4⟩
  have H6 := H3.ext e4
  refine ry (y_asg rfl rfl) rfl rfl ?_
  refine reg_nil ?_
  refine fn_next ?_
  refine cw_seq ?_
  refine cw_reg ?_
  refine ry (y_mov rfl rfl) rfl rfl ?_
  refine ry (y_neq rfl rfl rfl) rfl rfl ?_
  refine reg_nil ?_
  refine fn_next ?_
  refine cw_condd rfl (fun h7 => ?_) (fun h7 => ?_)
  · skip
    refine cw_seq ?_
    refine cw_reg ?_
    refine ry (y_mov rfl rfl) rfl rfl ?_
    refine ry (y_asg rfl rfl) rfl rfl ?_
    refine ry (y_asg rfl rfl) rfl rfl ?_
    refine reg_nil ?_
    refine fn_next ?_
    refine cw_ret ?_
    refine fn_then_ret ?_
    refine fn_retn (vs := [_, _]) rfl ⟨rfl, rfl, trivial⟩ rfl ?_
    exact ⟨rfl, H6.base⟩
  · exact absurd (by decide) h7

set_option maxRecDepth 100000 in
theorem tabNil_Mean (x0 y0 x1 y1 : Int) (w : World) :
    Ret Try.prog 68 [.pointer none, .agg #[.int .i64 x0, .int .i64 y0, .int .i64 x1, .int .i64 y1]] w (fun v w' => v = .tuple #[.int .i64 0, .int .i64 1] ∧ Below w.heap.size w w') := by
  refine ret_enter Try.func68 rfl rfl rfl ?_
  have H0 := HS.start w
  refine cw_seq ?_
  refine cw_reg ?_
  refine reg_op (op_box (cs := [.int _ _, .int _ _, .int _ _, .int _ _]) H0 rfl rfl rfl) rfl rfl ?_
  rintro _ w2 ⟨b1, rfl, H3⟩
  refine ry (y_asg rfl rfl) rfl rfl ?_
  refine ry (y_asg rfl rfl) rfl rfl ?_
  refine reg_nil ?_
  refine fn_next ?_
  refine cw_seq ?_
  refine cw_reg ?_
  refine ry (y_mov rfl rfl) rfl rfl ?_
  refine ry (y_ldb (i := 0) (cs := [_, _, _, _]) H3 rfl rfl kflaw20_1 rfl rfl) rfl rfl ?_
  refine reg_op (op_call (tabNil_Sum _ _ _ _ _) rfl kflaw20_19 ⟨rfl, rfl, trivial⟩) rfl rfl ?_
  rintro _ w5 ⟨rfl, e4⟩
  have H6 := H3.ext e4
  refine ry (y_mov rfl rfl) rfl rfl ?_
  refine ry (y_ext rfl rfl rfl) rfl rfl ?_
  refine ry (y_ext rfl rfl rfl) rfl rfl ?_
  refine ry (y_asg rfl rfl) rfl rfl ?_
  refine ry (y_asg rfl rfl) rfl rfl ?_
  refine reg_nil ?_
  refine fn_next ?_
  refine cw_seq ?_
  refine cw_seq ?_
  refine cw_reg ?_
  refine ry (y_mov rfl rfl) rfl rfl ?_
  refine ry (y_neq rfl rfl rfl) rfl rfl ?_
  refine reg_nil ?_
  refine fn_next ?_
  refine cw_condd rfl (fun h7 => ?_) (fun h7 => ?_)
  · skip
    refine cw_seq ?_
    refine cw_reg ?_
    refine ry (y_mov rfl rfl) rfl rfl ?_
    refine ry (y_asg rfl rfl) rfl rfl ?_
    refine ry (y_asg rfl rfl) rfl rfl ?_
    refine reg_nil ?_
    refine fn_next ?_
    refine cw_ret ?_
    refine fn_then_ret ?_
    refine fn_retn (vs := [_, _]) rfl ⟨rfl, rfl, trivial⟩ rfl ?_
    exact ⟨rfl, H6.base⟩
  · exact absurd (by decide) h7

set_option maxRecDepth 100000 in
theorem tabNil_Build  (w : World) :
    Ret Try.prog 64 [.pointer none] w (fun v w' => v = .tuple #[.pointer none, .int .i64 1] ∧ Below w.heap.size w w') := by
  refine ret_enter Try.func64 rfl rfl rfl ?_
  have H0 := HS.start w
  refine cw_seq ?_
  refine cw_reg ?_
  refine ry (y_asg rfl rfl) rfl rfl ?_
  refine ry (y_asg rfl rfl) rfl rfl ?_
  refine reg_nil ?_
  refine fn_next ?_
  refine cw_seq ?_
  refine cw_seq ?_
  refine cw_reg ?_
  refine ry (y_mov rfl rfl) rfl rfl ?_
  refine ry (y_peqlnil rfl Try.underlying74 rfl rfl) rfl rfl ?_
  refine reg_nil ?_
  refine fn_next ?_
  refine cw_condt rfl ?_
  refine cw_seq ?_
  refine cw_reg ?_
  refine ry (y_asg rfl rfl) rfl rfl ?_
  refine ry (y_asg rfl rfl) rfl rfl ?_
  refine reg_nil ?_
  refine fn_next ?_
  refine cw_ret ?_
  refine fn_then_ret ?_
  refine fn_retn (vs := [_, _]) rfl ⟨rfl, rfl, trivial⟩ rfl ?_
  exact ⟨rfl, H0.base⟩

theorem aw20 : fromC ((3 : Nat) : Int) ((1 : Nat) : Int) [3, 4, -8] = 0 ∧ tbV (fun y : Nat => if y = 0 then [0, 0, 0, 0] else [0, 3, 7, -1]) 1 0 2 0 = -4 ∧ nth ((fun y : Nat => if y = 0 then [0, 0, 0, 0] else [0, 3, 7, -1]) (0 + 1)) (2 + 1) = -1 := by decide +kernel
theorem tb20 : TB (fun y : Nat => if y = 0 then [0, 0, 0, 0] else [0, 3, 7, -1]) := fun y x => by
  by_cases hy : y = 0
  · subst hy
    simp only [if_true]
    match x with
    | 0 | 1 | 2 | 3 => decide
    | x + 4 => exact ⟨by show _ ≤ (0 : Int); decide, by show (0 : Int) ≤ _; decide⟩
  · simp only [hy, if_false]
    match x with
    | 0 | 1 | 2 | 3 => decide
    | x + 4 => exact ⟨by show _ ≤ (0 : Int); decide, by show (0 : Int) ≤ _; decide⟩

set_option maxRecDepth 100000 in
theorem areaAwake  (w : World) :
    Ret Try.prog 63 [] w (fun v w' => v = .bool true ∧ Below w.heap.size w w') := by
  obtain ⟨e1, e2, e3⟩ := aw20
  refine ret_enter Try.func63 rfl rfl rfl ?_
  have H0 := HS.start w
  refine cw_seq ?_
  refine cw_reg ?_
  refine ry (y_asg rfl rfl) rfl rfl ?_
  refine reg_nil ?_
  refine fn_next ?_
  refine cw_seq ?_
  refine cw_reg ?_
  refine reg_op (op_lit (parts := [(0, _), (1, _), (2, _)]) (vs := [(0, _), (1, _), (2, _)]) (cs := [.int _ _, .int _ _, .int _ _]) H0 rfl Try.underlying32 kflaw20_26 rfl ⟨rfl, rfl, rfl, trivial⟩ rfl rfl) rfl rfl ?_
  rintro _ w2 ⟨b1, rfl, H3⟩
  have H4 := H3.asrow (m := 3) (size := 1) rfl (by decide)
  refine reg_op (op_call (gFrom_ok 3 1 [3, 4, -8] _ 3 _ _ (H4.rd (i := 0) rfl) rfl (by decide) ⟨by decide, by decide, by decide, by decide⟩ e1) rfl kflaw20_29 ⟨rfl, rfl, rfl, trivial⟩) rfl rfl ?_
  rintro _ w6 ⟨g8, bl9, rfl, k5⟩
  have H7 := H4.call k5
  refine ry (y_mov rfl rfl) rfl rfl ?_
  refine ry (y_ext rfl rfl rfl) rfl rfl ?_
  refine ry (y_ext rfl rfl rfl) rfl rfl ?_
  refine ry (y_asg rfl rfl) rfl rfl ?_
  refine ry (y_asg rfl rfl) rfl rfl ?_
  refine reg_nil ?_
  refine fn_next ?_
  refine cw_seq ?_
  refine cw_reg ?_
  refine ry (y_mov rfl rfl) rfl rfl ?_
  refine reg_op (op_call (tabBuild g8 _ (H7.rdg (i := 0) rfl)) rfl kflaw20_30 ⟨rfl, trivial⟩) rfl rfl ?_
  rintro _ w10 ⟨tb, rfl, A, cap, rs, R, eb⟩
  have H11 := H7.ext eb
  have hbW := H11.base
  refine ry (y_mov rfl rfl) rfl rfl ?_
  refine ry (y_ext rfl rfl rfl) rfl rfl ?_
  refine ry (y_ext rfl rfl rfl) rfl rfl ?_
  refine ry (y_asg rfl rfl) rfl rfl ?_
  refine ry (y_asg rfl rfl) rfl rfl ?_
  refine reg_nil ?_
  refine fn_next ?_
  refine cw_seq ?_
  refine cw_reg ?_
  refine ry (y_mov rfl rfl) rfl rfl ?_
  refine ry (y_build (places := [(0, 1), (1, 1)]) (parts := [(0, _)]) (vs := [(0, _)]) (cs := [.int _ _, .int _ _]) rfl Try.underlying26 (by kernel_rfl) kflaw20_31 rfl ⟨rfl, trivial⟩ rfl) rfl rfl ?_
  refine reg_op (op_call (ret_v (v := .tuple #[.int .i64 (-1), .int .i64 0]) (tabAt tb 3 1 A cap rs _ 2 0 _ ⟨by decide, by decide, by decide, by decide⟩ R (by decide) (by decide)) (by rw [e3])) rfl kflaw20_32 ⟨rfl, rfl, trivial⟩) rfl rfl ?_
  rintro _ w13 ⟨rfl, e12⟩
  have H14 := H11.ext e12
  have R := R.below e12
  refine ry (y_mov rfl rfl) rfl rfl ?_
  refine ry (y_ext rfl rfl rfl) rfl rfl ?_
  refine ry (y_ext rfl rfl rfl) rfl rfl ?_
  refine ry (y_asg rfl rfl) rfl rfl ?_
  refine ry (y_asg rfl rfl) rfl rfl ?_
  refine reg_nil ?_
  refine fn_next ?_
  refine cw_seq ?_
  refine cw_reg ?_
  refine ry (y_mov rfl rfl) rfl rfl ?_
  refine ry (y_build (places := [(0, 1), (1, 1), (2, 1), (3, 1)]) (parts := [(0, _), (2, _)]) (vs := [(0, _), (2, _)]) (cs := [.int _ _, .int _ _, .int _ _, .int _ _]) rfl Try.underlying24 (by kernel_rfl) kflaw20_8 rfl ⟨rfl, rfl, trivial⟩ rfl) rfl rfl ?_
  refine reg_op (op_call (ret_v (v := .tuple #[.int .i64 (-2), .int .i64 0]) (tabMean tb 3 1 A cap rs _ 1 0 2 0 _ ⟨by decide, by decide, by decide, by decide⟩ R (by decide) (by decide) (by decide) (by decide) tb20) (by rw [e2]; rfl)) rfl kflaw20_33 ⟨rfl, rfl, trivial⟩) rfl rfl ?_
  rintro _ w16 ⟨rfl, e15⟩
  have H17 := H14.ext e15
  refine ry (y_mov rfl rfl) rfl rfl ?_
  refine ry (y_ext rfl rfl rfl) rfl rfl ?_
  refine ry (y_ext rfl rfl rfl) rfl rfl ?_
  refine ry (y_asg rfl rfl) rfl rfl ?_
  refine ry (y_asg rfl rfl) rfl rfl ?_
  refine reg_nil ?_
  refine fn_next ?_
  refine cw_seq ?_
  refine cw_reg ?_
  refine ry (y_mov rfl rfl) rfl rfl ?_
  refine ry (y_eql rfl rfl rfl) rfl rfl ?_
  refine ry (y_mov rfl rfl) rfl rfl ?_
  refine rg_splitd (d := 33) rfl (fun h18 => ?_) (fun h18 => ?_)
  · skip
    refine rgy (y_mov rfl rfl) rfl rfl rfl rfl ?_
    refine rgy (y_eql rfl rfl rfl) rfl rfl rfl rfl ?_
    refine ry (y_pick rfl rfl rfl) rfl rfl ?_
    refine ry (y_mov rfl rfl) rfl rfl ?_
    refine rg_splitd (d := 37) rfl (fun h19 => ?_) (fun h19 => ?_)
    · skip
      refine rgy (y_mov rfl rfl) rfl rfl rfl rfl ?_
      refine rgy (y_eql rfl rfl rfl) rfl rfl rfl rfl ?_
      refine ry (y_pick rfl rfl rfl) rfl rfl ?_
      refine ry (y_mov rfl rfl) rfl rfl ?_
      refine rg_splitd (d := 41) rfl (fun h20 => ?_) (fun h20 => ?_)
      · skip
        refine rgy (y_mov rfl rfl) rfl rfl rfl rfl ?_
        refine rgy (y_eql rfl rfl rfl) rfl rfl rfl rfl ?_
        refine ry (y_pick rfl rfl rfl) rfl rfl ?_
        refine ry (y_mov rfl rfl) rfl rfl ?_
        refine rg_splitd (d := 45) rfl (fun h21 => ?_) (fun h21 => ?_)
        · skip
          refine rgy (y_mov rfl rfl) rfl rfl rfl rfl ?_
          refine rgy (y_eql rfl rfl rfl) rfl rfl rfl rfl ?_
          refine ry (y_pick rfl rfl rfl) rfl rfl ?_
          refine ry (y_mov rfl rfl) rfl rfl ?_
          refine rg_splitd (d := 49) rfl (fun h22 => ?_) (fun h22 => ?_)
          · skip
            refine rgy (y_mov rfl rfl) rfl rfl rfl rfl ?_
            refine rgy (y_eql rfl rfl rfl) rfl rfl rfl rfl ?_
            refine ry (y_pick rfl rfl rfl) rfl rfl ?_
            refine ry (y_asg rfl rfl) rfl rfl ?_
            refine reg_nil ?_
            refine fn_next ?_
            refine cw_ret ?_
            refine fn_ret1 rfl rfl ?_
            exact ⟨rfl, H17.base⟩
          · exact absurd rfl h22
        · exact absurd rfl h21
      · exact absurd rfl h20
    · exact absurd rfl h19
  · exact absurd rfl h18

set_option maxRecDepth 100000 in
theorem areaNil_all (x0 y0 x1 y1 x y : Int) (w : World) :
    Ret Try.prog 11 [.agg #[.int .i64 x0, .int .i64 y0, .int .i64 x1, .int .i64 y1], .agg #[.int .i64 x, .int .i64 y]] w (fun z w' => z = .bool true ∧ Below w.heap.size w w') := by
  refine ret_enter Try.func11 rfl rfl rfl ?_
  have H0 := HS.start w
  refine cw_seq ?_
  refine cw_reg ?_
  refine reg_op (op_box (cs := [.int _ _, .int _ _, .int _ _, .int _ _]) H0 rfl rfl rfl) rfl rfl ?_
  rintro _ w2 ⟨b1, rfl, H3⟩
  refine reg_op (op_box (cs := [.int _ _, .int _ _]) H3 rfl rfl rfl) rfl rfl ?_
  rintro _ w5 ⟨b4, rfl, H6⟩
  refine ry (y_asg rfl rfl) rfl rfl ?_
  refine reg_nil ?_
  refine fn_next ?_
  refine cw_seq ?_
  refine cw_seq ?_
  refine cw_reg ?_
  refine reg_op (op_call (areaAwake _) rfl kflaw20_34 trivial) rfl rfl ?_
  rintro _ w8 ⟨rfl, e7⟩
  have H9 := H6.ext e7
  refine ry (y_not rfl rfl) rfl rfl ?_
  refine reg_nil ?_
  refine fn_next ?_
  refine cw_condf rfl ?_
  refine cw_skip ?_
  refine fn_next ?_
  refine cw_seq ?_
  refine cw_reg ?_
  refine reg_op (op_call (tabNil_Build _) rfl kflaw20_30 ⟨rfl, trivial⟩) rfl rfl ?_
  rintro _ w11 ⟨rfl, e10⟩
  have H12 := H9.ext e10
  refine ry (y_mov rfl rfl) rfl rfl ?_
  refine ry (y_ext rfl rfl rfl) rfl rfl ?_
  refine ry (y_ext rfl rfl rfl) rfl rfl ?_
  refine ry (y_asg rfl rfl) rfl rfl ?_
  refine ry (y_asg rfl rfl) rfl rfl ?_
  refine reg_nil ?_
  refine fn_next ?_
  refine cw_seq ?_
  refine cw_reg ?_
  refine ry (y_mov rfl rfl) rfl rfl ?_
  refine reg_op (op_call (tabNil_Size _) rfl kflaw20_35 ⟨rfl, trivial⟩) rfl rfl ?_
  rintro _ w14 ⟨rfl, e13⟩
  have H15 := H12.ext e13
  refine ry (y_mov rfl rfl) rfl rfl ?_
  refine ry (y_ext rfl rfl rfl) rfl rfl ?_
  refine ry (y_ext rfl rfl rfl) rfl rfl ?_
  refine ry (y_asg rfl rfl) rfl rfl ?_
  refine ry (y_asg rfl rfl) rfl rfl ?_
  refine reg_nil ?_
  refine fn_next ?_
  refine cw_seq ?_
  refine cw_reg ?_
  refine ry (y_mov rfl rfl) rfl rfl ?_
  refine ry (y_ldb (i := 0) (cs := [_, _]) H15 rfl rfl kflaw20_36 rfl rfl) rfl rfl ?_
  refine reg_op (op_call (tabNil_At _ _ _) rfl kflaw20_32 ⟨rfl, rfl, trivial⟩) rfl rfl ?_
  rintro _ w17 ⟨rfl, e16⟩
  have H18 := H15.ext e16
  refine ry (y_mov rfl rfl) rfl rfl ?_
  refine ry (y_ext rfl rfl rfl) rfl rfl ?_
  refine ry (y_ext rfl rfl rfl) rfl rfl ?_
  refine ry (y_asg rfl rfl) rfl rfl ?_
  refine ry (y_asg rfl rfl) rfl rfl ?_
  refine reg_nil ?_
  refine fn_next ?_
  refine cw_seq ?_
  refine cw_reg ?_
  refine ry (y_mov rfl rfl) rfl rfl ?_
  refine ry (y_ldb (i := 1) (cs := [_, _, _, _]) H18 rfl rfl kflaw20_1 rfl rfl) rfl rfl ?_
  refine reg_op (op_call (tabNil_Sum _ _ _ _ _) rfl kflaw20_19 ⟨rfl, rfl, trivial⟩) rfl rfl ?_
  rintro _ w20 ⟨rfl, e19⟩
  have H21 := H18.ext e19
  refine ry (y_mov rfl rfl) rfl rfl ?_
  refine ry (y_ext rfl rfl rfl) rfl rfl ?_
  refine ry (y_ext rfl rfl rfl) rfl rfl ?_
  refine ry (y_asg rfl rfl) rfl rfl ?_
  refine ry (y_asg rfl rfl) rfl rfl ?_
  refine reg_nil ?_
  refine fn_next ?_
  refine cw_seq ?_
  refine cw_reg ?_
  refine ry (y_mov rfl rfl) rfl rfl ?_
  refine ry (y_ldb (i := 1) (cs := [_, _, _, _]) H21 rfl rfl kflaw20_1 rfl rfl) rfl rfl ?_
  refine reg_op (op_call (tabNil_Mean _ _ _ _ _) rfl kflaw20_33 ⟨rfl, rfl, trivial⟩) rfl rfl ?_
  rintro _ w23 ⟨rfl, e22⟩
  have H24 := H21.ext e22
  refine ry (y_mov rfl rfl) rfl rfl ?_
  refine ry (y_ext rfl rfl rfl) rfl rfl ?_
  refine ry (y_ext rfl rfl rfl) rfl rfl ?_
  refine ry (y_asg rfl rfl) rfl rfl ?_
  refine ry (y_asg rfl rfl) rfl rfl ?_
  refine reg_nil ?_
  refine fn_next ?_
  refine cw_seq ?_
  refine cw_reg ?_
  refine ry (y_mov rfl rfl) rfl rfl ?_
  refine ry (y_peqlnil rfl Try.underlying100 rfl rfl) rfl rfl ?_
  refine ry (y_mov rfl rfl) rfl rfl ?_
  refine rgy (y_mov rfl rfl) rfl rfl rfl rfl ?_
  refine rgy (y_eql rfl rfl rfl) rfl rfl rfl rfl ?_
  refine ry (y_pick rfl rfl rfl) rfl rfl ?_
  refine ry (y_mov rfl rfl) rfl rfl ?_
  refine rg_splitd (d := 50) rfl (fun h25 => ?_) (fun h25 => ?_)
  · skip
    refine rgy (y_mov rfl rfl) rfl rfl rfl rfl ?_
    refine rgy (y_eql rfl rfl rfl) rfl rfl rfl rfl ?_
    refine ry (y_pick rfl rfl rfl) rfl rfl ?_
    refine ry (y_mov rfl rfl) rfl rfl ?_
    refine rg_splitd (d := 54) rfl (fun h26 => ?_) (fun h26 => ?_)
    · skip
      refine rgy (y_mov rfl rfl) rfl rfl rfl rfl ?_
      refine rgy (y_eql rfl rfl rfl) rfl rfl rfl rfl ?_
      refine ry (y_pick rfl rfl rfl) rfl rfl ?_
      refine ry (y_mov rfl rfl) rfl rfl ?_
      refine rg_splitd (d := 58) rfl (fun h27 => ?_) (fun h27 => ?_)
      · skip
        refine rgy (y_mov rfl rfl) rfl rfl rfl rfl ?_
        refine rgy (y_eql rfl rfl rfl) rfl rfl rfl rfl ?_
        refine ry (y_pick rfl rfl rfl) rfl rfl ?_
        refine ry (y_mov rfl rfl) rfl rfl ?_
        refine rg_splitd (d := 62) rfl (fun h28 => ?_) (fun h28 => ?_)
        · skip
          refine rgy (y_mov rfl rfl) rfl rfl rfl rfl ?_
          refine rgy (y_eql rfl rfl rfl) rfl rfl rfl rfl ?_
          refine ry (y_pick rfl rfl rfl) rfl rfl ?_
          refine ry (y_mov rfl rfl) rfl rfl ?_
          refine rg_splitd (d := 66) rfl (fun h29 => ?_) (fun h29 => ?_)
          · skip
            refine rgy (y_mov rfl rfl) rfl rfl rfl rfl ?_
            refine rgy (y_eql rfl rfl rfl) rfl rfl rfl rfl ?_
            refine ry (y_pick rfl rfl rfl) rfl rfl ?_
            refine ry (y_mov rfl rfl) rfl rfl ?_
            refine rg_splitd (d := 70) rfl (fun h30 => ?_) (fun h30 => ?_)
            · skip
              refine rgy (y_mov rfl rfl) rfl rfl rfl rfl ?_
              refine rgy (y_eql rfl rfl rfl) rfl rfl rfl rfl ?_
              refine ry (y_pick rfl rfl rfl) rfl rfl ?_
              refine ry (y_mov rfl rfl) rfl rfl ?_
              refine rg_splitd (d := 74) rfl (fun h31 => ?_) (fun h31 => ?_)
              · skip
                refine rgy (y_mov rfl rfl) rfl rfl rfl rfl ?_
                refine rgy (y_eql rfl rfl rfl) rfl rfl rfl rfl ?_
                refine ry (y_pick rfl rfl rfl) rfl rfl ?_
                refine ry (y_mov rfl rfl) rfl rfl ?_
                refine rg_splitd (d := 78) rfl (fun h32 => ?_) (fun h32 => ?_)
                · skip
                  refine rgy (y_mov rfl rfl) rfl rfl rfl rfl ?_
                  refine rgy (y_eql rfl rfl rfl) rfl rfl rfl rfl ?_
                  refine ry (y_pick rfl rfl rfl) rfl rfl ?_
                  refine ry (y_asg rfl rfl) rfl rfl ?_
                  refine reg_nil ?_
                  refine fn_next ?_
                  refine cw_ret ?_
                  refine fn_ret1 rfl rfl ?_
                  exact ⟨rfl, H24.base⟩
                · exact absurd rfl h32
              · exact absurd rfl h31
            · exact absurd rfl h30
          · exact absurd rfl h29
        · exact absurd rfl h28
      · exact absurd rfl h27
    · exact absurd rfl h26
  · exact absurd rfl h25

theorem areaNil_law (rx0 ry0 rx1 ry1 : Int) (cx cy : Int) (W : World) (brx0 : I6 rx0) (bry0 : I6 ry0) (brx1 : I6 rx1) (bry1 : I6 ry1) (bcx : I6 cx) (bcy : I6 cy) :
    Calls Try.prog 11 #[.agg #[.int .i64 rx0, .int .i64 ry0, .int .i64 rx1, .int .i64 ry1], .agg #[.int .i64 cx, .int .i64 cy]] W fun e w' => e = .returned (.bool true) ∧ Below W.heap.size W w' := lawOf (areaNil_all rx0 ry0 rx1 ry1 cx cy W)

end Go.Proofs.Ytkphmcaoioaglaa
