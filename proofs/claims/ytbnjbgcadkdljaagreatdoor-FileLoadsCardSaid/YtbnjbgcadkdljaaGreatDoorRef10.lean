/- Layers 9 and 10: the reference's Paste and From; Stamp. -/
import Derived.Test.YtbnjbgcadkdljaaGreatDoorMJ
set_option linter.unusedVariables false
set_option linter.unusedSimpArgs false
namespace Go.Proofs.YtbnjbgcadkdljaaGreatDoor
open Go Go.RowKit
theorem kfref10_1 : (Tryz.prog.info? 26).bind (fun i => i.zero.map Value.cells) = some (List.toArray [(.int .i64 0), (.int .i64 0), (.slice none 0 0)]) := by kernel_rfl
theorem kfref10_2 : aggB Tryz.prog 54 4 = true := by kernel_rfl
theorem kfref10_3 : fldB Tryz.prog 26 0 0 = true := by kernel_rfl
theorem kfref10_4 : oneB Tryz.prog 2 = true := by kernel_rfl
theorem kfref10_5 : fldB Tryz.prog 26 1 1 = true := by kernel_rfl
theorem kfref10_6 : callB Tryz.prog 48 = true := by kernel_rfl
theorem kfref10_7 : aggB Tryz.prog 26 3 = true := by kernel_rfl
theorem kfref10_8 : szB Tryz.prog 26 3 = true := by kernel_rfl
theorem kfref10_9 : callB Tryz.prog 49 = true := by kernel_rfl
theorem kfref10_10 : elB Tryz.prog 24 1 = true := by kernel_rfl
theorem kfref10_11 : callB Tryz.prog 50 = true := by kernel_rfl
theorem kfref10_12 : fldB Tryz.prog 26 2 2 = true := by kernel_rfl
theorem kfref10_13 : oneB Tryz.prog 24 = true := by kernel_rfl
theorem kfref10_14 : (Tryz.prog.info? 2).map (fun i => (i.size, i.zero.map Value.cells)) = some (1, some (List.toArray [(.int .i64 0)])) := by kernel_rfl
theorem kfref10_15 : (Tryz.prog.info? 2).map (fun i => (i.zero.map (·.cells.toList), i.size, i.bytes)) = some (some [(.int .i64 0)], 1, 8) := by kernel_rfl
theorem kfref10_16 : fldB Tryz.prog 54 1 1 = true := by kernel_rfl
theorem kfref10_17 : fldB Tryz.prog 54 3 3 = true := by kernel_rfl
theorem kfref10_18 : fldB Tryz.prog 54 0 0 = true := by kernel_rfl
theorem kfref10_19 : fldB Tryz.prog 54 2 2 = true := by kernel_rfl
theorem kfref10_20 : szB Tryz.prog 2 1 = true := by kernel_rfl
theorem layT_set {V L : List Int} {a h p0 q0 p1 q1 r c : Nat} (s : SzG a h) (hl : V.length = a * h) (h1 : p0 ≤ p1) (h2 : p1 < a) (h4 : q1 < h) (hr : q0 + r ≤ q1) (hc : c < p1 + 1 - p0) : (layT V a p0 q0 p1 q1 L (r * (p1 + 1 - p0) + c)).set ((q0 + r) * a + (p0 + c)) (nth L (r * (p1 + 1 - p0) + c)) = layT V a p0 q0 p1 q1 L (r * (p1 + 1 - p0) + (c + 1)) := by
  have hx : p0 + c < a := by omega
  have hy : q0 + r < h := by omega
  have hlt := cell_lt hx hy
  refine nth_ext (by rw [List.length_set, layT_len, layT_len]) fun m hm => ?_
  rw [List.length_set, layT_len] at hm
  rw [nth_put (by rw [layT_len, hl]; exact hlt), layT_at hm, layT_at hm]
  by_cases e : m = (q0 + r) * a + (p0 + c)
  · obtain ⟨d1, d2⟩ := div_of hx e
    have er : rk p0 q0 (p1 + 1 - p0) (m % a) (m / a) = r * (p1 + 1 - p0) + c := by
      rw [d1, d2]; unfold rk; rw [show q0 + r - q0 = r by omega, show p0 + c - p0 = c by omega]
    rw [if_pos e, er, d1, d2, if_pos ⟨by omega, by omega⟩]
  · rw [if_neg e]
    by_cases hR : p0 ≤ m % a ∧ m % a ≤ p1 ∧ q0 ≤ m / a ∧ m / a ≤ q1
    · have hne : ¬ rk p0 q0 (p1 + 1 - p0) (m % a) (m / a) = r * (p1 + 1 - p0) + c := fun k => by
        have := (rk_between (p0 := p0) (q0 := q0) (n := p1 + 1 - p0) (x := m % a) (y := m / a) (r := r) (c := c) (k := 1) hR.1 (by omega) hR.2.2.1 (by omega)).1 (by omega)
        have e1 := of_div (rfl : m / a = _) (rfl : m % a = _)
        rw [this.1, show m % a = p0 + c by omega] at e1
        exact e e1
      by_cases hlt2 : rk p0 q0 (p1 + 1 - p0) (m % a) (m / a) < r * (p1 + 1 - p0) + c
      · rw [if_pos ⟨hR, hlt2⟩, if_pos ⟨hR, by omega⟩]
      · rw [if_neg (fun k => hlt2 k.2), if_neg (fun k => hlt2 (by omega))]
    · rw [if_neg (fun k => hR k.1), if_neg (fun k => hR k.1)]

set_option maxRecDepth 100000 in
theorem mPaste_w (w0 : World) (l : List Ob) (a h : Nat) (A : Option Addr) (cap : Nat) (V : List Int) (x0 y0 x1 y1 : Int) (L : List Int) (B : Option Addr) (n c2 : Nat) (w : World) (hw : ¬ withinC x0 y0 x1 y1 a h = 0) (p : SzG a h) (hV : V.length = a * h) (hr : ∀ X, HS w0 X l → Rd X B (vi .i64 L)) (hl : L.length = n) (hn : n ≤ 16777216) (H0 : HS w0 w (Ob.row A (a * h) cap (vi .i64 (V)) 2 1 :: l)) :
    Ret Tryz.prog 17 [.agg #[.int .i64 (a : Int), .int .i64 (h : Int), .slice A (a * h) cap], .agg #[.int .i64 x0, .int .i64 y0, .int .i64 x1, .int .i64 y1], .slice B n c2] w (fun z w' => ∃ A' cap', z = .tuple #[.agg #[.int .i64 (a : Int), .int .i64 (h : Int), .slice A' (a * h) cap'], .int .i64 (pasteC a h x0 y0 x1 y1 L)] ∧ HS w0 w' (Ob.row A' (a * h) cap' (vi .i64 (pasteV V a h x0 y0 x1 y1 L)) 2 1 :: l)) := by
  have hm' := p.mul
  obtain ⟨s1, s2, s3, s4⟩ := id p
  refine ret_enter Tryz.func17 rfl rfl rfl ?_
  refine cw_seq ?_
  refine cw_reg ?_
  refine reg_op (op_box (cs := [.int _ _, .int _ _, .slice _ _ _]) H0 rfl rfl rfl) rfl rfl ?_
  rintro _ w2 ⟨b1, rfl, H3⟩
  refine reg_op (op_box (cs := [.int _ _, .int _ _, .int _ _, .int _ _]) H3 rfl rfl rfl) rfl rfl ?_
  rintro _ w5 ⟨b4, rfl, H6⟩
  refine reg_op (op_alloc H6 rfl kfref10_1) rfl rfl ?_
  rintro _ w8 ⟨b7, rfl, H9⟩
  refine ry (y_asg rfl rfl) rfl rfl ?_
  refine reg_nil ?_
  refine fn_next ?_
  refine cw_seq ?_
  refine cw_reg ?_
  refine ry (y_ldb (i := 1) (cs := [_, _, _, _]) H9 rfl rfl kfref10_2 rfl rfl) rfl rfl ?_
  refine ry (y_fa rfl rfl kfref10_3 rfl) rfl rfl ?_
  refine ry (y_ld rfl rfl kfref10_4 (H9.cell (i := 2) rfl rfl)) rfl rfl ?_
  refine ry (y_fa rfl rfl kfref10_5 rfl) rfl rfl ?_
  refine ry (y_ld rfl rfl kfref10_4 (H9.cell (i := 2) rfl rfl)) rfl rfl ?_
  refine reg_op (op_call (ret_elder (refWithin_any x0 y0 x1 y1 a h _ (by omega) (by omega) (by omega) (by omega))) rfl kfref10_6 ⟨rfl, rfl, rfl, trivial⟩) rfl rfl ?_
  rintro _ w11 ⟨rfl, e10⟩
  have H12 := H9.ext e10
  refine ry (y_asg rfl rfl) rfl rfl ?_
  refine reg_nil ?_
  refine fn_next ?_
  refine cw_seq ?_
  refine cw_seq ?_
  refine cw_reg ?_
  refine ry (y_mov rfl rfl) rfl rfl ?_
  refine ry (y_neq rfl rfl rfl) rfl rfl ?_
  refine reg_nil ?_
  refine fn_next ?_
  refine cw_condd rfl (fun h13 => ?_) (fun h13 => ?_)
  · skip
    refine cw_seq ?_
    refine cw_reg ?_
    refine ry (y_ldb (i := 2) (cs := [_, _, _]) H12 rfl rfl kfref10_7 rfl rfl) rfl rfl ?_
    refine ry (y_mov rfl rfl) rfl rfl ?_
    refine reg_op (op_st (i := 0) (vs := [.int _ _, .int _ _, .slice _ _ _]) H12 rfl rfl rfl rfl rfl kfref10_8 rfl rfl rfl) rfl rfl ?_
    rintro _ w14 H15
    refine ry (y_asg rfl rfl) rfl rfl ?_
    refine reg_nil ?_
    refine fn_next ?_
    refine cw_ret ?_
    refine fn_then_ret ?_
    refine fn_retn (vs := [_, _]) rfl ⟨⟨_, rfl, load_agg (cs := [_, _, _]) kfref10_7 rfl fun j v hv => by rw [Nat.zero_add]; exact H15.cell (i := 0) rfl hv⟩, rfl, trivial⟩ rfl ?_
    rw [pasteC_w hw, pasteV_no (by rw [pasteC_w hw]; exact hw)]
    exact ⟨A, cap, rfl, (H15.pickT (p := [_, _, _, _]) (m := [_]) [3] rfl (by decide))⟩
  · exact absurd (Classical.not_not.1 h13) hw

set_option maxRecDepth 100000 in
theorem mPaste_n (w0 : World) (l : List Ob) (a h : Nat) (A : Option Addr) (cap : Nat) (V : List Int) (x0 y0 x1 y1 : Int) (L : List Int) (B : Option Addr) (n c2 : Nat) (w : World) (hw : withinC x0 y0 x1 y1 a h = 0) (hc : ¬ (L.length : Int) = areaI x0 y0 x1 y1) (p : SzG a h) (hV : V.length = a * h) (hr : ∀ X, HS w0 X l → Rd X B (vi .i64 L)) (hl : L.length = n) (hn : n ≤ 16777216) (H0 : HS w0 w (Ob.row A (a * h) cap (vi .i64 (V)) 2 1 :: l)) :
    Ret Tryz.prog 17 [.agg #[.int .i64 (a : Int), .int .i64 (h : Int), .slice A (a * h) cap], .agg #[.int .i64 x0, .int .i64 y0, .int .i64 x1, .int .i64 y1], .slice B n c2] w (fun z w' => ∃ A' cap', z = .tuple #[.agg #[.int .i64 (a : Int), .int .i64 (h : Int), .slice A' (a * h) cap'], .int .i64 (pasteC a h x0 y0 x1 y1 L)] ∧ HS w0 w' (Ob.row A' (a * h) cap' (vi .i64 (pasteV V a h x0 y0 x1 y1 L)) 2 1 :: l)) := by
  have hm' := p.mul
  obtain ⟨s1, s2, s3, s4⟩ := id p
  refine ret_enter Tryz.func17 rfl rfl rfl ?_
  refine cw_seq ?_
  refine cw_reg ?_
  refine reg_op (op_box (cs := [.int _ _, .int _ _, .slice _ _ _]) H0 rfl rfl rfl) rfl rfl ?_
  rintro _ w2 ⟨b1, rfl, H3⟩
  refine reg_op (op_box (cs := [.int _ _, .int _ _, .int _ _, .int _ _]) H3 rfl rfl rfl) rfl rfl ?_
  rintro _ w5 ⟨b4, rfl, H6⟩
  refine reg_op (op_alloc H6 rfl kfref10_1) rfl rfl ?_
  rintro _ w8 ⟨b7, rfl, H9⟩
  refine ry (y_asg rfl rfl) rfl rfl ?_
  refine reg_nil ?_
  refine fn_next ?_
  refine cw_seq ?_
  refine cw_reg ?_
  refine ry (y_ldb (i := 1) (cs := [_, _, _, _]) H9 rfl rfl kfref10_2 rfl rfl) rfl rfl ?_
  refine ry (y_fa rfl rfl kfref10_3 rfl) rfl rfl ?_
  refine ry (y_ld rfl rfl kfref10_4 (H9.cell (i := 2) rfl rfl)) rfl rfl ?_
  refine ry (y_fa rfl rfl kfref10_5 rfl) rfl rfl ?_
  refine ry (y_ld rfl rfl kfref10_4 (H9.cell (i := 2) rfl rfl)) rfl rfl ?_
  refine reg_op (op_call (ret_elder (refWithin_any x0 y0 x1 y1 a h _ (by omega) (by omega) (by omega) (by omega))) rfl kfref10_6 ⟨rfl, rfl, rfl, trivial⟩) rfl rfl ?_
  rintro _ w11 ⟨rfl, e10⟩
  have H12 := H9.ext e10
  refine ry (y_asg rfl rfl) rfl rfl ?_
  refine reg_nil ?_
  refine fn_next ?_
  refine cw_seq ?_
  refine cw_seq ?_
  refine cw_reg ?_
  refine ry (y_mov rfl rfl) rfl rfl ?_
  refine ry (y_neq rfl rfl rfl) rfl rfl ?_
  refine reg_nil ?_
  refine fn_next ?_
  refine cw_condd rfl (fun h13 => ?_) (fun h13 => ?_)
  · exact absurd hw h13
  · skip
    refine cw_skip ?_
    refine fn_next ?_
    refine cw_seq ?_
    refine cw_seq ?_
    refine cw_reg ?_
    refine ry (y_mov rfl rfl) rfl rfl ?_
    refine ry (y_len rfl Tryz.underlying24 rfl) rfl rfl ?_
    refine ry (y_ldb (i := 1) (cs := [_, _, _, _]) H12 rfl rfl kfref10_2 rfl rfl) rfl rfl ?_
    refine reg_op (op_call (ret_elder (refArea_any x0 y0 x1 y1 _)) rfl kfref10_9 ⟨rfl, trivial⟩) rfl rfl ?_
    rintro _ w15 ⟨rfl, e14⟩
    have H16 := H12.ext e14
    refine ry (y_neq rfl rfl rfl) rfl rfl ?_
    refine reg_nil ?_
    refine fn_next ?_
    refine cw_condd rfl (fun h17 => ?_) (fun h17 => ?_)
    · skip
      refine cw_seq ?_
      refine cw_reg ?_
      refine ry (y_ldb (i := 2) (cs := [_, _, _]) H16 rfl rfl kfref10_7 rfl rfl) rfl rfl ?_
      refine reg_op (op_st (i := 0) (vs := [.int _ _, .int _ _, .slice _ _ _]) H16 rfl rfl rfl rfl rfl kfref10_8 rfl rfl rfl) rfl rfl ?_
      rintro _ w18 H19
      refine ry (y_asg rfl rfl) rfl rfl ?_
      refine reg_nil ?_
      refine fn_next ?_
      refine cw_ret ?_
      refine fn_then_ret ?_
      refine fn_retn (vs := [_, _]) rfl ⟨⟨_, rfl, load_agg (cs := [_, _, _]) kfref10_7 rfl fun j v hv => by rw [Nat.zero_add]; exact H19.cell (i := 0) rfl hv⟩, rfl, trivial⟩ rfl ?_
      rw [pasteC_n hw hc, pasteV_no (by rw [pasteC_n hw hc]; decide)]
      exact ⟨A, cap, rfl, (H19.pickT (p := [_, _, _, _]) (m := [_]) [3] rfl (by decide))⟩
    · exact absurd (by rw [hl]; exact Classical.not_not.1 h17) hc

set_option maxRecDepth 100000 in
theorem mPaste_v (w0 : World) (l : List Ob) (a h : Nat) (A : Option Addr) (cap : Nat) (V : List Int) (x0 y0 x1 y1 : Int) (L : List Int) (B : Option Addr) (n c2 : Nat) (w : World) (hw : withinC x0 y0 x1 y1 a h = 0) (hc : (L.length : Int) = areaI x0 y0 x1 y1) (hv : ¬ AllB L) (p : SzG a h) (hV : V.length = a * h) (hr : ∀ X, HS w0 X l → Rd X B (vi .i64 L)) (hl : L.length = n) (hn : n ≤ 16777216) (H0 : HS w0 w (Ob.row A (a * h) cap (vi .i64 (V)) 2 1 :: l)) :
    Ret Tryz.prog 17 [.agg #[.int .i64 (a : Int), .int .i64 (h : Int), .slice A (a * h) cap], .agg #[.int .i64 x0, .int .i64 y0, .int .i64 x1, .int .i64 y1], .slice B n c2] w (fun z w' => ∃ A' cap', z = .tuple #[.agg #[.int .i64 (a : Int), .int .i64 (h : Int), .slice A' (a * h) cap'], .int .i64 (pasteC a h x0 y0 x1 y1 L)] ∧ HS w0 w' (Ob.row A' (a * h) cap' (vi .i64 (pasteV V a h x0 y0 x1 y1 L)) 2 1 :: l)) := by
  have hm' := p.mul
  obtain ⟨s1, s2, s3, s4⟩ := id p
  refine ret_enter Tryz.func17 rfl rfl rfl ?_
  refine cw_seq ?_
  refine cw_reg ?_
  refine reg_op (op_box (cs := [.int _ _, .int _ _, .slice _ _ _]) H0 rfl rfl rfl) rfl rfl ?_
  rintro _ w2 ⟨b1, rfl, H3⟩
  refine reg_op (op_box (cs := [.int _ _, .int _ _, .int _ _, .int _ _]) H3 rfl rfl rfl) rfl rfl ?_
  rintro _ w5 ⟨b4, rfl, H6⟩
  refine reg_op (op_alloc H6 rfl kfref10_1) rfl rfl ?_
  rintro _ w8 ⟨b7, rfl, H9⟩
  refine ry (y_asg rfl rfl) rfl rfl ?_
  refine reg_nil ?_
  refine fn_next ?_
  refine cw_seq ?_
  refine cw_reg ?_
  refine ry (y_ldb (i := 1) (cs := [_, _, _, _]) H9 rfl rfl kfref10_2 rfl rfl) rfl rfl ?_
  refine ry (y_fa rfl rfl kfref10_3 rfl) rfl rfl ?_
  refine ry (y_ld rfl rfl kfref10_4 (H9.cell (i := 2) rfl rfl)) rfl rfl ?_
  refine ry (y_fa rfl rfl kfref10_5 rfl) rfl rfl ?_
  refine ry (y_ld rfl rfl kfref10_4 (H9.cell (i := 2) rfl rfl)) rfl rfl ?_
  refine reg_op (op_call (ret_elder (refWithin_any x0 y0 x1 y1 a h _ (by omega) (by omega) (by omega) (by omega))) rfl kfref10_6 ⟨rfl, rfl, rfl, trivial⟩) rfl rfl ?_
  rintro _ w11 ⟨rfl, e10⟩
  have H12 := H9.ext e10
  refine ry (y_asg rfl rfl) rfl rfl ?_
  refine reg_nil ?_
  refine fn_next ?_
  refine cw_seq ?_
  refine cw_seq ?_
  refine cw_reg ?_
  refine ry (y_mov rfl rfl) rfl rfl ?_
  refine ry (y_neq rfl rfl rfl) rfl rfl ?_
  refine reg_nil ?_
  refine fn_next ?_
  refine cw_condd rfl (fun h13 => ?_) (fun h13 => ?_)
  · exact absurd hw h13
  · skip
    refine cw_skip ?_
    refine fn_next ?_
    refine cw_seq ?_
    refine cw_seq ?_
    refine cw_reg ?_
    refine ry (y_mov rfl rfl) rfl rfl ?_
    refine ry (y_len rfl Tryz.underlying24 rfl) rfl rfl ?_
    refine ry (y_ldb (i := 1) (cs := [_, _, _, _]) H12 rfl rfl kfref10_2 rfl rfl) rfl rfl ?_
    refine reg_op (op_call (ret_elder (refArea_any x0 y0 x1 y1 _)) rfl kfref10_9 ⟨rfl, trivial⟩) rfl rfl ?_
    rintro _ w15 ⟨rfl, e14⟩
    have H16 := H12.ext e14
    refine ry (y_neq rfl rfl rfl) rfl rfl ?_
    refine reg_nil ?_
    refine fn_next ?_
    refine cw_condd rfl (fun h17 => ?_) (fun h17 => ?_)
    · exact absurd (by rw [← hl]; exact hc) h17
    · skip
      refine cw_skip ?_
      refine fn_next ?_
      refine cw_seq ?_
      refine cw_seq ?_
      refine cw_reg ?_
      refine ry (y_asg rfl rfl) rfl rfl ?_
      refine reg_nil ?_
      refine fn_next ?_
      refine cw_block ?_
      refine cw_loopJ [7, 9, 30, 31, 32, 33, 34, 35, 36, 37, 38, 39, 40, 41, 42] (fun M wl ml => ∃ (i : Nat), M = [(9, .int .i64 (i : Int))] ∧ HS w0 wl (Ob.row A (a * h) cap (vi .i64 (V)) 2 1 :: Ob.blk b1 [.int .i64 (a : Int), .int .i64 (h : Int), .slice A (a * h) cap] 26 :: Ob.blk b4 [.int .i64 x0, .int .i64 y0, .int .i64 x1, .int .i64 y1] 54 :: Ob.blk b7 [.int .i64 0, .int .i64 0, .slice none 0 0] 26 :: l) ∧ (i ≤ n) ∧ (Hid (∀ j, j < i → B32 (nth L j))) ∧ ml = n - i) ⟨0, rfl, (H16.pickT (p := [_, _, _, _]) (m := [_, _, _, _]) [3, 2, 1, 0] rfl (by decide)), Nat.zero_le _, Lib.hid (fun j hj => absurd hj (Nat.not_lt_zero _)), rfl⟩ ⟨rfl, trivial⟩ ?_
      rintro M w18 m20 ⟨i, rfl, H19, hp0, hp1, rfl⟩
      refine cw_seq ?_
      refine cw_seq ?_
      refine cw_reg ?_
      refine ry (y_mov rfl rfl) rfl rfl ?_
      refine ry (y_mov rfl rfl) rfl rfl ?_
      refine ry (y_len rfl Tryz.underlying24 rfl) rfl rfl ?_
      refine ry (y_lss rfl rfl rfl) rfl rfl ?_
      refine reg_nil ?_
      refine fn_next ?_
      refine cw_condd rfl (fun h21 => ?_) (fun h21 => ?_)
      · skip
        have hgi := vi_get (k := .i64) (zs := L) (i := i) (by omega)
        refine cw_skip ?_
        refine fn_next ?_
        refine cw_seq ?_
        refine cw_block ?_
        refine cw_seq ?_
        refine cw_reg ?_
        refine ry (y_mov rfl rfl) rfl rfl ?_
        refine ry (y_mov rfl rfl) rfl rfl ?_
        refine ry (y_iar (hr _ (H19.tail.tail.tail.tail)) rfl rfl rfl kfref10_10 (rfl) (by omega) (Nat.mul_one _) (hgi)) rfl rfl ?_
        refine ry (y_ldr (hr _ (H19.tail.tail.tail.tail)) rfl rfl kfref10_4 (hgi)) rfl rfl ?_
        refine reg_op (op_call (refMay_any (nth L i) _) rfl kfref10_11 ⟨rfl, trivial⟩) rfl rfl ?_
        rintro _ w23 ⟨rfl, e22⟩
        have H24 := H19.ext e22
        refine ry (y_notd rfl rfl) rfl rfl ?_
        refine reg_nil ?_
        refine fn_next ?_
        refine cw_condd rfl (fun hne => ?_) (fun hne => ?_)
        · skip
          refine cw_seq ?_
          refine cw_reg ?_
          refine ry (y_ldb (i := 1) (cs := [_, _, _]) H24 rfl rfl kfref10_7 rfl rfl) rfl rfl ?_
          refine reg_op (op_st (i := 3) (vs := [.int _ _, .int _ _, .slice _ _ _]) H24 rfl rfl rfl rfl rfl kfref10_8 rfl rfl rfl) rfl rfl ?_
          rintro _ w26 H27
          refine ry (y_asg rfl rfl) rfl rfl ?_
          refine reg_nil ?_
          refine fn_next ?_
          refine cw_ret ?_
          refine fn_block_ret (fn_then_ret (fn_then_ret (fn_block_ret (fn_then_ret ?_))))
          refine fn_retn (vs := [_, _]) rfl ⟨⟨_, rfl, load_agg (cs := [_, _, _]) kfref10_7 rfl fun j v hv => by rw [Nat.zero_add]; exact H27.cell (i := 3) rfl hv⟩, rfl, trivial⟩ rfl ?_
          rw [pasteC_v hw hc hv, pasteV_no (by rw [pasteC_v hw hc hv]; decide)]
          exact ⟨A, cap, rfl, (H27.pickT (p := [_, _, _, _]) (m := [_]) [0] rfl (by decide))⟩
        · skip
          refine cw_skip ?_
          refine fn_block ?_
          refine fn_next ?_
          refine cw_reg ?_
          refine ry (y_mov rfl rfl) rfl rfl ?_
          refine ry (y_add rfl rfl rfl (wi (by omega))) rfl rfl ?_
          refine ry (y_asg rfl rfl) rfl rfl ?_
          refine reg_nil ?_
          refine fn_roundJ ⟨i + 1, rfl, H24, by omega, Lib.hid (fun j hj => (Nat.lt_or_eq_of_le (Nat.le_of_lt_succ hj)).elim (hp1.out j) (fun e => e ▸ Classical.not_not.1 hne)), rfl⟩ ⟨rfl, trivial⟩ (by omega) (by repeat (first | exact kp_refl | refine kp_app rfl rfl ?_ | refine kp_cons rfl ?_)) rfl
      · skip
        exact absurd (allB_nth (fun j hj => hp1.out j (by omega))) hv

set_option maxRecDepth 100000 in
theorem mPaste_ok (w0 : World) (l : List Ob) (a h : Nat) (A : Option Addr) (cap : Nat) (V : List Int) (p0 q0 p1 q1 : Nat) (L : List Int) (B : Option Addr) (n c2 : Nat) (w : World) (h1 : p0 ≤ p1) (h2 : p1 < a) (h3 : q0 ≤ q1) (h4 : q1 < h) (hw : withinC p0 q0 p1 q1 a h = 0) (hc : (L.length : Int) = areaI p0 q0 p1 q1) (hv : AllB L) (p : SzG a h) (hV : V.length = a * h) (hr : ∀ X, HS w0 X l → Rd X B (vi .i64 L)) (hl : L.length = n) (hn : n ≤ 16777216) (H0 : HS w0 w (Ob.row A (a * h) cap (vi .i64 (V)) 2 1 :: l)) :
    Ret Tryz.prog 17 [.agg #[.int .i64 (a : Int), .int .i64 (h : Int), .slice A (a * h) cap], .agg #[.int .i64 (p0 : Int), .int .i64 (q0 : Int), .int .i64 (p1 : Int), .int .i64 (q1 : Int)], .slice B n c2] w (fun z w' => ∃ A' cap', z = .tuple #[.agg #[.int .i64 (a : Int), .int .i64 (h : Int), .slice A' (a * h) cap'], .int .i64 (pasteC a h p0 q0 p1 q1 L)] ∧ HS w0 w' (Ob.row A' (a * h) cap' (vi .i64 (pasteV V a h p0 q0 p1 q1 L)) 2 1 :: l)) := by
  have hm' := p.mul
  obtain ⟨s1, s2, s3, s4⟩ := id p
  have hnn : n = (q1 + 1 - q0) * (p1 + 1 - p0) := by have := areaI_nat (p0 := p0) (q0 := q0) (p1 := p1) (q1 := q1) h1 (by omega) h3 (by omega); rw [this] at hc; omega
  have hnm : (q1 + 1 - q0) * (p1 + 1 - p0) ≤ 1024 * 1024 := Nat.mul_le_mul (by omega) (by omega)
  refine ret_enter Tryz.func17 rfl rfl rfl ?_
  refine cw_seq ?_
  refine cw_reg ?_
  refine reg_op (op_box (cs := [.int _ _, .int _ _, .slice _ _ _]) H0 rfl rfl rfl) rfl rfl ?_
  rintro _ w2 ⟨b1, rfl, H3⟩
  refine reg_op (op_box (cs := [.int _ _, .int _ _, .int _ _, .int _ _]) H3 rfl rfl rfl) rfl rfl ?_
  rintro _ w5 ⟨b4, rfl, H6⟩
  refine reg_op (op_alloc H6 rfl kfref10_1) rfl rfl ?_
  rintro _ w8 ⟨b7, rfl, H9⟩
  refine ry (y_asg rfl rfl) rfl rfl ?_
  refine reg_nil ?_
  refine fn_next ?_
  refine cw_seq ?_
  refine cw_reg ?_
  refine ry (y_ldb (i := 1) (cs := [_, _, _, _]) H9 rfl rfl kfref10_2 rfl rfl) rfl rfl ?_
  refine ry (y_fa rfl rfl kfref10_3 rfl) rfl rfl ?_
  refine ry (y_ld rfl rfl kfref10_4 (H9.cell (i := 2) rfl rfl)) rfl rfl ?_
  refine ry (y_fa rfl rfl kfref10_5 rfl) rfl rfl ?_
  refine ry (y_ld rfl rfl kfref10_4 (H9.cell (i := 2) rfl rfl)) rfl rfl ?_
  refine reg_op (op_call (ret_elder (refWithin_any p0 q0 p1 q1 a h _ (by omega) (by omega) (by omega) (by omega))) rfl kfref10_6 ⟨rfl, rfl, rfl, trivial⟩) rfl rfl ?_
  rintro _ w11 ⟨rfl, e10⟩
  have H12 := H9.ext e10
  refine ry (y_asg rfl rfl) rfl rfl ?_
  refine reg_nil ?_
  refine fn_next ?_
  refine cw_seq ?_
  refine cw_seq ?_
  refine cw_reg ?_
  refine ry (y_mov rfl rfl) rfl rfl ?_
  refine ry (y_neq rfl rfl rfl) rfl rfl ?_
  refine reg_nil ?_
  refine fn_next ?_
  refine cw_condd rfl (fun h13 => ?_) (fun h13 => ?_)
  · exact absurd hw h13
  · skip
    refine cw_skip ?_
    refine fn_next ?_
    refine cw_seq ?_
    refine cw_seq ?_
    refine cw_reg ?_
    refine ry (y_mov rfl rfl) rfl rfl ?_
    refine ry (y_len rfl Tryz.underlying24 rfl) rfl rfl ?_
    refine ry (y_ldb (i := 1) (cs := [_, _, _, _]) H12 rfl rfl kfref10_2 rfl rfl) rfl rfl ?_
    refine reg_op (op_call (ret_elder (refArea_any p0 q0 p1 q1 _)) rfl kfref10_9 ⟨rfl, trivial⟩) rfl rfl ?_
    rintro _ w15 ⟨rfl, e14⟩
    have H16 := H12.ext e14
    refine ry (y_neq rfl rfl rfl) rfl rfl ?_
    refine reg_nil ?_
    refine fn_next ?_
    refine cw_condd rfl (fun h17 => ?_) (fun h17 => ?_)
    · exact absurd (by rw [← hl]; exact hc) h17
    · skip
      refine cw_skip ?_
      refine fn_next ?_
      refine cw_seq ?_
      refine cw_seq ?_
      refine cw_reg ?_
      refine ry (y_asg rfl rfl) rfl rfl ?_
      refine reg_nil ?_
      refine fn_next ?_
      refine cw_block ?_
      refine cw_loopJ [7, 9, 30, 31, 32, 33, 34, 35, 36, 37, 38, 39, 40, 41, 42] (fun M wl ml => ∃ (i : Nat), M = [(9, .int .i64 (i : Int))] ∧ HS w0 wl (Ob.row A (a * h) cap (vi .i64 (V)) 2 1 :: Ob.blk b1 [.int .i64 (a : Int), .int .i64 (h : Int), .slice A (a * h) cap] 26 :: Ob.blk b4 [.int .i64 (p0 : Int), .int .i64 (q0 : Int), .int .i64 (p1 : Int), .int .i64 (q1 : Int)] 54 :: Ob.blk b7 [.int .i64 0, .int .i64 0, .slice none 0 0] 26 :: l) ∧ (i ≤ n) ∧ (Hid (∀ j, j < i → B32 (nth L j))) ∧ ml = n - i) ⟨0, rfl, (H16.pickT (p := [_, _, _, _]) (m := [_, _, _, _]) [3, 2, 1, 0] rfl (by decide)), Nat.zero_le _, Lib.hid (fun j hj => absurd hj (Nat.not_lt_zero _)), rfl⟩ ⟨rfl, trivial⟩ ?_
      rintro M w18 m20 ⟨i, rfl, H19, hp0, hp1, rfl⟩
      refine cw_seq ?_
      refine cw_seq ?_
      refine cw_reg ?_
      refine ry (y_mov rfl rfl) rfl rfl ?_
      refine ry (y_mov rfl rfl) rfl rfl ?_
      refine ry (y_len rfl Tryz.underlying24 rfl) rfl rfl ?_
      refine ry (y_lss rfl rfl rfl) rfl rfl ?_
      refine reg_nil ?_
      refine fn_next ?_
      refine cw_condd rfl (fun h21 => ?_) (fun h21 => ?_)
      · skip
        have hgi := vi_get (k := .i64) (zs := L) (i := i) (by omega)
        refine cw_skip ?_
        refine fn_next ?_
        refine cw_seq ?_
        refine cw_block ?_
        refine cw_seq ?_
        refine cw_reg ?_
        refine ry (y_mov rfl rfl) rfl rfl ?_
        refine ry (y_mov rfl rfl) rfl rfl ?_
        refine ry (y_iar (hr _ (H19.tail.tail.tail.tail)) rfl rfl rfl kfref10_10 (rfl) (by omega) (Nat.mul_one _) (hgi)) rfl rfl ?_
        refine ry (y_ldr (hr _ (H19.tail.tail.tail.tail)) rfl rfl kfref10_4 (hgi)) rfl rfl ?_
        refine reg_op (op_call (refMay_any (nth L i) _) rfl kfref10_11 ⟨rfl, trivial⟩) rfl rfl ?_
        rintro _ w23 ⟨rfl, e22⟩
        have H24 := H19.ext e22
        refine ry (y_notd rfl rfl) rfl rfl ?_
        refine reg_nil ?_
        refine fn_next ?_
        refine cw_condd rfl (fun hne => ?_) (fun hne => ?_)
        · exact absurd (hv.at_ (by omega)) hne
        · skip
          refine cw_skip ?_
          refine fn_block ?_
          refine fn_next ?_
          refine cw_reg ?_
          refine ry (y_mov rfl rfl) rfl rfl ?_
          refine ry (y_add rfl rfl rfl (wi (by omega))) rfl rfl ?_
          refine ry (y_asg rfl rfl) rfl rfl ?_
          refine reg_nil ?_
          refine fn_roundJ ⟨i + 1, rfl, H24, by omega, Lib.hid (fun j hj => (Nat.lt_or_eq_of_le (Nat.le_of_lt_succ hj)).elim (hp1.out j) (fun e => e ▸ Classical.not_not.1 hne)), rfl⟩ ⟨rfl, trivial⟩ (by omega) (by repeat (first | exact kp_refl | refine kp_app rfl rfl ?_ | refine kp_cons rfl ?_)) rfl
      · skip
        refine cw_exit ?_
        refine fn_then_exit (fn_then_exit (fn_block_exit ?_))
        refine fn_next ?_
        refine cw_seq ?_
        refine cw_drawT H19 [0, 1, 2, 3, 5, 6] (.alt (.step 4 (.alt (.step 7 (.alt (.step 8 (.step 9 (.step 10 (.leaf)))) (.step 9 (.step 8 (.step 10 (.leaf)))))) (.step 9 (.step 7 (.step 8 (.step 10 (.leaf))))))) (.step 9 (.step 4 (.step 7 (.step 8 (.step 10 (.leaf))))))) (fun X HX => HX) (by kernel_rfl) (by kernel_rfl) (by rfl) ?_
        simp only [pick, List.getElem?_cons_succ, List.getElem?_cons_zero]
        refine hk_y (fun Y HY => y_fa rfl rfl kfref10_3 rfl) rfl rfl ?_
        refine hk_y (fun Y HY => y_ld rfl rfl kfref10_4 (HY.cell (i := 1) rfl rfl)) rfl rfl ?_
        refine hk_y (fun Y HY => y_fa rfl rfl kfref10_5 rfl) rfl rfl ?_
        refine hk_y (fun Y HY => y_ld rfl rfl kfref10_4 (HY.cell (i := 1) rfl rfl)) rfl rfl ?_
        refine hk_y (fun Y HY => y_fa rfl rfl kfref10_12 rfl) rfl rfl ?_
        refine hk_y (fun Y HY => y_ld rfl rfl kfref10_13 (HY.cell (i := 1) rfl rfl)) rfl rfl ?_
        refine hkt_nil [10, 47, 50, 51] (fun M wl => ∃ (b' : Nat) (A' : Option Addr) (cap' : Nat), M = [(10, .pointer (some ⟨b', 0, none⟩))] ∧ HS w0 wl (Ob.row A' (a * h) cap' (vi .i64 (V)) 2 1 :: Ob.blk b' [.int .i64 (a : Int), .int .i64 (h : Int), .slice A' (a * h) cap'] 26 :: Ob.blk b1 [.int .i64 (a : Int), .int .i64 (h : Int), .slice A (a * h) cap] 26 :: Ob.blk b4 [.int .i64 (p0 : Int), .int .i64 (q0 : Int), .int .i64 (p1 : Int), .int .i64 (q1 : Int)] 54 :: Ob.blk b7 [.int .i64 0, .int .i64 0, .slice none 0 0] 26 :: l)) (fun wX HX => ?_) ?_
        · skip
          refine tt_alt ?_ ?_
          · skip
            refine tt_op rfl (op_lit (parts := []) (vs := []) (cs := []) HX rfl Tryz.underlying24 kfref10_14 rfl trivial rfl rfl) rfl rfl ?_
            rintro _ w27 ⟨b26, rfl, H28⟩
            have H29 := H28.asrow (m := 0) (size := 1) rfl (by decide)
            refine ⟨(H29.pickT (p := [_, _, _, _, _]) (m := [_, _, _, _]) [1, 2, 3, 4] rfl (by decide)), fun w30 e32 => ?_⟩
            have H31 := H29.ext e32
            refine tt_alt ?_ ?_
            · skip
              refine tt_op rfl (op_app (i := 0) (k := 0) (m := a * h) (ys := vi .i64 V) (size := 1) H31 rfl rfl rfl rfl (H31.rd (i := 1) rfl) (by rw [vi_len, hV, Nat.mul_one]) (vi_one) Tryz.underlying24 kfref10_15 rfl rfl (by unfold maxLen; omega) (by omega)) rfl rfl ?_
              rintro _ w35 ⟨A33, c34, rfl, H36⟩
              refine ⟨(H36.pickT (p := [_, _, _, _, _]) (m := [_, _, _, _]) [1, 2, 3, 4] rfl (by decide)), fun w37 e39 => ?_⟩
              have H38 := H36.ext e39
              refine tt_alt ?_ ?_
              · skip
                refine tt_op rfl (Yd.op (y_build (places := [(0, 1), (1, 1), (2, 1)]) (parts := [(0, _), (1, _), (2, _)]) (vs := [(0, _), (1, _), (2, _)]) (cs := [.int _ _, .int _ _, .slice _ _ _]) rfl Tryz.underlying26 (by kernel_rfl) kfref10_1 rfl ⟨rfl, rfl, rfl, trivial⟩ rfl)) rfl rfl ?_
                rintro _ _ ⟨rfl, rfl⟩
                refine ⟨(H38.pickT (p := [_, _, _, _, _]) (m := [_, _, _, _]) [1, 2, 3, 4] rfl (by decide)), fun w40 e42 => ?_⟩
                have H41 := H38.ext e42
                refine tt_op rfl (op_alloc H41 rfl kfref10_1) rfl rfl ?_
                rintro _ w44 ⟨b43, rfl, H45⟩
                refine ⟨(H45.pickT (p := [_, _, _, _, _, _]) (m := [_, _, _, _]) [2, 3, 4, 5] rfl (by decide)), fun w46 e48 => ?_⟩
                have H47 := H45.ext e48
                refine tt_op rfl (op_st (i := 0) (vs := [.int _ _, .int _ _, .slice _ _ _]) H47 rfl rfl rfl rfl rfl kfref10_8 rfl rfl rfl) rfl rfl ?_
                rintro _ w49 H50
                refine ⟨(H50.pickT (p := [_, _, _, _, _, _]) (m := [_, _, _, _]) [2, 3, 4, 5] rfl (by decide)), fun w51 e53 => ?_⟩
                have H52 := H50.ext e53
                simp only [Nat.zero_add, List.nil_append] at H52
                exact tt_leaf ⟨b43, A33, c34, rfl, (H52.pickT (p := [_, _, _, _, _, _]) (m := [_, _, _, _, _]) [1, 0, 3, 4, 5] rfl (by decide))⟩ ⟨rfl, trivial⟩ (by repeat (first | exact kp_refl | refine kp_app rfl rfl ?_ | refine kp_cons rfl ?_))
              refine tt_op rfl (op_alloc H38 rfl kfref10_1) rfl rfl ?_
              rintro _ w55 ⟨b54, rfl, H56⟩
              refine ⟨(H56.pickT (p := [_, _, _, _, _, _]) (m := [_, _, _, _]) [2, 3, 4, 5] rfl (by decide)), fun w57 e59 => ?_⟩
              have H58 := H56.ext e59
              refine tt_op rfl (Yd.op (y_build (places := [(0, 1), (1, 1), (2, 1)]) (parts := [(0, _), (1, _), (2, _)]) (vs := [(0, _), (1, _), (2, _)]) (cs := [.int _ _, .int _ _, .slice _ _ _]) rfl Tryz.underlying26 (by kernel_rfl) kfref10_1 rfl ⟨rfl, rfl, rfl, trivial⟩ rfl)) rfl rfl ?_
              rintro _ _ ⟨rfl, rfl⟩
              refine ⟨(H58.pickT (p := [_, _, _, _, _, _]) (m := [_, _, _, _]) [2, 3, 4, 5] rfl (by decide)), fun w60 e62 => ?_⟩
              have H61 := H58.ext e62
              refine tt_op rfl (op_st (i := 0) (vs := [.int _ _, .int _ _, .slice _ _ _]) H61 rfl rfl rfl rfl rfl kfref10_8 rfl rfl rfl) rfl rfl ?_
              rintro _ w63 H64
              refine ⟨(H64.pickT (p := [_, _, _, _, _, _]) (m := [_, _, _, _]) [2, 3, 4, 5] rfl (by decide)), fun w65 e67 => ?_⟩
              have H66 := H64.ext e67
              simp only [Nat.zero_add, List.nil_append] at H66
              exact tt_leaf ⟨b54, A33, c34, rfl, (H66.pickT (p := [_, _, _, _, _, _]) (m := [_, _, _, _, _]) [1, 0, 3, 4, 5] rfl (by decide))⟩ ⟨rfl, trivial⟩ (by repeat (first | exact kp_refl | refine kp_app rfl rfl ?_ | refine kp_cons rfl ?_))
            refine tt_op rfl (op_alloc H31 rfl kfref10_1) rfl rfl ?_
            rintro _ w69 ⟨b68, rfl, H70⟩
            refine ⟨(H70.pickT (p := [_, _, _, _, _, _]) (m := [_, _, _, _]) [2, 3, 4, 5] rfl (by decide)), fun w71 e73 => ?_⟩
            have H72 := H70.ext e73
            refine tt_op rfl (op_app (i := 1) (k := 0) (m := a * h) (ys := vi .i64 V) (size := 1) H72 rfl rfl rfl rfl (H72.rd (i := 2) rfl) (by rw [vi_len, hV, Nat.mul_one]) (vi_one) Tryz.underlying24 kfref10_15 rfl rfl (by unfold maxLen; omega) (by omega)) rfl rfl ?_
            rintro _ w76 ⟨A74, c75, rfl, H77⟩
            refine ⟨(H77.pickT (p := [_, _, _, _, _, _]) (m := [_, _, _, _]) [2, 3, 4, 5] rfl (by decide)), fun w78 e80 => ?_⟩
            have H79 := H77.ext e80
            refine tt_op rfl (Yd.op (y_build (places := [(0, 1), (1, 1), (2, 1)]) (parts := [(0, _), (1, _), (2, _)]) (vs := [(0, _), (1, _), (2, _)]) (cs := [.int _ _, .int _ _, .slice _ _ _]) rfl Tryz.underlying26 (by kernel_rfl) kfref10_1 rfl ⟨rfl, rfl, rfl, trivial⟩ rfl)) rfl rfl ?_
            rintro _ _ ⟨rfl, rfl⟩
            refine ⟨(H79.pickT (p := [_, _, _, _, _, _]) (m := [_, _, _, _]) [2, 3, 4, 5] rfl (by decide)), fun w81 e83 => ?_⟩
            have H82 := H79.ext e83
            refine tt_op rfl (op_st (i := 0) (vs := [.int _ _, .int _ _, .slice _ _ _]) H82 rfl rfl rfl rfl rfl kfref10_8 rfl rfl rfl) rfl rfl ?_
            rintro _ w84 H85
            refine ⟨(H85.pickT (p := [_, _, _, _, _, _]) (m := [_, _, _, _]) [2, 3, 4, 5] rfl (by decide)), fun w86 e88 => ?_⟩
            have H87 := H85.ext e88
            simp only [Nat.zero_add, List.nil_append] at H87
            exact tt_leaf ⟨b68, A74, c75, rfl, (H87.pickT (p := [_, _, _, _, _, _]) (m := [_, _, _, _, _]) [1, 0, 3, 4, 5] rfl (by decide))⟩ ⟨rfl, trivial⟩ (by repeat (first | exact kp_refl | refine kp_app rfl rfl ?_ | refine kp_cons rfl ?_))
          refine tt_op rfl (op_alloc HX rfl kfref10_1) rfl rfl ?_
          rintro _ w90 ⟨b89, rfl, H91⟩
          refine ⟨(H91.pickT (p := [_, _, _, _, _]) (m := [_, _, _, _]) [1, 2, 3, 4] rfl (by decide)), fun w92 e94 => ?_⟩
          have H93 := H91.ext e94
          refine tt_op rfl (op_lit (parts := []) (vs := []) (cs := []) H93 rfl Tryz.underlying24 kfref10_14 rfl trivial rfl rfl) rfl rfl ?_
          rintro _ w96 ⟨b95, rfl, H97⟩
          have H98 := H97.asrow (m := 0) (size := 1) rfl (by decide)
          refine ⟨(H98.pickT (p := [_, _, _, _, _, _]) (m := [_, _, _, _]) [2, 3, 4, 5] rfl (by decide)), fun w99 e101 => ?_⟩
          have H100 := H98.ext e101
          refine tt_op rfl (op_app (i := 0) (k := 0) (m := a * h) (ys := vi .i64 V) (size := 1) H100 rfl rfl rfl rfl (H100.rd (i := 2) rfl) (by rw [vi_len, hV, Nat.mul_one]) (vi_one) Tryz.underlying24 kfref10_15 rfl rfl (by unfold maxLen; omega) (by omega)) rfl rfl ?_
          rintro _ w104 ⟨A102, c103, rfl, H105⟩
          refine ⟨(H105.pickT (p := [_, _, _, _, _, _]) (m := [_, _, _, _]) [2, 3, 4, 5] rfl (by decide)), fun w106 e108 => ?_⟩
          have H107 := H105.ext e108
          refine tt_op rfl (Yd.op (y_build (places := [(0, 1), (1, 1), (2, 1)]) (parts := [(0, _), (1, _), (2, _)]) (vs := [(0, _), (1, _), (2, _)]) (cs := [.int _ _, .int _ _, .slice _ _ _]) rfl Tryz.underlying26 (by kernel_rfl) kfref10_1 rfl ⟨rfl, rfl, rfl, trivial⟩ rfl)) rfl rfl ?_
          rintro _ _ ⟨rfl, rfl⟩
          refine ⟨(H107.pickT (p := [_, _, _, _, _, _]) (m := [_, _, _, _]) [2, 3, 4, 5] rfl (by decide)), fun w109 e111 => ?_⟩
          have H110 := H107.ext e111
          refine tt_op rfl (op_st (i := 1) (vs := [.int _ _, .int _ _, .slice _ _ _]) H110 rfl rfl rfl rfl rfl kfref10_8 rfl rfl rfl) rfl rfl ?_
          rintro _ w112 H113
          refine ⟨(H113.pickT (p := [_, _, _, _, _, _]) (m := [_, _, _, _]) [2, 3, 4, 5] rfl (by decide)), fun w114 e116 => ?_⟩
          have H115 := H113.ext e116
          simp only [Nat.zero_add, List.nil_append] at H115
          exact tt_leaf ⟨b89, A102, c103, rfl, (H115.pickT (p := [_, _, _, _, _, _]) (m := [_, _, _, _, _]) [0, 1, 3, 4, 5] rfl (by decide))⟩ ⟨rfl, trivial⟩ (by repeat (first | exact kp_refl | refine kp_app rfl rfl ?_ | refine kp_cons rfl ?_))
        · skip
          rintro M w118 ⟨b', A', cap', rfl, H117⟩
          refine fn_next ?_
          refine cw_seq ?_
          refine cw_reg ?_
          refine ry (y_asg rfl rfl) rfl rfl ?_
          refine reg_nil ?_
          refine fn_next ?_
          refine cw_seq ?_
          refine cw_seq ?_
          refine cw_reg ?_
          refine ry (y_fa rfl rfl kfref10_16 rfl) rfl rfl ?_
          refine ry (y_ld rfl rfl kfref10_4 (H117.cell (i := 3) rfl rfl)) rfl rfl ?_
          refine ry (y_asg rfl rfl) rfl rfl ?_
          refine reg_nil ?_
          refine fn_next ?_
          refine cw_block ?_
          have hz : layT V a p0 q0 p1 q1 L (0 * (p1 + 1 - p0)) = V := by rw [Nat.zero_mul]; exact layT_zero
          have hE : HS w0 w118 (Ob.row A' (a * h) cap' (vi .i64 (layT V a p0 q0 p1 q1 L (0 * (p1 + 1 - p0)))) 2 1 :: Ob.blk b' [.int .i64 (a : Int), .int .i64 (h : Int), .slice A' (a * h) cap'] 26 :: Ob.blk b1 [.int .i64 (a : Int), .int .i64 (h : Int), .slice A (a * h) cap] 26 :: Ob.blk b4 [.int .i64 (p0 : Int), .int .i64 (q0 : Int), .int .i64 (p1 : Int), .int .i64 (q1 : Int)] 54 :: Ob.blk b7 [.int .i64 0, .int .i64 0, .slice none 0 0] 26 :: l) := by rw [hz]; exact (H117.pickT (p := [_, _, _, _, _]) (m := [_, _, _, _, _]) [0, 1, 2, 3, 4] rfl (by decide))
          refine cw_loopJ [11, 12, 13, 54, 55, 56, 57, 58, 59, 60, 61, 62, 63, 64, 65, 66, 67, 68, 69, 70, 71, 72, 73, 74, 75, 76, 77, 78, 79, 80, 81, 82] (fun M wl ml => ∃ (r : Nat), M = [(12, .int .i64 ((q0 + r : Nat) : Int)), (11, .int .i64 ((r * (p1 + 1 - p0) : Nat) : Int))] ∧ HS w0 wl (Ob.row A' (a * h) cap' (vi .i64 (layT V a p0 q0 p1 q1 L (r * (p1 + 1 - p0)))) 2 1 :: Ob.blk b' [.int .i64 (a : Int), .int .i64 (h : Int), .slice A' (a * h) cap'] 26 :: Ob.blk b1 [.int .i64 (a : Int), .int .i64 (h : Int), .slice A (a * h) cap] 26 :: Ob.blk b4 [.int .i64 (p0 : Int), .int .i64 (q0 : Int), .int .i64 (p1 : Int), .int .i64 (q1 : Int)] 54 :: Ob.blk b7 [.int .i64 0, .int .i64 0, .slice none 0 0] 26 :: l) ∧ (q0 + r ≤ q1 + 1) ∧ ml = q1 + 2 - (q0 + r)) ⟨0, rfl, hE, by omega, rfl⟩ ⟨rfl, by rw [Nat.zero_mul]; rfl, trivial⟩ ?_
          rintro M w119 m121 ⟨r, rfl, H120, hp0, rfl⟩
          refine cw_seq ?_
          refine cw_seq ?_
          refine cw_reg ?_
          refine ry (y_mov rfl rfl) rfl rfl ?_
          refine ry (y_fa rfl rfl kfref10_17 rfl) rfl rfl ?_
          refine ry (y_ld rfl rfl kfref10_4 (H120.cell (i := 3) rfl rfl)) rfl rfl ?_
          refine ry (y_leq rfl rfl rfl) rfl rfl ?_
          refine reg_nil ?_
          refine fn_next ?_
          refine cw_condd rfl (fun h122 => ?_) (fun h122 => ?_)
          · skip
            have hrn : (r + 1) * (p1 + 1 - p0) ≤ (q1 + 1 - q0) * (p1 + 1 - p0) := Nat.mul_le_mul_right _ (by omega)
            rw [Nat.succ_mul] at hrn
            refine cw_skip ?_
            refine fn_next ?_
            refine cw_seq ?_
            refine cw_block ?_
            refine cw_seq ?_
            refine cw_reg ?_
            refine ry (y_fa rfl rfl kfref10_18 rfl) rfl rfl ?_
            refine ry (y_ld rfl rfl kfref10_4 (H120.cell (i := 3) rfl rfl)) rfl rfl ?_
            refine ry (y_asg rfl rfl) rfl rfl ?_
            refine reg_nil ?_
            refine fn_next ?_
            refine cw_block ?_
            refine cw_loopJ [11, 13, 62, 63, 64, 65, 66, 67, 68, 69, 70, 71, 72, 73, 74, 75, 76, 77, 78, 79, 80, 81, 82] (fun M wl ml => ∃ (c : Nat), M = [(13, .int .i64 ((p0 + c : Nat) : Int)), (11, .int .i64 ((r * (p1 + 1 - p0) + c : Nat) : Int))] ∧ HS w0 wl (Ob.row A' (a * h) cap' (vi .i64 (layT V a p0 q0 p1 q1 L (r * (p1 + 1 - p0) + c))) 2 1 :: Ob.blk b' [.int .i64 (a : Int), .int .i64 (h : Int), .slice A' (a * h) cap'] 26 :: Ob.blk b1 [.int .i64 (a : Int), .int .i64 (h : Int), .slice A (a * h) cap] 26 :: Ob.blk b4 [.int .i64 (p0 : Int), .int .i64 (q0 : Int), .int .i64 (p1 : Int), .int .i64 (q1 : Int)] 54 :: Ob.blk b7 [.int .i64 0, .int .i64 0, .slice none 0 0] 26 :: l) ∧ (c ≤ (p1 + 1 - p0)) ∧ ml = p1 + 2 - (p0 + c)) ⟨0, rfl, H120, Nat.zero_le _, rfl⟩ ⟨rfl, rfl, trivial⟩ ?_
            rintro M w123 m125 ⟨c, rfl, H124, hp0, rfl⟩
            refine cw_seq ?_
            refine cw_seq ?_
            refine cw_reg ?_
            refine ry (y_mov rfl rfl) rfl rfl ?_
            refine ry (y_fa rfl rfl kfref10_19 rfl) rfl rfl ?_
            refine ry (y_ld rfl rfl kfref10_4 (H124.cell (i := 3) rfl rfl)) rfl rfl ?_
            refine ry (y_leq rfl rfl rfl) rfl rfl ?_
            refine reg_nil ?_
            refine fn_next ?_
            refine cw_condd rfl (fun h126 => ?_) (fun h126 => ?_)
            · skip
              obtain ⟨e1, e2, e3⟩ := row_bdG (x := p0 + c) (y := q0 + r) p (by omega) (by omega)
              have hgi := vi_get (k := .i64) (zs := L) (i := r * (p1 + 1 - p0) + c) (by omega)
              have hgo := vi_get (k := .i64) (zs := layT V a p0 q0 p1 q1 L (r * (p1 + 1 - p0) + c)) (i := (q0 + r) * a + (p0 + c)) (by rw [layT_len, hV]; exact e2)
              have hAd := H124.addr (i := 0) rfl hm'.1
              refine cw_skip ?_
              refine fn_next ?_
              refine cw_seq ?_
              refine cw_block ?_
              refine cw_seq ?_
              refine cw_draw H124 [0, 1, 2, 3, 4, 5, 6, 7, 8, 9, 10, 11, 12] [13] (fun X HX => (HX.pickT (p := [_, _, _, _, _]) (m := [_, _, _, _]) [1, 2, 3, 4] rfl (by decide))) (by kernel_rfl) (by kernel_rfl) (by rfl) ?_
              simp only [pick, List.getElem?_cons_succ, List.getElem?_cons_zero]
              refine hk_y (fun Y HY => y_fa rfl rfl kfref10_12 rfl) rfl rfl ?_
              refine hk_y (fun Y HY => y_ld rfl rfl kfref10_13 (HY.cell (i := 0) rfl rfl)) rfl rfl ?_
              refine hk_y (fun Y HY => y_mov rfl rfl) rfl rfl ?_
              refine hk_y (fun Y HY => y_fa rfl rfl kfref10_3 rfl) rfl rfl ?_
              refine hk_y (fun Y HY => y_ld rfl rfl kfref10_4 (HY.cell (i := 1) rfl rfl)) rfl rfl ?_
              refine hk_y (fun Y HY => y_mul rfl rfl rfl (show _ = (((q0 + r) * a : Nat) : Int) from by rw [e1]; exact wi (by omega))) rfl rfl ?_
              refine hk_y (fun Y HY => y_mov rfl rfl) rfl rfl ?_
              refine hk_y (fun Y HY => y_add rfl rfl rfl (show _ = (((q0 + r) * a + (p0 + c) : Nat) : Int) from by rw [Int.natCast_add ((q0 + r) * a)]; exact wi (by omega))) rfl rfl ?_
              refine hk_y (fun Y HY => y_mov rfl rfl) rfl rfl ?_
              refine hk_y (fun Y HY => y_mov rfl rfl) rfl rfl ?_
              refine hk_y (fun Y HY => y_iar (hr _ (HY.tail.tail.tail.tail)) rfl rfl rfl kfref10_10 (rfl) (by omega) (Nat.mul_one _) (hgi)) rfl rfl ?_
              refine hk_y (fun Y HY => y_ldr (hr _ (HY.tail.tail.tail.tail)) rfl rfl kfref10_4 (hgi)) rfl rfl ?_
              refine hk_y (fun Y HY => y_iae (hAd) rfl rfl rfl kfref10_10 (rfl) (by omega) (Nat.mul_one _)) rfl rfl ?_
              refine hk_nil ?_
              intro w127 H128
              refine tv_op (op_ste (i := 0) (vs := [.int _ _]) H128 rfl rfl rfl rfl rfl kfref10_20 rfl (by rw [vi_len, layT_len, hV]; exact e2) rfl rfl) rfl rfl ?_
              rintro _ w129 H130
              refine ⟨(H130.pickT (p := [_, _, _, _, _]) (m := [_, _, _, _]) [1, 2, 3, 4] rfl (by decide)), fun w131 e133 => ?_⟩
              have H132 := H130.ext e133
              refine tv_nil ?_
              refine fn_next ?_
              refine cw_reg ?_
              refine ry (y_mov rfl rfl) rfl rfl ?_
              refine ry (y_add rfl rfl rfl (wi (by omega))) rfl rfl ?_
              refine ry (y_asg rfl rfl) rfl rfl ?_
              refine reg_nil ?_
              refine fn_block ?_
              refine fn_next ?_
              refine cw_reg ?_
              refine ry (y_mov rfl rfl) rfl rfl ?_
              refine ry (y_add rfl rfl rfl (wi (by omega))) rfl rfl ?_
              refine ry (y_asg rfl rfl) rfl rfl ?_
              refine reg_nil ?_
              rw [vi_set, layT_set p hV h1 h2 h4 (by omega) (by omega)] at H132
              refine fn_roundJ ⟨c + 1, rfl, H132, by omega, rfl⟩ ⟨rfl, rfl, trivial⟩ (by omega) (by repeat (first | exact kp_refl | refine kp_app rfl rfl ?_ | refine kp_cons rfl ?_)) rfl
            · skip
              obtain rfl : c = (p1 + 1 - p0) := by omega
              refine cw_exit ?_
              refine fn_then_exit (fn_then_exit (fn_block_exit ?_))
              refine fn_block ?_
              refine fn_next ?_
              refine cw_reg ?_
              refine ry (y_mov rfl rfl) rfl rfl ?_
              refine ry (y_add rfl rfl rfl (wi (by omega))) rfl rfl ?_
              refine ry (y_asg rfl rfl) rfl rfl ?_
              refine reg_nil ?_
              rw [← Nat.succ_mul] at H124
              refine fn_roundJ ⟨r + 1, rfl, H124, by omega, rfl⟩ ⟨rfl, by rw [Nat.succ_mul]; rfl, trivial⟩ (by omega) (by repeat (first | exact kp_refl | refine kp_app rfl rfl ?_ | refine kp_cons rfl ?_)) rfl
          · skip
            obtain rfl : r = q1 + 1 - q0 := by omega
            refine cw_exit ?_
            refine fn_then_exit (fn_then_exit (fn_block_exit ?_))
            refine fn_next ?_
            refine cw_seq ?_
            refine cw_reg ?_
            refine ry (y_ldb (i := 1) (cs := [_, _, _]) H120 rfl rfl kfref10_7 rfl rfl) rfl rfl ?_
            refine reg_op (op_st (i := 4) (vs := [.int _ _, .int _ _, .slice _ _ _]) H120 rfl rfl rfl rfl rfl kfref10_8 rfl rfl rfl) rfl rfl ?_
            rintro _ w134 H135
            refine ry (y_asg rfl rfl) rfl rfl ?_
            refine reg_nil ?_
            refine fn_next ?_
            refine cw_ret ?_
            refine fn_retn (vs := [_, _]) rfl ⟨⟨_, rfl, load_agg (cs := [_, _, _]) kfref10_7 rfl fun j v hv => by rw [Nat.zero_add]; exact H135.cell (i := 4) rfl hv⟩, rfl, trivial⟩ rfl ?_
            rw [pasteC_ok hw hc hv, pasteV_ok (pasteC_ok hw hc hv), layV_nat, hl, hnn]
            exact ⟨_, _, rfl, (H135.pickT (p := [_, _, _, _, _]) (m := [_]) [0] rfl (by decide))⟩

theorem mPaste (w0 : World) (l : List Ob) (a h : Nat) (A : Option Addr) (cap : Nat) (V : List Int) (x0 y0 x1 y1 : Int) (L : List Int) (B : Option Addr) (n c2 : Nat) (w : World) (p : SzG a h) (hV : V.length = a * h) (hr : ∀ X, HS w0 X l → Rd X B (vi .i64 L)) (hl : L.length = n) (hn : n ≤ 16777216) (H0 : HS w0 w (Ob.row A (a * h) cap (vi .i64 (V)) 2 1 :: l)) : Ret Tryz.prog 17 [.agg #[.int .i64 (a : Int), .int .i64 (h : Int), .slice A (a * h) cap], .agg #[.int .i64 x0, .int .i64 y0, .int .i64 x1, .int .i64 y1], .slice B n c2] w (fun z w' => ∃ A' cap', z = .tuple #[.agg #[.int .i64 (a : Int), .int .i64 (h : Int), .slice A' (a * h) cap'], .int .i64 (pasteC a h x0 y0 x1 y1 L)] ∧ HS w0 w' (Ob.row A' (a * h) cap' (vi .i64 (pasteV V a h x0 y0 x1 y1 L)) 2 1 :: l)) := by
  by_cases hw : withinC x0 y0 x1 y1 a h = 0
  · by_cases hc : (L.length : Int) = areaI x0 y0 x1 y1
    · by_cases hv : AllB L
      · obtain ⟨p0, q0, p1, q1, rfl, rfl, rfl, rfl, h1, h2, h3, h4⟩ := within_natG p hw
        exact mPaste_ok w0 l a h A cap V p0 q0 p1 q1 L B n c2 w h1 h2 h3 h4 hw hc hv p hV hr hl hn H0
      · exact mPaste_v w0 l a h A cap V x0 y0 x1 y1 L B n c2 w hw hc hv p hV hr hl hn H0
    · exact mPaste_n w0 l a h A cap V x0 y0 x1 y1 L B n c2 w hw hc p hV hr hl hn H0
  · exact mPaste_w w0 l a h A cap V x0 y0 x1 y1 L B n c2 w hw p hV hr hl hn H0

end Go.Proofs.YtbnjbgcadkdljaaGreatDoor
