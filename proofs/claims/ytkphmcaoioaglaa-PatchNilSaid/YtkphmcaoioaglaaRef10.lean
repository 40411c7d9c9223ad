/- Layers 9 and 10: the reference's Paste and From; Stamp. -/
import Derived.Test.YtkphmcaoioaglaaPaint1
set_option linter.unusedVariables false
set_option linter.unusedSimpArgs false
namespace Go.Proofs.Ytkphmcaoioaglaa
open Go Go.RowKit
theorem kfref10_1 : (Try.prog.info? 34).bind (fun i => i.zero.map Value.cells) = some (List.toArray [(.int .i64 0), (.int .i64 0), (.slice none 0 0)]) := by kernel_rfl
theorem kfref10_2 : aggB Try.prog 24 4 = true := by kernel_rfl
theorem kfref10_3 : fldB Try.prog 34 0 0 = true := by kernel_rfl
theorem kfref10_4 : oneB Try.prog 2 = true := by kernel_rfl
theorem kfref10_5 : fldB Try.prog 34 1 1 = true := by kernel_rfl
theorem kfref10_6 : callB Try.prog 81 = true := by kernel_rfl
theorem kfref10_7 : aggB Try.prog 34 3 = true := by kernel_rfl
theorem kfref10_8 : szB Try.prog 34 3 = true := by kernel_rfl
theorem kfref10_9 : callB Try.prog 123 = true := by kernel_rfl
theorem kfref10_10 : elB Try.prog 32 1 = true := by kernel_rfl
theorem kfref10_11 : callB Try.prog 32 = true := by kernel_rfl
theorem kfref10_12 : fldB Try.prog 34 2 2 = true := by kernel_rfl
theorem kfref10_13 : oneB Try.prog 32 = true := by kernel_rfl
theorem kfref10_14 : (Try.prog.info? 2).map (fun i => (i.size, i.zero.map Value.cells)) = some (1, some (List.toArray [(.int .i64 0)])) := by kernel_rfl
theorem kfref10_15 : (Try.prog.info? 2).map (fun i => (i.zero.map (·.cells.toList), i.size, i.bytes)) = some (some [(.int .i64 0)], 1, 8) := by kernel_rfl
theorem kfref10_16 : fldB Try.prog 24 1 1 = true := by kernel_rfl
theorem kfref10_17 : fldB Try.prog 24 3 3 = true := by kernel_rfl
theorem kfref10_18 : fldB Try.prog 24 0 0 = true := by kernel_rfl
theorem kfref10_19 : fldB Try.prog 24 2 2 = true := by kernel_rfl
theorem kfref10_20 : szB Try.prog 2 1 = true := by kernel_rfl
theorem kfref10_21 : callB Try.prog 43 = true := by kernel_rfl
theorem kfref10_22 : callB Try.prog 52 = true := by kernel_rfl
theorem kfref10_23 : callB Try.prog 99 = true := by kernel_rfl
theorem kfref10_24 : callB Try.prog 46 = true := by kernel_rfl
theorem kfref10_25 : aggB Try.prog 26 2 = true := by kernel_rfl
theorem kfref10_26 : callB Try.prog 45 = true := by kernel_rfl
theorem kfref10_27 : fldB Try.prog 26 0 0 = true := by kernel_rfl
theorem kfref10_28 : fldB Try.prog 26 1 1 = true := by kernel_rfl
theorem kfref10_29 : (Try.prog.info? 24).bind (fun i => i.zero.map Value.cells) = some (List.toArray [(.int .i64 0), (.int .i64 0), (.int .i64 0), (.int .i64 0)]) := by kernel_rfl
theorem kfref10_30 : szB Try.prog 24 4 = true := by kernel_rfl
theorem kfref10_31 : callB Try.prog 103 = true := by kernel_rfl
theorem layT_set {V L : List Int} {a h p0 q0 p1 q1 r c : Nat} (s : SzG a h) (hl : V.length = a * h) (h1 : p0 ≤ p1) (h2 : p1 < a) (h4 : q1 < h) (hr : q0 + r ≤ q1) (hc : c < p1 + 1 - p0) : (layT V a p0 q0 p1 q1 L (r * (p1 + 1 - p0) + c)).set ((q0 + r) * a + (p0 + c)) (nth L (r * (p1 + 1 - p0) + c)) = layT V a p0 q0 p1 q1 L (r * (p1 + 1 - p0) + (c + 1)) := by
  have hx : p0 + c < a := by omega
  have hy : q0 + r < h := by omega
  have hlt := cell_lt hx hy
  refine nth_ext (by rw [List.length_set, layT_len, layT_len]) fun m hm => ?_
  rw [List.length_set, layT_len] at hm
  rw [nth_put (by rw [layT_len, hl]; exact hlt), layT_at hm, layT_at hm]
  by_cases e : m = (q0 + r) * a + (p0 + c)
  · obtain ⟨d1, d2⟩ := div_of hx e
    have er : rk p0 q0 (p1 + 1 - p0) (m % a) (m / a) = r * (p1 + 1 - p0) + c := by
      rw [d1, d2]; unfold rk; rw [show q0 + r - q0 = r by omega, show p0 + c - p0 = c by omega]
    rw [if_pos e, er, d1, d2, if_pos ⟨by omega, by omega⟩]
  · rw [if_neg e]
    by_cases hR : p0 ≤ m % a ∧ m % a ≤ p1 ∧ q0 ≤ m / a ∧ m / a ≤ q1
    · have hne : ¬ rk p0 q0 (p1 + 1 - p0) (m % a) (m / a) = r * (p1 + 1 - p0) + c := fun k => by
        have := (rk_between (p0 := p0) (q0 := q0) (n := p1 + 1 - p0) (x := m % a) (y := m / a) (r := r) (c := c) (k := 1) hR.1 (by omega) hR.2.2.1 (by omega)).1 (by omega)
        have e1 := of_div (rfl : m / a = _) (rfl : m % a = _)
        rw [this.1, show m % a = p0 + c by omega] at e1
        exact e e1
      by_cases hlt2 : rk p0 q0 (p1 + 1 - p0) (m % a) (m / a) < r * (p1 + 1 - p0) + c
      · rw [if_pos ⟨hR, hlt2⟩, if_pos ⟨hR, by omega⟩]
      · rw [if_neg (fun k => hlt2 k.2), if_neg (fun k => hlt2 (by omega))]
    · rw [if_neg (fun k => hR k.1), if_neg (fun k => hR k.1)]

set_option maxRecDepth 100000 in
theorem mPaste_w (w0 : World) (l : List Ob) (a h : Nat) (A : Option Addr) (cap : Nat) (V : List Int) (x0 y0 x1 y1 : Int) (L : List Int) (B : Option Addr) (n c2 : Nat) (w : World) (hw : ¬ withinC x0 y0 x1 y1 a h = 0) (p : SzG a h) (hV : V.length = a * h) (hr : ∀ X, HS w0 X l → Rd X B (vi .i64 L)) (hl : L.length = n) (hn : n ≤ 16777216) (H0 : HS w0 w (Ob.row A (a * h) cap (vi .i64 (V)) 2 1 :: l)) :
    Ret Try.prog 99 [.agg #[.int .i64 (a : Int), .int .i64 (h : Int), .slice A (a * h) cap], .agg #[.int .i64 x0, .int .i64 y0, .int .i64 x1, .int .i64 y1], .slice B n c2] w (fun z w' => ∃ A' cap', z = .tuple #[.agg #[.int .i64 (a : Int), .int .i64 (h : Int), .slice A' (a * h) cap'], .int .i64 (pasteC a h x0 y0 x1 y1 L)] ∧ HS w0 w' (Ob.row A' (a * h) cap' (vi .i64 (pasteV V a h x0 y0 x1 y1 L)) 2 1 :: l)) := by
  have hm' := p.mul
  obtain ⟨s1, s2, s3, s4⟩ := id p
  refine ret_enter Try.func99 rfl rfl rfl ?_
  refine cw_seq ?_
  refine cw_reg ?_
  refine reg_op (op_box (cs := [.int _ _, .int _ _, .slice _ _ _]) H0 rfl rfl rfl) rfl rfl ?_
  rintro _ w2 ⟨b1, rfl, H3⟩
  refine reg_op (op_box (cs := [.int _ _, .int _ _, .int _ _, .int _ _]) H3 rfl rfl rfl) rfl rfl ?_
  rintro _ w5 ⟨b4, rfl, H6⟩
  refine reg_op (op_alloc H6 rfl kfref10_1) rfl rfl ?_
  rintro _ w8 ⟨b7, rfl, H9⟩
  refine ry (y_asg rfl rfl) rfl rfl ?_
  refine reg_nil ?_
  refine fn_next ?_
  refine cw_seq ?_
  refine cw_reg ?_
  refine ry (y_ldb (i := 1) (cs := [_, _, _, _]) H9 rfl rfl kfref10_2 rfl rfl) rfl rfl ?_
  refine ry (y_fa rfl rfl kfref10_3 rfl) rfl rfl ?_
  refine ry (y_ld rfl rfl kfref10_4 (H9.cell (i := 2) rfl rfl)) rfl rfl ?_
  refine ry (y_fa rfl rfl kfref10_5 rfl) rfl rfl ?_
  refine ry (y_ld rfl rfl kfref10_4 (H9.cell (i := 2) rfl rfl)) rfl rfl ?_
  refine reg_op (op_call (ret_elder (refWithin_any x0 y0 x1 y1 a h _ (by omega) (by omega) (by omega) (by omega))) rfl kfref10_6 ⟨rfl, rfl, rfl, trivial⟩) rfl rfl ?_
  rintro _ w11 ⟨rfl, e10⟩
  have H12 := H9.ext e10
  refine ry (y_asg rfl rfl) rfl rfl ?_
  refine reg_nil ?_
  refine fn_next ?_
  refine cw_seq ?_
  refine cw_seq ?_
  refine cw_reg ?_
  refine ry (y_mov rfl rfl) rfl rfl ?_
  refine ry (y_neq rfl rfl rfl) rfl rfl ?_
  refine reg_nil ?_
  refine fn_next ?_
  refine cw_condd rfl (fun h13 => ?_) (fun h13 => ?_)
  · skip
    refine cw_seq ?_
    refine cw_reg ?_
    refine ry (y_ldb (i := 2) (cs := [_, _, _]) H12 rfl rfl kfref10_7 rfl rfl) rfl rfl ?_
    refine ry (y_mov rfl rfl) rfl rfl ?_
    refine reg_op (op_st (i := 0) (vs := [.int _ _, .int _ _, .slice _ _ _]) H12 rfl rfl rfl rfl rfl kfref10_8 rfl rfl rfl) rfl rfl ?_
    rintro _ w14 H15
    refine ry (y_asg rfl rfl) rfl rfl ?_
    refine reg_nil ?_
    refine fn_next ?_
    refine cw_ret ?_
    refine fn_then_ret ?_
    refine fn_retn (vs := [_, _]) rfl ⟨⟨_, rfl, load_agg (cs := [_, _, _]) kfref10_7 rfl fun j v hv => by rw [Nat.zero_add]; exact H15.cell (i := 0) rfl hv⟩, rfl, trivial⟩ rfl ?_
    rw [pasteC_w hw, pasteV_no (by rw [pasteC_w hw]; exact hw)]
    exact ⟨A, cap, rfl, (H15.pickT (p := [_, _, _, _]) (m := [_]) [3] rfl (by decide))⟩
  · exact absurd (Classical.not_not.1 h13) hw

set_option maxRecDepth 100000 in
theorem mPaste_n (w0 : World) (l : List Ob) (a h : Nat) (A : Option Addr) (cap : Nat) (V : List Int) (x0 y0 x1 y1 : Int) (L : List Int) (B : Option Addr) (n c2 : Nat) (w : World) (hw : withinC x0 y0 x1 y1 a h = 0) (hc : ¬ (L.length : Int) = areaI x0 y0 x1 y1) (p : SzG a h) (hV : V.length = a * h) (hr : ∀ X, HS w0 X l → Rd X B (vi .i64 L)) (hl : L.length = n) (hn : n ≤ 16777216) (H0 : HS w0 w (Ob.row A (a * h) cap (vi .i64 (V)) 2 1 :: l)) :
    Ret Try.prog 99 [.agg #[.int .i64 (a : Int), .int .i64 (h : Int), .slice A (a * h) cap], .agg #[.int .i64 x0, .int .i64 y0, .int .i64 x1, .int .i64 y1], .slice B n c2] w (fun z w' => ∃ A' cap', z = .tuple #[.agg #[.int .i64 (a : Int), .int .i64 (h : Int), .slice A' (a * h) cap'], .int .i64 (pasteC a h x0 y0 x1 y1 L)] ∧ HS w0 w' (Ob.row A' (a * h) cap' (vi .i64 (pasteV V a h x0 y0 x1 y1 L)) 2 1 :: l)) := by
  have hm' := p.mul
  obtain ⟨s1, s2, s3, s4⟩ := id p
  refine ret_enter Try.func99 rfl rfl rfl ?_
  refine cw_seq ?_
  refine cw_reg ?_
  refine reg_op (op_box (cs := [.int _ _, .int _ _, .slice _ _ _]) H0 rfl rfl rfl) rfl rfl ?_
  rintro _ w2 ⟨b1, rfl, H3⟩
  refine reg_op (op_box (cs := [.int _ _, .int _ _, .int _ _, .int _ _]) H3 rfl rfl rfl) rfl rfl ?_
  rintro _ w5 ⟨b4, rfl, H6⟩
  refine reg_op (op_alloc H6 rfl kfref10_1) rfl rfl ?_
  rintro _ w8 ⟨b7, rfl, H9⟩
  refine ry (y_asg rfl rfl) rfl rfl ?_
  refine reg_nil ?_
  refine fn_next ?_
  refine cw_seq ?_
  refine cw_reg ?_
  refine ry (y_ldb (i := 1) (cs := [_, _, _, _]) H9 rfl rfl kfref10_2 rfl rfl) rfl rfl ?_
  refine ry (y_fa rfl rfl kfref10_3 rfl) rfl rfl ?_
  refine ry (y_ld rfl rfl kfref10_4 (H9.cell (i := 2) rfl rfl)) rfl rfl ?_
  refine ry (y_fa rfl rfl kfref10_5 rfl) rfl rfl ?_
  refine ry (y_ld rfl rfl kfref10_4 (H9.cell (i := 2) rfl rfl)) rfl rfl ?_
  refine reg_op (op_call (ret_elder (refWithin_any x0 y0 x1 y1 a h _ (by omega) (by omega) (by omega) (by omega))) rfl kfref10_6 ⟨rfl, rfl, rfl, trivial⟩) rfl rfl ?_
  rintro _ w11 ⟨rfl, e10⟩
  have H12 := H9.ext e10
  refine ry (y_asg rfl rfl) rfl rfl ?_
  refine reg_nil ?_
  refine fn_next ?_
  refine cw_seq ?_
  refine cw_seq ?_
  refine cw_reg ?_
  refine ry (y_mov rfl rfl) rfl rfl ?_
  refine ry (y_neq rfl rfl rfl) rfl rfl ?_
  refine reg_nil ?_
  refine fn_next ?_
  refine cw_condd rfl (fun h13 => ?_) (fun h13 => ?_)
  · exact absurd hw h13
  · skip
    refine cw_skip ?_
    refine fn_next ?_
    refine cw_seq ?_
    refine cw_seq ?_
    refine cw_reg ?_
    refine ry (y_mov rfl rfl) rfl rfl ?_
    refine ry (y_len rfl Try.underlying32 rfl) rfl rfl ?_
    refine ry (y_ldb (i := 1) (cs := [_, _, _, _]) H12 rfl rfl kfref10_2 rfl rfl) rfl rfl ?_
    refine reg_op (op_call (ret_elder (refArea_any x0 y0 x1 y1 _)) rfl kfref10_9 ⟨rfl, trivial⟩) rfl rfl ?_
    rintro _ w15 ⟨rfl, e14⟩
    have H16 := H12.ext e14
    refine ry (y_neq rfl rfl rfl) rfl rfl ?_
    refine reg_nil ?_
    refine fn_next ?_
    refine cw_condd rfl (fun h17 => ?_) (fun h17 => ?_)
    · skip
      refine cw_seq ?_
      refine cw_reg ?_
      refine ry (y_ldb (i := 2) (cs := [_, _, _]) H16 rfl rfl kfref10_7 rfl rfl) rfl rfl ?_
      refine reg_op (op_st (i := 0) (vs := [.int _ _, .int _ _, .slice _ _ _]) H16 rfl rfl rfl rfl rfl kfref10_8 rfl rfl rfl) rfl rfl ?_
      rintro _ w18 H19
      refine ry (y_asg rfl rfl) rfl rfl ?_
      refine reg_nil ?_
      refine fn_next ?_
      refine cw_ret ?_
      refine fn_then_ret ?_
      refine fn_retn (vs := [_, _]) rfl ⟨⟨_, rfl, load_agg (cs := [_, _, _]) kfref10_7 rfl fun j v hv => by rw [Nat.zero_add]; exact H19.cell (i := 0) rfl hv⟩, rfl, trivial⟩ rfl ?_
      rw [pasteC_n hw hc, pasteV_no (by rw [pasteC_n hw hc]; decide)]
      exact ⟨A, cap, rfl, (H19.pickT (p := [_, _, _, _]) (m := [_]) [3] rfl (by decide))⟩
    · exact absurd (by rw [hl]; exact Classical.not_not.1 h17) hc

set_option maxRecDepth 100000 in
theorem mPaste_v (w0 : World) (l : List Ob) (a h : Nat) (A : Option Addr) (cap : Nat) (V : List Int) (x0 y0 x1 y1 : Int) (L : List Int) (B : Option Addr) (n c2 : Nat) (w : World) (hw : withinC x0 y0 x1 y1 a h = 0) (hc : (L.length : Int) = areaI x0 y0 x1 y1) (hv : ¬ AllB L) (p : SzG a h) (hV : V.length = a * h) (hr : ∀ X, HS w0 X l → Rd X B (vi .i64 L)) (hl : L.length = n) (hn : n ≤ 16777216) (H0 : HS w0 w (Ob.row A (a * h) cap (vi .i64 (V)) 2 1 :: l)) :
    Ret Try.prog 99 [.agg #[.int .i64 (a : Int), .int .i64 (h : Int), .slice A (a * h) cap], .agg #[.int .i64 x0, .int .i64 y0, .int .i64 x1, .int .i64 y1], .slice B n c2] w (fun z w' => ∃ A' cap', z = .tuple #[.agg #[.int .i64 (a : Int), .int .i64 (h : Int), .slice A' (a * h) cap'], .int .i64 (pasteC a h x0 y0 x1 y1 L)] ∧ HS w0 w' (Ob.row A' (a * h) cap' (vi .i64 (pasteV V a h x0 y0 x1 y1 L)) 2 1 :: l)) := by
  have hm' := p.mul
  obtain ⟨s1, s2, s3, s4⟩ := id p
  refine ret_enter Try.func99 rfl rfl rfl ?_
  refine cw_seq ?_
  refine cw_reg ?_
  refine reg_op (op_box (cs := [.int _ _, .int _ _, .slice _ _ _]) H0 rfl rfl rfl) rfl rfl ?_
  rintro _ w2 ⟨b1, rfl, H3⟩
  refine reg_op (op_box (cs := [.int _ _, .int _ _, .int _ _, .int _ _]) H3 rfl rfl rfl) rfl rfl ?_
  rintro _ w5 ⟨b4, rfl, H6⟩
  refine reg_op (op_alloc H6 rfl kfref10_1) rfl rfl ?_
  rintro _ w8 ⟨b7, rfl, H9⟩
  refine ry (y_asg rfl rfl) rfl rfl ?_
  refine reg_nil ?_
  refine fn_next ?_
  refine cw_seq ?_
  refine cw_reg ?_
  refine ry (y_ldb (i := 1) (cs := [_, _, _, _]) H9 rfl rfl kfref10_2 rfl rfl) rfl rfl ?_
  refine ry (y_fa rfl rfl kfref10_3 rfl) rfl rfl ?_
  refine ry (y_ld rfl rfl kfref10_4 (H9.cell (i := 2) rfl rfl)) rfl rfl ?_
  refine ry (y_fa rfl rfl kfref10_5 rfl) rfl rfl ?_
  refine ry (y_ld rfl rfl kfref10_4 (H9.cell (i := 2) rfl rfl)) rfl rfl ?_
  refine reg_op (op_call (ret_elder (refWithin_any x0 y0 x1 y1 a h _ (by omega) (by omega) (by omega) (by omega))) rfl kfref10_6 ⟨rfl, rfl, rfl, trivial⟩) rfl rfl ?_
  rintro _ w11 ⟨rfl, e10⟩
  have H12 := H9.ext e10
  refine ry (y_asg rfl rfl) rfl rfl ?_
  refine reg_nil ?_
  refine fn_next ?_
  refine cw_seq ?_
  refine cw_seq ?_
  refine cw_reg ?_
  refine ry (y_mov rfl rfl) rfl rfl ?_
  refine ry (y_neq rfl rfl rfl) rfl rfl ?_
  refine reg_nil ?_
  refine fn_next ?_
  refine cw_condd rfl (fun h13 => ?_) (fun h13 => ?_)
  · exact absurd hw h13
  · skip
    refine cw_skip ?_
    refine fn_next ?_
    refine cw_seq ?_
    refine cw_seq ?_
    refine cw_reg ?_
    refine ry (y_mov rfl rfl) rfl rfl ?_
    refine ry (y_len rfl Try.underlying32 rfl) rfl rfl ?_
    refine ry (y_ldb (i := 1) (cs := [_, _, _, _]) H12 rfl rfl kfref10_2 rfl rfl) rfl rfl ?_
    refine reg_op (op_call (ret_elder (refArea_any x0 y0 x1 y1 _)) rfl kfref10_9 ⟨rfl, trivial⟩) rfl rfl ?_
    rintro _ w15 ⟨rfl, e14⟩
    have H16 := H12.ext e14
    refine ry (y_neq rfl rfl rfl) rfl rfl ?_
    refine reg_nil ?_
    refine fn_next ?_
    refine cw_condd rfl (fun h17 => ?_) (fun h17 => ?_)
    · exact absurd (by rw [← hl]; exact hc) h17
    · skip
      refine cw_skip ?_
      refine fn_next ?_
      refine cw_seq ?_
      refine cw_seq ?_
      refine cw_reg ?_
      refine ry (y_asg rfl rfl) rfl rfl ?_
      refine reg_nil ?_
      refine fn_next ?_
      refine cw_block ?_
      refine cw_loopJ [7, 9, 30, 31, 32, 33, 34, 35, 36, 37, 38, 39, 40, 41, 42] (fun M wl ml => ∃ (i : Nat), M = [(9, .int .i64 (i : Int))] ∧ HS w0 wl (Ob.row A (a * h) cap (vi .i64 (V)) 2 1 :: Ob.blk b1 [.int .i64 (a : Int), .int .i64 (h : Int), .slice A (a * h) cap] 34 :: Ob.blk b4 [.int .i64 x0, .int .i64 y0, .int .i64 x1, .int .i64 y1] 24 :: Ob.blk b7 [.int .i64 0, .int .i64 0, .slice none 0 0] 34 :: l) ∧ (i ≤ n) ∧ (Hid (∀ j, j < i → B32 (nth L j))) ∧ ml = n - i) ⟨0, rfl, (H16.pickT (p := [_, _, _, _]) (m := [_, _, _, _]) [3, 2, 1, 0] rfl (by decide)), Nat.zero_le _, Lib.hid (fun j hj => absurd hj (Nat.not_lt_zero _)), rfl⟩ ⟨rfl, trivial⟩ ?_
      rintro M w18 m20 ⟨i, rfl, H19, hp0, hp1, rfl⟩
      refine cw_seq ?_
      refine cw_seq ?_
      refine cw_reg ?_
      refine ry (y_mov rfl rfl) rfl rfl ?_
      refine ry (y_mov rfl rfl) rfl rfl ?_
      refine ry (y_len rfl Try.underlying32 rfl) rfl rfl ?_
      refine ry (y_lss rfl rfl rfl) rfl rfl ?_
      refine reg_nil ?_
      refine fn_next ?_
      refine cw_condd rfl (fun h21 => ?_) (fun h21 => ?_)
      · skip
        have hgi := vi_get (k := .i64) (zs := L) (i := i) (by omega)
        refine cw_skip ?_
        refine fn_next ?_
        refine cw_seq ?_
        refine cw_block ?_
        refine cw_seq ?_
        refine cw_reg ?_
        refine ry (y_mov rfl rfl) rfl rfl ?_
        refine ry (y_mov rfl rfl) rfl rfl ?_
        refine ry (y_iar (hr _ (H19.tail.tail.tail.tail)) rfl rfl rfl kfref10_10 (rfl) (by omega) (Nat.mul_one _) (hgi)) rfl rfl ?_
        refine ry (y_ldr (hr _ (H19.tail.tail.tail.tail)) rfl rfl kfref10_4 (hgi)) rfl rfl ?_
        refine reg_op (op_call (refMay_any (nth L i) _) rfl kfref10_11 ⟨rfl, trivial⟩) rfl rfl ?_
        rintro _ w23 ⟨rfl, e22⟩
        have H24 := H19.ext e22
        refine ry (y_notd rfl rfl) rfl rfl ?_
        refine reg_nil ?_
        refine fn_next ?_
        refine cw_condd rfl (fun hne => ?_) (fun hne => ?_)
        · skip
          refine cw_seq ?_
          refine cw_reg ?_
          refine ry (y_ldb (i := 1) (cs := [_, _, _]) H24 rfl rfl kfref10_7 rfl rfl) rfl rfl ?_
          refine reg_op (op_st (i := 3) (vs := [.int _ _, .int _ _, .slice _ _ _]) H24 rfl rfl rfl rfl rfl kfref10_8 rfl rfl rfl) rfl rfl ?_
          rintro _ w26 H27
          refine ry (y_asg rfl rfl) rfl rfl ?_
          refine reg_nil ?_
          refine fn_next ?_
          refine cw_ret ?_
          refine fn_block_ret (fn_then_ret (fn_then_ret (fn_block_ret (fn_then_ret ?_))))
          refine fn_retn (vs := [_, _]) rfl ⟨⟨_, rfl, load_agg (cs := [_, _, _]) kfref10_7 rfl fun j v hv => by rw [Nat.zero_add]; exact H27.cell (i := 3) rfl hv⟩, rfl, trivial⟩ rfl ?_
          rw [pasteC_v hw hc hv, pasteV_no (by rw [pasteC_v hw hc hv]; decide)]
          exact ⟨A, cap, rfl, (H27.pickT (p := [_, _, _, _]) (m := [_]) [0] rfl (by decide))⟩
        · skip
          refine cw_skip ?_
          refine fn_block ?_
          refine fn_next ?_
          refine cw_reg ?_
          refine ry (y_mov rfl rfl) rfl rfl ?_
          refine ry (y_add rfl rfl rfl (wi (by omega))) rfl rfl ?_
          refine ry (y_asg rfl rfl) rfl rfl ?_
          refine reg_nil ?_
          refine fn_roundJ ⟨i + 1, rfl, H24, by omega, Lib.hid (fun j hj => (Nat.lt_or_eq_of_le (Nat.le_of_lt_succ hj)).elim (hp1.out j) (fun e => e ▸ Classical.not_not.1 hne)), rfl⟩ ⟨rfl, trivial⟩ (by omega) (by repeat (first | exact kp_refl | refine kp_app rfl rfl ?_ | refine kp_cons rfl ?_)) rfl
      · skip
        exact absurd (allB_nth (fun j hj => hp1.out j (by omega))) hv

set_option maxRecDepth 100000 in
theorem mPaste_ok (w0 : World) (l : List Ob) (a h : Nat) (A : Option Addr) (cap : Nat) (V : List Int) (p0 q0 p1 q1 : Nat) (L : List Int) (B : Option Addr) (n c2 : Nat) (w : World) (h1 : p0 ≤ p1) (h2 : p1 < a) (h3 : q0 ≤ q1) (h4 : q1 < h) (hw : withinC p0 q0 p1 q1 a h = 0) (hc : (L.length : Int) = areaI p0 q0 p1 q1) (hv : AllB L) (p : SzG a h) (hV : V.length = a * h) (hr : ∀ X, HS w0 X l → Rd X B (vi .i64 L)) (hl : L.length = n) (hn : n ≤ 16777216) (H0 : HS w0 w (Ob.row A (a * h) cap (vi .i64 (V)) 2 1 :: l)) :
    Ret Try.prog 99 [.agg #[.int .i64 (a : Int), .int .i64 (h : Int), .slice A (a * h) cap], .agg #[.int .i64 (p0 : Int), .int .i64 (q0 : Int), .int .i64 (p1 : Int), .int .i64 (q1 : Int)], .slice B n c2] w (fun z w' => ∃ A' cap', z = .tuple #[.agg #[.int .i64 (a : Int), .int .i64 (h : Int), .slice A' (a * h) cap'], .int .i64 (pasteC a h p0 q0 p1 q1 L)] ∧ HS w0 w' (Ob.row A' (a * h) cap' (vi .i64 (pasteV V a h p0 q0 p1 q1 L)) 2 1 :: l)) := by
  have hm' := p.mul
  obtain ⟨s1, s2, s3, s4⟩ := id p
  have hnn : n = (q1 + 1 - q0) * (p1 + 1 - p0) := by have := areaI_nat (p0 := p0) (q0 := q0) (p1 := p1) (q1 := q1) h1 (by omega) h3 (by omega); rw [this] at hc; omega
  have hnm : (q1 + 1 - q0) * (p1 + 1 - p0) ≤ 1024 * 1024 := Nat.mul_le_mul (by omega) (by omega)
  refine ret_enter Try.func99 rfl rfl rfl ?_
  refine cw_seq ?_
  refine cw_reg ?_
  refine reg_op (op_box (cs := [.int _ _, .int _ _, .slice _ _ _]) H0 rfl rfl rfl) rfl rfl ?_
  rintro _ w2 ⟨b1, rfl, H3⟩
  refine reg_op (op_box (cs := [.int _ _, .int _ _, .int _ _, .int _ _]) H3 rfl rfl rfl) rfl rfl ?_
  rintro _ w5 ⟨b4, rfl, H6⟩
  refine reg_op (op_alloc H6 rfl kfref10_1) rfl rfl ?_
  rintro _ w8 ⟨b7, rfl, H9⟩
  refine ry (y_asg rfl rfl) rfl rfl ?_
  refine reg_nil ?_
  refine fn_next ?_
  refine cw_seq ?_
  refine cw_reg ?_
  refine ry (y_ldb (i := 1) (cs := [_, _, _, _]) H9 rfl rfl kfref10_2 rfl rfl) rfl rfl ?_
  refine ry (y_fa rfl rfl kfref10_3 rfl) rfl rfl ?_
  refine ry (y_ld rfl rfl kfref10_4 (H9.cell (i := 2) rfl rfl)) rfl rfl ?_
  refine ry (y_fa rfl rfl kfref10_5 rfl) rfl rfl ?_
  refine ry (y_ld rfl rfl kfref10_4 (H9.cell (i := 2) rfl rfl)) rfl rfl ?_
  refine reg_op (op_call (ret_elder (refWithin_any p0 q0 p1 q1 a h _ (by omega) (by omega) (by omega) (by omega))) rfl kfref10_6 ⟨rfl, rfl, rfl, trivial⟩) rfl rfl ?_
  rintro _ w11 ⟨rfl, e10⟩
  have H12 := H9.ext e10
  refine ry (y_asg rfl rfl) rfl rfl ?_
  refine reg_nil ?_
  refine fn_next ?_
  refine cw_seq ?_
  refine cw_seq ?_
  refine cw_reg ?_
  refine ry (y_mov rfl rfl) rfl rfl ?_
  refine ry (y_neq rfl rfl rfl) rfl rfl ?_
  refine reg_nil ?_
  refine fn_next ?_
  refine cw_condd rfl (fun h13 => ?_) (fun h13 => ?_)
  · exact absurd hw h13
  · skip
    refine cw_skip ?_
    refine fn_next ?_
    refine cw_seq ?_
    refine cw_seq ?_
    refine cw_reg ?_
    refine ry (y_mov rfl rfl) rfl rfl ?_
    refine ry (y_len rfl Try.underlying32 rfl) rfl rfl ?_
    refine ry (y_ldb (i := 1) (cs := [_, _, _, _]) H12 rfl rfl kfref10_2 rfl rfl) rfl rfl ?_
    refine reg_op (op_call (ret_elder (refArea_any p0 q0 p1 q1 _)) rfl kfref10_9 ⟨rfl, trivial⟩) rfl rfl ?_
    rintro _ w15 ⟨rfl, e14⟩
    have H16 := H12.ext e14
    refine ry (y_neq rfl rfl rfl) rfl rfl ?_
    refine reg_nil ?_
    refine fn_next ?_
    refine cw_condd rfl (fun h17 => ?_) (fun h17 => ?_)
    · exact absurd (by rw [← hl]; exact hc) h17
    · skip
      refine cw_skip ?_
      refine fn_next ?_
      refine cw_seq ?_
      refine cw_seq ?_
      refine cw_reg ?_
      refine ry (y_asg rfl rfl) rfl rfl ?_
      refine reg_nil ?_
      refine fn_next ?_
      refine cw_block ?_
      refine cw_loopJ [7, 9, 30, 31, 32, 33, 34, 35, 36, 37, 38, 39, 40, 41, 42] (fun M wl ml => ∃ (i : Nat), M = [(9, .int .i64 (i : Int))] ∧ HS w0 wl (Ob.row A (a * h) cap (vi .i64 (V)) 2 1 :: Ob.blk b1 [.int .i64 (a : Int), .int .i64 (h : Int), .slice A (a * h) cap] 34 :: Ob.blk b4 [.int .i64 (p0 : Int), .int .i64 (q0 : Int), .int .i64 (p1 : Int), .int .i64 (q1 : Int)] 24 :: Ob.blk b7 [.int .i64 0, .int .i64 0, .slice none 0 0] 34 :: l) ∧ (i ≤ n) ∧ (Hid (∀ j, j < i → B32 (nth L j))) ∧ ml = n - i) ⟨0, rfl, (H16.pickT (p := [_, _, _, _]) (m := [_, _, _, _]) [3, 2, 1, 0] rfl (by decide)), Nat.zero_le _, Lib.hid (fun j hj => absurd hj (Nat.not_lt_zero _)), rfl⟩ ⟨rfl, trivial⟩ ?_
      rintro M w18 m20 ⟨i, rfl, H19, hp0, hp1, rfl⟩
      refine cw_seq ?_
      refine cw_seq ?_
      refine cw_reg ?_
      refine ry (y_mov rfl rfl) rfl rfl ?_
      refine ry (y_mov rfl rfl) rfl rfl ?_
      refine ry (y_len rfl Try.underlying32 rfl) rfl rfl ?_
      refine ry (y_lss rfl rfl rfl) rfl rfl ?_
      refine reg_nil ?_
      refine fn_next ?_
      refine cw_condd rfl (fun h21 => ?_) (fun h21 => ?_)
      · skip
        have hgi := vi_get (k := .i64) (zs := L) (i := i) (by omega)
        refine cw_skip ?_
        refine fn_next ?_
        refine cw_seq ?_
        refine cw_block ?_
        refine cw_seq ?_
        refine cw_reg ?_
        refine ry (y_mov rfl rfl) rfl rfl ?_
        refine ry (y_mov rfl rfl) rfl rfl ?_
        refine ry (y_iar (hr _ (H19.tail.tail.tail.tail)) rfl rfl rfl kfref10_10 (rfl) (by omega) (Nat.mul_one _) (hgi)) rfl rfl ?_
        refine ry (y_ldr (hr _ (H19.tail.tail.tail.tail)) rfl rfl kfref10_4 (hgi)) rfl rfl ?_
        refine reg_op (op_call (refMay_any (nth L i) _) rfl kfref10_11 ⟨rfl, trivial⟩) rfl rfl ?_
        rintro _ w23 ⟨rfl, e22⟩
        have H24 := H19.ext e22
        refine ry (y_notd rfl rfl) rfl rfl ?_
        refine reg_nil ?_
        refine fn_next ?_
        refine cw_condd rfl (fun hne => ?_) (fun hne => ?_)
        · exact absurd (hv.at_ (by omega)) hne
        · skip
          refine cw_skip ?_
          refine fn_block ?_
          refine fn_next ?_
          refine cw_reg ?_
          refine ry (y_mov rfl rfl) rfl rfl ?_
          refine ry (y_add rfl rfl rfl (wi (by omega))) rfl rfl ?_
          refine ry (y_asg rfl rfl) rfl rfl ?_
          refine reg_nil ?_
          refine fn_roundJ ⟨i + 1, rfl, H24, by omega, Lib.hid (fun j hj => (Nat.lt_or_eq_of_le (Nat.le_of_lt_succ hj)).elim (hp1.out j) (fun e => e ▸ Classical.not_not.1 hne)), rfl⟩ ⟨rfl, trivial⟩ (by omega) (by repeat (first | exact kp_refl | refine kp_app rfl rfl ?_ | refine kp_cons rfl ?_)) rfl
      · skip
        refine cw_exit ?_
        refine fn_then_exit (fn_then_exit (fn_block_exit ?_))
        refine fn_next ?_
        refine cw_seq ?_
        refine cw_drawT H19 [0, 1, 2, 3, 5, 6] (.alt (.step 4 (.alt (.step 7 (.alt (.step 8 (.step 9 (.step 10 (.leaf)))) (.step 9 (.step 8 (.step 10 (.leaf)))))) (.step 9 (.step 7 (.step 8 (.step 10 (.leaf))))))) (.step 9 (.step 4 (.step 7 (.step 8 (.step 10 (.leaf))))))) (fun X HX => HX) (by kernel_rfl) (by kernel_rfl) (by rfl) ?_
        simp only [pick, List.getElem?_cons_succ, List.getElem?_cons_zero]
        refine hk_y (fun Y HY => y_fa rfl rfl kfref10_3 rfl) rfl rfl ?_
        refine hk_y (fun Y HY => y_ld rfl rfl kfref10_4 (HY.cell (i := 1) rfl rfl)) rfl rfl ?_
        refine hk_y (fun Y HY => y_fa rfl rfl kfref10_5 rfl) rfl rfl ?_
        refine hk_y (fun Y HY => y_ld rfl rfl kfref10_4 (HY.cell (i := 1) rfl rfl)) rfl rfl ?_
        refine hk_y (fun Y HY => y_fa rfl rfl kfref10_12 rfl) rfl rfl ?_
        refine hk_y (fun Y HY => y_ld rfl rfl kfref10_13 (HY.cell (i := 1) rfl rfl)) rfl rfl ?_
        refine hkt_nil [10, 47, 50, 51] (fun M wl => ∃ (b' : Nat) (A' : Option Addr) (cap' : Nat), M = [(10, .pointer (some ⟨b', 0, none⟩))] ∧ HS w0 wl (Ob.row A' (a * h) cap' (vi .i64 (V)) 2 1 :: Ob.blk b' [.int .i64 (a : Int), .int .i64 (h : Int), .slice A' (a * h) cap'] 34 :: Ob.blk b1 [.int .i64 (a : Int), .int .i64 (h : Int), .slice A (a * h) cap] 34 :: Ob.blk b4 [.int .i64 (p0 : Int), .int .i64 (q0 : Int), .int .i64 (p1 : Int), .int .i64 (q1 : Int)] 24 :: Ob.blk b7 [.int .i64 0, .int .i64 0, .slice none 0 0] 34 :: l)) (fun wX HX => ?_) ?_
        · skip
          refine tt_alt ?_ ?_
          · skip
            refine tt_op rfl (op_lit (parts := []) (vs := []) (cs := []) HX rfl Try.underlying32 kfref10_14 rfl trivial rfl rfl) rfl rfl ?_
            rintro _ w27 ⟨b26, rfl, H28⟩
            have H29 := H28.asrow (m := 0) (size := 1) rfl (by decide)
            refine ⟨(H29.pickT (p := [_, _, _, _, _]) (m := [_, _, _, _]) [1, 2, 3, 4] rfl (by decide)), fun w30 e32 => ?_⟩
            have H31 := H29.ext e32
            refine tt_alt ?_ ?_
            · skip
              refine tt_op rfl (op_app (i := 0) (k := 0) (m := a * h) (ys := vi .i64 V) (size := 1) H31 rfl rfl rfl rfl (H31.rd (i := 1) rfl) (by rw [vi_len, hV, Nat.mul_one]) (vi_one) Try.underlying32 kfref10_15 rfl rfl (by unfold maxLen; omega) (by omega)) rfl rfl ?_
              rintro _ w35 ⟨A33, c34, rfl, H36⟩
              refine ⟨(H36.pickT (p := [_, _, _, _, _]) (m := [_, _, _, _]) [1, 2, 3, 4] rfl (by decide)), fun w37 e39 => ?_⟩
              have H38 := H36.ext e39
              refine tt_alt ?_ ?_
              · skip
                refine tt_op rfl (Yd.op (y_build (places := [(0, 1), (1, 1), (2, 1)]) (parts := [(0, _), (1, _), (2, _)]) (vs := [(0, _), (1, _), (2, _)]) (cs := [.int _ _, .int _ _, .slice _ _ _]) rfl Try.underlying34 (by kernel_rfl) kfref10_1 rfl ⟨rfl, rfl, rfl, trivial⟩ rfl)) rfl rfl ?_
                rintro _ _ ⟨rfl, rfl⟩
                refine ⟨(H38.pickT (p := [_, _, _, _, _]) (m := [_, _, _, _]) [1, 2, 3, 4] rfl (by decide)), fun w40 e42 => ?_⟩
                have H41 := H38.ext e42
                refine tt_op rfl (op_alloc H41 rfl kfref10_1) rfl rfl ?_
                rintro _ w44 ⟨b43, rfl, H45⟩
                refine ⟨(H45.pickT (p := [_, _, _, _, _, _]) (m := [_, _, _, _]) [2, 3, 4, 5] rfl (by decide)), fun w46 e48 => ?_⟩
                have H47 := H45.ext e48
                refine tt_op rfl (op_st (i := 0) (vs := [.int _ _, .int _ _, .slice _ _ _]) H47 rfl rfl rfl rfl rfl kfref10_8 rfl rfl rfl) rfl rfl ?_
                rintro _ w49 H50
                refine ⟨(H50.pickT (p := [_, _, _, _, _, _]) (m := [_, _, _, _]) [2, 3, 4, 5] rfl (by decide)), fun w51 e53 => ?_⟩
                have H52 := H50.ext e53
                simp only [Nat.zero_add, List.nil_append] at H52
                exact tt_leaf ⟨b43, A33, c34, rfl, (H52.pickT (p := [_, _, _, _, _, _]) (m := [_, _, _, _, _]) [1, 0, 3, 4, 5] rfl (by decide))⟩ ⟨rfl, trivial⟩ (by repeat (first | exact kp_refl | refine kp_app rfl rfl ?_ | refine kp_cons rfl ?_))
              refine tt_op rfl (op_alloc H38 rfl kfref10_1) rfl rfl ?_
              rintro _ w55 ⟨b54, rfl, H56⟩
              refine ⟨(H56.pickT (p := [_, _, _, _, _, _]) (m := [_, _, _, _]) [2, 3, 4, 5] rfl (by decide)), fun w57 e59 => ?_⟩
              have H58 := H56.ext e59
              refine tt_op rfl (Yd.op (y_build (places := [(0, 1), (1, 1), (2, 1)]) (parts := [(0, _), (1, _), (2, _)]) (vs := [(0, _), (1, _), (2, _)]) (cs := [.int _ _, .int _ _, .slice _ _ _]) rfl Try.underlying34 (by kernel_rfl) kfref10_1 rfl ⟨rfl, rfl, rfl, trivial⟩ rfl)) rfl rfl ?_
              rintro _ _ ⟨rfl, rfl⟩
              refine ⟨(H58.pickT (p := [_, _, _, _, _, _]) (m := [_, _, _, _]) [2, 3, 4, 5] rfl (by decide)), fun w60 e62 => ?_⟩
              have H61 := H58.ext e62
              refine tt_op rfl (op_st (i := 0) (vs := [.int _ _, .int _ _, .slice _ _ _]) H61 rfl rfl rfl rfl rfl kfref10_8 rfl rfl rfl) rfl rfl ?_
              rintro _ w63 H64
              refine ⟨(H64.pickT (p := [_, _, _, _, _, _]) (m := [_, _, _, _]) [2, 3, 4, 5] rfl (by decide)), fun w65 e67 => ?_⟩
              have H66 := H64.ext e67
              simp only [Nat.zero_add, List.nil_append] at H66
              exact tt_leaf ⟨b54, A33, c34, rfl, (H66.pickT (p := [_, _, _, _, _, _]) (m := [_, _, _, _, _]) [1, 0, 3, 4, 5] rfl (by decide))⟩ ⟨rfl, trivial⟩ (by repeat (first | exact kp_refl | refine kp_app rfl rfl ?_ | refine kp_cons rfl ?_))
            refine tt_op rfl (op_alloc H31 rfl kfref10_1) rfl rfl ?_
            rintro _ w69 ⟨b68, rfl, H70⟩
            refine ⟨(H70.pickT (p := [_, _, _, _, _, _]) (m := [_, _, _, _]) [2, 3, 4, 5] rfl (by decide)), fun w71 e73 => ?_⟩
            have H72 := H70.ext e73
            refine tt_op rfl (op_app (i := 1) (k := 0) (m := a * h) (ys := vi .i64 V) (size := 1) H72 rfl rfl rfl rfl (H72.rd (i := 2) rfl) (by rw [vi_len, hV, Nat.mul_one]) (vi_one) Try.underlying32 kfref10_15 rfl rfl (by unfold maxLen; omega) (by omega)) rfl rfl ?_
            rintro _ w76 ⟨A74, c75, rfl, H77⟩
            refine ⟨(H77.pickT (p := [_, _, _, _, _, _]) (m := [_, _, _, _]) [2, 3, 4, 5] rfl (by decide)), fun w78 e80 => ?_⟩
            have H79 := H77.ext e80
            refine tt_op rfl (Yd.op (y_build (places := [(0, 1), (1, 1), (2, 1)]) (parts := [(0, _), (1, _), (2, _)]) (vs := [(0, _), (1, _), (2, _)]) (cs := [.int _ _, .int _ _, .slice _ _ _]) rfl Try.underlying34 (by kernel_rfl) kfref10_1 rfl ⟨rfl, rfl, rfl, trivial⟩ rfl)) rfl rfl ?_
            rintro _ _ ⟨rfl, rfl⟩
            refine ⟨(H79.pickT (p := [_, _, _, _, _, _]) (m := [_, _, _, _]) [2, 3, 4, 5] rfl (by decide)), fun w81 e83 => ?_⟩
            have H82 := H79.ext e83
            refine tt_op rfl (op_st (i := 0) (vs := [.int _ _, .int _ _, .slice _ _ _]) H82 rfl rfl rfl rfl rfl kfref10_8 rfl rfl rfl) rfl rfl ?_
            rintro _ w84 H85
            refine ⟨(H85.pickT (p := [_, _, _, _, _, _]) (m := [_, _, _, _]) [2, 3, 4, 5] rfl (by decide)), fun w86 e88 => ?_⟩
            have H87 := H85.ext e88
            simp only [Nat.zero_add, List.nil_append] at H87
            exact tt_leaf ⟨b68, A74, c75, rfl, (H87.pickT (p := [_, _, _, _, _, _]) (m := [_, _, _, _, _]) [1, 0, 3, 4, 5] rfl (by decide))⟩ ⟨rfl, trivial⟩ (by repeat (first | exact kp_refl | refine kp_app rfl rfl ?_ | refine kp_cons rfl ?_))
          refine tt_op rfl (op_alloc HX rfl kfref10_1) rfl rfl ?_
          rintro _ w90 ⟨b89, rfl, H91⟩
          refine ⟨(H91.pickT (p := [_, _, _, _, _]) (m := [_, _, _, _]) [1, 2, 3, 4] rfl (by decide)), fun w92 e94 => ?_⟩
          have H93 := H91.ext e94
          refine tt_op rfl (op_lit (parts := []) (vs := []) (cs := []) H93 rfl Try.underlying32 kfref10_14 rfl trivial rfl rfl) rfl rfl ?_
          rintro _ w96 ⟨b95, rfl, H97⟩
          have H98 := H97.asrow (m := 0) (size := 1) rfl (by decide)
          refine ⟨(H98.pickT (p := [_, _, _, _, _, _]) (m := [_, _, _, _]) [2, 3, 4, 5] rfl (by decide)), fun w99 e101 => ?_⟩
          have H100 := H98.ext e101
          refine tt_op rfl (op_app (i := 0) (k := 0) (m := a * h) (ys := vi .i64 V) (size := 1) H100 rfl rfl rfl rfl (H100.rd (i := 2) rfl) (by rw [vi_len, hV, Nat.mul_one]) (vi_one) Try.underlying32 kfref10_15 rfl rfl (by unfold maxLen; omega) (by omega)) rfl rfl ?_
          rintro _ w104 ⟨A102, c103, rfl, H105⟩
          refine ⟨(H105.pickT (p := [_, _, _, _, _, _]) (m := [_, _, _, _]) [2, 3, 4, 5] rfl (by decide)), fun w106 e108 => ?_⟩
          have H107 := H105.ext e108
          refine tt_op rfl (Yd.op (y_build (places := [(0, 1), (1, 1), (2, 1)]) (parts := [(0, _), (1, _), (2, _)]) (vs := [(0, _), (1, _), (2, _)]) (cs := [.int _ _, .int _ _, .slice _ _ _]) rfl Try.underlying34 (by kernel_rfl) kfref10_1 rfl ⟨rfl, rfl, rfl, trivial⟩ rfl)) rfl rfl ?_
          rintro _ _ ⟨rfl, rfl⟩
          refine ⟨(H107.pickT (p := [_, _, _, _, _, _]) (m := [_, _, _, _]) [2, 3, 4, 5] rfl (by decide)), fun w109 e111 => ?_⟩
          have H110 := H107.ext e111
          refine tt_op rfl (op_st (i := 1) (vs := [.int _ _, .int _ _, .slice _ _ _]) H110 rfl rfl rfl rfl rfl kfref10_8 rfl rfl rfl) rfl rfl ?_
          rintro _ w112 H113
          refine ⟨(H113.pickT (p := [_, _, _, _, _, _]) (m := [_, _, _, _]) [2, 3, 4, 5] rfl (by decide)), fun w114 e116 => ?_⟩
          have H115 := H113.ext e116
          simp only [Nat.zero_add, List.nil_append] at H115
          exact tt_leaf ⟨b89, A102, c103, rfl, (H115.pickT (p := [_, _, _, _, _, _]) (m := [_, _, _, _, _]) [0, 1, 3, 4, 5] rfl (by decide))⟩ ⟨rfl, trivial⟩ (by repeat (first | exact kp_refl | refine kp_app rfl rfl ?_ | refine kp_cons rfl ?_))
        · skip
          rintro M w118 ⟨b', A', cap', rfl, H117⟩
          refine fn_next ?_
          refine cw_seq ?_
          refine cw_reg ?_
          refine ry (y_asg rfl rfl) rfl rfl ?_
          refine reg_nil ?_
          refine fn_next ?_
          refine cw_seq ?_
          refine cw_seq ?_
          refine cw_reg ?_
          refine ry (y_fa rfl rfl kfref10_16 rfl) rfl rfl ?_
          refine ry (y_ld rfl rfl kfref10_4 (H117.cell (i := 3) rfl rfl)) rfl rfl ?_
          refine ry (y_asg rfl rfl) rfl rfl ?_
          refine reg_nil ?_
          refine fn_next ?_
          refine cw_block ?_
          have hz : layT V a p0 q0 p1 q1 L (0 * (p1 + 1 - p0)) = V := by rw [Nat.zero_mul]; exact layT_zero
          have hE : HS w0 w118 (Ob.row A' (a * h) cap' (vi .i64 (layT V a p0 q0 p1 q1 L (0 * (p1 + 1 - p0)))) 2 1 :: Ob.blk b' [.int .i64 (a : Int), .int .i64 (h : Int), .slice A' (a * h) cap'] 34 :: Ob.blk b1 [.int .i64 (a : Int), .int .i64 (h : Int), .slice A (a * h) cap] 34 :: Ob.blk b4 [.int .i64 (p0 : Int), .int .i64 (q0 : Int), .int .i64 (p1 : Int), .int .i64 (q1 : Int)] 24 :: Ob.blk b7 [.int .i64 0, .int .i64 0, .slice none 0 0] 34 :: l) := by rw [hz]; exact (H117.pickT (p := [_, _, _, _, _]) (m := [_, _, _, _, _]) [0, 1, 2, 3, 4] rfl (by decide))
          refine cw_loopJ [11, 12, 13, 54, 55, 56, 57, 58, 59, 60, 61, 62, 63, 64, 65, 66, 67, 68, 69, 70, 71, 72, 73, 74, 75, 76, 77, 78, 79, 80, 81, 82] (fun M wl ml => ∃ (r : Nat), M = [(12, .int .i64 ((q0 + r : Nat) : Int)), (11, .int .i64 ((r * (p1 + 1 - p0) : Nat) : Int))] ∧ HS w0 wl (Ob.row A' (a * h) cap' (vi .i64 (layT V a p0 q0 p1 q1 L (r * (p1 + 1 - p0)))) 2 1 :: Ob.blk b' [.int .i64 (a : Int), .int .i64 (h : Int), .slice A' (a * h) cap'] 34 :: Ob.blk b1 [.int .i64 (a : Int), .int .i64 (h : Int), .slice A (a * h) cap] 34 :: Ob.blk b4 [.int .i64 (p0 : Int), .int .i64 (q0 : Int), .int .i64 (p1 : Int), .int .i64 (q1 : Int)] 24 :: Ob.blk b7 [.int .i64 0, .int .i64 0, .slice none 0 0] 34 :: l) ∧ (q0 + r ≤ q1 + 1) ∧ ml = q1 + 2 - (q0 + r)) ⟨0, rfl, hE, by omega, rfl⟩ ⟨rfl, by rw [Nat.zero_mul]; rfl, trivial⟩ ?_
          rintro M w119 m121 ⟨r, rfl, H120, hp0, rfl⟩
          refine cw_seq ?_
          refine cw_seq ?_
          refine cw_reg ?_
          refine ry (y_mov rfl rfl) rfl rfl ?_
          refine ry (y_fa rfl rfl kfref10_17 rfl) rfl rfl ?_
          refine ry (y_ld rfl rfl kfref10_4 (H120.cell (i := 3) rfl rfl)) rfl rfl ?_
          refine ry (y_leq rfl rfl rfl) rfl rfl ?_
          refine reg_nil ?_
          refine fn_next ?_
          refine cw_condd rfl (fun h122 => ?_) (fun h122 => ?_)
          · skip
            have hrn : (r + 1) * (p1 + 1 - p0) ≤ (q1 + 1 - q0) * (p1 + 1 - p0) := Nat.mul_le_mul_right _ (by omega)
            rw [Nat.succ_mul] at hrn
            refine cw_skip ?_
            refine fn_next ?_
            refine cw_seq ?_
            refine cw_block ?_
            refine cw_seq ?_
            refine cw_reg ?_
            refine ry (y_fa rfl rfl kfref10_18 rfl) rfl rfl ?_
            refine ry (y_ld rfl rfl kfref10_4 (H120.cell (i := 3) rfl rfl)) rfl rfl ?_
            refine ry (y_asg rfl rfl) rfl rfl ?_
            refine reg_nil ?_
            refine fn_next ?_
            refine cw_block ?_
            refine cw_loopJ [11, 13, 62, 63, 64, 65, 66, 67, 68, 69, 70, 71, 72, 73, 74, 75, 76, 77, 78, 79, 80, 81, 82] (fun M wl ml => ∃ (c : Nat), M = [(13, .int .i64 ((p0 + c : Nat) : Int)), (11, .int .i64 ((r * (p1 + 1 - p0) + c : Nat) : Int))] ∧ HS w0 wl (Ob.row A' (a * h) cap' (vi .i64 (layT V a p0 q0 p1 q1 L (r * (p1 + 1 - p0) + c))) 2 1 :: Ob.blk b' [.int .i64 (a : Int), .int .i64 (h : Int), .slice A' (a * h) cap'] 34 :: Ob.blk b1 [.int .i64 (a : Int), .int .i64 (h : Int), .slice A (a * h) cap] 34 :: Ob.blk b4 [.int .i64 (p0 : Int), .int .i64 (q0 : Int), .int .i64 (p1 : Int), .int .i64 (q1 : Int)] 24 :: Ob.blk b7 [.int .i64 0, .int .i64 0, .slice none 0 0] 34 :: l) ∧ (c ≤ (p1 + 1 - p0)) ∧ ml = p1 + 2 - (p0 + c)) ⟨0, rfl, H120, Nat.zero_le _, rfl⟩ ⟨rfl, rfl, trivial⟩ ?_
            rintro M w123 m125 ⟨c, rfl, H124, hp0, rfl⟩
            refine cw_seq ?_
            refine cw_seq ?_
            refine cw_reg ?_
            refine ry (y_mov rfl rfl) rfl rfl ?_
            refine ry (y_fa rfl rfl kfref10_19 rfl) rfl rfl ?_
            refine ry (y_ld rfl rfl kfref10_4 (H124.cell (i := 3) rfl rfl)) rfl rfl ?_
            refine ry (y_leq rfl rfl rfl) rfl rfl ?_
            refine reg_nil ?_
            refine fn_next ?_
            refine cw_condd rfl (fun h126 => ?_) (fun h126 => ?_)
            · skip
              obtain ⟨e1, e2, e3⟩ := row_bdG (x := p0 + c) (y := q0 + r) p (by omega) (by omega)
              have hgi := vi_get (k := .i64) (zs := L) (i := r * (p1 + 1 - p0) + c) (by omega)
              have hgo := vi_get (k := .i64) (zs := layT V a p0 q0 p1 q1 L (r * (p1 + 1 - p0) + c)) (i := (q0 + r) * a + (p0 + c)) (by rw [layT_len, hV]; exact e2)
              have hAd := H124.addr (i := 0) rfl hm'.1
              refine cw_skip ?_
              refine fn_next ?_
              refine cw_seq ?_
              refine cw_block ?_
              refine cw_seq ?_
              refine cw_draw H124 [0, 1, 2, 3, 4, 5, 6, 7, 8, 9, 10, 11, 12] [13] (fun X HX => (HX.pickT (p := [_, _, _, _, _]) (m := [_, _, _, _]) [1, 2, 3, 4] rfl (by decide))) (by kernel_rfl) (by kernel_rfl) (by rfl) ?_
              simp only [pick, List.getElem?_cons_succ, List.getElem?_cons_zero]
              refine hk_y (fun Y HY => y_fa rfl rfl kfref10_12 rfl) rfl rfl ?_
              refine hk_y (fun Y HY => y_ld rfl rfl kfref10_13 (HY.cell (i := 0) rfl rfl)) rfl rfl ?_
              refine hk_y (fun Y HY => y_mov rfl rfl) rfl rfl ?_
              refine hk_y (fun Y HY => y_fa rfl rfl kfref10_3 rfl) rfl rfl ?_
              refine hk_y (fun Y HY => y_ld rfl rfl kfref10_4 (HY.cell (i := 1) rfl rfl)) rfl rfl ?_
              refine hk_y (fun Y HY => y_mul rfl rfl rfl (show _ = (((q0 + r) * a : Nat) : Int) from by rw [e1]; exact wi (by omega))) rfl rfl ?_
              refine hk_y (fun Y HY => y_mov rfl rfl) rfl rfl ?_
              refine hk_y (fun Y HY => y_add rfl rfl rfl (show _ = (((q0 + r) * a + (p0 + c) : Nat) : Int) from by rw [Int.natCast_add ((q0 + r) * a)]; exact wi (by omega))) rfl rfl ?_
              refine hk_y (fun Y HY => y_mov rfl rfl) rfl rfl ?_
              refine hk_y (fun Y HY => y_mov rfl rfl) rfl rfl ?_
              refine hk_y (fun Y HY => y_iar (hr _ (HY.tail.tail.tail.tail)) rfl rfl rfl kfref10_10 (rfl) (by omega) (Nat.mul_one _) (hgi)) rfl rfl ?_
              refine hk_y (fun Y HY => y_ldr (hr _ (HY.tail.tail.tail.tail)) rfl rfl kfref10_4 (hgi)) rfl rfl ?_
              refine hk_y (fun Y HY => y_iae (hAd) rfl rfl rfl kfref10_10 (rfl) (by omega) (Nat.mul_one _)) rfl rfl ?_
              refine hk_nil ?_
              intro w127 H128
              refine tv_op (op_ste (i := 0) (vs := [.int _ _]) H128 rfl rfl rfl rfl rfl kfref10_20 rfl (by rw [vi_len, layT_len, hV]; exact e2) rfl rfl) rfl rfl ?_
              rintro _ w129 H130
              refine ⟨(H130.pickT (p := [_, _, _, _, _]) (m := [_, _, _, _]) [1, 2, 3, 4] rfl (by decide)), fun w131 e133 => ?_⟩
              have H132 := H130.ext e133
              refine tv_nil ?_
              refine fn_next ?_
              refine cw_reg ?_
              refine ry (y_mov rfl rfl) rfl rfl ?_
              refine ry (y_add rfl rfl rfl (wi (by omega))) rfl rfl ?_
              refine ry (y_asg rfl rfl) rfl rfl ?_
              refine reg_nil ?_
              refine fn_block ?_
              refine fn_next ?_
              refine cw_reg ?_
              refine ry (y_mov rfl rfl) rfl rfl ?_
              refine ry (y_add rfl rfl rfl (wi (by omega))) rfl rfl ?_
              refine ry (y_asg rfl rfl) rfl rfl ?_
              refine reg_nil ?_
              rw [vi_set, layT_set p hV h1 h2 h4 (by omega) (by omega)] at H132
              refine fn_roundJ ⟨c + 1, rfl, H132, by omega, rfl⟩ ⟨rfl, rfl, trivial⟩ (by omega) (by repeat (first | exact kp_refl | refine kp_app rfl rfl ?_ | refine kp_cons rfl ?_)) rfl
            · skip
              obtain rfl : c = (p1 + 1 - p0) := by omega
              refine cw_exit ?_
              refine fn_then_exit (fn_then_exit (fn_block_exit ?_))
              refine fn_block ?_
              refine fn_next ?_
              refine cw_reg ?_
              refine ry (y_mov rfl rfl) rfl rfl ?_
              refine ry (y_add rfl rfl rfl (wi (by omega))) rfl rfl ?_
              refine ry (y_asg rfl rfl) rfl rfl ?_
              refine reg_nil ?_
              rw [← Nat.succ_mul] at H124
              refine fn_roundJ ⟨r + 1, rfl, H124, by omega, rfl⟩ ⟨rfl, by rw [Nat.succ_mul]; rfl, trivial⟩ (by omega) (by repeat (first | exact kp_refl | refine kp_app rfl rfl ?_ | refine kp_cons rfl ?_)) rfl
          · skip
            obtain rfl : r = q1 + 1 - q0 := by omega
            refine cw_exit ?_
            refine fn_then_exit (fn_then_exit (fn_block_exit ?_))
            refine fn_next ?_
            refine cw_seq ?_
            refine cw_reg ?_
            refine ry (y_ldb (i := 1) (cs := [_, _, _]) H120 rfl rfl kfref10_7 rfl rfl) rfl rfl ?_
            refine reg_op (op_st (i := 4) (vs := [.int _ _, .int _ _, .slice _ _ _]) H120 rfl rfl rfl rfl rfl kfref10_8 rfl rfl rfl) rfl rfl ?_
            rintro _ w134 H135
            refine ry (y_asg rfl rfl) rfl rfl ?_
            refine reg_nil ?_
            refine fn_next ?_
            refine cw_ret ?_
            refine fn_retn (vs := [_, _]) rfl ⟨⟨_, rfl, load_agg (cs := [_, _, _]) kfref10_7 rfl fun j v hv => by rw [Nat.zero_add]; exact H135.cell (i := 4) rfl hv⟩, rfl, trivial⟩ rfl ?_
            rw [pasteC_ok hw hc hv, pasteV_ok (pasteC_ok hw hc hv), layV_nat, hl, hnn]
            exact ⟨_, _, rfl, (H135.pickT (p := [_, _, _, _, _]) (m := [_]) [0] rfl (by decide))⟩

theorem mPaste (w0 : World) (l : List Ob) (a h : Nat) (A : Option Addr) (cap : Nat) (V : List Int) (x0 y0 x1 y1 : Int) (L : List Int) (B : Option Addr) (n c2 : Nat) (w : World) (p : SzG a h) (hV : V.length = a * h) (hr : ∀ X, HS w0 X l → Rd X B (vi .i64 L)) (hl : L.length = n) (hn : n ≤ 16777216) (H0 : HS w0 w (Ob.row A (a * h) cap (vi .i64 (V)) 2 1 :: l)) : Ret Try.prog 99 [.agg #[.int .i64 (a : Int), .int .i64 (h : Int), .slice A (a * h) cap], .agg #[.int .i64 x0, .int .i64 y0, .int .i64 x1, .int .i64 y1], .slice B n c2] w (fun z w' => ∃ A' cap', z = .tuple #[.agg #[.int .i64 (a : Int), .int .i64 (h : Int), .slice A' (a * h) cap'], .int .i64 (pasteC a h x0 y0 x1 y1 L)] ∧ HS w0 w' (Ob.row A' (a * h) cap' (vi .i64 (pasteV V a h x0 y0 x1 y1 L)) 2 1 :: l)) := by
  by_cases hw : withinC x0 y0 x1 y1 a h = 0
  · by_cases hc : (L.length : Int) = areaI x0 y0 x1 y1
    · by_cases hv : AllB L
      · obtain ⟨p0, q0, p1, q1, rfl, rfl, rfl, rfl, h1, h2, h3, h4⟩ := within_natG p hw
        exact mPaste_ok w0 l a h A cap V p0 q0 p1 q1 L B n c2 w h1 h2 h3 h4 hw hc hv p hV hr hl hn H0
      · exact mPaste_v w0 l a h A cap V x0 y0 x1 y1 L B n c2 w hw hc hv p hV hr hl hn H0
    · exact mPaste_n w0 l a h A cap V x0 y0 x1 y1 L B n c2 w hw hc p hV hr hl hn H0
  · exact mPaste_w w0 l a h A cap V x0 y0 x1 y1 L B n c2 w hw p hV hr hl hn H0

set_option maxRecDepth 100000 in
theorem mFrom_sz (a h : Int) (L : List Int) (B : Option Addr) (n c2 : Nat) (w : World) (s : ¬ (1 ≤ a ∧ a ≤ 1024 ∧ 1 ≤ h ∧ h ≤ 1024)) :
    Ret Try.prog 58 [.int .i64 a, .int .i64 h, .slice B n c2] w (fun z w' => z = .tuple #[.agg #[.int .i64 0, .int .i64 0, .slice none 0 0], .int .i64 (fromC a h L)] ∧ Below w.heap.size w w') := by
  refine ret_enter Try.func58 rfl rfl rfl ?_
  have H0 := HS.start w
  refine cw_seq ?_
  refine cw_reg ?_
  refine reg_op (op_alloc H0 rfl kfref10_1) rfl rfl ?_
  rintro _ w2 ⟨b1, rfl, H3⟩
  refine ry (y_asg rfl rfl) rfl rfl ?_
  refine reg_nil ?_
  refine fn_next ?_
  refine cw_seq ?_
  refine cw_reg ?_
  refine ry (y_mov rfl rfl) rfl rfl ?_
  refine ry (y_mov rfl rfl) rfl rfl ?_
  refine reg_op (op_call (ret_v (rNew_no a h 0 _ (by unfold gnewC; rw [if_neg s]; decide)) (by unfold gnewC; rw [if_neg s])) rfl kfref10_21 ⟨rfl, rfl, rfl, trivial⟩) rfl rfl ?_
  rintro _ w5 ⟨rfl, e4⟩
  have H6 := H3.ext e4
  refine ry (y_mov rfl rfl) rfl rfl ?_
  refine ry (y_ext rfl rfl rfl) rfl rfl ?_
  refine ry (y_ext rfl rfl rfl) rfl rfl ?_
  refine reg_op (op_alloc H6 rfl kfref10_1) rfl rfl ?_
  rintro _ w8 ⟨b7, rfl, H9⟩
  refine reg_op (op_st (i := 0) (vs := [.int _ _, .int _ _, .slice _ _ _]) H9 rfl rfl rfl rfl rfl kfref10_8 rfl rfl rfl) rfl rfl ?_
  rintro _ w10 H11
  refine ry (y_asg rfl rfl) rfl rfl ?_
  refine reg_nil ?_
  refine fn_next ?_
  refine cw_seq ?_
  refine cw_seq ?_
  refine cw_reg ?_
  refine ry (y_mov rfl rfl) rfl rfl ?_
  refine ry (y_neq rfl rfl rfl) rfl rfl ?_
  refine reg_nil ?_
  refine fn_next ?_
  refine cw_condd rfl (fun h12 => ?_) (fun h12 => ?_)
  · skip
    refine cw_seq ?_
    refine cw_reg ?_
    refine ry (y_build (places := [(0, 1), (1, 1), (2, 1)]) (parts := []) (vs := []) (cs := [.int _ _, .int _ _, .slice _ _ _]) rfl Try.underlying34 (by kernel_rfl) kfref10_1 rfl trivial rfl) rfl rfl ?_
    refine ry (y_mov rfl rfl) rfl rfl ?_
    refine reg_op (op_st (i := 1) (vs := [.int _ _, .int _ _, .slice _ _ _]) H11 rfl rfl rfl rfl rfl kfref10_8 rfl rfl rfl) rfl rfl ?_
    rintro _ w13 H14
    refine ry (y_asg rfl rfl) rfl rfl ?_
    refine reg_nil ?_
    refine fn_next ?_
    refine cw_ret ?_
    refine fn_then_ret ?_
    refine fn_retn (vs := [_, _]) rfl ⟨⟨_, rfl, load_agg (cs := [_, _, _]) kfref10_7 rfl fun j v hv => by rw [Nat.zero_add]; exact H14.cell (i := 1) rfl hv⟩, rfl, trivial⟩ rfl ?_
    rw [fromC_sz s]
    exact ⟨rfl, H14.base⟩
  · exact absurd (Classical.not_not.1 h12) (by decide)

set_option maxRecDepth 100000 in
theorem mFrom_bad (a h : Nat) (L : List Int) (B : Option Addr) (n c2 : Nat) (w : World) (hr : Rd w B (vi .i64 L)) (hl : L.length = n) (hn : n ≤ 16777216) (s : SzG a h) (hc : ¬ fromC a h L = 0) :
    Ret Try.prog 58 [.int .i64 (a : Int), .int .i64 (h : Int), .slice B n c2] w (fun z w' => z = .tuple #[.agg #[.int .i64 0, .int .i64 0, .slice none 0 0], .int .i64 (fromC a h L)] ∧ Below w.heap.size w w') := by
  have hc2 : ¬ pasteC a h 0 0 ((a : Int) - 1) ((h : Int) - 1) L = 0 := by rw [← fromC_in s]; exact hc
  refine ret_enter Try.func58 rfl rfl rfl ?_
  have H0 := HS.start w
  refine cw_seq ?_
  refine cw_reg ?_
  refine reg_op (op_alloc H0 rfl kfref10_1) rfl rfl ?_
  rintro _ w2 ⟨b1, rfl, H3⟩
  refine ry (y_asg rfl rfl) rfl rfl ?_
  refine reg_nil ?_
  refine fn_next ?_
  refine cw_seq ?_
  refine cw_reg ?_
  refine ry (y_mov rfl rfl) rfl rfl ?_
  refine ry (y_mov rfl rfl) rfl rfl ?_
  refine reg_op (op_call (rNew_ok a h 0 _ s (by decide)) rfl kfref10_21 ⟨rfl, rfl, rfl, trivial⟩) rfl rfl ?_
  rintro _ w5 ⟨A7, c8, rfl, k4⟩
  have H6 := H3.call k4
  refine ry (y_mov rfl rfl) rfl rfl ?_
  refine ry (y_ext rfl rfl rfl) rfl rfl ?_
  refine ry (y_ext rfl rfl rfl) rfl rfl ?_
  refine reg_op (op_alloc H6 rfl kfref10_1) rfl rfl ?_
  rintro _ w10 ⟨b9, rfl, H11⟩
  refine reg_op (op_st (i := 0) (vs := [.int _ _, .int _ _, .slice _ _ _]) H11 rfl rfl rfl rfl rfl kfref10_8 rfl rfl rfl) rfl rfl ?_
  rintro _ w12 H13
  refine ry (y_asg rfl rfl) rfl rfl ?_
  refine reg_nil ?_
  refine fn_next ?_
  refine cw_seq ?_
  refine cw_seq ?_
  refine cw_reg ?_
  refine ry (y_mov rfl rfl) rfl rfl ?_
  refine ry (y_neq rfl rfl rfl) rfl rfl ?_
  refine reg_nil ?_
  refine fn_next ?_
  refine cw_condd rfl (fun h14 => ?_) (fun h14 => ?_)
  · exact absurd rfl h14
  · skip
    refine cw_skip ?_
    refine fn_next ?_
    refine cw_seq ?_
    refine cw_drawT H13 [0, 1, 2, 3] (.alt (.step 4 (.alt (.step 5 (.alt (.step 6 (.alt (.step 7 (.step 8 (.step 9 (.step 10 (.leaf))))) (.step 8 (.alt (.step 7 (.step 9 (.step 10 (.leaf)))) (.step 9 (.step 7 (.step 10 (.leaf)))))))) (.alt (.step 7 (.alt (.step 6 (.step 8 (.step 9 (.step 10 (.leaf))))) (.step 8 (.step 6 (.step 9 (.step 10 (.leaf))))))) (.step 8 (.alt (.step 6 (.alt (.step 7 (.step 9 (.step 10 (.leaf)))) (.step 9 (.step 7 (.step 10 (.leaf)))))) (.step 7 (.step 6 (.step 9 (.step 10 (.leaf)))))))))) (.step 8 (.step 5 (.alt (.step 6 (.alt (.step 7 (.step 9 (.step 10 (.leaf)))) (.step 9 (.step 7 (.step 10 (.leaf)))))) (.step 7 (.step 6 (.step 9 (.step 10 (.leaf)))))))))) (.step 8 (.step 4 (.step 5 (.alt (.step 6 (.alt (.step 7 (.step 9 (.step 10 (.leaf)))) (.step 9 (.step 7 (.step 10 (.leaf)))))) (.step 7 (.step 6 (.step 9 (.step 10 (.leaf)))))))))) (fun X HX => (HX.pick (m := [_, _]) [0, 2] rfl (by decide))) (by kernel_rfl) (by kernel_rfl) (by rfl) ?_
    simp only [pick, List.getElem?_cons_succ, List.getElem?_cons_zero]
    refine hk_y (fun Y HY => y_ldb (i := 0) (cs := [_, _, _]) HY rfl rfl kfref10_7 rfl rfl) rfl rfl ?_
    refine hk_y (fun Y HY => y_ldb (i := 0) (cs := [_, _, _]) HY rfl rfl kfref10_7 rfl rfl) rfl rfl ?_
    refine hk_q (qy_call (fun Y HY => rAll a h _ _ _ s) rfl kfref10_22 ⟨rfl, trivial⟩) rfl rfl ?_
    refine hk_y (fun Y HY => y_mov rfl rfl) rfl rfl ?_
    refine hkt_nil [10, 11, 22, 27, 28, 29] (fun M wl => ∃ (b' : Nat) (A' : Option Addr) (cap' : Nat), M = [(10, .pointer (some ⟨b', 0, none⟩)), (11, .int .i64 (pasteC a h 0 0 ((a : Int) - 1) ((h : Int) - 1) L))] ∧ HS w wl [Ob.blk b' [.int .i64 (a : Int), .int .i64 (h : Int), .slice A' (a * h) cap'] 34, Ob.row A' (a * h) cap' (vi .i64 (pasteV (List.replicate (a * h) 0) a h 0 0 ((a : Int) - 1) ((h : Int) - 1) L)) 2 1, Ob.blk b1 [.int .i64 0, .int .i64 0, .slice none 0 0] 34]) (fun wX HX => ?_) ?_
    · skip
      refine tt_alt ?_ ?_
      · skip
        refine tt_op rfl (op_call (mPaste w _ a h A7 c8 (List.replicate (a * h) 0) 0 0 ((a : Int) - 1) ((h : Int) - 1) L B n c2 _ s (by rw [List.length_replicate]) (fun Z hZ => hr.below hZ.base) hl hn (HX.pick (m := [_, _, _]) [1, 0, 2] rfl (by decide))) rfl kfref10_23 ⟨rfl, rfl, rfl, trivial⟩) rfl rfl ?_
        rintro _ w16 ⟨A17, c18, rfl, H15⟩
        refine ⟨(H15.pick (m := [_, _]) [1, 2] rfl (by decide)), fun w19 e21 => ?_⟩
        have H20 := H15.ext e21
        refine tt_alt ?_ ?_
        · skip
          refine tt_op rfl (Yd.op (y_mov rfl rfl)) rfl rfl ?_
          rintro _ _ ⟨rfl, rfl⟩
          refine ⟨(H20.pick (m := [_, _]) [1, 2] rfl (by decide)), fun w22 e24 => ?_⟩
          have H23 := H20.ext e24
          refine tt_alt ?_ ?_
          · skip
            refine tt_op rfl (Yd.op (y_ext rfl rfl rfl)) rfl rfl ?_
            rintro _ _ ⟨rfl, rfl⟩
            refine ⟨(H23.pick (m := [_, _]) [1, 2] rfl (by decide)), fun w25 e27 => ?_⟩
            have H26 := H23.ext e27
            refine tt_alt ?_ ?_
            · skip
              refine tt_op rfl (Yd.op (y_ext rfl rfl rfl)) rfl rfl ?_
              rintro _ _ ⟨rfl, rfl⟩
              refine ⟨(H26.pick (m := [_, _]) [1, 2] rfl (by decide)), fun w28 e30 => ?_⟩
              have H29 := H26.ext e30
              refine tt_op rfl (op_alloc H29 rfl kfref10_1) rfl rfl ?_
              rintro _ w32 ⟨b31, rfl, H33⟩
              refine ⟨(H33.pick (m := [_, _]) [2, 3] rfl (by decide)), fun w34 e36 => ?_⟩
              have H35 := H33.ext e36
              refine tt_op rfl (op_st (i := 0) (vs := [.int _ _, .int _ _, .slice _ _ _]) H35 rfl rfl rfl rfl rfl kfref10_8 rfl rfl rfl) rfl rfl ?_
              rintro _ w37 H38
              refine ⟨(H38.pick (m := [_, _]) [2, 3] rfl (by decide)), fun w39 e41 => ?_⟩
              have H40 := H38.ext e41
              refine tt_op rfl (Yd.op (y_asg rfl rfl)) rfl rfl ?_
              rintro _ _ ⟨rfl, rfl⟩
              refine ⟨(H40.pick (m := [_, _]) [2, 3] rfl (by decide)), fun w42 e44 => ?_⟩
              have H43 := H40.ext e44
              exact tt_leaf ⟨b31, A17, c18, rfl, (H43.pick (m := [_, _, _]) [0, 1, 3] rfl (by decide))⟩ ⟨rfl, rfl, trivial⟩ (by repeat (first | exact kp_refl | refine kp_app rfl rfl ?_ | refine kp_cons rfl ?_))
            refine tt_op rfl (op_alloc H26 rfl kfref10_1) rfl rfl ?_
            rintro _ w46 ⟨b45, rfl, H47⟩
            refine ⟨(H47.pick (m := [_, _]) [2, 3] rfl (by decide)), fun w48 e50 => ?_⟩
            have H49 := H47.ext e50
            refine tt_alt ?_ ?_
            · skip
              refine tt_op rfl (Yd.op (y_ext rfl rfl rfl)) rfl rfl ?_
              rintro _ _ ⟨rfl, rfl⟩
              refine ⟨(H49.pick (m := [_, _]) [2, 3] rfl (by decide)), fun w51 e53 => ?_⟩
              have H52 := H49.ext e53
              refine tt_op rfl (op_st (i := 0) (vs := [.int _ _, .int _ _, .slice _ _ _]) H52 rfl rfl rfl rfl rfl kfref10_8 rfl rfl rfl) rfl rfl ?_
              rintro _ w54 H55
              refine ⟨(H55.pick (m := [_, _]) [2, 3] rfl (by decide)), fun w56 e58 => ?_⟩
              have H57 := H55.ext e58
              refine tt_op rfl (Yd.op (y_asg rfl rfl)) rfl rfl ?_
              rintro _ _ ⟨rfl, rfl⟩
              refine ⟨(H57.pick (m := [_, _]) [2, 3] rfl (by decide)), fun w59 e61 => ?_⟩
              have H60 := H57.ext e61
              exact tt_leaf ⟨b45, A17, c18, rfl, (H60.pick (m := [_, _, _]) [0, 1, 3] rfl (by decide))⟩ ⟨rfl, rfl, trivial⟩ (by repeat (first | exact kp_refl | refine kp_app rfl rfl ?_ | refine kp_cons rfl ?_))
            refine tt_op rfl (op_st (i := 0) (vs := [.int _ _, .int _ _, .slice _ _ _]) H49 rfl rfl rfl rfl rfl kfref10_8 rfl rfl rfl) rfl rfl ?_
            rintro _ w62 H63
            refine ⟨(H63.pick (m := [_, _]) [2, 3] rfl (by decide)), fun w64 e66 => ?_⟩
            have H65 := H63.ext e66
            refine tt_op rfl (Yd.op (y_ext rfl rfl rfl)) rfl rfl ?_
            rintro _ _ ⟨rfl, rfl⟩
            refine ⟨(H65.pick (m := [_, _]) [2, 3] rfl (by decide)), fun w67 e69 => ?_⟩
            have H68 := H65.ext e69
            refine tt_op rfl (Yd.op (y_asg rfl rfl)) rfl rfl ?_
            rintro _ _ ⟨rfl, rfl⟩
            refine ⟨(H68.pick (m := [_, _]) [2, 3] rfl (by decide)), fun w70 e72 => ?_⟩
            have H71 := H68.ext e72
            exact tt_leaf ⟨b45, A17, c18, rfl, (H71.pick (m := [_, _, _]) [0, 1, 3] rfl (by decide))⟩ ⟨rfl, rfl, trivial⟩ (by repeat (first | exact kp_refl | refine kp_app rfl rfl ?_ | refine kp_cons rfl ?_))
          refine tt_alt ?_ ?_
          · skip
            refine tt_op rfl (Yd.op (y_ext rfl rfl rfl)) rfl rfl ?_
            rintro _ _ ⟨rfl, rfl⟩
            refine ⟨(H23.pick (m := [_, _]) [1, 2] rfl (by decide)), fun w73 e75 => ?_⟩
            have H74 := H23.ext e75
            refine tt_alt ?_ ?_
            · skip
              refine tt_op rfl (Yd.op (y_ext rfl rfl rfl)) rfl rfl ?_
              rintro _ _ ⟨rfl, rfl⟩
              refine ⟨(H74.pick (m := [_, _]) [1, 2] rfl (by decide)), fun w76 e78 => ?_⟩
              have H77 := H74.ext e78
              refine tt_op rfl (op_alloc H77 rfl kfref10_1) rfl rfl ?_
              rintro _ w80 ⟨b79, rfl, H81⟩
              refine ⟨(H81.pick (m := [_, _]) [2, 3] rfl (by decide)), fun w82 e84 => ?_⟩
              have H83 := H81.ext e84
              refine tt_op rfl (op_st (i := 0) (vs := [.int _ _, .int _ _, .slice _ _ _]) H83 rfl rfl rfl rfl rfl kfref10_8 rfl rfl rfl) rfl rfl ?_
              rintro _ w85 H86
              refine ⟨(H86.pick (m := [_, _]) [2, 3] rfl (by decide)), fun w87 e89 => ?_⟩
              have H88 := H86.ext e89
              refine tt_op rfl (Yd.op (y_asg rfl rfl)) rfl rfl ?_
              rintro _ _ ⟨rfl, rfl⟩
              refine ⟨(H88.pick (m := [_, _]) [2, 3] rfl (by decide)), fun w90 e92 => ?_⟩
              have H91 := H88.ext e92
              exact tt_leaf ⟨b79, A17, c18, rfl, (H91.pick (m := [_, _, _]) [0, 1, 3] rfl (by decide))⟩ ⟨rfl, rfl, trivial⟩ (by repeat (first | exact kp_refl | refine kp_app rfl rfl ?_ | refine kp_cons rfl ?_))
            refine tt_op rfl (op_alloc H74 rfl kfref10_1) rfl rfl ?_
            rintro _ w94 ⟨b93, rfl, H95⟩
            refine ⟨(H95.pick (m := [_, _]) [2, 3] rfl (by decide)), fun w96 e98 => ?_⟩
            have H97 := H95.ext e98
            refine tt_op rfl (Yd.op (y_ext rfl rfl rfl)) rfl rfl ?_
            rintro _ _ ⟨rfl, rfl⟩
            refine ⟨(H97.pick (m := [_, _]) [2, 3] rfl (by decide)), fun w99 e101 => ?_⟩
            have H100 := H97.ext e101
            refine tt_op rfl (op_st (i := 0) (vs := [.int _ _, .int _ _, .slice _ _ _]) H100 rfl rfl rfl rfl rfl kfref10_8 rfl rfl rfl) rfl rfl ?_
            rintro _ w102 H103
            refine ⟨(H103.pick (m := [_, _]) [2, 3] rfl (by decide)), fun w104 e106 => ?_⟩
            have H105 := H103.ext e106
            refine tt_op rfl (Yd.op (y_asg rfl rfl)) rfl rfl ?_
            rintro _ _ ⟨rfl, rfl⟩
            refine ⟨(H105.pick (m := [_, _]) [2, 3] rfl (by decide)), fun w107 e109 => ?_⟩
            have H108 := H105.ext e109
            exact tt_leaf ⟨b93, A17, c18, rfl, (H108.pick (m := [_, _, _]) [0, 1, 3] rfl (by decide))⟩ ⟨rfl, rfl, trivial⟩ (by repeat (first | exact kp_refl | refine kp_app rfl rfl ?_ | refine kp_cons rfl ?_))
          refine tt_op rfl (op_alloc H23 rfl kfref10_1) rfl rfl ?_
          rintro _ w111 ⟨b110, rfl, H112⟩
          refine ⟨(H112.pick (m := [_, _]) [2, 3] rfl (by decide)), fun w113 e115 => ?_⟩
          have H114 := H112.ext e115
          refine tt_alt ?_ ?_
          · skip
            refine tt_op rfl (Yd.op (y_ext rfl rfl rfl)) rfl rfl ?_
            rintro _ _ ⟨rfl, rfl⟩
            refine ⟨(H114.pick (m := [_, _]) [2, 3] rfl (by decide)), fun w116 e118 => ?_⟩
            have H117 := H114.ext e118
            refine tt_alt ?_ ?_
            · skip
              refine tt_op rfl (Yd.op (y_ext rfl rfl rfl)) rfl rfl ?_
              rintro _ _ ⟨rfl, rfl⟩
              refine ⟨(H117.pick (m := [_, _]) [2, 3] rfl (by decide)), fun w119 e121 => ?_⟩
              have H120 := H117.ext e121
              refine tt_op rfl (op_st (i := 0) (vs := [.int _ _, .int _ _, .slice _ _ _]) H120 rfl rfl rfl rfl rfl kfref10_8 rfl rfl rfl) rfl rfl ?_
              rintro _ w122 H123
              refine ⟨(H123.pick (m := [_, _]) [2, 3] rfl (by decide)), fun w124 e126 => ?_⟩
              have H125 := H123.ext e126
              refine tt_op rfl (Yd.op (y_asg rfl rfl)) rfl rfl ?_
              rintro _ _ ⟨rfl, rfl⟩
              refine ⟨(H125.pick (m := [_, _]) [2, 3] rfl (by decide)), fun w127 e129 => ?_⟩
              have H128 := H125.ext e129
              exact tt_leaf ⟨b110, A17, c18, rfl, (H128.pick (m := [_, _, _]) [0, 1, 3] rfl (by decide))⟩ ⟨rfl, rfl, trivial⟩ (by repeat (first | exact kp_refl | refine kp_app rfl rfl ?_ | refine kp_cons rfl ?_))
            refine tt_op rfl (op_st (i := 0) (vs := [.int _ _, .int _ _, .slice _ _ _]) H117 rfl rfl rfl rfl rfl kfref10_8 rfl rfl rfl) rfl rfl ?_
            rintro _ w130 H131
            refine ⟨(H131.pick (m := [_, _]) [2, 3] rfl (by decide)), fun w132 e134 => ?_⟩
            have H133 := H131.ext e134
            refine tt_op rfl (Yd.op (y_ext rfl rfl rfl)) rfl rfl ?_
            rintro _ _ ⟨rfl, rfl⟩
            refine ⟨(H133.pick (m := [_, _]) [2, 3] rfl (by decide)), fun w135 e137 => ?_⟩
            have H136 := H133.ext e137
            refine tt_op rfl (Yd.op (y_asg rfl rfl)) rfl rfl ?_
            rintro _ _ ⟨rfl, rfl⟩
            refine ⟨(H136.pick (m := [_, _]) [2, 3] rfl (by decide)), fun w138 e140 => ?_⟩
            have H139 := H136.ext e140
            exact tt_leaf ⟨b110, A17, c18, rfl, (H139.pick (m := [_, _, _]) [0, 1, 3] rfl (by decide))⟩ ⟨rfl, rfl, trivial⟩ (by repeat (first | exact kp_refl | refine kp_app rfl rfl ?_ | refine kp_cons rfl ?_))
          refine tt_op rfl (Yd.op (y_ext rfl rfl rfl)) rfl rfl ?_
          rintro _ _ ⟨rfl, rfl⟩
          refine ⟨(H114.pick (m := [_, _]) [2, 3] rfl (by decide)), fun w141 e143 => ?_⟩
          have H142 := H114.ext e143
          refine tt_op rfl (Yd.op (y_ext rfl rfl rfl)) rfl rfl ?_
          rintro _ _ ⟨rfl, rfl⟩
          refine ⟨(H142.pick (m := [_, _]) [2, 3] rfl (by decide)), fun w144 e146 => ?_⟩
          have H145 := H142.ext e146
          refine tt_op rfl (op_st (i := 0) (vs := [.int _ _, .int _ _, .slice _ _ _]) H145 rfl rfl rfl rfl rfl kfref10_8 rfl rfl rfl) rfl rfl ?_
          rintro _ w147 H148
          refine ⟨(H148.pick (m := [_, _]) [2, 3] rfl (by decide)), fun w149 e151 => ?_⟩
          have H150 := H148.ext e151
          refine tt_op rfl (Yd.op (y_asg rfl rfl)) rfl rfl ?_
          rintro _ _ ⟨rfl, rfl⟩
          refine ⟨(H150.pick (m := [_, _]) [2, 3] rfl (by decide)), fun w152 e154 => ?_⟩
          have H153 := H150.ext e154
          exact tt_leaf ⟨b110, A17, c18, rfl, (H153.pick (m := [_, _, _]) [0, 1, 3] rfl (by decide))⟩ ⟨rfl, rfl, trivial⟩ (by repeat (first | exact kp_refl | refine kp_app rfl rfl ?_ | refine kp_cons rfl ?_))
        refine tt_op rfl (op_alloc H20 rfl kfref10_1) rfl rfl ?_
        rintro _ w156 ⟨b155, rfl, H157⟩
        refine ⟨(H157.pick (m := [_, _]) [2, 3] rfl (by decide)), fun w158 e160 => ?_⟩
        have H159 := H157.ext e160
        refine tt_op rfl (Yd.op (y_mov rfl rfl)) rfl rfl ?_
        rintro _ _ ⟨rfl, rfl⟩
        refine ⟨(H159.pick (m := [_, _]) [2, 3] rfl (by decide)), fun w161 e163 => ?_⟩
        have H162 := H159.ext e163
        refine tt_alt ?_ ?_
        · skip
          refine tt_op rfl (Yd.op (y_ext rfl rfl rfl)) rfl rfl ?_
          rintro _ _ ⟨rfl, rfl⟩
          refine ⟨(H162.pick (m := [_, _]) [2, 3] rfl (by decide)), fun w164 e166 => ?_⟩
          have H165 := H162.ext e166
          refine tt_alt ?_ ?_
          · skip
            refine tt_op rfl (Yd.op (y_ext rfl rfl rfl)) rfl rfl ?_
            rintro _ _ ⟨rfl, rfl⟩
            refine ⟨(H165.pick (m := [_, _]) [2, 3] rfl (by decide)), fun w167 e169 => ?_⟩
            have H168 := H165.ext e169
            refine tt_op rfl (op_st (i := 0) (vs := [.int _ _, .int _ _, .slice _ _ _]) H168 rfl rfl rfl rfl rfl kfref10_8 rfl rfl rfl) rfl rfl ?_
            rintro _ w170 H171
            refine ⟨(H171.pick (m := [_, _]) [2, 3] rfl (by decide)), fun w172 e174 => ?_⟩
            have H173 := H171.ext e174
            refine tt_op rfl (Yd.op (y_asg rfl rfl)) rfl rfl ?_
            rintro _ _ ⟨rfl, rfl⟩
            refine ⟨(H173.pick (m := [_, _]) [2, 3] rfl (by decide)), fun w175 e177 => ?_⟩
            have H176 := H173.ext e177
            exact tt_leaf ⟨b155, A17, c18, rfl, (H176.pick (m := [_, _, _]) [0, 1, 3] rfl (by decide))⟩ ⟨rfl, rfl, trivial⟩ (by repeat (first | exact kp_refl | refine kp_app rfl rfl ?_ | refine kp_cons rfl ?_))
          refine tt_op rfl (op_st (i := 0) (vs := [.int _ _, .int _ _, .slice _ _ _]) H165 rfl rfl rfl rfl rfl kfref10_8 rfl rfl rfl) rfl rfl ?_
          rintro _ w178 H179
          refine ⟨(H179.pick (m := [_, _]) [2, 3] rfl (by decide)), fun w180 e182 => ?_⟩
          have H181 := H179.ext e182
          refine tt_op rfl (Yd.op (y_ext rfl rfl rfl)) rfl rfl ?_
          rintro _ _ ⟨rfl, rfl⟩
          refine ⟨(H181.pick (m := [_, _]) [2, 3] rfl (by decide)), fun w183 e185 => ?_⟩
          have H184 := H181.ext e185
          refine tt_op rfl (Yd.op (y_asg rfl rfl)) rfl rfl ?_
          rintro _ _ ⟨rfl, rfl⟩
          refine ⟨(H184.pick (m := [_, _]) [2, 3] rfl (by decide)), fun w186 e188 => ?_⟩
          have H187 := H184.ext e188
          exact tt_leaf ⟨b155, A17, c18, rfl, (H187.pick (m := [_, _, _]) [0, 1, 3] rfl (by decide))⟩ ⟨rfl, rfl, trivial⟩ (by repeat (first | exact kp_refl | refine kp_app rfl rfl ?_ | refine kp_cons rfl ?_))
        refine tt_op rfl (Yd.op (y_ext rfl rfl rfl)) rfl rfl ?_
        rintro _ _ ⟨rfl, rfl⟩
        refine ⟨(H162.pick (m := [_, _]) [2, 3] rfl (by decide)), fun w189 e191 => ?_⟩
        have H190 := H162.ext e191
        refine tt_op rfl (Yd.op (y_ext rfl rfl rfl)) rfl rfl ?_
        rintro _ _ ⟨rfl, rfl⟩
        refine ⟨(H190.pick (m := [_, _]) [2, 3] rfl (by decide)), fun w192 e194 => ?_⟩
        have H193 := H190.ext e194
        refine tt_op rfl (op_st (i := 0) (vs := [.int _ _, .int _ _, .slice _ _ _]) H193 rfl rfl rfl rfl rfl kfref10_8 rfl rfl rfl) rfl rfl ?_
        rintro _ w195 H196
        refine ⟨(H196.pick (m := [_, _]) [2, 3] rfl (by decide)), fun w197 e199 => ?_⟩
        have H198 := H196.ext e199
        refine tt_op rfl (Yd.op (y_asg rfl rfl)) rfl rfl ?_
        rintro _ _ ⟨rfl, rfl⟩
        refine ⟨(H198.pick (m := [_, _]) [2, 3] rfl (by decide)), fun w200 e202 => ?_⟩
        have H201 := H198.ext e202
        exact tt_leaf ⟨b155, A17, c18, rfl, (H201.pick (m := [_, _, _]) [0, 1, 3] rfl (by decide))⟩ ⟨rfl, rfl, trivial⟩ (by repeat (first | exact kp_refl | refine kp_app rfl rfl ?_ | refine kp_cons rfl ?_))
      refine tt_op rfl (op_alloc HX rfl kfref10_1) rfl rfl ?_
      rintro _ w204 ⟨b203, rfl, H205⟩
      refine ⟨(H205.pick (m := [_, _]) [1, 3] rfl (by decide)), fun w206 e208 => ?_⟩
      have H207 := H205.ext e208
      refine tt_op rfl (op_call (mPaste w _ a h A7 c8 (List.replicate (a * h) 0) 0 0 ((a : Int) - 1) ((h : Int) - 1) L B n c2 _ s (by rw [List.length_replicate]) (fun Z hZ => hr.below hZ.base) hl hn (H207.pick (m := [_, _, _, _]) [2, 0, 1, 3] rfl (by decide))) rfl kfref10_23 ⟨rfl, rfl, rfl, trivial⟩) rfl rfl ?_
      rintro _ w210 ⟨A211, c212, rfl, H209⟩
      refine ⟨(H209.pick (m := [_, _]) [2, 3] rfl (by decide)), fun w213 e215 => ?_⟩
      have H214 := H209.ext e215
      refine tt_op rfl (Yd.op (y_mov rfl rfl)) rfl rfl ?_
      rintro _ _ ⟨rfl, rfl⟩
      refine ⟨(H214.pick (m := [_, _]) [2, 3] rfl (by decide)), fun w216 e218 => ?_⟩
      have H217 := H214.ext e218
      refine tt_alt ?_ ?_
      · skip
        refine tt_op rfl (Yd.op (y_ext rfl rfl rfl)) rfl rfl ?_
        rintro _ _ ⟨rfl, rfl⟩
        refine ⟨(H217.pick (m := [_, _]) [2, 3] rfl (by decide)), fun w219 e221 => ?_⟩
        have H220 := H217.ext e221
        refine tt_alt ?_ ?_
        · skip
          refine tt_op rfl (Yd.op (y_ext rfl rfl rfl)) rfl rfl ?_
          rintro _ _ ⟨rfl, rfl⟩
          refine ⟨(H220.pick (m := [_, _]) [2, 3] rfl (by decide)), fun w222 e224 => ?_⟩
          have H223 := H220.ext e224
          refine tt_op rfl (op_st (i := 1) (vs := [.int _ _, .int _ _, .slice _ _ _]) H223 rfl rfl rfl rfl rfl kfref10_8 rfl rfl rfl) rfl rfl ?_
          rintro _ w225 H226
          refine ⟨(H226.pick (m := [_, _]) [2, 3] rfl (by decide)), fun w227 e229 => ?_⟩
          have H228 := H226.ext e229
          refine tt_op rfl (Yd.op (y_asg rfl rfl)) rfl rfl ?_
          rintro _ _ ⟨rfl, rfl⟩
          refine ⟨(H228.pick (m := [_, _]) [2, 3] rfl (by decide)), fun w230 e232 => ?_⟩
          have H231 := H228.ext e232
          exact tt_leaf ⟨b203, A211, c212, rfl, (H231.pick (m := [_, _, _]) [1, 0, 3] rfl (by decide))⟩ ⟨rfl, rfl, trivial⟩ (by repeat (first | exact kp_refl | refine kp_app rfl rfl ?_ | refine kp_cons rfl ?_))
        refine tt_op rfl (op_st (i := 1) (vs := [.int _ _, .int _ _, .slice _ _ _]) H220 rfl rfl rfl rfl rfl kfref10_8 rfl rfl rfl) rfl rfl ?_
        rintro _ w233 H234
        refine ⟨(H234.pick (m := [_, _]) [2, 3] rfl (by decide)), fun w235 e237 => ?_⟩
        have H236 := H234.ext e237
        refine tt_op rfl (Yd.op (y_ext rfl rfl rfl)) rfl rfl ?_
        rintro _ _ ⟨rfl, rfl⟩
        refine ⟨(H236.pick (m := [_, _]) [2, 3] rfl (by decide)), fun w238 e240 => ?_⟩
        have H239 := H236.ext e240
        refine tt_op rfl (Yd.op (y_asg rfl rfl)) rfl rfl ?_
        rintro _ _ ⟨rfl, rfl⟩
        refine ⟨(H239.pick (m := [_, _]) [2, 3] rfl (by decide)), fun w241 e243 => ?_⟩
        have H242 := H239.ext e243
        exact tt_leaf ⟨b203, A211, c212, rfl, (H242.pick (m := [_, _, _]) [1, 0, 3] rfl (by decide))⟩ ⟨rfl, rfl, trivial⟩ (by repeat (first | exact kp_refl | refine kp_app rfl rfl ?_ | refine kp_cons rfl ?_))
      refine tt_op rfl (Yd.op (y_ext rfl rfl rfl)) rfl rfl ?_
      rintro _ _ ⟨rfl, rfl⟩
      refine ⟨(H217.pick (m := [_, _]) [2, 3] rfl (by decide)), fun w244 e246 => ?_⟩
      have H245 := H217.ext e246
      refine tt_op rfl (Yd.op (y_ext rfl rfl rfl)) rfl rfl ?_
      rintro _ _ ⟨rfl, rfl⟩
      refine ⟨(H245.pick (m := [_, _]) [2, 3] rfl (by decide)), fun w247 e249 => ?_⟩
      have H248 := H245.ext e249
      refine tt_op rfl (op_st (i := 1) (vs := [.int _ _, .int _ _, .slice _ _ _]) H248 rfl rfl rfl rfl rfl kfref10_8 rfl rfl rfl) rfl rfl ?_
      rintro _ w250 H251
      refine ⟨(H251.pick (m := [_, _]) [2, 3] rfl (by decide)), fun w252 e254 => ?_⟩
      have H253 := H251.ext e254
      refine tt_op rfl (Yd.op (y_asg rfl rfl)) rfl rfl ?_
      rintro _ _ ⟨rfl, rfl⟩
      refine ⟨(H253.pick (m := [_, _]) [2, 3] rfl (by decide)), fun w255 e257 => ?_⟩
      have H256 := H253.ext e257
      exact tt_leaf ⟨b203, A211, c212, rfl, (H256.pick (m := [_, _, _]) [1, 0, 3] rfl (by decide))⟩ ⟨rfl, rfl, trivial⟩ (by repeat (first | exact kp_refl | refine kp_app rfl rfl ?_ | refine kp_cons rfl ?_))
    · skip
      rintro M w259 ⟨b', A', cap', rfl, H258⟩
      refine fn_next ?_
      refine cw_seq ?_
      refine cw_seq ?_
      refine cw_reg ?_
      refine ry (y_mov rfl rfl) rfl rfl ?_
      refine ry (y_neq rfl rfl rfl) rfl rfl ?_
      refine reg_nil ?_
      refine fn_next ?_
      refine cw_condd rfl (fun h260 => ?_) (fun h260 => ?_)
      · skip
        refine cw_seq ?_
        refine cw_reg ?_
        refine ry (y_build (places := [(0, 1), (1, 1), (2, 1)]) (parts := []) (vs := []) (cs := [.int _ _, .int _ _, .slice _ _ _]) rfl Try.underlying34 (by kernel_rfl) kfref10_1 rfl trivial rfl) rfl rfl ?_
        refine ry (y_mov rfl rfl) rfl rfl ?_
        refine reg_op (op_st (i := 2) (vs := [.int _ _, .int _ _, .slice _ _ _]) H258 rfl rfl rfl rfl rfl kfref10_8 rfl rfl rfl) rfl rfl ?_
        rintro _ w261 H262
        refine ry (y_asg rfl rfl) rfl rfl ?_
        refine reg_nil ?_
        refine fn_next ?_
        refine cw_ret ?_
        refine fn_then_ret ?_
        refine fn_retn (vs := [_, _]) rfl ⟨⟨_, rfl, load_agg (cs := [_, _, _]) kfref10_7 rfl fun j v hv => by rw [Nat.zero_add]; exact H262.cell (i := 2) rfl hv⟩, rfl, trivial⟩ rfl ?_
        rw [fromC_in s]
        exact ⟨rfl, H262.base⟩
      · exact absurd (Classical.not_not.1 h260) hc2

set_option maxRecDepth 100000 in
theorem mFrom_ok (a h : Nat) (L : List Int) (B : Option Addr) (n c2 : Nat) (w : World) (hr : Rd w B (vi .i64 L)) (hl : L.length = n) (hn : n ≤ 16777216) (s : SzG a h) (hc : fromC a h L = 0) :
    Ret Try.prog 58 [.int .i64 (a : Int), .int .i64 (h : Int), .slice B n c2] w (fun z w' => ∃ A cap, z = .tuple #[.agg #[.int .i64 (a : Int), .int .i64 (h : Int), .slice A (a * h) cap], .int .i64 0] ∧ HS w w' [.row A (a * h) cap (vi .i64 (L)) 2 1]) := by
  have hc2 : pasteC a h 0 0 ((a : Int) - 1) ((h : Int) - 1) L = 0 := by rw [← fromC_in s]; exact hc
  obtain ⟨_, _, ea, eh, _, hla, _⟩ := fromC_zero hc
  have hla' : L.length = a * h := by rw [hla, ← Int.ofNat.inj ea, ← Int.ofNat.inj eh]
  refine ret_enter Try.func58 rfl rfl rfl ?_
  have H0 := HS.start w
  refine cw_seq ?_
  refine cw_reg ?_
  refine reg_op (op_alloc H0 rfl kfref10_1) rfl rfl ?_
  rintro _ w2 ⟨b1, rfl, H3⟩
  refine ry (y_asg rfl rfl) rfl rfl ?_
  refine reg_nil ?_
  refine fn_next ?_
  refine cw_seq ?_
  refine cw_reg ?_
  refine ry (y_mov rfl rfl) rfl rfl ?_
  refine ry (y_mov rfl rfl) rfl rfl ?_
  refine reg_op (op_call (rNew_ok a h 0 _ s (by decide)) rfl kfref10_21 ⟨rfl, rfl, rfl, trivial⟩) rfl rfl ?_
  rintro _ w5 ⟨A7, c8, rfl, k4⟩
  have H6 := H3.call k4
  refine ry (y_mov rfl rfl) rfl rfl ?_
  refine ry (y_ext rfl rfl rfl) rfl rfl ?_
  refine ry (y_ext rfl rfl rfl) rfl rfl ?_
  refine reg_op (op_alloc H6 rfl kfref10_1) rfl rfl ?_
  rintro _ w10 ⟨b9, rfl, H11⟩
  refine reg_op (op_st (i := 0) (vs := [.int _ _, .int _ _, .slice _ _ _]) H11 rfl rfl rfl rfl rfl kfref10_8 rfl rfl rfl) rfl rfl ?_
  rintro _ w12 H13
  refine ry (y_asg rfl rfl) rfl rfl ?_
  refine reg_nil ?_
  refine fn_next ?_
  refine cw_seq ?_
  refine cw_seq ?_
  refine cw_reg ?_
  refine ry (y_mov rfl rfl) rfl rfl ?_
  refine ry (y_neq rfl rfl rfl) rfl rfl ?_
  refine reg_nil ?_
  refine fn_next ?_
  refine cw_condd rfl (fun h14 => ?_) (fun h14 => ?_)
  · exact absurd rfl h14
  · skip
    refine cw_skip ?_
    refine fn_next ?_
    refine cw_seq ?_
    refine cw_drawT H13 [0, 1, 2, 3] (.alt (.step 4 (.alt (.step 5 (.alt (.step 6 (.alt (.step 7 (.step 8 (.step 9 (.step 10 (.leaf))))) (.step 8 (.alt (.step 7 (.step 9 (.step 10 (.leaf)))) (.step 9 (.step 7 (.step 10 (.leaf)))))))) (.alt (.step 7 (.alt (.step 6 (.step 8 (.step 9 (.step 10 (.leaf))))) (.step 8 (.step 6 (.step 9 (.step 10 (.leaf))))))) (.step 8 (.alt (.step 6 (.alt (.step 7 (.step 9 (.step 10 (.leaf)))) (.step 9 (.step 7 (.step 10 (.leaf)))))) (.step 7 (.step 6 (.step 9 (.step 10 (.leaf)))))))))) (.step 8 (.step 5 (.alt (.step 6 (.alt (.step 7 (.step 9 (.step 10 (.leaf)))) (.step 9 (.step 7 (.step 10 (.leaf)))))) (.step 7 (.step 6 (.step 9 (.step 10 (.leaf)))))))))) (.step 8 (.step 4 (.step 5 (.alt (.step 6 (.alt (.step 7 (.step 9 (.step 10 (.leaf)))) (.step 9 (.step 7 (.step 10 (.leaf)))))) (.step 7 (.step 6 (.step 9 (.step 10 (.leaf)))))))))) (fun X HX => (HX.pick (m := [_, _]) [0, 2] rfl (by decide))) (by kernel_rfl) (by kernel_rfl) (by rfl) ?_
    simp only [pick, List.getElem?_cons_succ, List.getElem?_cons_zero]
    refine hk_y (fun Y HY => y_ldb (i := 0) (cs := [_, _, _]) HY rfl rfl kfref10_7 rfl rfl) rfl rfl ?_
    refine hk_y (fun Y HY => y_ldb (i := 0) (cs := [_, _, _]) HY rfl rfl kfref10_7 rfl rfl) rfl rfl ?_
    refine hk_q (qy_call (fun Y HY => rAll a h _ _ _ s) rfl kfref10_22 ⟨rfl, trivial⟩) rfl rfl ?_
    refine hk_y (fun Y HY => y_mov rfl rfl) rfl rfl ?_
    refine hkt_nil [10, 11, 22, 27, 28, 29] (fun M wl => ∃ (b' : Nat) (A' : Option Addr) (cap' : Nat), M = [(10, .pointer (some ⟨b', 0, none⟩)), (11, .int .i64 (pasteC a h 0 0 ((a : Int) - 1) ((h : Int) - 1) L))] ∧ HS w wl [Ob.blk b' [.int .i64 (a : Int), .int .i64 (h : Int), .slice A' (a * h) cap'] 34, Ob.row A' (a * h) cap' (vi .i64 (pasteV (List.replicate (a * h) 0) a h 0 0 ((a : Int) - 1) ((h : Int) - 1) L)) 2 1, Ob.blk b1 [.int .i64 0, .int .i64 0, .slice none 0 0] 34]) (fun wX HX => ?_) ?_
    · skip
      refine tt_alt ?_ ?_
      · skip
        refine tt_op rfl (op_call (mPaste w _ a h A7 c8 (List.replicate (a * h) 0) 0 0 ((a : Int) - 1) ((h : Int) - 1) L B n c2 _ s (by rw [List.length_replicate]) (fun Z hZ => hr.below hZ.base) hl hn (HX.pick (m := [_, _, _]) [1, 0, 2] rfl (by decide))) rfl kfref10_23 ⟨rfl, rfl, rfl, trivial⟩) rfl rfl ?_
        rintro _ w16 ⟨A17, c18, rfl, H15⟩
        refine ⟨(H15.pick (m := [_, _]) [1, 2] rfl (by decide)), fun w19 e21 => ?_⟩
        have H20 := H15.ext e21
        refine tt_alt ?_ ?_
        · skip
          refine tt_op rfl (Yd.op (y_mov rfl rfl)) rfl rfl ?_
          rintro _ _ ⟨rfl, rfl⟩
          refine ⟨(H20.pick (m := [_, _]) [1, 2] rfl (by decide)), fun w22 e24 => ?_⟩
          have H23 := H20.ext e24
          refine tt_alt ?_ ?_
          · skip
            refine tt_op rfl (Yd.op (y_ext rfl rfl rfl)) rfl rfl ?_
            rintro _ _ ⟨rfl, rfl⟩
            refine ⟨(H23.pick (m := [_, _]) [1, 2] rfl (by decide)), fun w25 e27 => ?_⟩
            have H26 := H23.ext e27
            refine tt_alt ?_ ?_
            · skip
              refine tt_op rfl (Yd.op (y_ext rfl rfl rfl)) rfl rfl ?_
              rintro _ _ ⟨rfl, rfl⟩
              refine ⟨(H26.pick (m := [_, _]) [1, 2] rfl (by decide)), fun w28 e30 => ?_⟩
              have H29 := H26.ext e30
              refine tt_op rfl (op_alloc H29 rfl kfref10_1) rfl rfl ?_
              rintro _ w32 ⟨b31, rfl, H33⟩
              refine ⟨(H33.pick (m := [_, _]) [2, 3] rfl (by decide)), fun w34 e36 => ?_⟩
              have H35 := H33.ext e36
              refine tt_op rfl (op_st (i := 0) (vs := [.int _ _, .int _ _, .slice _ _ _]) H35 rfl rfl rfl rfl rfl kfref10_8 rfl rfl rfl) rfl rfl ?_
              rintro _ w37 H38
              refine ⟨(H38.pick (m := [_, _]) [2, 3] rfl (by decide)), fun w39 e41 => ?_⟩
              have H40 := H38.ext e41
              refine tt_op rfl (Yd.op (y_asg rfl rfl)) rfl rfl ?_
              rintro _ _ ⟨rfl, rfl⟩
              refine ⟨(H40.pick (m := [_, _]) [2, 3] rfl (by decide)), fun w42 e44 => ?_⟩
              have H43 := H40.ext e44
              exact tt_leaf ⟨b31, A17, c18, rfl, (H43.pick (m := [_, _, _]) [0, 1, 3] rfl (by decide))⟩ ⟨rfl, rfl, trivial⟩ (by repeat (first | exact kp_refl | refine kp_app rfl rfl ?_ | refine kp_cons rfl ?_))
            refine tt_op rfl (op_alloc H26 rfl kfref10_1) rfl rfl ?_
            rintro _ w46 ⟨b45, rfl, H47⟩
            refine ⟨(H47.pick (m := [_, _]) [2, 3] rfl (by decide)), fun w48 e50 => ?_⟩
            have H49 := H47.ext e50
            refine tt_alt ?_ ?_
            · skip
              refine tt_op rfl (Yd.op (y_ext rfl rfl rfl)) rfl rfl ?_
              rintro _ _ ⟨rfl, rfl⟩
              refine ⟨(H49.pick (m := [_, _]) [2, 3] rfl (by decide)), fun w51 e53 => ?_⟩
              have H52 := H49.ext e53
              refine tt_op rfl (op_st (i := 0) (vs := [.int _ _, .int _ _, .slice _ _ _]) H52 rfl rfl rfl rfl rfl kfref10_8 rfl rfl rfl) rfl rfl ?_
              rintro _ w54 H55
              refine ⟨(H55.pick (m := [_, _]) [2, 3] rfl (by decide)), fun w56 e58 => ?_⟩
              have H57 := H55.ext e58
              refine tt_op rfl (Yd.op (y_asg rfl rfl)) rfl rfl ?_
              rintro _ _ ⟨rfl, rfl⟩
              refine ⟨(H57.pick (m := [_, _]) [2, 3] rfl (by decide)), fun w59 e61 => ?_⟩
              have H60 := H57.ext e61
              exact tt_leaf ⟨b45, A17, c18, rfl, (H60.pick (m := [_, _, _]) [0, 1, 3] rfl (by decide))⟩ ⟨rfl, rfl, trivial⟩ (by repeat (first | exact kp_refl | refine kp_app rfl rfl ?_ | refine kp_cons rfl ?_))
            refine tt_op rfl (op_st (i := 0) (vs := [.int _ _, .int _ _, .slice _ _ _]) H49 rfl rfl rfl rfl rfl kfref10_8 rfl rfl rfl) rfl rfl ?_
            rintro _ w62 H63
            refine ⟨(H63.pick (m := [_, _]) [2, 3] rfl (by decide)), fun w64 e66 => ?_⟩
            have H65 := H63.ext e66
            refine tt_op rfl (Yd.op (y_ext rfl rfl rfl)) rfl rfl ?_
            rintro _ _ ⟨rfl, rfl⟩
            refine ⟨(H65.pick (m := [_, _]) [2, 3] rfl (by decide)), fun w67 e69 => ?_⟩
            have H68 := H65.ext e69
            refine tt_op rfl (Yd.op (y_asg rfl rfl)) rfl rfl ?_
            rintro _ _ ⟨rfl, rfl⟩
            refine ⟨(H68.pick (m := [_, _]) [2, 3] rfl (by decide)), fun w70 e72 => ?_⟩
            have H71 := H68.ext e72
            exact tt_leaf ⟨b45, A17, c18, rfl, (H71.pick (m := [_, _, _]) [0, 1, 3] rfl (by decide))⟩ ⟨rfl, rfl, trivial⟩ (by repeat (first | exact kp_refl | refine kp_app rfl rfl ?_ | refine kp_cons rfl ?_))
          refine tt_alt ?_ ?_
          · skip
            refine tt_op rfl (Yd.op (y_ext rfl rfl rfl)) rfl rfl ?_
            rintro _ _ ⟨rfl, rfl⟩
            refine ⟨(H23.pick (m := [_, _]) [1, 2] rfl (by decide)), fun w73 e75 => ?_⟩
            have H74 := H23.ext e75
            refine tt_alt ?_ ?_
            · skip
              refine tt_op rfl (Yd.op (y_ext rfl rfl rfl)) rfl rfl ?_
              rintro _ _ ⟨rfl, rfl⟩
              refine ⟨(H74.pick (m := [_, _]) [1, 2] rfl (by decide)), fun w76 e78 => ?_⟩
              have H77 := H74.ext e78
              refine tt_op rfl (op_alloc H77 rfl kfref10_1) rfl rfl ?_
              rintro _ w80 ⟨b79, rfl, H81⟩
              refine ⟨(H81.pick (m := [_, _]) [2, 3] rfl (by decide)), fun w82 e84 => ?_⟩
              have H83 := H81.ext e84
              refine tt_op rfl (op_st (i := 0) (vs := [.int _ _, .int _ _, .slice _ _ _]) H83 rfl rfl rfl rfl rfl kfref10_8 rfl rfl rfl) rfl rfl ?_
              rintro _ w85 H86
              refine ⟨(H86.pick (m := [_, _]) [2, 3] rfl (by decide)), fun w87 e89 => ?_⟩
              have H88 := H86.ext e89
              refine tt_op rfl (Yd.op (y_asg rfl rfl)) rfl rfl ?_
              rintro _ _ ⟨rfl, rfl⟩
              refine ⟨(H88.pick (m := [_, _]) [2, 3] rfl (by decide)), fun w90 e92 => ?_⟩
              have H91 := H88.ext e92
              exact tt_leaf ⟨b79, A17, c18, rfl, (H91.pick (m := [_, _, _]) [0, 1, 3] rfl (by decide))⟩ ⟨rfl, rfl, trivial⟩ (by repeat (first | exact kp_refl | refine kp_app rfl rfl ?_ | refine kp_cons rfl ?_))
            refine tt_op rfl (op_alloc H74 rfl kfref10_1) rfl rfl ?_
            rintro _ w94 ⟨b93, rfl, H95⟩
            refine ⟨(H95.pick (m := [_, _]) [2, 3] rfl (by decide)), fun w96 e98 => ?_⟩
            have H97 := H95.ext e98
            refine tt_op rfl (Yd.op (y_ext rfl rfl rfl)) rfl rfl ?_
            rintro _ _ ⟨rfl, rfl⟩
            refine ⟨(H97.pick (m := [_, _]) [2, 3] rfl (by decide)), fun w99 e101 => ?_⟩
            have H100 := H97.ext e101
            refine tt_op rfl (op_st (i := 0) (vs := [.int _ _, .int _ _, .slice _ _ _]) H100 rfl rfl rfl rfl rfl kfref10_8 rfl rfl rfl) rfl rfl ?_
            rintro _ w102 H103
            refine ⟨(H103.pick (m := [_, _]) [2, 3] rfl (by decide)), fun w104 e106 => ?_⟩
            have H105 := H103.ext e106
            refine tt_op rfl (Yd.op (y_asg rfl rfl)) rfl rfl ?_
            rintro _ _ ⟨rfl, rfl⟩
            refine ⟨(H105.pick (m := [_, _]) [2, 3] rfl (by decide)), fun w107 e109 => ?_⟩
            have H108 := H105.ext e109
            exact tt_leaf ⟨b93, A17, c18, rfl, (H108.pick (m := [_, _, _]) [0, 1, 3] rfl (by decide))⟩ ⟨rfl, rfl, trivial⟩ (by repeat (first | exact kp_refl | refine kp_app rfl rfl ?_ | refine kp_cons rfl ?_))
          refine tt_op rfl (op_alloc H23 rfl kfref10_1) rfl rfl ?_
          rintro _ w111 ⟨b110, rfl, H112⟩
          refine ⟨(H112.pick (m := [_, _]) [2, 3] rfl (by decide)), fun w113 e115 => ?_⟩
          have H114 := H112.ext e115
          refine tt_alt ?_ ?_
          · skip
            refine tt_op rfl (Yd.op (y_ext rfl rfl rfl)) rfl rfl ?_
            rintro _ _ ⟨rfl, rfl⟩
            refine ⟨(H114.pick (m := [_, _]) [2, 3] rfl (by decide)), fun w116 e118 => ?_⟩
            have H117 := H114.ext e118
            refine tt_alt ?_ ?_
            · skip
              refine tt_op rfl (Yd.op (y_ext rfl rfl rfl)) rfl rfl ?_
              rintro _ _ ⟨rfl, rfl⟩
              refine ⟨(H117.pick (m := [_, _]) [2, 3] rfl (by decide)), fun w119 e121 => ?_⟩
              have H120 := H117.ext e121
              refine tt_op rfl (op_st (i := 0) (vs := [.int _ _, .int _ _, .slice _ _ _]) H120 rfl rfl rfl rfl rfl kfref10_8 rfl rfl rfl) rfl rfl ?_
              rintro _ w122 H123
              refine ⟨(H123.pick (m := [_, _]) [2, 3] rfl (by decide)), fun w124 e126 => ?_⟩
              have H125 := H123.ext e126
              refine tt_op rfl (Yd.op (y_asg rfl rfl)) rfl rfl ?_
              rintro _ _ ⟨rfl, rfl⟩
              refine ⟨(H125.pick (m := [_, _]) [2, 3] rfl (by decide)), fun w127 e129 => ?_⟩
              have H128 := H125.ext e129
              exact tt_leaf ⟨b110, A17, c18, rfl, (H128.pick (m := [_, _, _]) [0, 1, 3] rfl (by decide))⟩ ⟨rfl, rfl, trivial⟩ (by repeat (first | exact kp_refl | refine kp_app rfl rfl ?_ | refine kp_cons rfl ?_))
            refine tt_op rfl (op_st (i := 0) (vs := [.int _ _, .int _ _, .slice _ _ _]) H117 rfl rfl rfl rfl rfl kfref10_8 rfl rfl rfl) rfl rfl ?_
            rintro _ w130 H131
            refine ⟨(H131.pick (m := [_, _]) [2, 3] rfl (by decide)), fun w132 e134 => ?_⟩
            have H133 := H131.ext e134
            refine tt_op rfl (Yd.op (y_ext rfl rfl rfl)) rfl rfl ?_
            rintro _ _ ⟨rfl, rfl⟩
            refine ⟨(H133.pick (m := [_, _]) [2, 3] rfl (by decide)), fun w135 e137 => ?_⟩
            have H136 := H133.ext e137
            refine tt_op rfl (Yd.op (y_asg rfl rfl)) rfl rfl ?_
            rintro _ _ ⟨rfl, rfl⟩
            refine ⟨(H136.pick (m := [_, _]) [2, 3] rfl (by decide)), fun w138 e140 => ?_⟩
            have H139 := H136.ext e140
            exact tt_leaf ⟨b110, A17, c18, rfl, (H139.pick (m := [_, _, _]) [0, 1, 3] rfl (by decide))⟩ ⟨rfl, rfl, trivial⟩ (by repeat (first | exact kp_refl | refine kp_app rfl rfl ?_ | refine kp_cons rfl ?_))
          refine tt_op rfl (Yd.op (y_ext rfl rfl rfl)) rfl rfl ?_
          rintro _ _ ⟨rfl, rfl⟩
          refine ⟨(H114.pick (m := [_, _]) [2, 3] rfl (by decide)), fun w141 e143 => ?_⟩
          have H142 := H114.ext e143
          refine tt_op rfl (Yd.op (y_ext rfl rfl rfl)) rfl rfl ?_
          rintro _ _ ⟨rfl, rfl⟩
          refine ⟨(H142.pick (m := [_, _]) [2, 3] rfl (by decide)), fun w144 e146 => ?_⟩
          have H145 := H142.ext e146
          refine tt_op rfl (op_st (i := 0) (vs := [.int _ _, .int _ _, .slice _ _ _]) H145 rfl rfl rfl rfl rfl kfref10_8 rfl rfl rfl) rfl rfl ?_
          rintro _ w147 H148
          refine ⟨(H148.pick (m := [_, _]) [2, 3] rfl (by decide)), fun w149 e151 => ?_⟩
          have H150 := H148.ext e151
          refine tt_op rfl (Yd.op (y_asg rfl rfl)) rfl rfl ?_
          rintro _ _ ⟨rfl, rfl⟩
          refine ⟨(H150.pick (m := [_, _]) [2, 3] rfl (by decide)), fun w152 e154 => ?_⟩
          have H153 := H150.ext e154
          exact tt_leaf ⟨b110, A17, c18, rfl, (H153.pick (m := [_, _, _]) [0, 1, 3] rfl (by decide))⟩ ⟨rfl, rfl, trivial⟩ (by repeat (first | exact kp_refl | refine kp_app rfl rfl ?_ | refine kp_cons rfl ?_))
        refine tt_op rfl (op_alloc H20 rfl kfref10_1) rfl rfl ?_
        rintro _ w156 ⟨b155, rfl, H157⟩
        refine ⟨(H157.pick (m := [_, _]) [2, 3] rfl (by decide)), fun w158 e160 => ?_⟩
        have H159 := H157.ext e160
        refine tt_op rfl (Yd.op (y_mov rfl rfl)) rfl rfl ?_
        rintro _ _ ⟨rfl, rfl⟩
        refine ⟨(H159.pick (m := [_, _]) [2, 3] rfl (by decide)), fun w161 e163 => ?_⟩
        have H162 := H159.ext e163
        refine tt_alt ?_ ?_
        · skip
          refine tt_op rfl (Yd.op (y_ext rfl rfl rfl)) rfl rfl ?_
          rintro _ _ ⟨rfl, rfl⟩
          refine ⟨(H162.pick (m := [_, _]) [2, 3] rfl (by decide)), fun w164 e166 => ?_⟩
          have H165 := H162.ext e166
          refine tt_alt ?_ ?_
          · skip
            refine tt_op rfl (Yd.op (y_ext rfl rfl rfl)) rfl rfl ?_
            rintro _ _ ⟨rfl, rfl⟩
            refine ⟨(H165.pick (m := [_, _]) [2, 3] rfl (by decide)), fun w167 e169 => ?_⟩
            have H168 := H165.ext e169
            refine tt_op rfl (op_st (i := 0) (vs := [.int _ _, .int _ _, .slice _ _ _]) H168 rfl rfl rfl rfl rfl kfref10_8 rfl rfl rfl) rfl rfl ?_
            rintro _ w170 H171
            refine ⟨(H171.pick (m := [_, _]) [2, 3] rfl (by decide)), fun w172 e174 => ?_⟩
            have H173 := H171.ext e174
            refine tt_op rfl (Yd.op (y_asg rfl rfl)) rfl rfl ?_
            rintro _ _ ⟨rfl, rfl⟩
            refine ⟨(H173.pick (m := [_, _]) [2, 3] rfl (by decide)), fun w175 e177 => ?_⟩
            have H176 := H173.ext e177
            exact tt_leaf ⟨b155, A17, c18, rfl, (H176.pick (m := [_, _, _]) [0, 1, 3] rfl (by decide))⟩ ⟨rfl, rfl, trivial⟩ (by repeat (first | exact kp_refl | refine kp_app rfl rfl ?_ | refine kp_cons rfl ?_))
          refine tt_op rfl (op_st (i := 0) (vs := [.int _ _, .int _ _, .slice _ _ _]) H165 rfl rfl rfl rfl rfl kfref10_8 rfl rfl rfl) rfl rfl ?_
          rintro _ w178 H179
          refine ⟨(H179.pick (m := [_, _]) [2, 3] rfl (by decide)), fun w180 e182 => ?_⟩
          have H181 := H179.ext e182
          refine tt_op rfl (Yd.op (y_ext rfl rfl rfl)) rfl rfl ?_
          rintro _ _ ⟨rfl, rfl⟩
          refine ⟨(H181.pick (m := [_, _]) [2, 3] rfl (by decide)), fun w183 e185 => ?_⟩
          have H184 := H181.ext e185
          refine tt_op rfl (Yd.op (y_asg rfl rfl)) rfl rfl ?_
          rintro _ _ ⟨rfl, rfl⟩
          refine ⟨(H184.pick (m := [_, _]) [2, 3] rfl (by decide)), fun w186 e188 => ?_⟩
          have H187 := H184.ext e188
          exact tt_leaf ⟨b155, A17, c18, rfl, (H187.pick (m := [_, _, _]) [0, 1, 3] rfl (by decide))⟩ ⟨rfl, rfl, trivial⟩ (by repeat (first | exact kp_refl | refine kp_app rfl rfl ?_ | refine kp_cons rfl ?_))
        refine tt_op rfl (Yd.op (y_ext rfl rfl rfl)) rfl rfl ?_
        rintro _ _ ⟨rfl, rfl⟩
        refine ⟨(H162.pick (m := [_, _]) [2, 3] rfl (by decide)), fun w189 e191 => ?_⟩
        have H190 := H162.ext e191
        refine tt_op rfl (Yd.op (y_ext rfl rfl rfl)) rfl rfl ?_
        rintro _ _ ⟨rfl, rfl⟩
        refine ⟨(H190.pick (m := [_, _]) [2, 3] rfl (by decide)), fun w192 e194 => ?_⟩
        have H193 := H190.ext e194
        refine tt_op rfl (op_st (i := 0) (vs := [.int _ _, .int _ _, .slice _ _ _]) H193 rfl rfl rfl rfl rfl kfref10_8 rfl rfl rfl) rfl rfl ?_
        rintro _ w195 H196
        refine ⟨(H196.pick (m := [_, _]) [2, 3] rfl (by decide)), fun w197 e199 => ?_⟩
        have H198 := H196.ext e199
        refine tt_op rfl (Yd.op (y_asg rfl rfl)) rfl rfl ?_
        rintro _ _ ⟨rfl, rfl⟩
        refine ⟨(H198.pick (m := [_, _]) [2, 3] rfl (by decide)), fun w200 e202 => ?_⟩
        have H201 := H198.ext e202
        exact tt_leaf ⟨b155, A17, c18, rfl, (H201.pick (m := [_, _, _]) [0, 1, 3] rfl (by decide))⟩ ⟨rfl, rfl, trivial⟩ (by repeat (first | exact kp_refl | refine kp_app rfl rfl ?_ | refine kp_cons rfl ?_))
      refine tt_op rfl (op_alloc HX rfl kfref10_1) rfl rfl ?_
      rintro _ w204 ⟨b203, rfl, H205⟩
      refine ⟨(H205.pick (m := [_, _]) [1, 3] rfl (by decide)), fun w206 e208 => ?_⟩
      have H207 := H205.ext e208
      refine tt_op rfl (op_call (mPaste w _ a h A7 c8 (List.replicate (a * h) 0) 0 0 ((a : Int) - 1) ((h : Int) - 1) L B n c2 _ s (by rw [List.length_replicate]) (fun Z hZ => hr.below hZ.base) hl hn (H207.pick (m := [_, _, _, _]) [2, 0, 1, 3] rfl (by decide))) rfl kfref10_23 ⟨rfl, rfl, rfl, trivial⟩) rfl rfl ?_
      rintro _ w210 ⟨A211, c212, rfl, H209⟩
      refine ⟨(H209.pick (m := [_, _]) [2, 3] rfl (by decide)), fun w213 e215 => ?_⟩
      have H214 := H209.ext e215
      refine tt_op rfl (Yd.op (y_mov rfl rfl)) rfl rfl ?_
      rintro _ _ ⟨rfl, rfl⟩
      refine ⟨(H214.pick (m := [_, _]) [2, 3] rfl (by decide)), fun w216 e218 => ?_⟩
      have H217 := H214.ext e218
      refine tt_alt ?_ ?_
      · skip
        refine tt_op rfl (Yd.op (y_ext rfl rfl rfl)) rfl rfl ?_
        rintro _ _ ⟨rfl, rfl⟩
        refine ⟨(H217.pick (m := [_, _]) [2, 3] rfl (by decide)), fun w219 e221 => ?_⟩
        have H220 := H217.ext e221
        refine tt_alt ?_ ?_
        · skip
          refine tt_op rfl (Yd.op (y_ext rfl rfl rfl)) rfl rfl ?_
          rintro _ _ ⟨rfl, rfl⟩
          refine ⟨(H220.pick (m := [_, _]) [2, 3] rfl (by decide)), fun w222 e224 => ?_⟩
          have H223 := H220.ext e224
          refine tt_op rfl (op_st (i := 1) (vs := [.int _ _, .int _ _, .slice _ _ _]) H223 rfl rfl rfl rfl rfl kfref10_8 rfl rfl rfl) rfl rfl ?_
          rintro _ w225 H226
          refine ⟨(H226.pick (m := [_, _]) [2, 3] rfl (by decide)), fun w227 e229 => ?_⟩
          have H228 := H226.ext e229
          refine tt_op rfl (Yd.op (y_asg rfl rfl)) rfl rfl ?_
          rintro _ _ ⟨rfl, rfl⟩
          refine ⟨(H228.pick (m := [_, _]) [2, 3] rfl (by decide)), fun w230 e232 => ?_⟩
          have H231 := H228.ext e232
          exact tt_leaf ⟨b203, A211, c212, rfl, (H231.pick (m := [_, _, _]) [1, 0, 3] rfl (by decide))⟩ ⟨rfl, rfl, trivial⟩ (by repeat (first | exact kp_refl | refine kp_app rfl rfl ?_ | refine kp_cons rfl ?_))
        refine tt_op rfl (op_st (i := 1) (vs := [.int _ _, .int _ _, .slice _ _ _]) H220 rfl rfl rfl rfl rfl kfref10_8 rfl rfl rfl) rfl rfl ?_
        rintro _ w233 H234
        refine ⟨(H234.pick (m := [_, _]) [2, 3] rfl (by decide)), fun w235 e237 => ?_⟩
        have H236 := H234.ext e237
        refine tt_op rfl (Yd.op (y_ext rfl rfl rfl)) rfl rfl ?_
        rintro _ _ ⟨rfl, rfl⟩
        refine ⟨(H236.pick (m := [_, _]) [2, 3] rfl (by decide)), fun w238 e240 => ?_⟩
        have H239 := H236.ext e240
        refine tt_op rfl (Yd.op (y_asg rfl rfl)) rfl rfl ?_
        rintro _ _ ⟨rfl, rfl⟩
        refine ⟨(H239.pick (m := [_, _]) [2, 3] rfl (by decide)), fun w241 e243 => ?_⟩
        have H242 := H239.ext e243
        exact tt_leaf ⟨b203, A211, c212, rfl, (H242.pick (m := [_, _, _]) [1, 0, 3] rfl (by decide))⟩ ⟨rfl, rfl, trivial⟩ (by repeat (first | exact kp_refl | refine kp_app rfl rfl ?_ | refine kp_cons rfl ?_))
      refine tt_op rfl (Yd.op (y_ext rfl rfl rfl)) rfl rfl ?_
      rintro _ _ ⟨rfl, rfl⟩
      refine ⟨(H217.pick (m := [_, _]) [2, 3] rfl (by decide)), fun w244 e246 => ?_⟩
      have H245 := H217.ext e246
      refine tt_op rfl (Yd.op (y_ext rfl rfl rfl)) rfl rfl ?_
      rintro _ _ ⟨rfl, rfl⟩
      refine ⟨(H245.pick (m := [_, _]) [2, 3] rfl (by decide)), fun w247 e249 => ?_⟩
      have H248 := H245.ext e249
      refine tt_op rfl (op_st (i := 1) (vs := [.int _ _, .int _ _, .slice _ _ _]) H248 rfl rfl rfl rfl rfl kfref10_8 rfl rfl rfl) rfl rfl ?_
      rintro _ w250 H251
      refine ⟨(H251.pick (m := [_, _]) [2, 3] rfl (by decide)), fun w252 e254 => ?_⟩
      have H253 := H251.ext e254
      refine tt_op rfl (Yd.op (y_asg rfl rfl)) rfl rfl ?_
      rintro _ _ ⟨rfl, rfl⟩
      refine ⟨(H253.pick (m := [_, _]) [2, 3] rfl (by decide)), fun w255 e257 => ?_⟩
      have H256 := H253.ext e257
      exact tt_leaf ⟨b203, A211, c212, rfl, (H256.pick (m := [_, _, _]) [1, 0, 3] rfl (by decide))⟩ ⟨rfl, rfl, trivial⟩ (by repeat (first | exact kp_refl | refine kp_app rfl rfl ?_ | refine kp_cons rfl ?_))
    · skip
      rintro M w259 ⟨b', A', cap', rfl, H258⟩
      refine fn_next ?_
      refine cw_seq ?_
      refine cw_seq ?_
      refine cw_reg ?_
      refine ry (y_mov rfl rfl) rfl rfl ?_
      refine ry (y_neq rfl rfl rfl) rfl rfl ?_
      refine reg_nil ?_
      refine fn_next ?_
      refine cw_condd rfl (fun h260 => ?_) (fun h260 => ?_)
      · exact absurd hc2 h260
      · skip
        refine cw_skip ?_
        refine fn_next ?_
        refine cw_seq ?_
        refine cw_reg ?_
        refine ry (y_ldb (i := 0) (cs := [_, _, _]) H258 rfl rfl kfref10_7 rfl rfl) rfl rfl ?_
        refine reg_op (op_st (i := 2) (vs := [.int _ _, .int _ _, .slice _ _ _]) H258 rfl rfl rfl rfl rfl kfref10_8 rfl rfl rfl) rfl rfl ?_
        rintro _ w261 H262
        refine ry (y_asg rfl rfl) rfl rfl ?_
        refine reg_nil ?_
        refine fn_next ?_
        refine cw_ret ?_
        refine fn_retn (vs := [_, _]) rfl ⟨⟨_, rfl, load_agg (cs := [_, _, _]) kfref10_7 rfl fun j v hv => by rw [Nat.zero_add]; exact H262.cell (i := 2) rfl hv⟩, rfl, trivial⟩ rfl ?_
        rw [pasteV_ok hc2, layV_all s (by rw [List.length_replicate]) hla'] at H262
        exact ⟨_, _, rfl, (H262.pick (m := [_]) [1] rfl (by decide))⟩

theorem mFrom_no (a h : Int) (L : List Int) (B : Option Addr) (n c2 : Nat) (w : World) (hr : Rd w B (vi .i64 L)) (hl : L.length = n) (hn : n ≤ 16777216) (hc : ¬ fromC a h L = 0) : Ret Try.prog 58 [.int .i64 a, .int .i64 h, .slice B n c2] w (fun z w' => z = .tuple #[.agg #[.int .i64 0, .int .i64 0, .slice none 0 0], .int .i64 (fromC a h L)] ∧ Below w.heap.size w w') := by
  by_cases s : 1 ≤ a ∧ a ≤ 1024 ∧ 1 ≤ h ∧ h ≤ 1024
  · obtain ⟨a, rfl⟩ : ∃ p : Nat, a = p := ⟨a.toNat, by omega⟩
    obtain ⟨h, rfl⟩ : ∃ p : Nat, h = p := ⟨h.toNat, by omega⟩
    exact mFrom_bad a h L B n c2 w hr hl hn ⟨by omega, by omega, by omega, by omega⟩ hc
  · exact mFrom_sz a h L B n c2 w s

set_option maxRecDepth 100000 in
theorem gStamp_ok (w0 : World) (l : List Ob) (g a h : Nat) (V : List Int) (bl : Nat → Prop) (p0 q0 p1 q1 x y : Nat) (w : World) (h1 : p0 ≤ p1) (h2 : p1 < a) (h3 : q0 ≤ q1) (h4 : q1 < h) (hx : x + p1 - p0 < a) (hy : y + q1 - q0 < h) (hB : AllB (gvalV V a h p0 q0 p1 q1)) (H0 : HS w0 w (gOb g a h V bl :: l)) :
    Ret Try.prog 62 [.pointer (some ⟨g, 0, none⟩), .agg #[.int .i64 (p0 : Int), .int .i64 (q0 : Int), .int .i64 (p1 : Int), .int .i64 (q1 : Int)], .agg #[.int .i64 (x : Int), .int .i64 (y : Int)]] w (fun z w' => ∃ bl', z = .int .i64 0 ∧ HS w0 w' (gOb g a h (layV V a x y ((x + p1 - p0 : Nat) : Int) ((y + q1 - q0 : Nat) : Int) (gvalV V a h p0 q0 p1 q1)) bl' :: l)) := by
  have hgv := (H0.rdg (i := 0) rfl).gv
  have ha2 := hgv.a2
  have hh2 := hgv.h2
  have hwo : withinC x y ((x + p1 - p0 : Nat) : Int) ((y + q1 - q0 : Nat) : Int) a h = 0 := by unfold withinC; simp only [insideB_not]; have := hgv.a1; have := hgv.h1; rw [if_neg (by unfold wrap64; omega), if_neg (by omega), if_neg (by omega)]
  have hwx : withinC x y x y a h = 0 := within_inG hgv.sz (by omega)
  have hwr : withinC p0 q0 p1 q1 a h = 0 := by unfold withinC; simp only [insideB_not]; have := hgv.a1; have := hgv.h1; rw [if_neg (by unfold wrap64; omega), if_neg (by omega), if_neg (by omega)]
  have hnn : (gvalV V a h p0 q0 p1 q1).length = (y + q1 - q0 + 1 - y) * (x + p1 - p0 + 1 - x) := by rw [gvalV_ok hwr h1 h3, rvAll_len, show y + q1 - q0 + 1 - y = q1 + 1 - q0 by omega, show x + p1 - p0 + 1 - x = p1 + 1 - p0 by omega]
  refine ret_enter Try.func62 rfl rfl rfl ?_
  refine cw_seq ?_
  refine cw_reg ?_
  refine reg_op (op_box (cs := [.int _ _, .int _ _, .int _ _, .int _ _]) H0 rfl rfl rfl) rfl rfl ?_
  rintro _ w2 ⟨b1, rfl, H3⟩
  refine reg_op (op_box (cs := [.int _ _, .int _ _]) H3 rfl rfl rfl) rfl rfl ?_
  rintro _ w5 ⟨b4, rfl, H6⟩
  refine ry (y_asg rfl rfl) rfl rfl ?_
  refine reg_nil ?_
  refine fn_next ?_
  refine cw_seq ?_
  refine cw_reg ?_
  refine ry (y_mov rfl rfl) rfl rfl ?_
  refine ry (y_ldb (i := 1) (cs := [_, _, _, _]) H6 rfl rfl kfref10_2 rfl rfl) rfl rfl ?_
  refine reg_op (op_call (gValues g a h (V) p0 q0 p1 q1 _ (H6.rdg (i := 2) rfl)) rfl kfref10_24 ⟨rfl, rfl, trivial⟩) rfl rfl ?_
  rintro _ w8 ⟨A10, c11, rfl, k7⟩
  have H9 := H6.call k7
  refine ry (y_mov rfl rfl) rfl rfl ?_
  refine ry (y_ext rfl rfl rfl) rfl rfl ?_
  refine ry (y_ext rfl rfl rfl) rfl rfl ?_
  refine ry (y_asg rfl rfl) rfl rfl ?_
  refine ry (y_asg rfl rfl) rfl rfl ?_
  refine reg_nil ?_
  refine fn_next ?_
  refine cw_seq ?_
  refine cw_seq ?_
  refine cw_reg ?_
  refine ry (y_mov rfl rfl) rfl rfl ?_
  refine ry (y_neq rfl rfl rfl) rfl rfl ?_
  refine reg_nil ?_
  refine fn_next ?_
  refine cw_condd rfl (fun h12 => ?_) (fun h12 => ?_)
  · exact absurd hwr h12
  · skip
    refine cw_skip ?_
    refine fn_next ?_
    refine cw_seq ?_
    refine cw_seq ?_
    refine cw_reg ?_
    refine ry (y_mov rfl rfl) rfl rfl ?_
    refine ry (y_ldb (i := 1) (cs := [_, _]) H9 rfl rfl kfref10_25 rfl rfl) rfl rfl ?_
    refine reg_op (op_call (gAt g a h (V) x y _ (H9.rdg (i := 3) rfl)) rfl kfref10_26 ⟨rfl, rfl, trivial⟩) rfl rfl ?_
    rintro _ w14 ⟨rfl, e13⟩
    have H15 := H9.ext e13
    refine ry (y_mov rfl rfl) rfl rfl ?_
    refine ry (y_ext rfl rfl rfl) rfl rfl ?_
    refine ry (y_ext rfl rfl rfl) rfl rfl ?_
    refine ry (y_asg rfl rfl) rfl rfl ?_
    refine reg_nil ?_
    refine fn_next ?_
    refine cw_seq ?_
    refine cw_reg ?_
    refine ry (y_mov rfl rfl) rfl rfl ?_
    refine ry (y_neq rfl rfl rfl) rfl rfl ?_
    refine reg_nil ?_
    refine fn_next ?_
    refine cw_condd rfl (fun h16 => ?_) (fun h16 => ?_)
    · exact absurd hwx h16
    · skip
      refine cw_skip ?_
      refine fn_next ?_
      refine cw_seq ?_
      refine cw_reg ?_
      refine ry (y_fa rfl rfl kfref10_27 rfl) rfl rfl ?_
      refine ry (y_ld rfl rfl kfref10_4 (H15.cell (i := 1) rfl rfl)) rfl rfl ?_
      refine ry (y_fa rfl rfl kfref10_28 rfl) rfl rfl ?_
      refine ry (y_ld rfl rfl kfref10_4 (H15.cell (i := 1) rfl rfl)) rfl rfl ?_
      refine ry (y_fa rfl rfl kfref10_27 rfl) rfl rfl ?_
      refine ry (y_ld rfl rfl kfref10_4 (H15.cell (i := 1) rfl rfl)) rfl rfl ?_
      refine ry (y_fa rfl rfl kfref10_19 rfl) rfl rfl ?_
      refine ry (y_ld rfl rfl kfref10_4 (H15.cell (i := 2) rfl rfl)) rfl rfl ?_
      refine ry (y_add rfl rfl rfl (wi (by omega))) rfl rfl ?_
      refine ry (y_fa rfl rfl kfref10_18 rfl) rfl rfl ?_
      refine ry (y_ld rfl rfl kfref10_4 (H15.cell (i := 2) rfl rfl)) rfl rfl ?_
      refine ry (y_sub rfl rfl rfl (show _ = ((x + p1 - p0 : Nat) : Int) from (wi (by omega)).trans (by omega))) rfl rfl ?_
      refine ry (y_fa rfl rfl kfref10_28 rfl) rfl rfl ?_
      refine ry (y_ld rfl rfl kfref10_4 (H15.cell (i := 1) rfl rfl)) rfl rfl ?_
      refine ry (y_fa rfl rfl kfref10_17 rfl) rfl rfl ?_
      refine ry (y_ld rfl rfl kfref10_4 (H15.cell (i := 2) rfl rfl)) rfl rfl ?_
      refine ry (y_add rfl rfl rfl (wi (by omega))) rfl rfl ?_
      refine ry (y_fa rfl rfl kfref10_16 rfl) rfl rfl ?_
      refine ry (y_ld rfl rfl kfref10_4 (H15.cell (i := 2) rfl rfl)) rfl rfl ?_
      refine ry (y_sub rfl rfl rfl (show _ = ((y + q1 - q0 : Nat) : Int) from (wi (by omega)).trans (by omega))) rfl rfl ?_
      refine ry (y_build (places := [(0, 1), (1, 1), (2, 1), (3, 1)]) (parts := [(0, _), (1, _), (2, _), (3, _)]) (vs := [(0, _), (1, _), (2, _), (3, _)]) (cs := [.int _ _, .int _ _, .int _ _, .int _ _]) rfl Try.underlying24 (by kernel_rfl) kfref10_29 rfl ⟨rfl, rfl, rfl, rfl, trivial⟩ rfl) rfl rfl ?_
      refine reg_op (op_alloc H15 rfl kfref10_29) rfl rfl ?_
      rintro _ w18 ⟨b17, rfl, H19⟩
      refine reg_op (op_st (i := 0) (vs := [.int _ _, .int _ _, .int _ _, .int _ _]) H19 rfl rfl rfl rfl rfl kfref10_30 rfl rfl rfl) rfl rfl ?_
      rintro _ w20 H21
      refine reg_nil ?_
      refine fn_next ?_
      refine cw_seq ?_
      refine cw_seq ?_
      refine cw_reg ?_
      refine ry (y_mov rfl rfl) rfl rfl ?_
      refine ry (y_ldb (i := 0) (cs := [_, _, _, _]) H21 rfl rfl kfref10_2 rfl rfl) rfl rfl ?_
      refine reg_op (op_call (gValues g a h (V) x y ((x + p1 - p0 : Nat) : Int) ((y + q1 - q0 : Nat) : Int) _ (H21.rdg (i := 4) rfl)) rfl kfref10_24 ⟨rfl, rfl, trivial⟩) rfl rfl ?_
      rintro _ w23 ⟨A25, c26, rfl, k22⟩
      have H24 := H21.call k22
      refine ry (y_mov rfl rfl) rfl rfl ?_
      refine ry (y_ext rfl rfl rfl) rfl rfl ?_
      refine ry (y_ext rfl rfl rfl) rfl rfl ?_
      refine ry (y_asg rfl rfl) rfl rfl ?_
      refine reg_nil ?_
      refine fn_next ?_
      refine cw_seq ?_
      refine cw_reg ?_
      refine ry (y_mov rfl rfl) rfl rfl ?_
      refine ry (y_neq rfl rfl rfl) rfl rfl ?_
      refine reg_nil ?_
      refine fn_next ?_
      refine cw_condd rfl (fun h27 => ?_) (fun h27 => ?_)
      · exact absurd hwo h27
      · skip
        refine cw_skip ?_
        refine fn_next ?_
        refine cw_seq ?_
        refine cw_reg ?_
        refine ry (y_mov rfl rfl) rfl rfl ?_
        refine ry (y_ldb (i := 1) (cs := [_, _, _, _]) H24 rfl rfl kfref10_2 rfl rfl) rfl rfl ?_
        refine ry (y_mov rfl rfl) rfl rfl ?_
        refine reg_op (op_call (gridLay w0 _ g a h V bl x y (x + p1 - p0) (y + q1 - q0) (gvalV V a h p0 q0 p1 q1) _ _ _ _ hgv.sz hgv.len (by omega) (by omega) (by omega) (by omega) hnn hB (fun Z hZ => hZ.rd (i := 2) rfl) rfl (by have := gvalV_le (V := V) (x0 := p0) (y0 := q0) (x1 := p1) (y1 := q1) hgv.sz; omega) (H24.pickT (p := [_, _, _, _, _, _]) (m := [_, _, _, _, _, _]) [5, 0, 1, 2, 3, 4] rfl (by decide))) rfl kfref10_31 ⟨rfl, rfl, rfl, trivial⟩) rfl rfl ?_
        rintro _ w29 ⟨bl30, rfl, H28⟩
        refine reg_nil ?_
        refine fn_next ?_
        refine cw_seq ?_
        refine cw_reg ?_
        refine ry (y_asg rfl rfl) rfl rfl ?_
        refine reg_nil ?_
        refine fn_next ?_
        refine cw_ret ?_
        refine fn_ret1 rfl rfl ?_
        exact ⟨_, rfl, (H28.pickT (p := [_, _, _, _, _, _]) (m := [_]) [0] rfl (by decide))⟩

end Go.Proofs.Ytkphmcaoioaglaa
