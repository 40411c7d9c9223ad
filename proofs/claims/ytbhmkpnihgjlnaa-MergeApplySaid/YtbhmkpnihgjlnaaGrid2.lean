/- Layer 9: Set, Values, Tiles, Copy, Same. -/
import Derived.Test.YtbhmkpnihgjlnaaGrid1
import Derived.Test.YtbhmkpnihgjlnaaMC
set_option linter.unusedVariables false
set_option linter.unusedSimpArgs false
namespace Go.Proofs.Ytbhmkpnihgjlnaa
open Go Go.RowKit
theorem kfgrid2_1 : (Try.prog.info? 118).map (fun i => (i.size, i.zero.map Value.cells)) = some (1, some (List.toArray [(.pointer none)])) := by kernel_rfl
theorem kfgrid2_2 : (Try.prog.info? 118).map (fun i => (i.zero.map (·.cells.toList), i.size, i.bytes)) = some (some [(.pointer none)], 1, 8) := by kernel_rfl
theorem kfgrid2_3 : elB Try.prog 22 1 = true := by kernel_rfl
theorem kfgrid2_4 : oneB Try.prog 2 = true := by kernel_rfl
theorem kfgrid2_5 : aggB Try.prog 46 2 = true := by kernel_rfl
theorem kfgrid2_6 : callB Try.prog 90 = true := by kernel_rfl
theorem kfgrid2_7 : callB Try.prog 89 = true := by kernel_rfl
theorem kfgrid2_8 : aggB Try.prog 55 4 = true := by kernel_rfl
theorem kfgrid2_9 : callB Try.prog 93 = true := by kernel_rfl
theorem kfgrid2_10 : callB Try.prog 94 = true := by kernel_rfl
theorem kfgrid2_11 : (Try.prog.info? 2).map (fun i => (i.zero.map (·.cells.toList), i.size, i.bytes)) = some (some [(.int .i64 0)], 1, 8) := by kernel_rfl
theorem kfgrid2_12 : fldB Try.prog 55 1 1 = true := by kernel_rfl
theorem kfgrid2_13 : fldB Try.prog 55 3 3 = true := by kernel_rfl
theorem kfgrid2_14 : fldB Try.prog 55 0 0 = true := by kernel_rfl
theorem kfgrid2_15 : fldB Try.prog 55 2 2 = true := by kernel_rfl
theorem kfgrid2_16 : callB Try.prog 95 = true := by kernel_rfl
theorem kfgrid2_17 : callB Try.prog 97 = true := by kernel_rfl
theorem kfgrid2_18 : callB Try.prog 96 = true := by kernel_rfl
theorem kfgrid2_19 : (Try.prog.info? 2).map (fun i => (i.size, i.zero.map Value.cells)) = some (1, some (List.toArray [(.int .i64 0)])) := by kernel_rfl
theorem kfgrid2_20 : callB Try.prog 59 = true := by kernel_rfl
theorem kfgrid2_21 : callB Try.prog 83 = true := by kernel_rfl
theorem kfgrid2_22 : aggB Try.prog 116 4 = true := by kernel_rfl
theorem kfgrid2_23 : (Try.prog.info? 116).bind (fun i => i.zero.map Value.cells) = some (List.toArray [(.int .i64 0), (.int .i64 0), (.int .i64 0), (.slice none 0 0)]) := by kernel_rfl
theorem kfgrid2_24 : szB Try.prog 116 4 = true := by kernel_rfl
theorem kfgrid2_25 : fldB Try.prog 116 3 3 = true := by kernel_rfl
theorem kfgrid2_26 : oneB Try.prog 114 = true := by kernel_rfl
theorem kfgrid2_27 : callB Try.prog 105 = true := by kernel_rfl
theorem kfgrid2_28 : szB Try.prog 114 1 = true := by kernel_rfl
theorem kfgrid2_29 : elB Try.prog 114 1 = true := by kernel_rfl
theorem kfgrid2_30 : oneB Try.prog 118 = true := by kernel_rfl
theorem kfgrid2_31 : callB Try.prog 106 = true := by kernel_rfl
theorem kfgrid2_32 : szB Try.prog 118 1 = true := by kernel_rfl
theorem kfgrid2_33 : callB Try.prog 75 = true := by kernel_rfl
theorem kfgrid2_34 : callB Try.prog 74 = true := by kernel_rfl
theorem kfgrid2_35 : callB Try.prog 73 = true := by kernel_rfl
theorem kfgrid2_36 : fldB Try.prog 116 0 0 = true := by kernel_rfl
theorem kfgrid2_37 : fldB Try.prog 116 1 1 = true := by kernel_rfl
theorem kfgrid2_38 : callB Try.prog 72 = true := by kernel_rfl
theorem kfgrid2_39 : (Try.prog.info? 55).bind (fun i => i.zero.map Value.cells) = some (List.toArray [(.int .i64 0), (.int .i64 0), (.int .i64 0), (.int .i64 0)]) := by kernel_rfl
theorem kfgrid2_40 : szB Try.prog 55 4 = true := by kernel_rfl

set_option maxRecDepth 100000 in
theorem CloneP (A : Option Addr) (n cap : Nat) (xs : List Value) (w : World) (h : Rd w A xs) (hl : xs.length = n * 1) (h1 : xs.all Value.oneCell' = true) (hn : n ≤ 4096) :
    Ret Try.prog 105 [.slice A n cap] w (fun v w' => ∃ A' cap', v = .slice A' n cap' ∧ HS w w' [.row A' n cap' xs 118 1]) := by
  refine ret_enter Try.func105 rfl rfl rfl ?_
  have H0 := HS.start w
  refine cw_seq ?_
  refine cw_reg ?_
  refine ry (y_asg rfl rfl) rfl rfl ?_
  refine reg_nil ?_
  refine fn_next ?_
  refine cw_seq ?_
  refine cw_seq ?_
  refine cw_reg ?_
  refine ry (y_mov rfl rfl) rfl rfl ?_
  refine ry (y_eqlnil rfl Try.underlying114 rfl rfl) rfl rfl ?_
  refine reg_nil ?_
  refine fn_next ?_
  refine cw_cond rfl (fun hA => ?_) (fun hA => ?_)
  · skip
    obtain rfl := Option.isNone_iff_eq_none.1 hA
    obtain ⟨hz, hn⟩ := rd_zero h hl (by decide) rfl
    subst hz; subst hn
    refine cw_seq ?_
    refine cw_reg ?_
    refine ry (y_asg rfl rfl) rfl rfl ?_
    refine reg_nil ?_
    refine fn_next ?_
    refine cw_ret ?_
    refine fn_then_ret ?_
    refine fn_ret1 rfl rfl ?_
    exact ⟨none, 0, rfl, H0.nilrow _ _⟩
  · skip
    refine cw_skip ?_
    refine fn_next ?_
    refine cw_seq ?_
    refine cw_reg ?_
    refine reg_op (op_lit (parts := []) (vs := []) (cs := []) H0 rfl Try.underlying114 kfgrid2_1 rfl trivial rfl rfl) rfl rfl ?_
    rintro _ w3 ⟨b2, rfl, H4⟩
    have H5 := H4.asrow (m := 0) (size := 1) rfl (by decide)
    refine ry (y_mov rfl rfl) rfl rfl ?_
    refine reg_op (op_app (i := 0) (k := 0) (m := n) (ys := xs) (size := 1) H5 rfl rfl rfl rfl (h.below H5.base) (hl) (h1) Try.underlying114 kfgrid2_2 rfl rfl (by unfold maxLen; omega) (by omega)) rfl rfl ?_
    rintro _ w8 ⟨A6, c7, rfl, H9⟩
    refine ry (y_asg rfl rfl) rfl rfl ?_
    refine reg_nil ?_
    refine fn_next ?_
    refine cw_ret ?_
    refine fn_ret1 rfl rfl ?_
    simp only [Nat.zero_add, List.nil_append] at *
    exact ⟨_, _, rfl, H9⟩

set_option maxRecDepth 100000 in
theorem EqualI (A : Option Addr) (n cap : Nat) (zs : List Int) (A2 : Option Addr) (m cap2 : Nat) (ys : List Int) (w : World) (h1 : Rd w A (vi .i64 zs)) (hl1 : zs.length = n) (h2 : Rd w A2 (vi .i64 ys)) (hl2 : ys.length = m) (hn : n ≤ 16777216) :
    Ret Try.prog 74 [.slice A n cap, .slice A2 m cap2] w (fun z w' => z = .bool (decide (zs = ys)) ∧ Below w.heap.size w w') := by
  refine ret_enter Try.func74 rfl rfl rfl ?_
  have H0 := HS.start w
  refine cw_seq ?_
  refine cw_reg ?_
  refine ry (y_asg rfl rfl) rfl rfl ?_
  refine reg_nil ?_
  refine fn_next ?_
  refine cw_seq ?_
  refine cw_seq ?_
  refine cw_reg ?_
  refine ry (y_mov rfl rfl) rfl rfl ?_
  refine ry (y_len rfl Try.underlying22 rfl) rfl rfl ?_
  refine ry (y_mov rfl rfl) rfl rfl ?_
  refine ry (y_len rfl Try.underlying22 rfl) rfl rfl ?_
  refine ry (y_neq rfl rfl rfl) rfl rfl ?_
  refine reg_nil ?_
  refine fn_next ?_
  refine cw_condd rfl (fun hd => ?_) (fun hd => ?_)
  · skip
    refine cw_seq ?_
    refine cw_reg ?_
    refine ry (y_asg rfl rfl) rfl rfl ?_
    refine reg_nil ?_
    refine fn_next ?_
    refine cw_ret ?_
    refine fn_then_ret ?_
    refine fn_ret1 rfl rfl ?_
    rw [decide_eq_false (fun e => hd (by subst e; omega))]
    exact ⟨rfl, H0.base⟩
  · skip
    refine cw_skip ?_
    refine fn_next ?_
    refine cw_seq ?_
    refine cw_seq ?_
    refine cw_reg ?_
    refine ry (y_mov rfl rfl) rfl rfl ?_
    refine ry (y_len rfl Try.underlying22 rfl) rfl rfl ?_
    refine ry (y_mov rfl rfl) rfl rfl ?_
    refine reg_nil ?_
    refine fn_next ?_
    refine cw_block ?_
    refine cw_loopJ [4, 5, 13, 14, 15, 16, 17, 18, 19, 20, 21, 22, 23, 24, 25] (fun M wl ml => ∃ (i : Nat), M = [(13, .int .i64 (i : Int))] ∧ HS w wl [] ∧ (i ≤ n) ∧ (Hid (∀ j, j < i → nth zs j = nth ys j)) ∧ ml = n - i) ⟨0, rfl, H0, Nat.zero_le _, Lib.hid (fun j hj => absurd hj (Nat.not_lt_zero _)), rfl⟩ ⟨rfl, trivial⟩ ?_
    rintro M w2 m4 ⟨i, rfl, H3, hp0, hp1, rfl⟩
    refine cw_seq ?_
    refine cw_reg ?_
    refine ry (y_lss rfl rfl rfl) rfl rfl ?_
    refine reg_nil ?_
    refine fn_next ?_
    refine cw_seq ?_
    refine cw_condd rfl (fun h5 => ?_) (fun h5 => ?_)
    · skip
      have hmn : m = n := by omega
      have hg1 := vi_get (k := .i64) (zs := zs) (i := i) (by omega)
      have hg2 := vi_get (k := .i64) (zs := ys) (i := i) (by omega)
      refine cw_skip ?_
      refine fn_next ?_
      refine cw_seq ?_
      refine cw_block ?_
      refine cw_seq ?_
      refine cw_reg ?_
      refine ry (y_mov rfl rfl) rfl rfl ?_
      refine ry (y_asg rfl rfl) rfl rfl ?_
      refine reg_nil ?_
      refine fn_next ?_
      refine cw_seq ?_
      refine cw_draw H3 [0, 1, 2, 3, 4, 5, 6, 7, 8] [] (fun X HX => HX) (by kernel_rfl) (by kernel_rfl) (by rfl) ?_
      simp only [pick, List.getElem?_cons_succ, List.getElem?_cons_zero]
      refine hk_y (fun Y HY => y_mov rfl rfl) rfl rfl ?_
      refine hk_y (fun Y HY => y_mov rfl rfl) rfl rfl ?_
      refine hk_y (fun Y HY => y_iar (h1.below HY.base) rfl rfl rfl kfgrid2_3 (rfl) (by omega) (Nat.mul_one _) (hg1)) rfl rfl ?_
      refine hk_y (fun Y HY => y_ldr (h1.below HY.base) rfl rfl kfgrid2_4 (hg1)) rfl rfl ?_
      refine hk_y (fun Y HY => y_mov rfl rfl) rfl rfl ?_
      refine hk_y (fun Y HY => y_mov rfl rfl) rfl rfl ?_
      refine hk_y (fun Y HY => y_iar (h2.below HY.base) rfl rfl rfl kfgrid2_3 (rfl) (by omega) (Nat.mul_one _) (hg2)) rfl rfl ?_
      refine hk_y (fun Y HY => y_ldr (h2.below HY.base) rfl rfl kfgrid2_4 (hg2)) rfl rfl ?_
      refine hk_y (fun Y HY => y_neq rfl rfl rfl) rfl rfl ?_
      refine hk_nil ?_
      intro w6 H7
      refine tv_nil ?_
      refine fn_next ?_
      refine cw_condd rfl (fun hne => ?_) (fun hne => ?_)
      · skip
        refine cw_seq ?_
        refine cw_reg ?_
        refine ry (y_asg rfl rfl) rfl rfl ?_
        refine reg_nil ?_
        refine fn_next ?_
        refine cw_ret ?_
        refine fn_block_ret (fn_then_ret (fn_then_ret (fn_block_ret (fn_then_ret ?_))))
        refine fn_ret1 rfl rfl ?_
        rw [decide_eq_false (fun e => hne (by rw [e]))]
        exact ⟨rfl, H7.base⟩
      · skip
        refine cw_skip ?_
        refine fn_block ?_
        refine fn_next ?_
        refine cw_reg ?_
        refine ry (y_add rfl rfl rfl (wi (by omega))) rfl rfl ?_
        refine ry (y_mov rfl rfl) rfl rfl ?_
        refine reg_nil ?_
        refine fn_roundJ ⟨i + 1, rfl, H7, by omega, Lib.hid (fun j hj => (Nat.lt_or_eq_of_le (Nat.le_of_lt_succ hj)).elim (hp1.out j) (fun e => e ▸ Classical.not_not.1 hne)), rfl⟩ ⟨rfl, trivial⟩ (by omega) (by repeat (first | exact kp_refl | refine kp_app rfl rfl ?_ | refine kp_cons rfl ?_)) rfl
    · skip
      obtain rfl : i = n := by omega
      refine cw_exit ?_
      refine fn_then_exit (fn_then_exit (fn_block_exit ?_))
      refine fn_next ?_
      refine cw_seq ?_
      refine cw_reg ?_
      refine ry (y_asg rfl rfl) rfl rfl ?_
      refine reg_nil ?_
      refine fn_next ?_
      refine cw_ret ?_
      refine fn_ret1 rfl rfl ?_
      rw [decide_eq_true (take_eq_of hl1 (by omega) hp1.out)]
      exact ⟨rfl, H3.base⟩

set_option maxRecDepth 100000 in
theorem gSet (w0 : World) (l : List Ob) (g a h : Nat) (V : List Int) (bl : Nat → Prop) (x y v : Int) (w : World) (H0 : HS w0 w (gOb g a h V bl :: l)) :
    Ret Try.prog 54 [.pointer (some ⟨g, 0, none⟩), .agg #[.int .i64 x, .int .i64 y], .int .i64 v] w (fun z w' => ∃ bl', z = .int .i64 (fillC a h x y x y v) ∧ HS w0 w' (gOb g a h (fillV V a h x y x y v) bl' :: l)) := by
  refine ret_enter Try.func54 rfl rfl rfl ?_
  refine cw_seq ?_
  refine cw_reg ?_
  refine reg_op (op_box (cs := [.int _ _, .int _ _]) H0 rfl rfl rfl) rfl rfl ?_
  rintro _ w2 ⟨b1, rfl, H3⟩
  refine ry (y_asg rfl rfl) rfl rfl ?_
  refine reg_nil ?_
  refine fn_next ?_
  refine cw_seq ?_
  refine cw_reg ?_
  refine ry (y_mov rfl rfl) rfl rfl ?_
  refine ry (y_ldb (i := 0) (cs := [_, _]) H3 rfl rfl kfgrid2_5 rfl rfl) rfl rfl ?_
  refine reg_op (op_call (gridSpot_any x y _) rfl kfgrid2_6 ⟨rfl, trivial⟩) rfl rfl ?_
  rintro _ w5 ⟨rfl, e4⟩
  have H6 := H3.ext e4
  refine ry (y_mov rfl rfl) rfl rfl ?_
  refine reg_op (op_call (gFill w0 _ g a h V bl x y x y v _ (H6.pickT (p := [_, _]) (m := [_, _]) [1, 0] rfl (by decide))) rfl kfgrid2_7 ⟨rfl, rfl, rfl, trivial⟩) rfl rfl ?_
  rintro _ w8 ⟨bl9, rfl, H7⟩
  refine ry (y_asg rfl rfl) rfl rfl ?_
  refine reg_nil ?_
  refine fn_next ?_
  refine cw_ret ?_
  refine fn_ret1 rfl rfl ?_
  exact ⟨_, rfl, (H7.pickT (p := [_, _]) (m := [_]) [0] rfl (by decide))⟩

/-- the values of a rectangle -/
def gvalV (V : List Int) (a h : Nat) (x0 y0 x1 y1 : Int) : List Int := if withinC x0 y0 x1 y1 a h = 0 then rvAll V a x0.toNat y0.toNat (x1 - x0 + 1).toNat (y1 - y0 + 1).toNat else []
theorem gvalV_no {V : List Int} {a h : Nat} {x0 y0 x1 y1 : Int} (hw : ¬ withinC x0 y0 x1 y1 a h = 0) : gvalV V a h x0 y0 x1 y1 = [] := if_neg hw
theorem gvalV_ok {V : List Int} {a h : Nat} {p0 q0 p1 q1 : Nat} (hw : withinC p0 q0 p1 q1 a h = 0) (h1 : p0 ≤ p1) (h2 : q0 ≤ q1) : gvalV V a h p0 q0 p1 q1 = rvAll V a p0 q0 (p1 + 1 - p0) (q1 + 1 - q0) := by
  unfold gvalV
  rw [if_pos hw, show ((p1 : Int) - p0 + 1).toNat = p1 + 1 - p0 by omega, show ((q1 : Int) - q0 + 1).toNat = q1 + 1 - q0 by omega]; rfl
theorem areaI_nat {p0 q0 p1 q1 : Nat} (h1 : p0 ≤ p1) (h2 : p1 < 1024) (h3 : q0 ≤ q1) (h4 : q1 < 1024) : areaI p0 q0 p1 q1 = (((q1 + 1 - q0) * (p1 + 1 - p0) : Nat) : Int) := by
  unfold areaI
  rw [if_pos ⟨by omega, by omega, by omega, by omega, by omega, by omega⟩, show (p1 : Int) - p0 + 1 = ((p1 + 1 - p0 : Nat) : Int) by omega, show (q1 : Int) - q0 + 1 = ((q1 + 1 - q0 : Nat) : Int) by omega, ← Int.natCast_mul, Nat.mul_comm]
theorem slabAtG (a h : Nat) (xs : List Sb) (x y : Nat) (w : World) (G : GI a h xs) (hx : x < a) (hy : y < h) (hs : ∀ t, t < xs.length → Rd w (some ⟨(gs xs t).b, 0, none⟩) (gs xs t).cells ∧ (gs xs t).L.rd w) :
    Ret Try.prog 96 [pt (some ⟨(gs xs (tno a x y)).b, 0, none⟩) 0, .agg #[.int .i64 ((x % 16 : Nat) : Int), .int .i64 ((y % 16 : Nat) : Int)]] w (fun v w' => v = .tuple #[.int .i64 (nth (gV xs a h) (y * a + x)), .int .i64 0] ∧ Below w.heap.size w w') := by
  obtain ⟨ht, _, _⟩ := G.tile hx hy
  obtain ⟨z1, z2⟩ := at_tile G hx hy
  have := slabAt_any (gs xs (tno a x y)).b (gs xs (tno a x y)).w (gs xs (tno a x y)).h (gs xs (tno a x y)).L ((x % 16 : Nat) : Int) ((y % 16 : Nat) : Int) w (G.size ht) (G.ok _ ht) (hs _ ht).2 (hs _ ht).1
  rw [gV_at hx hy, ← z2]
  simp only [Sb.lst] at z1 ⊢
  rw [z1] at this
  exact this
theorem vi_snoc {k : IntKind} {zs : List Int} {v : Int} : vi k zs ++ [.int k v] = vi k (zs ++ [v]) := by simp [vi]

set_option maxRecDepth 100000 in
theorem gridValues_no (g a h : Nat) (A : Option Addr) (cap : Nat) (xs : List Sb) (x0 y0 x1 y1 : Int) (w : World) (G : GI a h xs) (R : GR w g a h A cap xs) (hw : ¬ withinC x0 y0 x1 y1 a h = 0) :
    Ret Try.prog 58 [pt (some ⟨g, 0, none⟩) 0, .agg #[.int .i64 x0, .int .i64 y0, .int .i64 x1, .int .i64 y1]] w (fun z w' => ∃ A cap, z = .tuple #[.slice A (gvalV (gV xs a h) a h x0 y0 x1 y1).length cap, .int .i64 (withinC x0 y0 x1 y1 a h)] ∧ HS w w' [.row A (gvalV (gV xs a h) a h x0 y0 x1 y1).length cap (vi .i64 (gvalV (gV xs a h) a h x0 y0 x1 y1)) 2 1]) := by
  have ha1 := G.a1; have ha2 := G.a2; have hh1 := G.h1; have hh2 := G.h2
  refine ret_enter Try.func58 rfl rfl rfl ?_
  have H0 := HS.start w
  refine cw_seq ?_
  refine cw_reg ?_
  refine reg_op (op_box (cs := [.int _ _, .int _ _, .int _ _, .int _ _]) H0 rfl rfl rfl) rfl rfl ?_
  rintro _ w2 ⟨b1, rfl, H3⟩
  refine ry (y_asg rfl rfl) rfl rfl ?_
  refine ry (y_asg rfl rfl) rfl rfl ?_
  refine reg_nil ?_
  refine fn_next ?_
  refine cw_seq ?_
  refine cw_seq ?_
  refine cw_reg ?_
  refine ry (y_mov rfl rfl) rfl rfl ?_
  refine ry (y_ldb (i := 0) (cs := [_, _, _, _]) H3 rfl rfl kfgrid2_8 rfl rfl) rfl rfl ?_
  refine reg_op (op_call (gridCheck_any g a h A cap xs x0 y0 x1 y1 _ G (R.below H3.base)) rfl kfgrid2_9 ⟨rfl, rfl, trivial⟩) rfl rfl ?_
  rintro _ w5 ⟨rfl, e4⟩
  have H6 := H3.ext e4
  refine ry (y_asg rfl rfl) rfl rfl ?_
  refine reg_nil ?_
  refine fn_next ?_
  refine cw_seq ?_
  refine cw_reg ?_
  refine ry (y_mov rfl rfl) rfl rfl ?_
  refine ry (y_neq rfl rfl rfl) rfl rfl ?_
  refine reg_nil ?_
  refine fn_next ?_
  refine cw_condd rfl (fun h7 => ?_) (fun h7 => ?_)
  · skip
    refine cw_seq ?_
    refine cw_reg ?_
    refine ry (y_mov rfl rfl) rfl rfl ?_
    refine ry (y_asg rfl rfl) rfl rfl ?_
    refine ry (y_asg rfl rfl) rfl rfl ?_
    refine reg_nil ?_
    refine fn_next ?_
    refine cw_ret ?_
    refine fn_then_ret ?_
    refine fn_retn (vs := [_, _]) rfl ⟨rfl, rfl, trivial⟩ rfl ?_
    rw [gvalV_no hw]
    exact ⟨none, 0, rfl, (HS.start _ |>.ext H6.base).nilrow _ _⟩
  · exact absurd (Classical.not_not.1 h7) hw

set_option maxRecDepth 100000 in
theorem gridValues_ok (g a h : Nat) (A : Option Addr) (cap : Nat) (xs : List Sb) (p0 q0 p1 q1 : Nat) (w : World) (G : GI a h xs) (R : GR w g a h A cap xs) (h1 : p0 ≤ p1) (h2 : p1 < a) (h3 : q0 ≤ q1) (h4 : q1 < h) (hw : withinC p0 q0 p1 q1 a h = 0) :
    Ret Try.prog 58 [pt (some ⟨g, 0, none⟩) 0, .agg #[.int .i64 (p0 : Int), .int .i64 (q0 : Int), .int .i64 (p1 : Int), .int .i64 (q1 : Int)]] w (fun z w' => ∃ A cap, z = .tuple #[.slice A (gvalV (gV xs a h) a h p0 q0 p1 q1).length cap, .int .i64 (withinC p0 q0 p1 q1 a h)] ∧ HS w w' [.row A (gvalV (gV xs a h) a h p0 q0 p1 q1).length cap (vi .i64 (gvalV (gV xs a h) a h p0 q0 p1 q1)) 2 1]) := by
  have ha1 := G.a1; have ha2 := G.a2; have hh1 := G.h1; have hh2 := G.h2
  have hnm : (q1 + 1 - q0) * (p1 + 1 - p0) ≤ 1024 * 1024 := Nat.mul_le_mul (by omega) (by omega)
  refine ret_enter Try.func58 rfl rfl rfl ?_
  have H0 := HS.start w
  refine cw_seq ?_
  refine cw_reg ?_
  refine reg_op (op_box (cs := [.int _ _, .int _ _, .int _ _, .int _ _]) H0 rfl rfl rfl) rfl rfl ?_
  rintro _ w2 ⟨b1, rfl, H3⟩
  refine ry (y_asg rfl rfl) rfl rfl ?_
  refine ry (y_asg rfl rfl) rfl rfl ?_
  refine reg_nil ?_
  refine fn_next ?_
  refine cw_seq ?_
  refine cw_seq ?_
  refine cw_reg ?_
  refine ry (y_mov rfl rfl) rfl rfl ?_
  refine ry (y_ldb (i := 0) (cs := [_, _, _, _]) H3 rfl rfl kfgrid2_8 rfl rfl) rfl rfl ?_
  refine reg_op (op_call (gridCheck_any g a h A cap xs p0 q0 p1 q1 _ G (R.below H3.base)) rfl kfgrid2_9 ⟨rfl, rfl, trivial⟩) rfl rfl ?_
  rintro _ w5 ⟨rfl, e4⟩
  have H6 := H3.ext e4
  refine ry (y_asg rfl rfl) rfl rfl ?_
  refine reg_nil ?_
  refine fn_next ?_
  refine cw_seq ?_
  refine cw_reg ?_
  refine ry (y_mov rfl rfl) rfl rfl ?_
  refine ry (y_neq rfl rfl rfl) rfl rfl ?_
  refine reg_nil ?_
  refine fn_next ?_
  refine cw_condd rfl (fun h7 => ?_) (fun h7 => ?_)
  · exact absurd hw h7
  · skip
    refine cw_skip ?_
    refine fn_next ?_
    refine cw_seq ?_
    refine cw_reg ?_
    refine ry (y_ldb (i := 0) (cs := [_, _, _, _]) H6 rfl rfl kfgrid2_8 rfl rfl) rfl rfl ?_
    refine reg_op (op_call (ret_elder (area_any p0 q0 p1 q1 _)) rfl kfgrid2_10 ⟨rfl, trivial⟩) rfl rfl ?_
    rintro _ w9 ⟨rfl, e8⟩
    have H10 := H6.ext e8
    refine reg_op (op_mk0 (m := ((q1 + 1 - q0) * (p1 + 1 - p0))) H10 rfl rfl rfl rfl (areaI_nat h1 (by omega) h3 (by omega)) Try.underlying22 kfgrid2_11 (by omega) (by unfold maxLen; omega)) rfl rfl ?_
    rintro _ w12 ⟨b11, rfl, H13⟩
    refine ry (y_asg rfl rfl) rfl rfl ?_
    refine reg_nil ?_
    refine fn_next ?_
    refine cw_seq ?_
    refine cw_seq ?_
    refine cw_reg ?_
    refine ry (y_fa rfl rfl kfgrid2_12 rfl) rfl rfl ?_
    refine ry (y_ld rfl rfl kfgrid2_4 (H13.cell (i := 1) rfl rfl)) rfl rfl ?_
    refine ry (y_asg rfl rfl) rfl rfl ?_
    refine reg_nil ?_
    refine fn_next ?_
    refine cw_block ?_
    have hE : HS w w12 [Ob.row (some ⟨b11, 0, none⟩) (0 * (p1 + 1 - p0)) ((q1 + 1 - q0) * (p1 + 1 - p0)) (vi .i64 (rvAll (gV xs a h) a p0 q0 (p1 + 1 - p0) 0)) 2 1, Ob.blk b1 [.int .i64 (p0 : Int), .int .i64 (q0 : Int), .int .i64 (p1 : Int), .int .i64 (q1 : Int)] 55] := by rw [Nat.zero_mul]; exact (H13.pick (m := [_, _]) [0, 1] rfl (by decide))
    refine cw_loopJ [7, 8, 9, 10, 11, 23, 24, 25, 26, 27, 28, 29, 30, 31, 32, 33, 34, 35, 36, 37, 38, 39, 40, 41, 42, 43, 44, 45, 46, 47, 48, 49, 50, 51] (fun M wl ml => ∃ (k : Nat) (A' : Option Addr) (cap' : Nat), M = [(8, .int .i64 ((q0 + k : Nat) : Int)), (7, .slice A' (k * (p1 + 1 - p0)) cap')] ∧ HS w wl [Ob.row A' (k * (p1 + 1 - p0)) cap' (vi .i64 (rvAll (gV xs a h) a p0 q0 (p1 + 1 - p0) k)) 2 1, Ob.blk b1 [.int .i64 (p0 : Int), .int .i64 (q0 : Int), .int .i64 (p1 : Int), .int .i64 (q1 : Int)] 55] ∧ (k ≤ (q1 + 1 - q0)) ∧ ml = q1 + 2 - (q0 + k)) ⟨0, _, _, rfl, hE, Nat.zero_le _, rfl⟩ ⟨rfl, by rw [Nat.zero_mul]; rfl, trivial⟩ ?_
    rintro M w14 m16 ⟨k, A', cap', rfl, H15, hp0, rfl⟩
    refine cw_seq ?_
    refine cw_seq ?_
    refine cw_reg ?_
    refine ry (y_mov rfl rfl) rfl rfl ?_
    refine ry (y_fa rfl rfl kfgrid2_13 rfl) rfl rfl ?_
    refine ry (y_ld rfl rfl kfgrid2_4 (H15.cell (i := 1) rfl rfl)) rfl rfl ?_
    refine ry (y_leq rfl rfl rfl) rfl rfl ?_
    refine reg_nil ?_
    refine fn_next ?_
    refine cw_condd rfl (fun h17 => ?_) (fun h17 => ?_)
    · skip
      refine cw_skip ?_
      refine fn_next ?_
      refine cw_seq ?_
      refine cw_block ?_
      refine cw_seq ?_
      refine cw_reg ?_
      refine ry (y_fa rfl rfl kfgrid2_14 rfl) rfl rfl ?_
      refine ry (y_ld rfl rfl kfgrid2_4 (H15.cell (i := 1) rfl rfl)) rfl rfl ?_
      refine ry (y_asg rfl rfl) rfl rfl ?_
      refine reg_nil ?_
      refine fn_next ?_
      refine cw_block ?_
      have hz2 : rvAll (gV xs a h) a p0 q0 (p1 + 1 - p0) k ++ rvRow (gV xs a h) a p0 0 (q0 + k) = rvAll (gV xs a h) a p0 q0 (p1 + 1 - p0) k := List.append_nil _
      rw [← hz2] at H15
      refine cw_loopJ [7, 9, 10, 11, 31, 32, 33, 34, 35, 36, 37, 38, 39, 40, 41, 42, 43, 44, 45, 46, 47, 48, 49, 50, 51] (fun M wl ml => ∃ (j : Nat) (A2 : Option Addr) (cap2 : Nat), M = [(9, .int .i64 ((p0 + j : Nat) : Int)), (7, .slice A2 (k * (p1 + 1 - p0) + j) cap2)] ∧ HS w wl [Ob.row A2 (k * (p1 + 1 - p0) + j) cap2 (vi .i64 (rvAll (gV xs a h) a p0 q0 (p1 + 1 - p0) k ++ rvRow (gV xs a h) a p0 j (q0 + k))) 2 1, Ob.blk b1 [.int .i64 (p0 : Int), .int .i64 (q0 : Int), .int .i64 (p1 : Int), .int .i64 (q1 : Int)] 55] ∧ (j ≤ (p1 + 1 - p0)) ∧ ml = p1 + 2 - (p0 + j)) ⟨0, _, _, rfl, H15, Nat.zero_le _, rfl⟩ ⟨rfl, rfl, trivial⟩ ?_
      rintro M w18 m20 ⟨j, A2, cap2, rfl, H19, hp0, rfl⟩
      refine cw_seq ?_
      refine cw_seq ?_
      refine cw_reg ?_
      refine ry (y_mov rfl rfl) rfl rfl ?_
      refine ry (y_fa rfl rfl kfgrid2_15 rfl) rfl rfl ?_
      refine ry (y_ld rfl rfl kfgrid2_4 (H19.cell (i := 1) rfl rfl)) rfl rfl ?_
      refine ry (y_leq rfl rfl rfl) rfl rfl ?_
      refine reg_nil ?_
      refine fn_next ?_
      refine cw_condd rfl (fun h21 => ?_) (fun h21 => ?_)
      · skip
        have hkn : k * (p1 + 1 - p0) ≤ 1024 * 1024 := Nat.le_trans (Nat.mul_le_mul_right _ (by omega)) hnm
        refine cw_skip ?_
        refine fn_next ?_
        refine cw_seq ?_
        refine cw_block ?_
        refine cw_seq ?_
        refine cw_reg ?_
        refine ry (y_mov rfl rfl) rfl rfl ?_
        refine ry (y_mov rfl rfl) rfl rfl ?_
        refine ry (y_mov rfl rfl) rfl rfl ?_
        refine reg_op (op_call (gridSlab_any g a h A cap xs (p0 + j) (q0 + k) _ G (R.below H19.base).blk (R.below H19.base).row (by omega) (by omega)) rfl kfgrid2_16 ⟨rfl, rfl, rfl, trivial⟩) rfl rfl ?_
        rintro _ w23 ⟨rfl, e22⟩
        have H24 := H19.ext e22
        refine ry (y_mov rfl rfl) rfl rfl ?_
        refine ry (y_mov rfl rfl) rfl rfl ?_
        refine reg_op (op_call (gridInner_any (p0 + j) (q0 + k) _) rfl kfgrid2_17 ⟨rfl, rfl, trivial⟩) rfl rfl ?_
        rintro _ w26 ⟨rfl, e25⟩
        have H27 := H24.ext e25
        refine reg_op (op_call (slabAtG a h xs (p0 + j) (q0 + k) _ G (by omega) (by omega) (R.below H27.base).sl) rfl kfgrid2_18 ⟨rfl, rfl, trivial⟩) rfl rfl ?_
        rintro _ w29 ⟨rfl, e28⟩
        have H30 := H27.ext e28
        refine ry (y_mov rfl rfl) rfl rfl ?_
        refine ry (y_ext rfl rfl rfl) rfl rfl ?_
        refine ry (y_ext rfl rfl rfl) rfl rfl ?_
        refine ry (y_asg rfl rfl) rfl rfl ?_
        refine ry (y_asg rfl rfl) rfl rfl ?_
        refine reg_nil ?_
        refine fn_next ?_
        refine cw_reg ?_
        refine ry (y_mov rfl rfl) rfl rfl ?_
        refine ry (y_mov rfl rfl) rfl rfl ?_
        refine reg_op (op_lit (parts := [(0, _)]) (vs := [(0, _)]) (cs := [.int _ _]) H30 rfl Try.underlying22 kfgrid2_19 rfl ⟨rfl, trivial⟩ rfl rfl) rfl rfl ?_
        rintro _ w32 ⟨b31, rfl, H33⟩
        have H34 := H33.asrow (m := 1) (size := 1) rfl (by decide)
        refine reg_op (op_app (i := 1) H34 rfl rfl rfl rfl (H34.rd (i := 0) rfl) (rfl) (rfl) Try.underlying22 kfgrid2_11 rfl rfl (by unfold maxLen; omega) (by omega)) rfl rfl ?_
        rintro _ w37 ⟨A35, c36, rfl, H38⟩
        refine ry (y_asg rfl rfl) rfl rfl ?_
        refine reg_nil ?_
        refine fn_block ?_
        refine fn_next ?_
        refine cw_reg ?_
        refine ry (y_mov rfl rfl) rfl rfl ?_
        refine ry (y_add rfl rfl rfl (wi (by omega))) rfl rfl ?_
        refine ry (y_asg rfl rfl) rfl rfl ?_
        refine reg_nil ?_
        rw [vi_snoc, List.append_assoc, ← rvRow_succ] at H38
        refine fn_roundJ ⟨j + 1, _, _, rfl, (H38.pick (m := [_, _]) [1, 2] rfl (by decide)), by omega, rfl⟩ ⟨rfl, rfl, trivial⟩ (by omega) (by repeat (first | exact kp_refl | refine kp_app rfl rfl ?_ | refine kp_cons rfl ?_)) rfl
      · skip
        obtain rfl : j = (p1 + 1 - p0) := by omega
        refine cw_exit ?_
        refine fn_then_exit (fn_then_exit (fn_block_exit ?_))
        refine fn_block ?_
        refine fn_next ?_
        refine cw_reg ?_
        refine ry (y_mov rfl rfl) rfl rfl ?_
        refine ry (y_add rfl rfl rfl (wi (by omega))) rfl rfl ?_
        refine ry (y_asg rfl rfl) rfl rfl ?_
        refine reg_nil ?_
        have hrs : rvAll (gV xs a h) a p0 q0 (p1 + 1 - p0) (k + 1) = rvAll (gV xs a h) a p0 q0 (p1 + 1 - p0) k ++ rvRow (gV xs a h) a p0 (p1 + 1 - p0) (q0 + k) := rfl
        rw [← hrs, ← Nat.succ_mul] at H19
        refine fn_roundJ ⟨k + 1, _, _, rfl, H19, by omega, rfl⟩ ⟨rfl, by rw [Nat.succ_mul]; rfl, trivial⟩ (by omega) (by repeat (first | exact kp_refl | refine kp_app rfl rfl ?_ | refine kp_cons rfl ?_)) rfl
    · skip
      obtain rfl : k = (q1 + 1 - q0) := by omega
      refine cw_exit ?_
      refine fn_then_exit (fn_then_exit (fn_block_exit ?_))
      refine fn_next ?_
      refine cw_seq ?_
      refine cw_reg ?_
      refine ry (y_mov rfl rfl) rfl rfl ?_
      refine ry (y_asg rfl rfl) rfl rfl ?_
      refine ry (y_asg rfl rfl) rfl rfl ?_
      refine reg_nil ?_
      refine fn_next ?_
      refine cw_ret ?_
      refine fn_retn (vs := [_, _]) rfl ⟨rfl, rfl, trivial⟩ rfl ?_
      rw [hw, gvalV_ok hw h1 h3]
      have hrl := rvAll_len (V := gV xs a h) (a := a) (x0 := p0) (y0 := q0) (n := (p1 + 1 - p0)) (q1 + 1 - q0)
      rw [hrl]
      exact ⟨_, _, rfl, (H15.pick (m := [_]) [0] rfl (by decide))⟩

theorem gValues (g a h : Nat) (V : List Int) (x0 y0 x1 y1 : Int) (w : World) (R : GRd w g a h V) : Ret Try.prog 58 [pt (some ⟨g, 0, none⟩) 0, .agg #[.int .i64 x0, .int .i64 y0, .int .i64 x1, .int .i64 y1]] w (fun z w' => ∃ A cap, z = .tuple #[.slice A (gvalV V a h x0 y0 x1 y1).length cap, .int .i64 (withinC x0 y0 x1 y1 a h)] ∧ HS w w' [.row A (gvalV V a h x0 y0 x1 y1).length cap (vi .i64 (gvalV V a h x0 y0 x1 y1)) 2 1]) := by
  obtain ⟨A, cap, xs, G, rfl, R⟩ := R
  by_cases hw : withinC x0 y0 x1 y1 a h = 0
  · obtain ⟨p0, q0, p1, q1, rfl, rfl, rfl, rfl, h1, h2, h3, h4⟩ := gat_nat G hw
    exact gridValues_ok g a h A cap xs p0 q0 p1 q1 w G R h1 h2 h3 h4 hw
  · exact gridValues_no g a h A cap xs x0 y0 x1 y1 w G R hw
theorem within_all {a h : Nat} (s : SzG a h) : withinC 0 0 ((a : Int) - 1) ((h : Int) - 1) a h = 0 := by
  obtain ⟨s1, s2, s3, s4⟩ := s
  unfold withinC; simp only [insideB_not]
  rw [if_neg (by unfold wrap64; omega), if_neg (by omega), if_neg (by omega)]
theorem gvalV_all {V : List Int} {a h : Nat} (G : GV a h V) : gvalV V a h 0 0 ((a : Int) - 1) ((h : Int) - 1) = V := by
  have h1 := G.a1; have h2 := G.h1
  unfold gvalV
  rw [if_pos (within_all G.sz), show ((a : Int) - 1 - 0 + 1).toNat = a by omega, show ((h : Int) - 1 - 0 + 1).toNat = h by omega]
  refine nth_ext (by rw [rvAll_len, G.len, Nat.mul_comm]) fun i hi => ?_
  rw [rvAll_len] at hi
  have hx : i % a < a := Nat.mod_lt _ (by omega)
  have hy : i / a < h := Nat.div_lt_of_lt_mul (by rw [Nat.mul_comm]; exact hi)
  have ei := of_div (rfl : i / a = _) (rfl : i % a = _)
  have := rvAll_at (V := V) (a := a) (x0 := 0) (y0 := 0) (n := a) h (i / a) (i % a) hy hx
  rw [← ei, Nat.zero_add, Nat.zero_add, ← ei] at this
  exact this
theorem gValuesAll (g a h : Nat) (V : List Int) (w : World) (R : GRd w g a h V) : Ret Try.prog 58 [pt (some ⟨g, 0, none⟩) 0, .agg #[.int .i64 0, .int .i64 0, .int .i64 ((a : Int) - 1), .int .i64 ((h : Int) - 1)]] w (fun z w' => ∃ A cap, z = .tuple #[.slice A (a * h) cap, .int .i64 0] ∧ HS w w' [.row A (a * h) cap (vi .i64 V) 2 1]) := by
  have h1 := gValues g a h V 0 0 ((a : Int) - 1) ((h : Int) - 1) w R
  rw [gvalV_all R.gv, within_all R.gv.sz, R.gv.len] at h1
  exact h1

/-- the first i slabs are copied -/
structure CI (xs zs : List Sb) (i : Nat) : Prop where
  len : zs.length = i
  all : ∀ j, j < i → (gs zs j).w = (gs xs j).w ∧ (gs zs j).h = (gs xs j).h ∧ (gs zs j).L.ok ((gs xs j).w * (gs xs j).h) ∧ (gs zs j).L.lst ((gs xs j).w * (gs xs j).h) = (gs xs j).lst
theorem CI.nil {xs : List Sb} : CI xs [] 0 := ⟨rfl, fun j hj => absurd hj (Nat.not_lt_zero _)⟩
theorem CI.snoc {xs zs : List Sb} {i c : Nat} {L : Ld} (H : CI xs zs i) (h1 : L.ok ((gs xs i).w * (gs xs i).h)) (h2 : L.lst ((gs xs i).w * (gs xs i).h) = (gs xs i).lst) : CI xs (zs ++ [⟨c, (gs xs i).w, (gs xs i).h, L⟩]) (i + 1) :=
  ⟨by rw [List.length_append, H.len]; rfl, fun j hj => by
    by_cases e : j < i
    · rw [gs_app_lt (by rw [H.len]; exact e)]; exact H.all j e
    · have : j = zs.length := by rw [H.len]; omega
      subst this
      rw [gs_app_eq]
      have e := H.len
      subst e
      exact ⟨rfl, rfl, h1, h2⟩⟩
theorem CI.gi {a h : Nat} {xs zs : List Sb} (H : CI xs zs xs.length) (G : GI a h xs) : GI a h zs :=
  ⟨G.a1, G.a2, G.h1, G.h2, by rw [H.len, G.len], fun t ht => by
    rw [H.len] at ht
    obtain ⟨e1, e2, _, _⟩ := H.all t ht
    rw [e1, e2]; exact G.wid t ht, fun t ht => by
    rw [H.len] at ht
    obtain ⟨e1, e2, e3, _⟩ := H.all t ht
    rw [e1, e2]; exact e3⟩
theorem CI.gV {a h : Nat} {xs zs : List Sb} (H : CI xs zs xs.length) (G : GI a h xs) : gV zs a h = gV xs a h := by
  unfold Go.Proofs.Ytbhmkpnihgjlnaa.gV
  refine List.map_congr_left fun i hi => ?_
  have hi' := List.mem_range.1 hi
  have ha := G.a1
  obtain ⟨ht, _, _⟩ := G.tile (x := i % a) (y := i / a) (Nat.mod_lt _ (by omega)) (Nat.div_lt_of_lt_mul hi')
  obtain ⟨e1, e2, _, e4⟩ := H.all _ ht
  unfold gval
  have : (gs zs (tno a (i % a) (i / a))).lst = (gs xs (tno a (i % a) (i / a))).lst := by
    unfold Sb.lst at *
    rw [e1, e2]; exact e4
  rw [this, e1]
theorem HS.putso {w0 w : World} {l : List Ob} {b a h : Nat} {L : Ld} (H : HS w0 w (.blk b [.int .i64 (a : Int), .int .i64 (h : Int), L.val (a * h)] 149 :: L.ob (a * h) :: l)) : HS w0 w (Sb.obs ⟨b, a, h, L⟩ ++ l) := H
/-- the row while it is copied -/
def cpP (xs zs : List Sb) (i : Nat) : List Value := ptrs zs ++ (ptrs xs).drop i
theorem cpP_len {xs zs : List Sb} {i : Nat} (H : CI xs zs i) (hi : i ≤ xs.length) : (cpP xs zs i).length = xs.length := by
  unfold cpP; rw [List.length_append, List.length_drop, ptrs_len, ptrs_len, H.len]; omega
theorem cpP_get {xs zs : List Sb} {i : Nat} (H : CI xs zs i) (hi : i < xs.length) : (cpP xs zs i)[i]? = some (.pointer (some ⟨(gs xs i).b, 0, none⟩)) := by
  unfold cpP
  rw [List.getElem?_append_right (by rw [ptrs_len, H.len]; exact Nat.le_refl _), ptrs_len, H.len, Nat.sub_self, List.getElem?_drop, Nat.add_zero, ptrs_get hi]
theorem cpP_put {xs zs : List Sb} {i : Nat} {s : Sb} (H : CI xs zs i) (hi : i < xs.length) : putL (cpP xs zs i) i [.pointer (some ⟨s.b, 0, none⟩)] = cpP xs (zs ++ [s]) (i + 1) := by
  unfold cpP
  have h1 : (ptrs xs).drop i = .pointer (some ⟨(gs xs i).b, 0, none⟩) :: (ptrs xs).drop (i + 1) := by
    have h2 := ptrs_get hi
    obtain ⟨hl, e⟩ := List.getElem?_eq_some_iff.1 h2
    rw [List.drop_eq_getElem_cons hl, e]
  rw [h1, putL_mid (by rw [ptrs_len, H.len]), ptrs_snoc]
theorem cpP_full {xs zs : List Sb} : cpP xs zs xs.length = ptrs zs := by
  unfold cpP; rw [List.drop_of_length_le (by rw [ptrs_len]; exact Nat.le_refl _), List.append_nil]
theorem ptrs_one {xs : List Sb} : (ptrs xs).all Value.oneCell' = true := by
  refine one_all fun v hv => ?_
  unfold ptrs at hv
  obtain ⟨s, _, rfl⟩ := List.mem_map.1 hv
  rfl

set_option maxRecDepth 100000 in
theorem gridCopy_any (g a h : Nat) (A : Option Addr) (cap : Nat) (xs : List Sb) (w : World) (G : GI a h xs) (R : GR w g a h A cap xs) :
    Ret Try.prog 79 [pt (some ⟨g, 0, none⟩) 0] w (fun z w' => ∃ g' bl, z = .pointer (some ⟨g', 0, none⟩) ∧ HS w w' [gOb g' a h (gV xs a h) bl]) := by
  have ha1 := G.a1; have ha2 := G.a2; have hh1 := G.h1; have hh2 := G.h2
  have hml : xs.length ≤ 64 * 64 := by rw [G.len]; exact Nat.mul_le_mul (by unfold across; omega) (by unfold across; omega)
  refine ret_enter Try.func79 rfl rfl rfl ?_
  have H0 := HS.start w
  refine cw_seq ?_
  refine cw_reg ?_
  refine ry (y_asg rfl rfl) rfl rfl ?_
  refine reg_nil ?_
  refine fn_next ?_
  refine cw_seq ?_
  refine cw_seq ?_
  refine cw_reg ?_
  refine ry (y_mov rfl rfl) rfl rfl ?_
  refine ry (y_peqlnil rfl Try.underlying28 rfl rfl) rfl rfl ?_
  refine reg_nil ?_
  refine fn_next ?_
  refine cw_condf rfl ?_
  refine cw_skip ?_
  refine fn_next ?_
  refine cw_seq ?_
  refine cw_reg ?_
  refine ry (y_mov rfl rfl) rfl rfl ?_
  refine ry (y_nilck rfl rfl) rfl rfl ?_
  refine ry (y_ldra (cs := [_, _, _, _]) ((R.below H0.base).blk) rfl rfl kfgrid2_22 rfl (by decide) (fun j v h => by rw [Nat.zero_add]; exact h)) rfl rfl ?_
  refine reg_op (op_alloc H0 rfl kfgrid2_23) rfl rfl ?_
  rintro _ w2 ⟨b1, rfl, H3⟩
  refine reg_op (op_st (i := 0) (vs := [.int _ _, .int _ _, .int _ _, .slice _ _ _]) H3 rfl rfl rfl rfl rfl kfgrid2_24 rfl rfl rfl) rfl rfl ?_
  rintro _ w4 H5
  refine reg_nil ?_
  refine fn_next ?_
  refine cw_seq ?_
  refine cw_reg ?_
  refine ry (y_mov rfl rfl) rfl rfl ?_
  refine ry (y_nilck rfl rfl) rfl rfl ?_
  refine ry (y_far ((R.below H5.base).blk) rfl rfl kfgrid2_25 rfl (rfl)) rfl rfl ?_
  refine ry (y_ldr ((R.below H5.base).blk) rfl rfl kfgrid2_26 (rfl)) rfl rfl ?_
  refine reg_op (op_call (CloneP A xs.length cap (ptrs xs) _ (R.below H5.base).row (by rw [ptrs_len, Nat.mul_one]) ptrs_one (by omega)) rfl kfgrid2_27 ⟨rfl, trivial⟩) rfl rfl ?_
  rintro _ w7 ⟨A9, c10, rfl, k6⟩
  have H8 := H5.call k6
  refine ry (y_fa rfl rfl kfgrid2_25 rfl) rfl rfl ?_
  refine reg_op (op_st (i := 1) (vs := [.slice _ _ _]) H8 rfl rfl rfl rfl rfl kfgrid2_28 rfl rfl rfl) rfl rfl ?_
  rintro _ w11 H12
  refine reg_nil ?_
  refine fn_next ?_
  refine cw_seq ?_
  refine cw_seq ?_
  refine cw_reg ?_
  refine ry (y_fa rfl rfl kfgrid2_25 rfl) rfl rfl ?_
  refine ry (y_ld rfl rfl kfgrid2_26 (H12.cell (i := 1) rfl rfl)) rfl rfl ?_
  refine ry (y_len rfl Try.underlying114 rfl) rfl rfl ?_
  refine ry (y_mov rfl rfl) rfl rfl ?_
  refine reg_nil ?_
  refine fn_next ?_
  refine cw_block ?_
  have hcz : cpP xs [] 0 = ptrs xs := rfl
  have Hm := H12.nilA (f := Sb.obs)
  refine cw_loopJ [4, 5, 20, 21, 22, 23, 24, 25, 26, 27, 28, 29, 30, 31] (fun M wl ml => ∃ (i : Nat) (zs : List Sb), M = [(20, .int .i64 (i : Int))] ∧ HS w wl [Ob.row A9 xs.length c10 (cpP xs zs i) 118 1, Ob.blk b1 [.int .i64 (a : Int), .int .i64 (h : Int), .int .i64 (across a : Int), .slice A9 xs.length c10] 116, obA Sb.obs zs] ∧ (i ≤ xs.length) ∧ (CI xs zs i) ∧ ml = xs.length - i) ⟨0, [], rfl, (Hm.pick (m := [_, _, _]) [1, 2, 0] rfl (by decide)), Nat.zero_le _, CI.nil, rfl⟩ ⟨rfl, trivial⟩ ?_
  rintro M w13 m15 ⟨i, zs, rfl, H14, hp0, hp1, rfl⟩
  refine cw_seq ?_
  refine cw_reg ?_
  refine ry (y_lss rfl rfl rfl) rfl rfl ?_
  refine reg_nil ?_
  refine fn_next ?_
  refine cw_seq ?_
  refine cw_condd rfl (fun h16 => ?_) (fun h16 => ?_)
  · skip
    have hi : i < xs.length := by omega
    have hg := cpP_get hp1 hi
    have hcl := cpP_len hp1 (by omega)
    have hAd := H14.addr (i := 0) rfl (show 0 < xs.length by omega)
    refine cw_skip ?_
    refine fn_next ?_
    refine cw_seq ?_
    refine cw_block ?_
    refine cw_seq ?_
    refine cw_reg ?_
    refine ry (y_mov rfl rfl) rfl rfl ?_
    refine ry (y_iar (H14.rd (i := 0) rfl) rfl rfl rfl kfgrid2_29 (rfl) (by omega) (Nat.mul_one _) (hg)) rfl rfl ?_
    refine ry (y_ldr (H14.rd (i := 0) rfl) rfl rfl kfgrid2_30 (hg)) rfl rfl ?_
    refine ry (y_asg rfl rfl) rfl rfl ?_
    refine ry (y_asg rfl rfl) rfl rfl ?_
    refine reg_nil ?_
    refine fn_next ?_
    refine cw_draw H14 [0, 1, 2, 3] [4, 5, 6] (fun X HX => (HX.pick (m := [_, _]) [1, 2] rfl (by decide))) (by kernel_rfl) (by kernel_rfl) (by rfl) ?_
    simp only [pick, List.getElem?_cons_succ, List.getElem?_cons_zero]
    refine hk_y (fun Y HY => y_fa rfl rfl kfgrid2_25 rfl) rfl rfl ?_
    refine hk_y (fun Y HY => y_ld rfl rfl kfgrid2_26 (HY.cell (i := 0) rfl rfl)) rfl rfl ?_
    refine hk_y (fun Y HY => y_mov rfl rfl) rfl rfl ?_
    refine hk_y (fun Y HY => y_mov rfl rfl) rfl rfl ?_
    refine hk_nil ?_
    intro w17 H18
    refine tv_op (op_call (slabCopy_any (gs xs i).b (gs xs i).w (gs xs i).h (gs xs i).L _ (G.size hi) (G.ok _ hi) ((R.below H18.base).sl _ hi).2 ((R.below H18.base).sl _ hi).1) rfl kfgrid2_31 ⟨rfl, trivial⟩) rfl rfl ?_
    rintro _ w20 ⟨b22, L23, rfl, k19, o24, e25⟩
    have H21 := H18.call k19
    refine ⟨(H21.pick (m := [_, _]) [3, 4] rfl (by decide)), fun w26 e28 => ?_⟩
    have H27 := H21.ext e28
    refine tv_op (Yd.op (y_iae (hAd) rfl rfl rfl kfgrid2_29 (rfl) (hi) (Nat.mul_one _))) rfl rfl ?_
    rintro _ _ ⟨rfl, rfl⟩
    refine ⟨(H27.pick (m := [_, _]) [3, 4] rfl (by decide)), fun w29 e31 => ?_⟩
    have H30 := H27.ext e31
    refine tv_op (op_ste (i := 2) (vs := [.pointer _]) H30 rfl rfl rfl rfl rfl kfgrid2_32 rfl (by rw [hcl]; show i + 1 ≤ _; omega) rfl rfl) rfl rfl ?_
    rintro _ w32 H33
    refine ⟨(H33.pick (m := [_, _]) [3, 4] rfl (by decide)), fun w34 e36 => ?_⟩
    have H35 := H33.ext e36
    refine tv_nil ?_
    refine fn_block ?_
    refine fn_next ?_
    refine cw_reg ?_
    refine ry (y_add rfl rfl rfl (wi (by omega))) rfl rfl ?_
    refine ry (y_mov rfl rfl) rfl rfl ?_
    refine reg_nil ?_
    have Hs := HS.snocA (f := Sb.obs) (x := ⟨b22, (gs xs i).w, (gs xs i).h, L23⟩) (HS.putso ((H35.pick (m := [_, _, _, _, _]) [0, 1, 4, 2, 3] rfl (by decide))))
    rw [cpP_put (s := ⟨b22, (gs xs i).w, (gs xs i).h, L23⟩) hp1 hi] at Hs
    refine fn_roundJ ⟨i + 1, _, rfl, (Hs.pick (m := [_, _, _]) [1, 2, 0] rfl (by decide)), by omega, hp1.snoc o24 e25, rfl⟩ ⟨rfl, trivial⟩ (by omega) (by repeat (first | exact kp_refl | refine kp_app rfl rfl ?_ | refine kp_cons rfl ?_)) rfl
  · skip
    obtain rfl : i = xs.length := by omega
    refine cw_exit ?_
    refine fn_then_exit (fn_then_exit (fn_block_exit ?_))
    refine fn_next ?_
    refine cw_seq ?_
    refine cw_reg ?_
    refine ry (y_asg rfl rfl) rfl rfl ?_
    refine reg_nil ?_
    refine fn_next ?_
    refine cw_ret ?_
    refine fn_ret1 rfl rfl ?_
    rw [cpP_full, ← hp1.len] at H14
    obtain ⟨bl, Hg⟩ := HS.gclose (hp1.gi G) (hp1.gV G) (H14.pick (m := [_, _, _]) [1, 0, 2] rfl (by decide))
    exact ⟨_, bl, rfl, Hg⟩

theorem gCopy (g a h : Nat) (V : List Int) (w : World) (R : GRd w g a h V) : Ret Try.prog 79 [pt (some ⟨g, 0, none⟩) 0] w (fun z w' => ∃ g' bl, z = .pointer (some ⟨g', 0, none⟩) ∧ HS w w' [gOb g' a h V bl]) := by
  obtain ⟨A, cap, xs, G, rfl, R⟩ := R
  exact gridCopy_any g a h A cap xs w G R

theorem lst_len {a h t : Nat} {xs : List Sb} (G : GI a h xs) (ht : t < xs.length) : (gs xs t).lst.length = (gs xs t).w * (gs xs t).h := Ld.len (G.ok t ht)
theorem sameV {a h : Nat} {xs ys : List Sb} (G : GI a h xs) (G2 : GI a h ys) : (∀ j, j < xs.length → (gs xs j).lst = (gs ys j).lst) ↔ gV xs a h = gV ys a h := by
  have hl : ys.length = xs.length := by rw [G.len, G2.len]
  constructor
  · intro H
    unfold gV
    refine List.map_congr_left fun i hi => ?_
    have hi' := List.mem_range.1 hi
    have ha := G.a1
    obtain ⟨ht, _, _⟩ := G.tile (x := i % a) (y := i / a) (Nat.mod_lt _ (by omega)) (Nat.div_lt_of_lt_mul hi')
    unfold gval
    rw [H _ ht, (G.wid _ ht).1, (G2.wid _ (by rw [hl]; exact ht)).1]
  · intro H j hj
    have hj2 : j < ys.length := by rw [hl]; exact hj
    rw [← tile_vals G hj, ← tile_vals G2 hj2, H, (G.wid _ hj).1, (G.wid _ hj).2, (G2.wid _ hj2).1, (G2.wid _ hj2).2]

set_option maxRecDepth 100000 in
theorem sameSlab (s1 s2 : Sb) (w : World) (p1 : sizeP s1.w s1.h) (o1 : s1.L.ok (s1.w * s1.h)) (r1 : Rd w (some ⟨s1.b, 0, none⟩) s1.cells ∧ s1.L.rd w) (p2 : sizeP s2.w s2.h) (o2 : s2.L.ok (s2.w * s2.h)) (r2 : Rd w (some ⟨s2.b, 0, none⟩) s2.cells ∧ s2.L.rd w)  :
    Ret Try.prog 73 [.pointer (some ⟨s1.b, 0, none⟩), .pointer (some ⟨s2.b, 0, none⟩)] w (fun v w' => v = .bool (decide (s1.lst = s2.lst)) ∧ Below w.heap.size w w') := by
  have m1 := p1.mul
  have m2 := p2.mul
  refine ret_enter Try.func73 rfl rfl rfl ?_
  have H0 := HS.start w
  refine cw_seq ?_
  refine cw_reg ?_
  refine ry (y_asg rfl rfl) rfl rfl ?_
  refine reg_nil ?_
  refine fn_next ?_
  refine cw_seq ?_
  refine cw_reg ?_
  refine ry (y_mov rfl rfl) rfl rfl ?_
  refine reg_op (op_call (slabCells_any s1.b s1.w s1.h s1.L _ p1 o1 (Ld.rd_below r1.2 H0.base) (r1.1.below H0.base)) rfl kfgrid2_33 ⟨rfl, trivial⟩) rfl rfl ?_
  rintro _ w2 ⟨A4, c5, rfl, k1⟩
  have H3 := H0.call k1
  refine ry (y_mov rfl rfl) rfl rfl ?_
  refine reg_op (op_call (slabCells_any s2.b s2.w s2.h s2.L _ p2 o2 (Ld.rd_below r2.2 H3.base) (r2.1.below H3.base)) rfl kfgrid2_33 ⟨rfl, trivial⟩) rfl rfl ?_
  rintro _ w7 ⟨A9, c10, rfl, k6⟩
  have H8 := H3.call k6
  refine reg_op (op_call (EqualI _ (s1.w * s1.h) _ s1.lst _ (s2.w * s2.h) _ s2.lst _ (H8.rd (i := 1) rfl) (Ld.len o1) (H8.rd (i := 0) rfl) (Ld.len o2) (by omega)) rfl kfgrid2_34 ⟨rfl, rfl, trivial⟩) rfl rfl ?_
  rintro _ w12 ⟨rfl, e11⟩
  have H13 := H8.ext e11
  refine ry (y_asg rfl rfl) rfl rfl ?_
  refine reg_nil ?_
  refine fn_next ?_
  refine cw_ret ?_
  refine fn_ret1 rfl rfl ?_
  exact ⟨rfl, H13.base⟩

set_option maxRecDepth 100000 in
theorem gridEqF (a h g : Nat) (A : Option Addr) (cap : Nat) (xs : List Sb) (g2 : Nat) (A2 : Option Addr) (cap2 : Nat) (ys : List Sb) (w : World) (G : GI a h xs) (R : GR w g a h A cap xs) (G2 : GI a h ys) (R2 : GR w g2 a h A2 cap2 ys) :
    Ret Try.prog 72 [.slice A xs.length cap, .slice A2 ys.length cap2, .func (.func 73) #[] #[]] w (fun v w' => v = .bool (decide (gV xs a h = gV ys a h)) ∧ Below w.heap.size w w') := by
  have hl : ys.length = xs.length := by rw [G.len, G2.len]
  have hml : xs.length ≤ 64 * 64 := by rw [G.len]; have := G.a2; have := G.h2; exact Nat.mul_le_mul (by unfold across; omega) (by unfold across; omega)
  refine ret_enter Try.func72 rfl rfl rfl ?_
  have H0 := HS.start w
  refine cw_seq ?_
  refine cw_reg ?_
  refine ry (y_asg rfl rfl) rfl rfl ?_
  refine reg_nil ?_
  refine fn_next ?_
  refine cw_seq ?_
  refine cw_seq ?_
  refine cw_reg ?_
  refine ry (y_mov rfl rfl) rfl rfl ?_
  refine ry (y_len rfl Try.underlying114 rfl) rfl rfl ?_
  refine ry (y_mov rfl rfl) rfl rfl ?_
  refine ry (y_len rfl Try.underlying114 rfl) rfl rfl ?_
  refine ry (y_neq rfl rfl rfl) rfl rfl ?_
  refine reg_nil ?_
  refine fn_next ?_
  refine cw_condd rfl (fun h1 => ?_) (fun h1 => ?_)
  · exfalso; omega
  · skip
    refine cw_skip ?_
    refine fn_next ?_
    refine cw_seq ?_
    refine cw_seq ?_
    refine cw_reg ?_
    refine ry (y_mov rfl rfl) rfl rfl ?_
    refine ry (y_len rfl Try.underlying114 rfl) rfl rfl ?_
    refine ry (y_mov rfl rfl) rfl rfl ?_
    refine reg_nil ?_
    refine fn_next ?_
    refine cw_block ?_
    refine cw_loopJ [6, 7, 8, 9, 17, 18, 19, 20, 21, 22, 23, 24, 25, 26, 27, 28, 29, 30, 31] (fun M wl ml => ∃ (i : Nat), M = [(17, .int .i64 (i : Int))] ∧ HS w wl [] ∧ (i ≤ xs.length) ∧ (Hid (∀ j, j < i → (gs xs j).lst = (gs ys j).lst)) ∧ ml = xs.length - i) ⟨0, rfl, H0, Nat.zero_le _, Lib.hid (fun j hj => absurd hj (Nat.not_lt_zero _)), rfl⟩ ⟨rfl, trivial⟩ ?_
    rintro M w2 m4 ⟨i, rfl, H3, hp0, hp1, rfl⟩
    refine cw_seq ?_
    refine cw_reg ?_
    refine ry (y_lss rfl rfl rfl) rfl rfl ?_
    refine reg_nil ?_
    refine fn_next ?_
    refine cw_seq ?_
    refine cw_condd rfl (fun h5 => ?_) (fun h5 => ?_)
    · skip
      have hi : i < xs.length := by omega
      have hi2 : i < ys.length := by omega
      have hg1 := ptrs_get hi
      have hg2 := ptrs_get hi2
      refine cw_skip ?_
      refine fn_next ?_
      refine cw_seq ?_
      refine cw_block ?_
      refine cw_seq ?_
      refine cw_reg ?_
      refine ry (y_mov rfl rfl) rfl rfl ?_
      refine ry (y_iar (R.row.below H3.base) rfl rfl rfl kfgrid2_29 (rfl) (by omega) (Nat.mul_one _) (hg1)) rfl rfl ?_
      refine ry (y_ldr (R.row.below H3.base) rfl rfl kfgrid2_30 (hg1)) rfl rfl ?_
      refine ry (y_asg rfl rfl) rfl rfl ?_
      refine ry (y_asg rfl rfl) rfl rfl ?_
      refine reg_nil ?_
      refine fn_next ?_
      refine cw_seq ?_
      refine cw_reg ?_
      refine ry (y_mov rfl rfl) rfl rfl ?_
      refine ry (y_mov rfl rfl) rfl rfl ?_
      refine ry (y_iar (R2.row.below H3.base) rfl rfl rfl kfgrid2_29 (rfl) (by omega) (Nat.mul_one _) (hg2)) rfl rfl ?_
      refine ry (y_ldr (R2.row.below H3.base) rfl rfl kfgrid2_30 (hg2)) rfl rfl ?_
      refine ry (y_asg rfl rfl) rfl rfl ?_
      refine reg_nil ?_
      refine fn_next ?_
      refine cw_seq ?_
      refine cw_reg ?_
      refine ry (y_mov rfl rfl) rfl rfl ?_
      refine ry (y_mov rfl rfl) rfl rfl ?_
      refine ry (y_mov rfl rfl) rfl rfl ?_
      refine reg_op (op_callv (fs := []) (vs := [_, _]) (cs := []) (sameSlab (gs xs i) (gs ys i) _ (G.size hi) (G.ok _ hi) ((R.below H3.base).sl _ hi) (G2.size hi2) (G2.ok _ hi2) ((R2.below H3.base).sl _ hi2)) rfl kfgrid2_35 rfl ⟨rfl, rfl, trivial⟩) rfl rfl ?_
      rintro _ w7 ⟨rfl, e6⟩
      have H8 := H3.ext e6
      refine ry (y_notd rfl rfl) rfl rfl ?_
      refine reg_nil ?_
      refine fn_next ?_
      refine cw_condd rfl (fun h9 => ?_) (fun h9 => ?_)
      · skip
        have hne := h9
        refine cw_seq ?_
        refine cw_reg ?_
        refine ry (y_asg rfl rfl) rfl rfl ?_
        refine reg_nil ?_
        refine fn_next ?_
        refine cw_ret ?_
        refine fn_block_ret (fn_then_ret (fn_then_ret (fn_block_ret (fn_then_ret ?_))))
        refine fn_ret1 rfl rfl ?_
        rw [decide_eq_false (fun e => hne ((sameV G G2).2 e i hi))]
        exact ⟨rfl, H8.base⟩
      · skip
        have hse := Classical.not_not.1 h9
        refine cw_skip ?_
        refine fn_block ?_
        refine fn_next ?_
        refine cw_reg ?_
        refine ry (y_add rfl rfl rfl (wi (by omega))) rfl rfl ?_
        refine ry (y_mov rfl rfl) rfl rfl ?_
        refine reg_nil ?_
        refine fn_roundJ ⟨i + 1, rfl, H8, by omega, Lib.hid (fun j hj => (Nat.lt_or_eq_of_le (Nat.le_of_lt_succ hj)).elim (hp1.out j) (fun e => e ▸ hse)), rfl⟩ ⟨rfl, trivial⟩ (by omega) (by repeat (first | exact kp_refl | refine kp_app rfl rfl ?_ | refine kp_cons rfl ?_)) rfl
    · skip
      obtain rfl : i = xs.length := by omega
      refine cw_exit ?_
      refine fn_then_exit (fn_then_exit (fn_block_exit ?_))
      refine fn_next ?_
      refine cw_seq ?_
      refine cw_reg ?_
      refine ry (y_asg rfl rfl) rfl rfl ?_
      refine reg_nil ?_
      refine fn_next ?_
      refine cw_ret ?_
      refine fn_ret1 rfl rfl ?_
      rw [decide_eq_true ((sameV G G2).1 hp1.out)]
      exact ⟨rfl, H3.base⟩

set_option maxRecDepth 100000 in
theorem gridSame_any (g a h : Nat) (A : Option Addr) (cap : Nat) (xs : List Sb) (g2 c d : Nat) (A2 : Option Addr) (cap2 : Nat) (ys : List Sb) (w : World) (G : GI a h xs) (R : GR w g a h A cap xs) (G2 : GI c d ys) (R2 : GR w g2 c d A2 cap2 ys) :
    Ret Try.prog 38 [pt (some ⟨g, 0, none⟩) 0, pt (some ⟨g2, 0, none⟩) 0] w (fun v w' => v = .bool (decide (a = c ∧ h = d ∧ gV xs a h = gV ys c d)) ∧ Below w.heap.size w w') := by
  have b1 := G.a1; have b2 := G.a2; have b3 := G.h1; have b4 := G.h2; have c1 := G2.a1; have c2 := G2.a2; have c3 := G2.h1; have c4 := G2.h2
  refine ret_enter Try.func38 rfl rfl rfl ?_
  have H0 := HS.start w
  refine cw_seq ?_
  refine cw_reg ?_
  refine ry (y_asg rfl rfl) rfl rfl ?_
  refine reg_nil ?_
  refine fn_next ?_
  refine cw_seq ?_
  refine cw_seq ?_
  refine cw_reg ?_
  refine ry (y_mov rfl rfl) rfl rfl ?_
  refine ry (y_peqlnil rfl Try.underlying28 rfl rfl) rfl rfl ?_
  refine ry (y_mov rfl rfl) rfl rfl ?_
  refine rgy (y_mov rfl rfl) rfl rfl rfl rfl ?_
  refine rgy (y_peqlnil rfl Try.underlying28 rfl rfl) rfl rfl rfl rfl ?_
  refine ry (y_pick rfl rfl rfl) rfl rfl ?_
  refine reg_nil ?_
  refine fn_next ?_
  refine cw_condf rfl ?_
  refine cw_skip ?_
  refine fn_next ?_
  refine cw_seq ?_
  refine cw_draw H0 [0, 1, 2, 3, 4, 5, 6, 7, 8, 9, 10, 11, 12, 13, 14, 15, 16, 17, 18, 19, 20, 21, 22, 23, 24, 25, 26, 27, 28, 29, 30, 31] [] (fun X HX => HX) (by kernel_rfl) (by kernel_rfl) (by rfl) ?_
  simp only [pick, List.getElem?_cons_succ, List.getElem?_cons_zero]
  refine hk_y (fun Y HY => y_mov rfl rfl) rfl rfl ?_
  refine hk_y (fun Y HY => y_nilck rfl rfl) rfl rfl ?_
  refine hk_y (fun Y HY => y_far ((R.below HY.base).blk) rfl rfl kfgrid2_36 rfl (rfl)) rfl rfl ?_
  refine hk_y (fun Y HY => y_ldr ((R.below HY.base).blk) rfl rfl kfgrid2_4 (rfl)) rfl rfl ?_
  refine hk_y (fun Y HY => y_mov rfl rfl) rfl rfl ?_
  refine hk_y (fun Y HY => y_nilck rfl rfl) rfl rfl ?_
  refine hk_y (fun Y HY => y_far ((R2.below HY.base).blk) rfl rfl kfgrid2_36 rfl (rfl)) rfl rfl ?_
  refine hk_y (fun Y HY => y_ldr ((R2.below HY.base).blk) rfl rfl kfgrid2_4 (rfl)) rfl rfl ?_
  refine hk_y (fun Y HY => y_eql rfl rfl rfl) rfl rfl ?_
  refine hk_y (fun Y HY => y_mov rfl rfl) rfl rfl ?_
  refine hk_splitd tv_all (d := 23) rfl (fun h1 => ?_) (fun h1 => ?_)
  · skip
    obtain rfl : a = c := by omega
    refine hk_on (qy_yd fun Y HY => y_mov rfl rfl) rfl rfl rfl rfl ?_
    refine hk_on (qy_yd fun Y HY => y_nilck rfl rfl) rfl rfl rfl rfl ?_
    refine hk_on (qy_yd fun Y HY => y_far ((R.below HY.base).blk) rfl rfl kfgrid2_37 rfl (rfl)) rfl rfl rfl rfl ?_
    refine hk_on (qy_yd fun Y HY => y_ldr ((R.below HY.base).blk) rfl rfl kfgrid2_4 (rfl)) rfl rfl rfl rfl ?_
    refine hk_on (qy_yd fun Y HY => y_mov rfl rfl) rfl rfl rfl rfl ?_
    refine hk_on (qy_yd fun Y HY => y_nilck rfl rfl) rfl rfl rfl rfl ?_
    refine hk_on (qy_yd fun Y HY => y_far ((R2.below HY.base).blk) rfl rfl kfgrid2_37 rfl (rfl)) rfl rfl rfl rfl ?_
    refine hk_on (qy_yd fun Y HY => y_ldr ((R2.below HY.base).blk) rfl rfl kfgrid2_4 (rfl)) rfl rfl rfl rfl ?_
    refine hk_on (qy_yd fun Y HY => y_eql rfl rfl rfl) rfl rfl rfl rfl ?_
    refine hk_y (fun Y HY => y_pick rfl rfl rfl) rfl rfl ?_
    refine hk_y (fun Y HY => y_mov rfl rfl) rfl rfl ?_
    refine hk_splitd tv_all (d := 34) rfl (fun h2 => ?_) (fun h2 => ?_)
    · skip
      obtain rfl : h = d := by omega
      refine hk_on (qy_yd fun Y HY => y_mov rfl rfl) rfl rfl rfl rfl ?_
      refine hk_on (qy_yd fun Y HY => y_nilck rfl rfl) rfl rfl rfl rfl ?_
      refine hk_on (qy_yd fun Y HY => y_far ((R.below HY.base).blk) rfl rfl kfgrid2_25 rfl (rfl)) rfl rfl rfl rfl ?_
      refine hk_on (qy_yd fun Y HY => y_ldr ((R.below HY.base).blk) rfl rfl kfgrid2_26 (rfl)) rfl rfl rfl rfl ?_
      refine hk_on (qy_yd fun Y HY => y_mov rfl rfl) rfl rfl rfl rfl ?_
      refine hk_on (qy_yd fun Y HY => y_nilck rfl rfl) rfl rfl rfl rfl ?_
      refine hk_on (qy_yd fun Y HY => y_far ((R2.below HY.base).blk) rfl rfl kfgrid2_25 rfl (rfl)) rfl rfl rfl rfl ?_
      refine hk_on (qy_yd fun Y HY => y_ldr ((R2.below HY.base).blk) rfl rfl kfgrid2_26 (rfl)) rfl rfl rfl rfl ?_
      refine hk_on (qy_call (fun Y HY => gridEqF a h g A cap xs g2 A2 cap2 ys _ G (R.below HY.base) G2 (R2.below HY.base)) rfl kfgrid2_38 ⟨rfl, rfl, rfl, trivial⟩) rfl rfl rfl rfl ?_
      refine hk_y (fun Y HY => y_pick rfl rfl rfl) rfl rfl ?_
      refine hk_y (fun Y HY => y_asg rfl rfl) rfl rfl ?_
      refine hk_nil ?_
      intro w3 H4
      refine tv_nil ?_
      refine fn_next ?_
      refine cw_ret ?_
      refine fn_ret1 rfl rfl ?_
      first | (rw [decide_eq_false e3]; exact ⟨rfl, H4.base⟩) | exact ⟨bdec ⟨fun e => ⟨rfl, rfl, e⟩, fun e => e.2.2⟩, H4.base⟩
    · skip
      have e3 : ¬ (a = a ∧ h = d ∧ gV xs a h = gV ys a d) := fun e => by have := e.2.1; omega
      refine hk_off rfl rfl rfl rfl rfl ?_
      refine hk_off rfl rfl rfl rfl rfl ?_
      refine hk_off rfl rfl rfl rfl rfl ?_
      refine hk_off rfl rfl rfl rfl rfl ?_
      refine hk_off rfl rfl rfl rfl rfl ?_
      refine hk_off rfl rfl rfl rfl rfl ?_
      refine hk_off rfl rfl rfl rfl rfl ?_
      refine hk_off rfl rfl rfl rfl rfl ?_
      refine hk_off rfl rfl rfl rfl rfl ?_
      refine hk_y (fun Y HY => y_pick rfl rfl rfl) rfl rfl ?_
      refine hk_y (fun Y HY => y_asg rfl rfl) rfl rfl ?_
      refine hk_nil ?_
      intro w5 H6
      refine tv_nil ?_
      refine fn_next ?_
      refine cw_ret ?_
      refine fn_ret1 rfl rfl ?_
      first | (rw [decide_eq_false e3]; exact ⟨rfl, H6.base⟩) | exact ⟨bdec ⟨fun e => ⟨rfl, rfl, e⟩, fun e => e.2.2⟩, H6.base⟩
  · skip
    have e3 : ¬ (a = c ∧ h = d ∧ gV xs a h = gV ys c d) := fun e => by have := e.1; omega
    refine hk_off rfl rfl rfl rfl rfl ?_
    refine hk_off rfl rfl rfl rfl rfl ?_
    refine hk_off rfl rfl rfl rfl rfl ?_
    refine hk_off rfl rfl rfl rfl rfl ?_
    refine hk_off rfl rfl rfl rfl rfl ?_
    refine hk_off rfl rfl rfl rfl rfl ?_
    refine hk_off rfl rfl rfl rfl rfl ?_
    refine hk_off rfl rfl rfl rfl rfl ?_
    refine hk_off rfl rfl rfl rfl rfl ?_
    refine hk_y (fun Y HY => y_pick rfl rfl rfl) rfl rfl ?_
    refine hk_y (fun Y HY => y_mov rfl rfl) rfl rfl ?_
    refine hk_off rfl rfl rfl rfl rfl ?_
    refine hk_off rfl rfl rfl rfl rfl ?_
    refine hk_off rfl rfl rfl rfl rfl ?_
    refine hk_off rfl rfl rfl rfl rfl ?_
    refine hk_off rfl rfl rfl rfl rfl ?_
    refine hk_off rfl rfl rfl rfl rfl ?_
    refine hk_off rfl rfl rfl rfl rfl ?_
    refine hk_off rfl rfl rfl rfl rfl ?_
    refine hk_off rfl rfl rfl rfl rfl ?_
    refine hk_y (fun Y HY => y_pick rfl rfl rfl) rfl rfl ?_
    refine hk_y (fun Y HY => y_asg rfl rfl) rfl rfl ?_
    refine hk_nil ?_
    intro w7 H8
    refine tv_nil ?_
    refine fn_next ?_
    refine cw_ret ?_
    refine fn_ret1 rfl rfl ?_
    first | (rw [decide_eq_false e3]; exact ⟨rfl, H8.base⟩) | exact ⟨bdec ⟨fun e => ⟨rfl, rfl, e⟩, fun e => e.2.2⟩, H8.base⟩

theorem gSame (g a h : Nat) (V : List Int) (g2 c d : Nat) (V2 : List Int) (w : World) (R : GRd w g a h V) (R2 : GRd w g2 c d V2) : Ret Try.prog 38 [.pointer (some ⟨g, 0, none⟩), .pointer (some ⟨g2, 0, none⟩)] w (fun v w' => v = .bool (decide (a = c ∧ h = d ∧ V = V2)) ∧ Below w.heap.size w w') := by
  obtain ⟨A, cap, xs, G, rfl, R⟩ := R
  obtain ⟨A2, cap2, ys, G2, rfl, R2⟩ := R2
  exact gridSame_any g a h A cap xs g2 c d A2 cap2 ys w G R G2 R2

set_option maxRecDepth 100000 in
theorem gNil_Size  (w : World) :
    Ret Try.prog 62 [.pointer none] w (fun v w' => v = .tuple #[.int .i64 0, .int .i64 0] ∧ Below w.heap.size w w') := by
  refine ret_enter Try.func62 rfl rfl rfl ?_
  have H0 := HS.start w
  refine cw_seq ?_
  refine cw_reg ?_
  refine ry (y_asg rfl rfl) rfl rfl ?_
  refine ry (y_asg rfl rfl) rfl rfl ?_
  refine reg_nil ?_
  refine fn_next ?_
  refine cw_seq ?_
  refine cw_seq ?_
  refine cw_reg ?_
  refine ry (y_mov rfl rfl) rfl rfl ?_
  refine ry (y_peqlnil rfl Try.underlying28 rfl rfl) rfl rfl ?_
  refine reg_nil ?_
  refine fn_next ?_
  refine cw_condt rfl ?_
  refine cw_seq ?_
  refine cw_reg ?_
  refine ry (y_asg rfl rfl) rfl rfl ?_
  refine ry (y_asg rfl rfl) rfl rfl ?_
  refine reg_nil ?_
  refine fn_next ?_
  refine cw_ret ?_
  refine fn_then_ret ?_
  refine fn_retn (vs := [_, _]) rfl ⟨rfl, rfl, trivial⟩ rfl ?_
  exact ⟨rfl, H0.base⟩

set_option maxRecDepth 100000 in
theorem gNil_All  (w : World) :
    Ret Try.prog 59 [.pointer none] w (fun v w' => v = .agg #[.int .i64 0, .int .i64 0, .int .i64 0, .int .i64 0] ∧ Below w.heap.size w w') := by
  refine ret_enter Try.func59 rfl rfl rfl ?_
  have H0 := HS.start w
  refine cw_seq ?_
  refine cw_reg ?_
  refine reg_op (op_alloc H0 rfl kfgrid2_39) rfl rfl ?_
  rintro _ w2 ⟨b1, rfl, H3⟩
  refine reg_nil ?_
  refine fn_next ?_
  refine cw_seq ?_
  refine cw_seq ?_
  refine cw_reg ?_
  refine ry (y_mov rfl rfl) rfl rfl ?_
  refine ry (y_peqlnil rfl Try.underlying28 rfl rfl) rfl rfl ?_
  refine reg_nil ?_
  refine fn_next ?_
  refine cw_condt rfl ?_
  refine cw_seq ?_
  refine cw_reg ?_
  refine ry (y_build (places := [(0, 1), (1, 1), (2, 1), (3, 1)]) (parts := []) (vs := []) (cs := [.int _ _, .int _ _, .int _ _, .int _ _]) rfl Try.underlying55 (by kernel_rfl) kfgrid2_39 rfl trivial rfl) rfl rfl ?_
  refine reg_op (op_st (i := 0) (vs := [.int _ _, .int _ _, .int _ _, .int _ _]) H3 rfl rfl rfl rfl rfl kfgrid2_40 rfl rfl rfl) rfl rfl ?_
  rintro _ w4 H5
  refine reg_nil ?_
  refine fn_next ?_
  refine cw_ret ?_
  refine fn_then_ret ?_
  refine fn_ret1 rfl (⟨_, rfl, load_agg (cs := [_, _, _, _]) kfgrid2_8 rfl fun j v hv => by rw [Nat.zero_add]; exact H5.cell (i := 0) rfl hv⟩) ?_
  exact ⟨rfl, H5.base⟩

set_option maxRecDepth 100000 in
theorem gNil_check (x0 y0 x1 y1 : Int) (w : World) :
    Ret Try.prog 93 [.pointer none, .agg #[.int .i64 x0, .int .i64 y0, .int .i64 x1, .int .i64 y1]] w (fun v w' => v = .int .i64 1 ∧ Below w.heap.size w w') := by
  refine ret_enter Try.func93 rfl rfl rfl ?_
  have H0 := HS.start w
  refine cw_seq ?_
  refine cw_reg ?_
  refine reg_op (op_box (cs := [.int _ _, .int _ _, .int _ _, .int _ _]) H0 rfl rfl rfl) rfl rfl ?_
  rintro _ w2 ⟨b1, rfl, H3⟩
  refine ry (y_asg rfl rfl) rfl rfl ?_
  refine reg_nil ?_
  refine fn_next ?_
  refine cw_seq ?_
  refine cw_seq ?_
  refine cw_reg ?_
  refine ry (y_mov rfl rfl) rfl rfl ?_
  refine ry (y_peqlnil rfl Try.underlying28 rfl rfl) rfl rfl ?_
  refine reg_nil ?_
  refine fn_next ?_
  refine cw_condt rfl ?_
  refine cw_seq ?_
  refine cw_reg ?_
  refine ry (y_asg rfl rfl) rfl rfl ?_
  refine reg_nil ?_
  refine fn_next ?_
  refine cw_ret ?_
  refine fn_then_ret ?_
  refine fn_ret1 rfl rfl ?_
  exact ⟨rfl, H3.base⟩

set_option maxRecDepth 100000 in
theorem gNil_At (x y : Int) (w : World) :
    Ret Try.prog 64 [.pointer none, .agg #[.int .i64 x, .int .i64 y]] w (fun v w' => v = .tuple #[.int .i64 0, .int .i64 1] ∧ Below w.heap.size w w') := by
  refine ret_enter Try.func64 rfl rfl rfl ?_
  have H0 := HS.start w
  refine cw_seq ?_
  refine cw_reg ?_
  refine reg_op (op_box (cs := [.int _ _, .int _ _]) H0 rfl rfl rfl) rfl rfl ?_
  rintro _ w2 ⟨b1, rfl, H3⟩
  refine ry (y_asg rfl rfl) rfl rfl ?_
  refine ry (y_asg rfl rfl) rfl rfl ?_
  refine reg_nil ?_
  refine fn_next ?_
  refine cw_seq ?_
  refine cw_seq ?_
  refine cw_reg ?_
  refine ry (y_mov rfl rfl) rfl rfl ?_
  refine ry (y_ldb (i := 0) (cs := [_, _]) H3 rfl rfl kfgrid2_5 rfl rfl) rfl rfl ?_
  refine reg_op (op_call (gridSpot_any _ _ _) rfl kfgrid2_6 ⟨rfl, trivial⟩) rfl rfl ?_
  rintro _ w5 ⟨rfl, e4⟩
  have H6 := H3.ext e4
  refine reg_op (op_call (gNil_check _ _ _ _ _) rfl kfgrid2_9 ⟨rfl, rfl, trivial⟩) rfl rfl ?_
  rintro _ w8 ⟨rfl, e7⟩
  have H9 := H6.ext e7
  refine ry (y_asg rfl rfl) rfl rfl ?_
  refine reg_nil ?_
  refine fn_next ?_
  refine cw_seq ?_
  refine cw_reg ?_
  refine ry (y_mov rfl rfl) rfl rfl ?_
  refine ry (y_neq rfl rfl rfl) rfl rfl ?_
  refine reg_nil ?_
  refine fn_next ?_
  refine cw_condd rfl (fun h10 => ?_) (fun h10 => ?_)
  · skip
    refine cw_seq ?_
    refine cw_reg ?_
    refine ry (y_mov rfl rfl) rfl rfl ?_
    refine ry (y_asg rfl rfl) rfl rfl ?_
    refine ry (y_asg rfl rfl) rfl rfl ?_
    refine reg_nil ?_
    refine fn_next ?_
    refine cw_ret ?_
    refine fn_then_ret ?_
    refine fn_retn (vs := [_, _]) rfl ⟨rfl, rfl, trivial⟩ rfl ?_
    exact ⟨rfl, H9.base⟩
  · exact absurd (by decide) h10

set_option maxRecDepth 100000 in
theorem gNil_Fill (x0 y0 x1 y1 u : Int) (w : World) :
    Ret Try.prog 89 [.pointer none, .agg #[.int .i64 x0, .int .i64 y0, .int .i64 x1, .int .i64 y1], .int .i64 u] w (fun v w' => v = .int .i64 1 ∧ Below w.heap.size w w') := by
  refine ret_enter Try.func89 rfl rfl rfl ?_
  have H0 := HS.start w
  refine cw_seq ?_
  refine cw_reg ?_
  refine reg_op (op_box (cs := [.int _ _, .int _ _, .int _ _, .int _ _]) H0 rfl rfl rfl) rfl rfl ?_
  rintro _ w2 ⟨b1, rfl, H3⟩
  refine ry (y_asg rfl rfl) rfl rfl ?_
  refine reg_nil ?_
  refine fn_next ?_
  refine cw_seq ?_
  refine cw_seq ?_
  refine cw_reg ?_
  refine ry (y_mov rfl rfl) rfl rfl ?_
  refine ry (y_ldb (i := 0) (cs := [_, _, _, _]) H3 rfl rfl kfgrid2_8 rfl rfl) rfl rfl ?_
  refine reg_op (op_call (gNil_check _ _ _ _ _) rfl kfgrid2_9 ⟨rfl, rfl, trivial⟩) rfl rfl ?_
  rintro _ w5 ⟨rfl, e4⟩
  have H6 := H3.ext e4
  refine ry (y_asg rfl rfl) rfl rfl ?_
  refine reg_nil ?_
  refine fn_next ?_
  refine cw_seq ?_
  refine cw_reg ?_
  refine ry (y_mov rfl rfl) rfl rfl ?_
  refine ry (y_neq rfl rfl rfl) rfl rfl ?_
  refine reg_nil ?_
  refine fn_next ?_
  refine cw_condd rfl (fun h7 => ?_) (fun h7 => ?_)
  · skip
    refine cw_seq ?_
    refine cw_reg ?_
    refine ry (y_mov rfl rfl) rfl rfl ?_
    refine ry (y_asg rfl rfl) rfl rfl ?_
    refine reg_nil ?_
    refine fn_next ?_
    refine cw_ret ?_
    refine fn_then_ret ?_
    refine fn_ret1 rfl rfl ?_
    exact ⟨rfl, H6.base⟩
  · exact absurd (by decide) h7

set_option maxRecDepth 100000 in
theorem gNil_Set (x y u : Int) (w : World) :
    Ret Try.prog 54 [.pointer none, .agg #[.int .i64 x, .int .i64 y], .int .i64 u] w (fun v w' => v = .int .i64 1 ∧ Below w.heap.size w w') := by
  refine ret_enter Try.func54 rfl rfl rfl ?_
  have H0 := HS.start w
  refine cw_seq ?_
  refine cw_reg ?_
  refine reg_op (op_box (cs := [.int _ _, .int _ _]) H0 rfl rfl rfl) rfl rfl ?_
  rintro _ w2 ⟨b1, rfl, H3⟩
  refine ry (y_asg rfl rfl) rfl rfl ?_
  refine reg_nil ?_
  refine fn_next ?_
  refine cw_seq ?_
  refine cw_reg ?_
  refine ry (y_mov rfl rfl) rfl rfl ?_
  refine ry (y_ldb (i := 0) (cs := [_, _]) H3 rfl rfl kfgrid2_5 rfl rfl) rfl rfl ?_
  refine reg_op (op_call (gridSpot_any _ _ _) rfl kfgrid2_6 ⟨rfl, trivial⟩) rfl rfl ?_
  rintro _ w5 ⟨rfl, e4⟩
  have H6 := H3.ext e4
  refine ry (y_mov rfl rfl) rfl rfl ?_
  refine reg_op (op_call (gNil_Fill _ _ _ _ _ _) rfl kfgrid2_7 ⟨rfl, rfl, rfl, trivial⟩) rfl rfl ?_
  rintro _ w8 ⟨rfl, e7⟩
  have H9 := H6.ext e7
  refine ry (y_asg rfl rfl) rfl rfl ?_
  refine reg_nil ?_
  refine fn_next ?_
  refine cw_ret ?_
  refine fn_ret1 rfl rfl ?_
  exact ⟨rfl, H9.base⟩

set_option maxRecDepth 100000 in
theorem gNil_Values (x0 y0 x1 y1 : Int) (w : World) :
    Ret Try.prog 58 [.pointer none, .agg #[.int .i64 x0, .int .i64 y0, .int .i64 x1, .int .i64 y1]] w (fun v w' => v = .tuple #[.slice none 0 0, .int .i64 1] ∧ Below w.heap.size w w') := by
  refine ret_enter Try.func58 rfl rfl rfl ?_
  have H0 := HS.start w
  refine cw_seq ?_
  refine cw_reg ?_
  refine reg_op (op_box (cs := [.int _ _, .int _ _, .int _ _, .int _ _]) H0 rfl rfl rfl) rfl rfl ?_
  rintro _ w2 ⟨b1, rfl, H3⟩
  refine ry (y_asg rfl rfl) rfl rfl ?_
  refine ry (y_asg rfl rfl) rfl rfl ?_
  refine reg_nil ?_
  refine fn_next ?_
  refine cw_seq ?_
  refine cw_seq ?_
  refine cw_reg ?_
  refine ry (y_mov rfl rfl) rfl rfl ?_
  refine ry (y_ldb (i := 0) (cs := [_, _, _, _]) H3 rfl rfl kfgrid2_8 rfl rfl) rfl rfl ?_
  refine reg_op (op_call (gNil_check _ _ _ _ _) rfl kfgrid2_9 ⟨rfl, rfl, trivial⟩) rfl rfl ?_
  rintro _ w5 ⟨rfl, e4⟩
  have H6 := H3.ext e4
  refine ry (y_asg rfl rfl) rfl rfl ?_
  refine reg_nil ?_
  refine fn_next ?_
  refine cw_seq ?_
  refine cw_reg ?_
  refine ry (y_mov rfl rfl) rfl rfl ?_
  refine ry (y_neq rfl rfl rfl) rfl rfl ?_
  refine reg_nil ?_
  refine fn_next ?_
  refine cw_condd rfl (fun h7 => ?_) (fun h7 => ?_)
  · skip
    refine cw_seq ?_
    refine cw_reg ?_
    refine ry (y_mov rfl rfl) rfl rfl ?_
    refine ry (y_asg rfl rfl) rfl rfl ?_
    refine ry (y_asg rfl rfl) rfl rfl ?_
    refine reg_nil ?_
    refine fn_next ?_
    refine cw_ret ?_
    refine fn_then_ret ?_
    refine fn_retn (vs := [_, _]) rfl ⟨rfl, rfl, trivial⟩ rfl ?_
    exact ⟨rfl, H6.base⟩
  · exact absurd (by decide) h7

set_option maxRecDepth 100000 in
theorem gNil_Copy  (w : World) :
    Ret Try.prog 79 [.pointer none] w (fun v w' => v = .pointer none ∧ Below w.heap.size w w') := by
  refine ret_enter Try.func79 rfl rfl rfl ?_
  have H0 := HS.start w
  refine cw_seq ?_
  refine cw_reg ?_
  refine ry (y_asg rfl rfl) rfl rfl ?_
  refine reg_nil ?_
  refine fn_next ?_
  refine cw_seq ?_
  refine cw_seq ?_
  refine cw_reg ?_
  refine ry (y_mov rfl rfl) rfl rfl ?_
  refine ry (y_peqlnil rfl Try.underlying28 rfl rfl) rfl rfl ?_
  refine reg_nil ?_
  refine fn_next ?_
  refine cw_condt rfl ?_
  refine cw_seq ?_
  refine cw_reg ?_
  refine ry (y_asg rfl rfl) rfl rfl ?_
  refine reg_nil ?_
  refine fn_next ?_
  refine cw_ret ?_
  refine fn_then_ret ?_
  refine fn_ret1 rfl rfl ?_
  exact ⟨rfl, H0.base⟩

set_option maxRecDepth 100000 in
theorem gNil_Same2  (w : World) :
    Ret Try.prog 38 [.pointer none, .pointer none] w (fun v w' => v = .bool true ∧ Below w.heap.size w w') := by
  refine ret_enter Try.func38 rfl rfl rfl ?_
  have H0 := HS.start w
  refine cw_seq ?_
  refine cw_reg ?_
  refine ry (y_asg rfl rfl) rfl rfl ?_
  refine reg_nil ?_
  refine fn_next ?_
  refine cw_seq ?_
  refine cw_seq ?_
  refine cw_reg ?_
  refine ry (y_mov rfl rfl) rfl rfl ?_
  refine ry (y_peqlnil rfl Try.underlying28 rfl rfl) rfl rfl ?_
  refine ry (y_mov rfl rfl) rfl rfl ?_
  refine rg_off rfl rfl rfl rfl rfl ?_
  refine rg_off rfl rfl rfl rfl rfl ?_
  refine ry (y_pick rfl rfl rfl) rfl rfl ?_
  refine reg_nil ?_
  refine fn_next ?_
  refine cw_condt rfl ?_
  refine cw_seq ?_
  refine cw_reg ?_
  refine ry (y_mov rfl rfl) rfl rfl ?_
  refine ry (y_mov rfl rfl) rfl rfl ?_
  refine ry (y_peqlnil rfl Try.underlying28 rfl rfl) rfl rfl ?_
  refine ry (y_asg rfl rfl) rfl rfl ?_
  refine reg_nil ?_
  refine fn_next ?_
  refine cw_ret ?_
  refine fn_then_ret ?_
  refine fn_ret1 rfl rfl ?_
  exact ⟨rfl, H0.base⟩

set_option maxRecDepth 100000 in
theorem gNil_SameL (g : Nat) (w : World) :
    Ret Try.prog 38 [.pointer none, .pointer (some ⟨g, 0, none⟩)] w (fun v w' => v = .bool false ∧ Below w.heap.size w w') := by
  refine ret_enter Try.func38 rfl rfl rfl ?_
  have H0 := HS.start w
  refine cw_seq ?_
  refine cw_reg ?_
  refine ry (y_asg rfl rfl) rfl rfl ?_
  refine reg_nil ?_
  refine fn_next ?_
  refine cw_seq ?_
  refine cw_seq ?_
  refine cw_reg ?_
  refine ry (y_mov rfl rfl) rfl rfl ?_
  refine ry (y_peqlnil rfl Try.underlying28 rfl rfl) rfl rfl ?_
  refine ry (y_mov rfl rfl) rfl rfl ?_
  refine rg_off rfl rfl rfl rfl rfl ?_
  refine rg_off rfl rfl rfl rfl rfl ?_
  refine ry (y_pick rfl rfl rfl) rfl rfl ?_
  refine reg_nil ?_
  refine fn_next ?_
  refine cw_condt rfl ?_
  refine cw_seq ?_
  refine cw_reg ?_
  refine ry (y_mov rfl rfl) rfl rfl ?_
  refine ry (y_mov rfl rfl) rfl rfl ?_
  refine ry (y_peqln rfl Try.underlying28 rfl rfl) rfl rfl ?_
  refine ry (y_asg rfl rfl) rfl rfl ?_
  refine reg_nil ?_
  refine fn_next ?_
  refine cw_ret ?_
  refine fn_then_ret ?_
  refine fn_ret1 rfl rfl ?_
  exact ⟨rfl, H0.base⟩

set_option maxRecDepth 100000 in
theorem gNil_SameR (g : Nat) (w : World) :
    Ret Try.prog 38 [.pointer (some ⟨g, 0, none⟩), .pointer none] w (fun v w' => v = .bool false ∧ Below w.heap.size w w') := by
  refine ret_enter Try.func38 rfl rfl rfl ?_
  have H0 := HS.start w
  refine cw_seq ?_
  refine cw_reg ?_
  refine ry (y_asg rfl rfl) rfl rfl ?_
  refine reg_nil ?_
  refine fn_next ?_
  refine cw_seq ?_
  refine cw_seq ?_
  refine cw_reg ?_
  refine ry (y_mov rfl rfl) rfl rfl ?_
  refine ry (y_peqlnil rfl Try.underlying28 rfl rfl) rfl rfl ?_
  refine ry (y_mov rfl rfl) rfl rfl ?_
  refine rgy (y_mov rfl rfl) rfl rfl rfl rfl ?_
  refine rgy (y_peqlnil rfl Try.underlying28 rfl rfl) rfl rfl rfl rfl ?_
  refine ry (y_pick rfl rfl rfl) rfl rfl ?_
  refine reg_nil ?_
  refine fn_next ?_
  refine cw_condt rfl ?_
  refine cw_seq ?_
  refine cw_reg ?_
  refine ry (y_mov rfl rfl) rfl rfl ?_
  refine ry (y_mov rfl rfl) rfl rfl ?_
  refine ry (y_peqlnil rfl Try.underlying28 rfl rfl) rfl rfl ?_
  refine ry (y_asg rfl rfl) rfl rfl ?_
  refine reg_nil ?_
  refine fn_next ?_
  refine cw_ret ?_
  refine fn_then_ret ?_
  refine fn_ret1 rfl rfl ?_
  exact ⟨rfl, H0.base⟩

end Go.Proofs.Ytbhmkpnihgjlnaa
