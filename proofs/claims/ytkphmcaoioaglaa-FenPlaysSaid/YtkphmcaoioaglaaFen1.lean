/- Layer 19: the program. -/
import Derived.Test.YtkphmcaoioaglaaPlain19
import Derived.Test.YtkphmcaoioaglaaK10
set_option linter.unusedVariables false
set_option linter.unusedSimpArgs false
namespace Go.Proofs.Ytkphmcaoioaglaa
open Go Go.RowKit
theorem kffen1_1 : fldB Try.prog 117 0 0 = true := by kernel_rfl
theorem kffen1_2 : oneB Try.prog 2 = true := by kernel_rfl
theorem kffen1_3 : fldB Try.prog 117 1 1 = true := by kernel_rfl
theorem kffen1_4 : fldB Try.prog 117 2 2 = true := by kernel_rfl
theorem kffen1_5 : oneB Try.prog 32 = true := by kernel_rfl
theorem kffen1_6 : callB Try.prog 79 = true := by kernel_rfl
theorem kffen1_7 : elB Try.prog 32 1 = true := by kernel_rfl
theorem kffen1_8 : aggB Try.prog 24 4 = true := by kernel_rfl
theorem kffen1_9 : callB Try.prog 78 = true := by kernel_rfl
theorem kffen1_10 : fldB Try.prog 24 2 2 = true := by kernel_rfl
theorem kffen1_11 : fldB Try.prog 24 3 3 = true := by kernel_rfl
theorem kffen1_12 : callB Try.prog 80 = true := by kernel_rfl
theorem kffen1_13 : fldB Try.prog 24 0 0 = true := by kernel_rfl
theorem kffen1_14 : fldB Try.prog 24 1 1 = true := by kernel_rfl
theorem kffen1_15 : fldB Try.prog 26 0 0 = true := by kernel_rfl
theorem kffen1_16 : fldB Try.prog 26 1 1 = true := by kernel_rfl
theorem kffen1_17 : (Try.prog.info? 24).bind (fun i => i.zero.map Value.cells) = some (List.toArray [(.int .i64 0), (.int .i64 0), (.int .i64 0), (.int .i64 0)]) := by kernel_rfl
theorem kffen1_18 : callB Try.prog 19 = true := by kernel_rfl
theorem kffen1_19 : (Try.prog.info? 2).map (fun i => (i.zero.map (·.cells.toList), i.size, i.bytes)) = some (some [(.int .i64 0)], 1, 8) := by kernel_rfl
theorem kffen1_20 : (Try.prog.info? 117).bind (fun i => i.zero.map Value.cells) = some (List.toArray [(.int .i64 0), (.int .i64 0), (.slice none 0 0)]) := by kernel_rfl
theorem kffen1_21 : aggB Try.prog 26 2 = true := by kernel_rfl
theorem kffen1_22 : callB Try.prog 21 = true := by kernel_rfl
theorem kffen1_23 : szB Try.prog 2 1 = true := by kernel_rfl
/-- a fen that is there, to be read -/
structure FR (w : World) (f a h : Nat) (A : Option Addr) (cap : Nat) (V U : List Int) : Prop where
  blk : Rd w (some ⟨f, 0, none⟩) [.int .i64 (a : Int), .int .i64 (h : Int), .slice A ((a + 1) * (h + 1)) cap]
  row : Rd w A (vi .i64 U)
theorem FR.below {w w' : World} {f a h : Nat} {A : Option Addr} {cap : Nat} {V U : List Int} (R : FR w f a h A cap V U) (hb : Below w.heap.size w w') : FR w' f a h A cap V U := ⟨R.blk.below hb, R.row.below hb⟩
structure FV (a h : Nat) (V U : List Int) : Prop where
  s : SzG a h
  m : a * h ≤ 1000
  len : V.length = a * h
  bd : B40 V
  F : FenI a h V U

set_option maxRecDepth 100000 in
theorem fenAt_ (f a h : Nat) (c : Value) (X Y : Nat) (w : World) (Rb : Rd w (some ⟨f, 0, none⟩) [.int .i64 (a : Int), .int .i64 (h : Int), c]) (ha : a ≤ 1024) (hh : h ≤ 1024) (hX : X ≤ a) (hY : Y ≤ h) :
    Ret Try.prog 79 [pt (some ⟨f, 0, none⟩) 0, .int .i64 (X : Int), .int .i64 (Y : Int)] w (fun v w' => v = .int .i64 ((pl a X Y : Nat) : Int) ∧ Below w.heap.size w w') := by
  have hp := pl_lt hX hY
  have hpm : Y * (a + 1) ≤ 1024 * 1025 := Nat.mul_le_mul (by omega) (by omega)
  refine ret_enter Try.func79 rfl rfl rfl ?_
  have H0 := HS.start w
  refine cw_seq ?_
  refine cw_reg ?_
  refine ry (y_asg rfl rfl) rfl rfl ?_
  refine reg_nil ?_
  refine fn_next ?_
  refine cw_seq ?_
  refine cw_reg ?_
  refine ry (y_mov rfl rfl) rfl rfl ?_
  refine ry (y_mov rfl rfl) rfl rfl ?_
  refine ry (y_nilck rfl rfl) rfl rfl ?_
  refine ry (y_far ((Rb.below H0.base)) rfl rfl kffen1_1 rfl (rfl)) rfl rfl ?_
  refine ry (y_ldr ((Rb.below H0.base)) rfl rfl kffen1_2 (rfl)) rfl rfl ?_
  refine ry (y_add rfl rfl rfl (wi (by omega))) rfl rfl ?_
  refine ry (y_mul rfl rfl rfl (show _ = ((Y * (a + 1) : Nat) : Int) from by rw [Int.natCast_mul]; exact wi (by rw [show (Y : Int) * ((a : Int) + 1) = ((Y * (a + 1) : Nat) : Int) by rw [Int.natCast_mul]; rfl]; omega))) rfl rfl ?_
  refine ry (y_mov rfl rfl) rfl rfl ?_
  refine ry (y_add rfl rfl rfl (show _ = ((pl a X Y : Nat) : Int) from by unfold pl; rw [Int.natCast_add]; exact wi (by omega))) rfl rfl ?_
  refine ry (y_asg rfl rfl) rfl rfl ?_
  refine reg_nil ?_
  refine fn_next ?_
  refine cw_ret ?_
  refine fn_ret1 rfl rfl ?_
  exact ⟨rfl, H0.base⟩

set_option maxRecDepth 100000 in
theorem fenSize (f a h : Nat) (A : Option Addr) (cap : Nat) (V U : List Int) (w : World) (G : FV a h V U) (R : FR w f a h A cap V U) :
    Ret Try.prog 23 [pt (some ⟨f, 0, none⟩) 0] w (fun v w' => v = .tuple #[.int .i64 (a : Int), .int .i64 (h : Int)] ∧ Below w.heap.size w w') := by
  obtain ⟨s1, s2, s3, s4⟩ := G.s
  have hnn : ((a + 1) * (h + 1)) ≤ 1025 * 1025 := Nat.mul_le_mul (by omega) (by omega)
  refine ret_enter Try.func23 rfl rfl rfl ?_
  have H0 := HS.start w
  refine cw_seq ?_
  refine cw_reg ?_
  refine ry (y_asg rfl rfl) rfl rfl ?_
  refine ry (y_asg rfl rfl) rfl rfl ?_
  refine reg_nil ?_
  refine fn_next ?_
  refine cw_seq ?_
  refine cw_seq ?_
  refine cw_reg ?_
  refine ry (y_mov rfl rfl) rfl rfl ?_
  refine ry (y_peqlnil rfl Try.underlying28 rfl rfl) rfl rfl ?_
  refine reg_nil ?_
  refine fn_next ?_
  refine cw_condf rfl ?_
  refine cw_skip ?_
  refine fn_next ?_
  refine cw_seq ?_
  refine cw_draw H0 [0, 1, 2, 3, 4, 5, 6, 7, 8, 9] [] (fun X HX => HX) (by kernel_rfl) (by kernel_rfl) (by rfl) ?_
  simp only [pick, List.getElem?_cons_succ, List.getElem?_cons_zero]
  refine hk_y (fun Y HY => y_mov rfl rfl) rfl rfl ?_
  refine hk_y (fun Y HY => y_nilck rfl rfl) rfl rfl ?_
  refine hk_y (fun Y HY => y_far ((R.blk.below HY.base)) rfl rfl kffen1_1 rfl (rfl)) rfl rfl ?_
  refine hk_y (fun Y HY => y_ldr ((R.blk.below HY.base)) rfl rfl kffen1_2 (rfl)) rfl rfl ?_
  refine hk_y (fun Y HY => y_mov rfl rfl) rfl rfl ?_
  refine hk_y (fun Y HY => y_nilck rfl rfl) rfl rfl ?_
  refine hk_y (fun Y HY => y_far ((R.blk.below HY.base)) rfl rfl kffen1_3 rfl (rfl)) rfl rfl ?_
  refine hk_y (fun Y HY => y_ldr ((R.blk.below HY.base)) rfl rfl kffen1_2 (rfl)) rfl rfl ?_
  refine hk_y (fun Y HY => y_asg rfl rfl) rfl rfl ?_
  refine hk_y (fun Y HY => y_asg rfl rfl) rfl rfl ?_
  refine hk_nil ?_
  intro w1 H2
  refine tv_nil ?_
  refine fn_next ?_
  refine cw_ret ?_
  refine fn_retn (vs := [_, _]) rfl ⟨rfl, rfl, trivial⟩ rfl ?_
  exact ⟨rfl, H2.base⟩

set_option maxRecDepth 100000 in
theorem fenCorner (f a h : Nat) (A : Option Addr) (cap : Nat) (V U : List Int) (X Y : Nat) (w : World) (G : FV a h V U) (R : FR w f a h A cap V U) (hX : X ≤ a) (hY : Y ≤ h) :
    Ret Try.prog 80 [pt (some ⟨f, 0, none⟩) 0, .int .i64 (X : Int), .int .i64 (Y : Int)] w (fun v w' => v = .int .i64 (p2 V a X Y) ∧ Below w.heap.size w w') := by
  obtain ⟨s1, s2, s3, s4⟩ := G.s
  have hnn : ((a + 1) * (h + 1)) ≤ 1025 * 1025 := Nat.mul_le_mul (by omega) (by omega)
  refine ret_enter Try.func80 rfl rfl rfl ?_
  have H0 := HS.start w
  refine cw_seq ?_
  refine cw_reg ?_
  refine ry (y_asg rfl rfl) rfl rfl ?_
  refine reg_nil ?_
  refine fn_next ?_
  refine cw_seq ?_
  refine cw_reg ?_
  refine ry (y_asg rfl rfl) rfl rfl ?_
  refine reg_nil ?_
  refine fn_next ?_
  refine cw_seq ?_
  refine cw_seq ?_
  refine cw_reg ?_
  refine ry (y_mov rfl rfl) rfl rfl ?_
  refine ry (y_asg rfl rfl) rfl rfl ?_
  refine reg_nil ?_
  refine fn_next ?_
  refine cw_block ?_
  refine cw_loopJ [7, 8, 9, 11, 12, 13, 14, 15, 16, 17, 18, 19, 20, 21, 22, 23, 24, 25, 26, 27, 28, 29, 30, 31, 32, 33, 34, 35] (fun M wl ml => ∃ (y : Nat), M = [(8, .int .i64 (y : Int)), (7, .int .i64 (p2 V a X Y - p2 V a X y))] ∧ HS w wl [] ∧ (y ≤ Y) ∧ ml = y + 1) ⟨Y, rfl, H0, Nat.le_refl _, rfl⟩ ⟨rfl, si (by omega), trivial⟩ ?_
  rintro M w1 m3 ⟨y, rfl, H2, hp0, rfl⟩
  refine cw_seq ?_
  refine cw_seq ?_
  refine cw_reg ?_
  refine ry (y_mov rfl rfl) rfl rfl ?_
  refine ry (y_gtr rfl rfl rfl) rfl rfl ?_
  refine reg_nil ?_
  refine fn_next ?_
  refine cw_condd rfl (fun h4 => ?_) (fun h4 => ?_)
  · skip
    have hy0 : 0 < y := by omega
    have hly := lb_bd hy0 (by omega)
    have c1 := p2_bd (x := X) (y := Y) G.bd G.len (by omega) (by omega) G.m
    have c2 := p2_bd (x := X) (y := y) G.bd G.len (by omega) (by omega) G.m
    have c3 := p2_bd (x := X) (y := y - lb y) G.bd G.len (by omega) (by omega) G.m
    refine cw_skip ?_
    refine fn_next ?_
    refine cw_seq ?_
    refine cw_block ?_
    refine cw_seq ?_
    refine cw_reg ?_
    refine ry (y_mov rfl rfl) rfl rfl ?_
    refine ry (y_asg rfl rfl) rfl rfl ?_
    refine reg_nil ?_
    refine fn_next ?_
    refine cw_block ?_
    refine cw_loopJ [7, 9, 18, 19, 20, 21, 22, 23, 24, 25, 26, 27, 28, 29, 30, 31, 32, 33, 34, 35] (fun M wl ml => ∃ (x : Nat), M = [(9, .int .i64 (x : Int)), (7, .int .i64 (p2 V a X Y - p2 V a X y + rS V a x X (y - lb y) y))] ∧ HS w wl [] ∧ (x ≤ X) ∧ ml = x + 1) ⟨X, rfl, H2, Nat.le_refl _, rfl⟩ ⟨rfl, si (by unfold rS; omega), trivial⟩ ?_
    rintro M w5 m7 ⟨x, rfl, H6, hp0, rfl⟩
    refine cw_seq ?_
    refine cw_seq ?_
    refine cw_reg ?_
    refine ry (y_mov rfl rfl) rfl rfl ?_
    refine ry (y_gtr rfl rfl rfl) rfl rfl ?_
    refine reg_nil ?_
    refine fn_next ?_
    refine cw_condd rfl (fun h8 => ?_) (fun h8 => ?_)
    · skip
      have hx0 : 0 < x := by omega
      have hlx := lb_bd hx0 (by omega)
      have hpl := pl_lt (a := a) (h := h) (X := x) (Y := y) (by omega) (by omega)
      have hgi := vi_get (k := .i64) (zs := U) (i := pl a x y) (by rw [G.F.len]; exact hpl)
      have hvl := G.F.at_ x y (by omega) (by omega) (by omega) (by omega)
      rw [hvl] at hgi
      have c4 := p2_bd (x := x) (y := y) G.bd G.len (by omega) (by omega) G.m
      have c5 := p2_bd (x := x) (y := y - lb y) G.bd G.len (by omega) (by omega) G.m
      have c6 := p2_bd (x := x - lb x) (y := y) G.bd G.len (by omega) (by omega) G.m
      have c7 := p2_bd (x := x - lb x) (y := y - lb y) G.bd G.len (by omega) (by omega) G.m
      refine cw_skip ?_
      refine fn_next ?_
      refine cw_seq ?_
      refine cw_block ?_
      refine cw_draw H6 [0, 1, 2, 3, 4, 5, 6, 7, 8, 9, 10, 11, 12] [] (fun X HX => HX) (by kernel_rfl) (by kernel_rfl) (by rfl) ?_
      simp only [pick, List.getElem?_cons_succ, List.getElem?_cons_zero]
      refine hk_y (fun Y HY => y_mov rfl rfl) rfl rfl ?_
      refine hk_y (fun Y HY => y_mov rfl rfl) rfl rfl ?_
      refine hk_y (fun Y HY => y_nilck rfl rfl) rfl rfl ?_
      refine hk_y (fun Y HY => y_far ((R.blk.below HY.base)) rfl rfl kffen1_4 rfl (rfl)) rfl rfl ?_
      refine hk_y (fun Y HY => y_ldr ((R.blk.below HY.base)) rfl rfl kffen1_5 (rfl)) rfl rfl ?_
      refine hk_y (fun Y HY => y_mov rfl rfl) rfl rfl ?_
      refine hk_y (fun Y HY => y_mov rfl rfl) rfl rfl ?_
      refine hk_y (fun Y HY => y_mov rfl rfl) rfl rfl ?_
      refine hk_q (qy_call (fun Y HY => fenAt_ f a h _ x y _ (R.blk.below HY.base) s2 s4 (by omega) (by omega)) rfl kffen1_6 ⟨rfl, rfl, rfl, trivial⟩) rfl rfl ?_
      refine hk_y (fun Y HY => y_iar (i := pl a x y) ((R.row.below HY.base)) rfl rfl rfl kffen1_7 (rfl) (by omega) (Nat.mul_one _) (hgi)) rfl rfl ?_
      refine hk_y (fun Y HY => y_ldr ((R.row.below HY.base)) rfl rfl kffen1_2 (hgi)) rfl rfl ?_
      refine hk_y (fun Y HY => y_add rfl rfl rfl (wi (by unfold tS rS; omega))) rfl rfl ?_
      refine hk_y (fun Y HY => y_asg rfl rfl) rfl rfl ?_
      refine hk_nil ?_
      intro w9 H10
      refine tv_nil ?_
      refine fn_block ?_
      refine fn_next ?_
      refine cw_reg ?_
      refine ry (y_mov rfl rfl) rfl rfl ?_
      refine ry (y_mov rfl rfl) rfl rfl ?_
      refine ry (y_sub rfl rfl rfl (wi (by omega))) rfl rfl ?_
      refine ry (y_and rfl rfl rfl (bits_dn x (by omega) hx0)) rfl rfl ?_
      refine ry (y_asg rfl rfl) rfl rfl ?_
      refine reg_nil ?_
      refine fn_roundJ ⟨x - lb x, rfl, H10, by omega, rfl⟩ ⟨rfl, si (by unfold tS rS; omega), trivial⟩ (by omega) (by repeat (first | exact kp_refl | refine kp_app rfl rfl ?_ | refine kp_cons rfl ?_)) rfl
    · skip
      obtain rfl : x = 0 := by omega
      have z1 := p2_x0 (V := V) (a := a) (y := y)
      have z2 := p2_x0 (V := V) (a := a) (y := y - lb y)
      refine cw_exit ?_
      refine fn_then_exit (fn_then_exit (fn_block_exit ?_))
      refine fn_block ?_
      refine fn_next ?_
      refine cw_reg ?_
      refine ry (y_mov rfl rfl) rfl rfl ?_
      refine ry (y_mov rfl rfl) rfl rfl ?_
      refine ry (y_sub rfl rfl rfl (wi (by omega))) rfl rfl ?_
      refine ry (y_and rfl rfl rfl (bits_dn y (by omega) hy0)) rfl rfl ?_
      refine ry (y_asg rfl rfl) rfl rfl ?_
      refine reg_nil ?_
      refine fn_roundJ ⟨y - lb y, rfl, H6, by omega, rfl⟩ ⟨rfl, si (by unfold rS; omega), trivial⟩ (by omega) (by repeat (first | exact kp_refl | refine kp_app rfl rfl ?_ | refine kp_cons rfl ?_)) rfl
  · skip
    obtain rfl : y = 0 := by omega
    refine cw_exit ?_
    refine fn_then_exit (fn_then_exit (fn_block_exit ?_))
    refine fn_next ?_
    refine cw_seq ?_
    refine cw_reg ?_
    refine ry (y_mov rfl rfl) rfl rfl ?_
    refine ry (y_asg rfl rfl) rfl rfl ?_
    refine reg_nil ?_
    refine fn_next ?_
    refine cw_ret ?_
    refine fn_ret1 rfl rfl ?_
    have z3 := p2_y0 (V := V) (a := a) (x := X)
    exact ⟨by rw [show p2 V a X Y - p2 V a X 0 = p2 V a X Y by omega], H2.base⟩

set_option maxRecDepth 100000 in
theorem fenSum_no (f a h : Nat) (A : Option Addr) (cap : Nat) (V U : List Int) (x0 y0 x1 y1 : Int) (w : World) (G : FV a h V U) (R : FR w f a h A cap V U) (hw : ¬ withinC x0 y0 x1 y1 a h = 0) :
    Ret Try.prog 19 [pt (some ⟨f, 0, none⟩) 0, .agg #[.int .i64 x0, .int .i64 y0, .int .i64 x1, .int .i64 y1]] w (fun v w' => v = .tuple #[.int .i64 (fsumV V a h x0 y0 x1 y1), .int .i64 (withinC x0 y0 x1 y1 a h)] ∧ Below w.heap.size w w') := by
  obtain ⟨s1, s2, s3, s4⟩ := G.s
  have hnn : ((a + 1) * (h + 1)) ≤ 1025 * 1025 := Nat.mul_le_mul (by omega) (by omega)
  refine ret_enter Try.func19 rfl rfl rfl ?_
  have H0 := HS.start w
  refine cw_seq ?_
  refine cw_reg ?_
  refine reg_op (op_box (cs := [.int _ _, .int _ _, .int _ _, .int _ _]) H0 rfl rfl rfl) rfl rfl ?_
  rintro _ w2 ⟨b1, rfl, H3⟩
  refine ry (y_asg rfl rfl) rfl rfl ?_
  refine ry (y_asg rfl rfl) rfl rfl ?_
  refine reg_nil ?_
  refine fn_next ?_
  refine cw_seq ?_
  refine cw_seq ?_
  refine cw_reg ?_
  refine ry (y_mov rfl rfl) rfl rfl ?_
  refine ry (y_peqlnil rfl Try.underlying28 rfl rfl) rfl rfl ?_
  refine reg_nil ?_
  refine fn_next ?_
  refine cw_condf rfl ?_
  refine cw_skip ?_
  refine fn_next ?_
  refine cw_seq ?_
  refine cw_seq ?_
  refine cw_draw H3 [0, 1, 2, 3, 4, 5, 6, 7, 8, 9, 10] [] (fun X HX => HX) (by kernel_rfl) (by kernel_rfl) (by rfl) ?_
  simp only [pick, List.getElem?_cons_succ, List.getElem?_cons_zero]
  refine hk_y (fun Y HY => y_ldb (i := 0) (cs := [_, _, _, _]) HY rfl rfl kffen1_8 rfl rfl) rfl rfl ?_
  refine hk_y (fun Y HY => y_mov rfl rfl) rfl rfl ?_
  refine hk_y (fun Y HY => y_nilck rfl rfl) rfl rfl ?_
  refine hk_y (fun Y HY => y_far ((R.blk.below HY.base)) rfl rfl kffen1_1 rfl (rfl)) rfl rfl ?_
  refine hk_y (fun Y HY => y_ldr ((R.blk.below HY.base)) rfl rfl kffen1_2 (rfl)) rfl rfl ?_
  refine hk_y (fun Y HY => y_mov rfl rfl) rfl rfl ?_
  refine hk_y (fun Y HY => y_nilck rfl rfl) rfl rfl ?_
  refine hk_y (fun Y HY => y_far ((R.blk.below HY.base)) rfl rfl kffen1_3 rfl (rfl)) rfl rfl ?_
  refine hk_y (fun Y HY => y_ldr ((R.blk.below HY.base)) rfl rfl kffen1_2 (rfl)) rfl rfl ?_
  refine hk_q (qy_call (fun Y HY => ret_elder (within_any x0 y0 x1 y1 a h _)) rfl kffen1_9 ⟨rfl, rfl, rfl, trivial⟩) rfl rfl ?_
  refine hk_y (fun Y HY => y_asg rfl rfl) rfl rfl ?_
  refine hk_nil ?_
  intro w4 H5
  refine tv_nil ?_
  refine fn_next ?_
  refine cw_seq ?_
  refine cw_reg ?_
  refine ry (y_mov rfl rfl) rfl rfl ?_
  refine ry (y_neq rfl rfl rfl) rfl rfl ?_
  refine reg_nil ?_
  refine fn_next ?_
  refine cw_condd rfl (fun h6 => ?_) (fun h6 => ?_)
  · skip
    refine cw_seq ?_
    refine cw_reg ?_
    refine ry (y_mov rfl rfl) rfl rfl ?_
    refine ry (y_asg rfl rfl) rfl rfl ?_
    refine ry (y_asg rfl rfl) rfl rfl ?_
    refine reg_nil ?_
    refine fn_next ?_
    refine cw_ret ?_
    refine fn_then_ret ?_
    refine fn_retn (vs := [_, _]) rfl ⟨rfl, rfl, trivial⟩ rfl ?_
    rw [fsumV_no hw]
    exact ⟨rfl, H5.base⟩
  · exact absurd (Classical.not_not.1 h6) hw

set_option maxRecDepth 100000 in
theorem fenSum_ok (f a h : Nat) (A : Option Addr) (cap : Nat) (V U : List Int) (p0 q0 p1 q1 : Nat) (w : World) (G : FV a h V U) (R : FR w f a h A cap V U) (h1 : p0 ≤ p1) (h2 : p1 < a) (h3 : q0 ≤ q1) (h4 : q1 < h) (hw : withinC p0 q0 p1 q1 a h = 0) :
    Ret Try.prog 19 [pt (some ⟨f, 0, none⟩) 0, .agg #[.int .i64 (p0 : Int), .int .i64 (q0 : Int), .int .i64 (p1 : Int), .int .i64 (q1 : Int)]] w (fun v w' => v = .tuple #[.int .i64 (fsumV V a h p0 q0 p1 q1), .int .i64 (withinC p0 q0 p1 q1 a h)] ∧ Below w.heap.size w w') := by
  obtain ⟨s1, s2, s3, s4⟩ := G.s
  have hnn : ((a + 1) * (h + 1)) ≤ 1025 * 1025 := Nat.mul_le_mul (by omega) (by omega)
  have c1 := p2_bd (x := p1 + 1) (y := q1 + 1) G.bd G.len (by omega) (by omega) G.m
  have c2 := p2_bd (x := p0) (y := q1 + 1) G.bd G.len (by omega) (by omega) G.m
  have c3 := p2_bd (x := p1 + 1) (y := q0) G.bd G.len (by omega) (by omega) G.m
  have c4 := p2_bd (x := p0) (y := q0) G.bd G.len (by omega) (by omega) G.m
  refine ret_enter Try.func19 rfl rfl rfl ?_
  have H0 := HS.start w
  refine cw_seq ?_
  refine cw_reg ?_
  refine reg_op (op_box (cs := [.int _ _, .int _ _, .int _ _, .int _ _]) H0 rfl rfl rfl) rfl rfl ?_
  rintro _ w2 ⟨b1, rfl, H3⟩
  refine ry (y_asg rfl rfl) rfl rfl ?_
  refine ry (y_asg rfl rfl) rfl rfl ?_
  refine reg_nil ?_
  refine fn_next ?_
  refine cw_seq ?_
  refine cw_seq ?_
  refine cw_reg ?_
  refine ry (y_mov rfl rfl) rfl rfl ?_
  refine ry (y_peqlnil rfl Try.underlying28 rfl rfl) rfl rfl ?_
  refine reg_nil ?_
  refine fn_next ?_
  refine cw_condf rfl ?_
  refine cw_skip ?_
  refine fn_next ?_
  refine cw_seq ?_
  refine cw_seq ?_
  refine cw_draw H3 [0, 1, 2, 3, 4, 5, 6, 7, 8, 9, 10] [] (fun X HX => HX) (by kernel_rfl) (by kernel_rfl) (by rfl) ?_
  simp only [pick, List.getElem?_cons_succ, List.getElem?_cons_zero]
  refine hk_y (fun Y HY => y_ldb (i := 0) (cs := [_, _, _, _]) HY rfl rfl kffen1_8 rfl rfl) rfl rfl ?_
  refine hk_y (fun Y HY => y_mov rfl rfl) rfl rfl ?_
  refine hk_y (fun Y HY => y_nilck rfl rfl) rfl rfl ?_
  refine hk_y (fun Y HY => y_far ((R.blk.below HY.base)) rfl rfl kffen1_1 rfl (rfl)) rfl rfl ?_
  refine hk_y (fun Y HY => y_ldr ((R.blk.below HY.base)) rfl rfl kffen1_2 (rfl)) rfl rfl ?_
  refine hk_y (fun Y HY => y_mov rfl rfl) rfl rfl ?_
  refine hk_y (fun Y HY => y_nilck rfl rfl) rfl rfl ?_
  refine hk_y (fun Y HY => y_far ((R.blk.below HY.base)) rfl rfl kffen1_3 rfl (rfl)) rfl rfl ?_
  refine hk_y (fun Y HY => y_ldr ((R.blk.below HY.base)) rfl rfl kffen1_2 (rfl)) rfl rfl ?_
  refine hk_q (qy_call (fun Y HY => ret_elder (within_any p0 q0 p1 q1 a h _)) rfl kffen1_9 ⟨rfl, rfl, rfl, trivial⟩) rfl rfl ?_
  refine hk_y (fun Y HY => y_asg rfl rfl) rfl rfl ?_
  refine hk_nil ?_
  intro w4 H5
  refine tv_nil ?_
  refine fn_next ?_
  refine cw_seq ?_
  refine cw_reg ?_
  refine ry (y_mov rfl rfl) rfl rfl ?_
  refine ry (y_neq rfl rfl rfl) rfl rfl ?_
  refine reg_nil ?_
  refine fn_next ?_
  refine cw_condd rfl (fun h6 => ?_) (fun h6 => ?_)
  · exact absurd hw h6
  · skip
    refine cw_skip ?_
    refine fn_next ?_
    refine cw_seq ?_
    refine cw_draw H5 [0, 1, 2, 3, 4, 5, 6, 7] [] (fun X HX => HX) (by kernel_rfl) (by kernel_rfl) (by rfl) ?_
    simp only [pick, List.getElem?_cons_succ, List.getElem?_cons_zero]
    refine hk_y (fun Y HY => y_fa rfl rfl kffen1_10 rfl) rfl rfl ?_
    refine hk_y (fun Y HY => y_ld rfl rfl kffen1_2 (HY.cell (i := 0) rfl rfl)) rfl rfl ?_
    refine hk_y (fun Y HY => y_add rfl rfl rfl (wi (by omega))) rfl rfl ?_
    refine hk_y (fun Y HY => y_fa rfl rfl kffen1_11 rfl) rfl rfl ?_
    refine hk_y (fun Y HY => y_ld rfl rfl kffen1_2 (HY.cell (i := 0) rfl rfl)) rfl rfl ?_
    refine hk_y (fun Y HY => y_add rfl rfl rfl (wi (by omega))) rfl rfl ?_
    refine hk_y (fun Y HY => y_asg rfl rfl) rfl rfl ?_
    refine hk_y (fun Y HY => y_asg rfl rfl) rfl rfl ?_
    refine hk_nil ?_
    intro w7 H8
    refine tv_nil ?_
    refine fn_next ?_
    refine cw_seq ?_
    refine cw_draw H8 [0, 1, 2, 3, 4, 5, 6, 7, 8, 9, 10, 11, 12, 13, 14, 15, 16, 17, 18, 19, 20, 21, 22, 23, 24] [] (fun X HX => HX) (by kernel_rfl) (by kernel_rfl) (by rfl) ?_
    simp only [pick, List.getElem?_cons_succ, List.getElem?_cons_zero]
    refine hk_y (fun Y HY => y_mov rfl rfl) rfl rfl ?_
    refine hk_y (fun Y HY => y_mov rfl rfl) rfl rfl ?_
    refine hk_y (fun Y HY => y_mov rfl rfl) rfl rfl ?_
    refine hk_q (qy_call (fun Y HY => fenCorner f a h A cap V U (p1 + 1) (q1 + 1) _ G (R.below HY.base) (by omega) (by omega)) rfl kffen1_12 ⟨rfl, rfl, rfl, trivial⟩) rfl rfl ?_
    refine hk_y (fun Y HY => y_mov rfl rfl) rfl rfl ?_
    refine hk_y (fun Y HY => y_fa rfl rfl kffen1_13 rfl) rfl rfl ?_
    refine hk_y (fun Y HY => y_ld rfl rfl kffen1_2 (HY.cell (i := 0) rfl rfl)) rfl rfl ?_
    refine hk_y (fun Y HY => y_mov rfl rfl) rfl rfl ?_
    refine hk_q (qy_call (fun Y HY => fenCorner f a h A cap V U p0 (q1 + 1) _ G (R.below HY.base) (by omega) (by omega)) rfl kffen1_12 ⟨rfl, rfl, rfl, trivial⟩) rfl rfl ?_
    refine hk_y (fun Y HY => y_sub rfl rfl rfl (wi (by omega))) rfl rfl ?_
    refine hk_y (fun Y HY => y_mov rfl rfl) rfl rfl ?_
    refine hk_y (fun Y HY => y_mov rfl rfl) rfl rfl ?_
    refine hk_y (fun Y HY => y_fa rfl rfl kffen1_14 rfl) rfl rfl ?_
    refine hk_y (fun Y HY => y_ld rfl rfl kffen1_2 (HY.cell (i := 0) rfl rfl)) rfl rfl ?_
    refine hk_q (qy_call (fun Y HY => fenCorner f a h A cap V U (p1 + 1) q0 _ G (R.below HY.base) (by omega) (by omega)) rfl kffen1_12 ⟨rfl, rfl, rfl, trivial⟩) rfl rfl ?_
    refine hk_y (fun Y HY => y_sub rfl rfl rfl (wi (by omega))) rfl rfl ?_
    refine hk_y (fun Y HY => y_mov rfl rfl) rfl rfl ?_
    refine hk_y (fun Y HY => y_fa rfl rfl kffen1_13 rfl) rfl rfl ?_
    refine hk_y (fun Y HY => y_ld rfl rfl kffen1_2 (HY.cell (i := 0) rfl rfl)) rfl rfl ?_
    refine hk_y (fun Y HY => y_fa rfl rfl kffen1_14 rfl) rfl rfl ?_
    refine hk_y (fun Y HY => y_ld rfl rfl kffen1_2 (HY.cell (i := 0) rfl rfl)) rfl rfl ?_
    refine hk_q (qy_call (fun Y HY => fenCorner f a h A cap V U p0 q0 _ G (R.below HY.base) (by omega) (by omega)) rfl kffen1_12 ⟨rfl, rfl, rfl, trivial⟩) rfl rfl ?_
    refine hk_y (fun Y HY => y_add rfl rfl rfl (wi (by omega))) rfl rfl ?_
    refine hk_y (fun Y HY => y_asg rfl rfl) rfl rfl ?_
    refine hk_y (fun Y HY => y_asg rfl rfl) rfl rfl ?_
    refine hk_nil ?_
    intro w9 H10
    refine tv_nil ?_
    refine fn_next ?_
    refine cw_ret ?_
    refine fn_retn (vs := [_, _]) rfl ⟨rfl, rfl, trivial⟩ rfl ?_
    rw [fsumV_ok hw, hw, show rS V a p0 (p1 + 1) q0 (q1 + 1) = p2 V a (p1 + 1) (q1 + 1) - p2 V a p0 (q1 + 1) - p2 V a (p1 + 1) q0 + p2 V a p0 q0 from rfl]
    exact ⟨rfl, H10.base⟩

theorem fenSum (f a h : Nat) (A : Option Addr) (cap : Nat) (V U : List Int) (x0 y0 x1 y1 : Int) (w : World) (G : FV a h V U) (R : FR w f a h A cap V U) : Ret Try.prog 19 [pt (some ⟨f, 0, none⟩) 0, .agg #[.int .i64 x0, .int .i64 y0, .int .i64 x1, .int .i64 y1]] w (fun v w' => v = .tuple #[.int .i64 (fsumV V a h x0 y0 x1 y1), .int .i64 (withinC x0 y0 x1 y1 a h)] ∧ Below w.heap.size w w') := by
  by_cases hw : withinC x0 y0 x1 y1 a h = 0
  · obtain ⟨p0, q0, p1, q1, rfl, rfl, rfl, rfl, h1, h2, h3, h4⟩ := within_natG G.s hw
    exact fenSum_ok f a h A cap V U p0 q0 p1 q1 w G R h1 h2 h3 h4 hw
  · exact fenSum_no f a h A cap V U x0 y0 x1 y1 w G R hw

set_option maxRecDepth 100000 in
theorem fenAt (f a h : Nat) (A : Option Addr) (cap : Nat) (V U : List Int) (x y : Int) (w : World) (G : FV a h V U) (R : FR w f a h A cap V U) :
    Ret Try.prog 21 [pt (some ⟨f, 0, none⟩) 0, .agg #[.int .i64 x, .int .i64 y]] w (fun v w' => v = .tuple #[.int .i64 (gatV V a h x y), .int .i64 (withinC x y x y a h)] ∧ Below w.heap.size w w') := by
  obtain ⟨s1, s2, s3, s4⟩ := G.s
  have hnn : ((a + 1) * (h + 1)) ≤ 1025 * 1025 := Nat.mul_le_mul (by omega) (by omega)
  refine ret_enter Try.func21 rfl rfl rfl ?_
  have H0 := HS.start w
  refine cw_seq ?_
  refine cw_reg ?_
  refine reg_op (op_box (cs := [.int _ _, .int _ _]) H0 rfl rfl rfl) rfl rfl ?_
  rintro _ w2 ⟨b1, rfl, H3⟩
  refine ry (y_asg rfl rfl) rfl rfl ?_
  refine ry (y_asg rfl rfl) rfl rfl ?_
  refine reg_nil ?_
  refine fn_next ?_
  refine cw_seq ?_
  refine cw_reg ?_
  refine ry (y_mov rfl rfl) rfl rfl ?_
  refine ry (y_fa rfl rfl kffen1_15 rfl) rfl rfl ?_
  refine ry (y_ld rfl rfl kffen1_2 (H3.cell (i := 0) rfl rfl)) rfl rfl ?_
  refine ry (y_fa rfl rfl kffen1_16 rfl) rfl rfl ?_
  refine ry (y_ld rfl rfl kffen1_2 (H3.cell (i := 0) rfl rfl)) rfl rfl ?_
  refine ry (y_fa rfl rfl kffen1_15 rfl) rfl rfl ?_
  refine ry (y_ld rfl rfl kffen1_2 (H3.cell (i := 0) rfl rfl)) rfl rfl ?_
  refine ry (y_fa rfl rfl kffen1_16 rfl) rfl rfl ?_
  refine ry (y_ld rfl rfl kffen1_2 (H3.cell (i := 0) rfl rfl)) rfl rfl ?_
  refine ry (y_build (places := [(0, 1), (1, 1), (2, 1), (3, 1)]) (parts := [(0, _), (1, _), (2, _), (3, _)]) (vs := [(0, _), (1, _), (2, _), (3, _)]) (cs := [.int _ _, .int _ _, .int _ _, .int _ _]) rfl Try.underlying24 (by kernel_rfl) kffen1_17 rfl ⟨rfl, rfl, rfl, rfl, trivial⟩ rfl) rfl rfl ?_
  refine reg_op (op_call (fenSum f a h A cap V U x y x y _ G (R.below H3.base)) rfl kffen1_18 ⟨rfl, rfl, trivial⟩) rfl rfl ?_
  rintro _ w5 ⟨rfl, e4⟩
  have H6 := H3.ext e4
  refine ry (y_ext rfl rfl rfl) rfl rfl ?_
  refine ry (y_ext rfl rfl rfl) rfl rfl ?_
  refine ry (y_asg rfl rfl) rfl rfl ?_
  refine ry (y_asg rfl rfl) rfl rfl ?_
  refine reg_nil ?_
  refine fn_next ?_
  refine cw_ret ?_
  refine fn_retn (vs := [_, _]) rfl ⟨rfl, rfl, trivial⟩ rfl ?_
  rw [← fsumV_cell G.s]
  exact ⟨rfl, H6.base⟩

set_option maxRecDepth 100000 in
theorem fenNew_no (a h : Int) (w : World) (ha : -9223372036854775808 ≤ a ∧ a ≤ 9223372036854775807) (hh : -9223372036854775808 ≤ h ∧ h ≤ 9223372036854775807) (s : ¬ (1 ≤ a ∧ a ≤ 1024 ∧ 1 ≤ h ∧ h ≤ 1024)) :
    Ret Try.prog 15 [.int .i64 a, .int .i64 h] w (fun z w' => z = .tuple #[.pointer none, .int .i64 3] ∧ Below w.heap.size w w') := by
  have hwz := within_nsz ha hh s
  refine ret_enter Try.func15 rfl rfl rfl ?_
  have H0 := HS.start w
  refine cw_seq ?_
  refine cw_reg ?_
  refine ry (y_asg rfl rfl) rfl rfl ?_
  refine ry (y_asg rfl rfl) rfl rfl ?_
  refine reg_nil ?_
  refine fn_next ?_
  refine cw_seq ?_
  refine cw_seq ?_
  refine cw_reg ?_
  refine ry (y_build (places := [(0, 1), (1, 1), (2, 1), (3, 1)]) (parts := []) (vs := []) (cs := [.int _ _, .int _ _, .int _ _, .int _ _]) rfl Try.underlying24 (by kernel_rfl) kffen1_17 rfl trivial rfl) rfl rfl ?_
  refine ry (y_mov rfl rfl) rfl rfl ?_
  refine ry (y_mov rfl rfl) rfl rfl ?_
  refine reg_op (op_call (ret_elder (within_any 0 0 0 0 a h _)) rfl kffen1_9 ⟨rfl, rfl, rfl, trivial⟩) rfl rfl ?_
  rintro _ w2 ⟨rfl, e1⟩
  have H3 := H0.ext e1
  refine ry (y_asg rfl rfl) rfl rfl ?_
  refine reg_nil ?_
  refine fn_next ?_
  refine cw_seq ?_
  refine cw_reg ?_
  refine ry (y_mov rfl rfl) rfl rfl ?_
  refine ry (y_neq rfl rfl rfl) rfl rfl ?_
  refine reg_nil ?_
  refine fn_next ?_
  refine cw_condd rfl (fun h4 => ?_) (fun h4 => ?_)
  · skip
    refine cw_seq ?_
    refine cw_reg ?_
    refine ry (y_mov rfl rfl) rfl rfl ?_
    refine ry (y_asg rfl rfl) rfl rfl ?_
    refine ry (y_asg rfl rfl) rfl rfl ?_
    refine reg_nil ?_
    refine fn_next ?_
    refine cw_ret ?_
    refine fn_then_ret ?_
    refine fn_retn (vs := [_, _]) rfl ⟨rfl, rfl, trivial⟩ rfl ?_
    rw [hwz]
    exact ⟨rfl, H3.base⟩
  · exact absurd (Classical.not_not.1 h4) (by rw [hwz]; decide)

set_option maxRecDepth 100000 in
theorem fenNew_ok (a h : Nat) (w : World) (s : SzG a h) :
    Ret Try.prog 15 [.int .i64 (a : Int), .int .i64 (h : Int)] w (fun z w' => ∃ f A cap, z = .tuple #[.pointer (some ⟨f, 0, none⟩), .int .i64 0] ∧ HS w w' [.blk f [.int .i64 (a : Int), .int .i64 (h : Int), .slice A ((a + 1) * (h + 1)) cap] 117, .row A ((a + 1) * (h + 1)) cap (vi .i64 (List.replicate ((a + 1) * (h + 1)) 0)) 2 1]) := by
  obtain ⟨s1, s2, s3, s4⟩ := id s
  have hnn : ((a + 1) * (h + 1)) ≤ 1025 * 1025 := Nat.mul_le_mul (by omega) (by omega)
  refine ret_enter Try.func15 rfl rfl rfl ?_
  have H0 := HS.start w
  refine cw_seq ?_
  refine cw_reg ?_
  refine ry (y_asg rfl rfl) rfl rfl ?_
  refine ry (y_asg rfl rfl) rfl rfl ?_
  refine reg_nil ?_
  refine fn_next ?_
  refine cw_seq ?_
  refine cw_seq ?_
  refine cw_reg ?_
  refine ry (y_build (places := [(0, 1), (1, 1), (2, 1), (3, 1)]) (parts := []) (vs := []) (cs := [.int _ _, .int _ _, .int _ _, .int _ _]) rfl Try.underlying24 (by kernel_rfl) kffen1_17 rfl trivial rfl) rfl rfl ?_
  refine ry (y_mov rfl rfl) rfl rfl ?_
  refine ry (y_mov rfl rfl) rfl rfl ?_
  refine reg_op (op_call (ret_elder (within_any 0 0 0 0 a h _)) rfl kffen1_9 ⟨rfl, rfl, rfl, trivial⟩) rfl rfl ?_
  rintro _ w2 ⟨rfl, e1⟩
  have H3 := H0.ext e1
  refine ry (y_asg rfl rfl) rfl rfl ?_
  refine reg_nil ?_
  refine fn_next ?_
  refine cw_seq ?_
  refine cw_reg ?_
  refine ry (y_mov rfl rfl) rfl rfl ?_
  refine ry (y_neq rfl rfl rfl) rfl rfl ?_
  refine reg_nil ?_
  refine fn_next ?_
  refine cw_condd rfl (fun h4 => ?_) (fun h4 => ?_)
  · exact absurd (within_sz s) h4
  · skip
    refine cw_skip ?_
    refine fn_next ?_
    refine cw_seq ?_
    refine cw_reg ?_
    refine ry (y_mov rfl rfl) rfl rfl ?_
    refine ry (y_mov rfl rfl) rfl rfl ?_
    refine ry (y_mov rfl rfl) rfl rfl ?_
    refine ry (y_add rfl rfl rfl (show _ = ((a + 1 : Nat) : Int) from wi (by omega))) rfl rfl ?_
    refine ry (y_mov rfl rfl) rfl rfl ?_
    refine ry (y_add rfl rfl rfl (show _ = ((h + 1 : Nat) : Int) from wi (by omega))) rfl rfl ?_
    refine ry (y_mul rfl rfl rfl (show _ = ((((a + 1) * (h + 1)) : Nat) : Int) from by rw [← Int.natCast_mul]; exact wi (by omega))) rfl rfl ?_
    refine reg_op (op_make (m := ((a + 1) * (h + 1))) H3 rfl rfl rfl (rfl) (rfl) Try.underlying32 kffen1_19 (by omega) (by unfold maxLen; omega)) rfl rfl ?_
    rintro _ w6 ⟨b5, rfl, H7⟩
    refine ry (y_build (places := [(0, 1), (1, 1), (2, 1)]) (parts := [(0, _), (1, _), (2, _)]) (vs := [(0, _), (1, _), (2, _)]) (cs := [.int _ _, .int _ _, .slice _ _ _]) rfl Try.underlying117 (by kernel_rfl) kffen1_20 rfl ⟨rfl, rfl, rfl, trivial⟩ rfl) rfl rfl ?_
    refine reg_op (op_box (cs := [.int _ _, .int _ _, .slice _ _ _]) H7 rfl rfl rfl) rfl rfl ?_
    rintro _ w9 ⟨b8, rfl, H10⟩
    refine ry (y_asg rfl rfl) rfl rfl ?_
    refine ry (y_asg rfl rfl) rfl rfl ?_
    refine reg_nil ?_
    refine fn_next ?_
    refine cw_ret ?_
    refine fn_retn (vs := [_, _]) rfl ⟨rfl, rfl, trivial⟩ rfl ?_
    rw [vi_zero] at H10
    exact ⟨_, _, _, rfl, (H10.pick (m := [_, _]) [0, 1] rfl (by decide))⟩

set_option maxRecDepth 100000 in
theorem fenAdd_w (w0 : World) (l : List Ob) (f a h : Nat) (A : Option Addr) (cap : Nat) (V U : List Int) (x y d : Int) (w : World) (hw : ¬ withinC x y x y a h = 0) (G : FV a h V U) (H0 : HS w0 w (Ob.blk f [.int .i64 (a : Int), .int .i64 (h : Int), .slice A ((a + 1) * (h + 1)) cap] 117 :: Ob.row A ((a + 1) * (h + 1)) cap (vi .i64 (U)) 2 1 :: l)) :
    Ret Try.prog 18 [.pointer (some ⟨f, 0, none⟩), .agg #[.int .i64 x, .int .i64 y], .int .i64 d] w (fun z w' => ∃ U', z = .int .i64 (faddC V a h x y d) ∧ HS w0 w' (Ob.blk f [.int .i64 (a : Int), .int .i64 (h : Int), .slice A ((a + 1) * (h + 1)) cap] 117 :: Ob.row A ((a + 1) * (h + 1)) cap (vi .i64 (U')) 2 1 :: l) ∧ FV a h (faddV V a h x y d) U') := by
  obtain ⟨s1, s2, s3, s4⟩ := id G.s
  have hnn : ((a + 1) * (h + 1)) ≤ 1025 * 1025 := Nat.mul_le_mul (by omega) (by omega)
  refine ret_enter Try.func18 rfl rfl rfl ?_
  refine cw_seq ?_
  refine cw_reg ?_
  refine reg_op (op_box (cs := [.int _ _, .int _ _]) H0 rfl rfl rfl) rfl rfl ?_
  rintro _ w2 ⟨b1, rfl, H3⟩
  refine ry (y_asg rfl rfl) rfl rfl ?_
  refine reg_nil ?_
  refine fn_next ?_
  refine cw_seq ?_
  refine cw_reg ?_
  refine ry (y_mov rfl rfl) rfl rfl ?_
  refine ry (y_ldb (i := 0) (cs := [_, _]) H3 rfl rfl kffen1_21 rfl rfl) rfl rfl ?_
  refine reg_op (op_call (fenAt f a h A cap V U x y _ G ⟨H3.rdb (i := 1) rfl, H3.rd (i := 2) rfl⟩) rfl kffen1_22 ⟨rfl, rfl, trivial⟩) rfl rfl ?_
  rintro _ w5 ⟨rfl, e4⟩
  have H6 := H3.ext e4
  refine ry (y_mov rfl rfl) rfl rfl ?_
  refine ry (y_ext rfl rfl rfl) rfl rfl ?_
  refine ry (y_ext rfl rfl rfl) rfl rfl ?_
  refine ry (y_asg rfl rfl) rfl rfl ?_
  refine ry (y_asg rfl rfl) rfl rfl ?_
  refine reg_nil ?_
  refine fn_next ?_
  refine cw_seq ?_
  refine cw_block ?_
  refine cw_seq ?_
  refine cw_reg ?_
  refine ry (y_mov rfl rfl) rfl rfl ?_
  refine ry (y_neq rfl rfl rfl) rfl rfl ?_
  refine ry (y_asg rfl rfl) rfl rfl ?_
  refine reg_nil ?_
  refine fn_next ?_
  refine cw_condd rfl (fun h7 => ?_) (fun h7 => ?_)
  · skip
    refine cw_seq ?_
    refine cw_reg ?_
    refine ry (y_mov rfl rfl) rfl rfl ?_
    refine ry (y_asg rfl rfl) rfl rfl ?_
    refine reg_nil ?_
    refine fn_next ?_
    refine cw_ret ?_
    refine fn_block_ret (fn_then_ret ?_)
    refine fn_ret1 rfl rfl ?_
    rw [faddC_w hw, faddV_no (by rw [faddC_w hw]; exact hw)]
    exact ⟨U, rfl, (H6.pickT (p := [_, _, _]) (m := [_, _]) [1, 2] rfl (by decide)), G⟩
  · exact absurd (Classical.not_not.1 h7) hw

set_option maxRecDepth 100000 in
theorem fenAdd_v (w0 : World) (l : List Ob) (f a h : Nat) (A : Option Addr) (cap : Nat) (V U : List Int) (x y d : Int) (w : World) (hw : withinC x y x y a h = 0) (hd : d > 1099511627776 - gatV V a h x y ∨ d < -1099511627776 - gatV V a h x y) (G : FV a h V U) (H0 : HS w0 w (Ob.blk f [.int .i64 (a : Int), .int .i64 (h : Int), .slice A ((a + 1) * (h + 1)) cap] 117 :: Ob.row A ((a + 1) * (h + 1)) cap (vi .i64 (U)) 2 1 :: l)) :
    Ret Try.prog 18 [.pointer (some ⟨f, 0, none⟩), .agg #[.int .i64 x, .int .i64 y], .int .i64 d] w (fun z w' => ∃ U', z = .int .i64 (faddC V a h x y d) ∧ HS w0 w' (Ob.blk f [.int .i64 (a : Int), .int .i64 (h : Int), .slice A ((a + 1) * (h + 1)) cap] 117 :: Ob.row A ((a + 1) * (h + 1)) cap (vi .i64 (U')) 2 1 :: l) ∧ FV a h (faddV V a h x y d) U') := by
  obtain ⟨s1, s2, s3, s4⟩ := id G.s
  have hnn : ((a + 1) * (h + 1)) ≤ 1025 * 1025 := Nat.mul_le_mul (by omega) (by omega)
  have hgb := gatV_bd (x := x) (y := y) G.s G.len G.bd
  refine ret_enter Try.func18 rfl rfl rfl ?_
  refine cw_seq ?_
  refine cw_reg ?_
  refine reg_op (op_box (cs := [.int _ _, .int _ _]) H0 rfl rfl rfl) rfl rfl ?_
  rintro _ w2 ⟨b1, rfl, H3⟩
  refine ry (y_asg rfl rfl) rfl rfl ?_
  refine reg_nil ?_
  refine fn_next ?_
  refine cw_seq ?_
  refine cw_reg ?_
  refine ry (y_mov rfl rfl) rfl rfl ?_
  refine ry (y_ldb (i := 0) (cs := [_, _]) H3 rfl rfl kffen1_21 rfl rfl) rfl rfl ?_
  refine reg_op (op_call (fenAt f a h A cap V U x y _ G ⟨H3.rdb (i := 1) rfl, H3.rd (i := 2) rfl⟩) rfl kffen1_22 ⟨rfl, rfl, trivial⟩) rfl rfl ?_
  rintro _ w5 ⟨rfl, e4⟩
  have H6 := H3.ext e4
  refine ry (y_mov rfl rfl) rfl rfl ?_
  refine ry (y_ext rfl rfl rfl) rfl rfl ?_
  refine ry (y_ext rfl rfl rfl) rfl rfl ?_
  refine ry (y_asg rfl rfl) rfl rfl ?_
  refine ry (y_asg rfl rfl) rfl rfl ?_
  refine reg_nil ?_
  refine fn_next ?_
  refine cw_seq ?_
  refine cw_block ?_
  refine cw_seq ?_
  refine cw_reg ?_
  refine ry (y_mov rfl rfl) rfl rfl ?_
  refine ry (y_neq rfl rfl rfl) rfl rfl ?_
  refine ry (y_asg rfl rfl) rfl rfl ?_
  refine reg_nil ?_
  refine fn_next ?_
  refine cw_condd rfl (fun h7 => ?_) (fun h7 => ?_)
  · exact absurd hw h7
  · skip
    refine cw_seq ?_
    refine cw_reg ?_
    refine ry (y_mov rfl rfl) rfl rfl ?_
    refine ry (y_mov rfl rfl) rfl rfl ?_
    refine ry (y_sub rfl rfl rfl (wi (by omega))) rfl rfl ?_
    refine ry (y_gtr rfl rfl rfl) rfl rfl ?_
    refine ry (y_mov rfl rfl) rfl rfl ?_
    refine rg_splitd (d := 26) rfl (fun h8 => ?_) (fun h8 => ?_)
    · skip
      refine rg_off rfl rfl rfl rfl rfl ?_
      refine rg_off rfl rfl rfl rfl rfl ?_
      refine rg_off rfl rfl rfl rfl rfl ?_
      refine rg_off rfl rfl rfl rfl rfl ?_
      refine ry (y_pick rfl rfl rfl) rfl rfl ?_
      refine ry (y_asg rfl rfl) rfl rfl ?_
      refine reg_nil ?_
      refine fn_next ?_
      refine cw_condt rfl ?_
      refine cw_seq ?_
      refine cw_reg ?_
      refine ry (y_asg rfl rfl) rfl rfl ?_
      refine reg_nil ?_
      refine fn_next ?_
      refine cw_ret ?_
      refine fn_block_ret (fn_then_ret ?_)
      refine fn_ret1 rfl rfl ?_
      have hv : ¬ faddC V a h x y d = 0 := by rw [faddC_v hw hd]; decide
      rw [faddV_no hv, faddC_v hw hd]
      exact ⟨U, rfl, (H6.pickT (p := [_, _, _]) (m := [_, _]) [1, 2] rfl (by decide)), G⟩
    · skip
      refine rgy (y_mov rfl rfl) rfl rfl rfl rfl ?_
      refine rgy (y_mov rfl rfl) rfl rfl rfl rfl ?_
      refine rgy (y_sub rfl rfl rfl (wi (by omega))) rfl rfl rfl rfl ?_
      refine rgy (y_lss rfl rfl rfl) rfl rfl rfl rfl ?_
      refine ry (y_pick rfl rfl rfl) rfl rfl ?_
      refine ry (y_asg rfl rfl) rfl rfl ?_
      refine reg_nil ?_
      refine fn_next ?_
      refine cw_condd rfl (fun h9 => ?_) (fun h9 => ?_)
      · skip
        refine cw_seq ?_
        refine cw_reg ?_
        refine ry (y_asg rfl rfl) rfl rfl ?_
        refine reg_nil ?_
        refine fn_next ?_
        refine cw_ret ?_
        refine fn_block_ret (fn_then_ret ?_)
        refine fn_ret1 rfl rfl ?_
        have hv : ¬ faddC V a h x y d = 0 := by rw [faddC_v hw hd]; decide
        rw [faddV_no hv, faddC_v hw hd]
        exact ⟨U, rfl, (H6.pickT (p := [_, _, _]) (m := [_, _]) [1, 2] rfl (by decide)), G⟩
      · exfalso; omega

set_option maxRecDepth 100000 in
theorem fenAdd_ok (w0 : World) (l : List Ob) (f a h : Nat) (A : Option Addr) (cap : Nat) (V U : List Int) (x y d : Int) (w : World) (hw : withinC x y x y a h = 0) (hd : ¬ (d > 1099511627776 - gatV V a h x y ∨ d < -1099511627776 - gatV V a h x y)) (G : FV a h V U) (H0 : HS w0 w (Ob.blk f [.int .i64 (a : Int), .int .i64 (h : Int), .slice A ((a + 1) * (h + 1)) cap] 117 :: Ob.row A ((a + 1) * (h + 1)) cap (vi .i64 (U)) 2 1 :: l)) :
    Ret Try.prog 18 [.pointer (some ⟨f, 0, none⟩), .agg #[.int .i64 x, .int .i64 y], .int .i64 d] w (fun z w' => ∃ U', z = .int .i64 (faddC V a h x y d) ∧ HS w0 w' (Ob.blk f [.int .i64 (a : Int), .int .i64 (h : Int), .slice A ((a + 1) * (h + 1)) cap] 117 :: Ob.row A ((a + 1) * (h + 1)) cap (vi .i64 (U')) 2 1 :: l) ∧ FV a h (faddV V a h x y d) U') := by
  obtain ⟨s1, s2, s3, s4⟩ := id G.s
  have hnn : ((a + 1) * (h + 1)) ≤ 1025 * 1025 := Nat.mul_le_mul (by omega) (by omega)
  obtain ⟨x, y, _, _, rfl, rfl, _, _, _, _, _, _⟩ := within_natG G.s hw
  have hgb := gatV_bd (x := (x : Int)) (y := (y : Int)) G.s G.len G.bd
  refine ret_enter Try.func18 rfl rfl rfl ?_
  refine cw_seq ?_
  refine cw_reg ?_
  refine reg_op (op_box (cs := [.int _ _, .int _ _]) H0 rfl rfl rfl) rfl rfl ?_
  rintro _ w2 ⟨b1, rfl, H3⟩
  refine ry (y_asg rfl rfl) rfl rfl ?_
  refine reg_nil ?_
  refine fn_next ?_
  refine cw_seq ?_
  refine cw_reg ?_
  refine ry (y_mov rfl rfl) rfl rfl ?_
  refine ry (y_ldb (i := 0) (cs := [_, _]) H3 rfl rfl kffen1_21 rfl rfl) rfl rfl ?_
  refine reg_op (op_call (fenAt f a h A cap V U x y _ G ⟨H3.rdb (i := 1) rfl, H3.rd (i := 2) rfl⟩) rfl kffen1_22 ⟨rfl, rfl, trivial⟩) rfl rfl ?_
  rintro _ w5 ⟨rfl, e4⟩
  have H6 := H3.ext e4
  refine ry (y_mov rfl rfl) rfl rfl ?_
  refine ry (y_ext rfl rfl rfl) rfl rfl ?_
  refine ry (y_ext rfl rfl rfl) rfl rfl ?_
  refine ry (y_asg rfl rfl) rfl rfl ?_
  refine ry (y_asg rfl rfl) rfl rfl ?_
  refine reg_nil ?_
  refine fn_next ?_
  refine cw_seq ?_
  refine cw_block ?_
  refine cw_seq ?_
  refine cw_reg ?_
  refine ry (y_mov rfl rfl) rfl rfl ?_
  refine ry (y_neq rfl rfl rfl) rfl rfl ?_
  refine ry (y_asg rfl rfl) rfl rfl ?_
  refine reg_nil ?_
  refine fn_next ?_
  refine cw_condd rfl (fun h7 => ?_) (fun h7 => ?_)
  · exact absurd hw h7
  · skip
    refine cw_seq ?_
    refine cw_reg ?_
    refine ry (y_mov rfl rfl) rfl rfl ?_
    refine ry (y_mov rfl rfl) rfl rfl ?_
    refine ry (y_sub rfl rfl rfl (wi (by omega))) rfl rfl ?_
    refine ry (y_gtr rfl rfl rfl) rfl rfl ?_
    refine ry (y_mov rfl rfl) rfl rfl ?_
    refine rg_splitd (d := 26) rfl (fun h8 => ?_) (fun h8 => ?_)
    · exfalso; omega
    · skip
      refine rgy (y_mov rfl rfl) rfl rfl rfl rfl ?_
      refine rgy (y_mov rfl rfl) rfl rfl rfl rfl ?_
      refine rgy (y_sub rfl rfl rfl (wi (by omega))) rfl rfl rfl rfl ?_
      refine rgy (y_lss rfl rfl rfl) rfl rfl rfl rfl ?_
      refine ry (y_pick rfl rfl rfl) rfl rfl ?_
      refine ry (y_asg rfl rfl) rfl rfl ?_
      refine reg_nil ?_
      refine fn_next ?_
      refine cw_condd rfl (fun h9 => ?_) (fun h9 => ?_)
      · exfalso; omega
      · skip
        refine cw_skip ?_
        refine fn_block ?_
        refine fn_next ?_
        refine cw_seq ?_
        refine cw_seq ?_
        refine cw_reg ?_
        refine ry (y_fa rfl rfl kffen1_16 rfl) rfl rfl ?_
        refine ry (y_ld rfl rfl kffen1_2 (H6.cell (i := 0) rfl rfl)) rfl rfl ?_
        refine ry (y_add rfl rfl rfl (wi (by omega))) rfl rfl ?_
        refine ry (y_asg rfl rfl) rfl rfl ?_
        refine reg_nil ?_
        refine fn_next ?_
        refine cw_block ?_
        refine cw_loopJ [9, 10, 35, 36, 37, 38, 39, 40, 41, 42, 43, 44, 45, 46, 47, 48, 49, 50, 51, 52, 53, 54, 55, 56, 57, 58, 59, 60, 61, 62, 63, 64, 65, 66, 67, 68, 69, 70, 71, 72, 73, 74] (fun M wl ml => ∃ (Yk : Nat) (Z : List Int), M = [(9, .int .i64 (Yk : Int))] ∧ HS w0 wl (Ob.blk f [.int .i64 (a : Int), .int .i64 (h : Int), .slice A ((a + 1) * (h + 1)) cap] 117 :: Ob.row A ((a + 1) * (h + 1)) cap (vi .i64 (Z)) 2 1 :: Ob.blk b1 [.int .i64 (x : Int), .int .i64 (y : Int)] 26 :: l) ∧ (y + 1 ≤ Yk ∧ Yk ≤ 2048) ∧ (Sub (y + 1) Yk) ∧ (FenJ a h V Z d (pO (x + 1) (y + 1) Yk)) ∧ ml = 3000 - Yk) ⟨y + 1, U, rfl, (H6.pickT (p := [_, _, _]) (m := [_, _, _]) [1, 2, 0] rfl (by decide)), ⟨by omega, by omega⟩, Sub.refl, FenJ.start G.F, rfl⟩ ⟨rfl, trivial⟩ ?_
        rintro M w10 m12 ⟨Yk, Z, rfl, H11, hp0, hp1, hp2, rfl⟩
        refine cw_seq ?_
        refine cw_seq ?_
        refine cw_reg ?_
        refine ry (y_mov rfl rfl) rfl rfl ?_
        refine ry (y_mov rfl rfl) rfl rfl ?_
        refine ry (y_nilck rfl rfl) rfl rfl ?_
        refine ry (y_fa rfl rfl kffen1_3 rfl) rfl rfl ?_
        refine ry (y_ld rfl rfl kffen1_2 (H11.cell (i := 0) rfl rfl)) rfl rfl ?_
        refine ry (y_leq rfl rfl rfl) rfl rfl ?_
        refine reg_nil ?_
        refine fn_next ?_
        refine cw_condd rfl (fun h13 => ?_) (fun h13 => ?_)
        · skip
          have hY0 : 0 < Yk := by omega
          have hly := lb_bd hY0 (by omega)
          refine cw_skip ?_
          refine fn_next ?_
          refine cw_seq ?_
          refine cw_block ?_
          refine cw_seq ?_
          refine cw_reg ?_
          refine ry (y_fa rfl rfl kffen1_15 rfl) rfl rfl ?_
          refine ry (y_ld rfl rfl kffen1_2 (H11.cell (i := 2) rfl rfl)) rfl rfl ?_
          refine ry (y_add rfl rfl rfl (wi (by omega))) rfl rfl ?_
          refine ry (y_asg rfl rfl) rfl rfl ?_
          refine reg_nil ?_
          refine fn_next ?_
          refine cw_block ?_
          refine cw_loopJ [10, 50, 51, 52, 53, 54, 55, 56, 57, 58, 59, 60, 61, 62, 63, 64, 65, 66, 67, 68, 69, 70, 71, 72, 73, 74] (fun M wl ml => ∃ (Xx : Nat) (Z2 : List Int), M = [(10, .int .i64 (Xx : Int))] ∧ HS w0 wl (Ob.blk f [.int .i64 (a : Int), .int .i64 (h : Int), .slice A ((a + 1) * (h + 1)) cap] 117 :: Ob.row A ((a + 1) * (h + 1)) cap (vi .i64 (Z2)) 2 1 :: Ob.blk b1 [.int .i64 (x : Int), .int .i64 (y : Int)] 26 :: l) ∧ (x + 1 ≤ Xx ∧ Xx ≤ 2048) ∧ (Sub (x + 1) Xx) ∧ (FenJ a h V Z2 d (pI (x + 1) (y + 1) Yk Xx)) ∧ ml = 3000 - Xx) ⟨x + 1, Z, rfl, H11, ⟨by omega, by omega⟩, Sub.refl, hp2.row, rfl⟩ ⟨rfl, trivial⟩ ?_
          rintro M w14 m16 ⟨Xx, Z2, rfl, H15, hp4, hp5, hp6, rfl⟩
          refine cw_seq ?_
          refine cw_seq ?_
          refine cw_reg ?_
          refine ry (y_mov rfl rfl) rfl rfl ?_
          refine ry (y_mov rfl rfl) rfl rfl ?_
          refine ry (y_nilck rfl rfl) rfl rfl ?_
          refine ry (y_fa rfl rfl kffen1_1 rfl) rfl rfl ?_
          refine ry (y_ld rfl rfl kffen1_2 (H15.cell (i := 0) rfl rfl)) rfl rfl ?_
          refine ry (y_leq rfl rfl rfl) rfl rfl ?_
          refine reg_nil ?_
          refine fn_next ?_
          refine cw_condd rfl (fun h17 => ?_) (fun h17 => ?_)
          · skip
            have hX0 : 0 < Xx := by omega
            have hlx := lb_bd hX0 (by omega)
            obtain ⟨hval, hpt⟩ := hp6.put s2 s4 (by omega) (by omega) (by omega) (by omega) hp5
            have hpl := pl_lt (a := a) (h := h) (X := Xx) (Y := Yk) (by omega) (by omega)
            have hgi := vi_get (k := .i64) (zs := Z2) (i := pl a Xx Yk) (by rw [hp6.1]; exact hpl)
            rw [hval] at hgi
            have hAd := H15.addr (i := 1) rfl (Nat.mul_pos (Nat.succ_pos a) (Nat.succ_pos h))
            have c4 := p2_bd (x := Xx) (y := Yk) G.bd G.len (by omega) (by omega) G.m
            have c5 := p2_bd (x := Xx) (y := Yk - lb Yk) G.bd G.len (by omega) (by omega) G.m
            have c6 := p2_bd (x := Xx - lb Xx) (y := Yk) G.bd G.len (by omega) (by omega) G.m
            have c7 := p2_bd (x := Xx - lb Xx) (y := Yk - lb Yk) G.bd G.len (by omega) (by omega) G.m
            have htb : -4398046511104000 ≤ tS V a Xx Yk ∧ tS V a Xx Yk ≤ 4398046511104000 := by unfold tS rS; omega
            refine cw_skip ?_
            refine fn_next ?_
            refine cw_seq ?_
            refine cw_block ?_
            refine cw_draw H15 [0, 1, 2, 3, 4, 5, 6, 7, 8, 10] [9, 11, 12, 13] (fun X HX => (HX.pickT (p := [_, _, _]) (m := [_, _]) [0, 2] rfl (by decide))) (by kernel_rfl) (by kernel_rfl) (by rfl) ?_
            simp only [pick, List.getElem?_cons_succ, List.getElem?_cons_zero]
            refine hk_y (fun Y HY => y_mov rfl rfl) rfl rfl ?_
            refine hk_y (fun Y HY => y_nilck rfl rfl) rfl rfl ?_
            refine hk_y (fun Y HY => y_fa rfl rfl kffen1_4 rfl) rfl rfl ?_
            refine hk_y (fun Y HY => y_ld rfl rfl kffen1_5 (HY.cell (i := 0) rfl rfl)) rfl rfl ?_
            refine hk_y (fun Y HY => y_mov rfl rfl) rfl rfl ?_
            refine hk_y (fun Y HY => y_mov rfl rfl) rfl rfl ?_
            refine hk_y (fun Y HY => y_mov rfl rfl) rfl rfl ?_
            refine hk_q (qy_call (fun Y HY => fenAt_ f a h _ Xx Yk _ (HY.rdb (i := 0) rfl) s2 s4 (by omega) (by omega)) rfl kffen1_6 ⟨rfl, rfl, rfl, trivial⟩) rfl rfl ?_
            refine hk_y (fun Y HY => y_iae (hAd) rfl rfl rfl kffen1_7 (rfl) (hpl) (Nat.mul_one _)) rfl rfl ?_
            refine hk_y (fun Y HY => y_mov rfl rfl) rfl rfl ?_
            refine hk_nil ?_
            intro w18 H19
            refine tv_op (Yd.op (y_ldr (H19.rd (i := 1) rfl) rfl rfl kffen1_2 (hgi))) rfl rfl ?_
            rintro _ _ ⟨rfl, rfl⟩
            refine ⟨(H19.pickT (p := [_, _, _]) (m := [_, _]) [0, 2] rfl (by decide)), fun w20 e22 => ?_⟩
            have H21 := H19.ext e22
            refine tv_op (Yd.op (y_add rfl rfl rfl (wi (by omega)))) rfl rfl ?_
            rintro _ _ ⟨rfl, rfl⟩
            refine ⟨(H21.pickT (p := [_, _, _]) (m := [_, _]) [0, 2] rfl (by decide)), fun w23 e25 => ?_⟩
            have H24 := H21.ext e25
            refine tv_op (Yd.op (y_iae (hAd) rfl rfl rfl kffen1_7 (rfl) (hpl) (Nat.mul_one _))) rfl rfl ?_
            rintro _ _ ⟨rfl, rfl⟩
            refine ⟨(H24.pickT (p := [_, _, _]) (m := [_, _]) [0, 2] rfl (by decide)), fun w26 e28 => ?_⟩
            have H27 := H24.ext e28
            refine tv_op (op_ste (i := 1) (vs := [.int _ _]) H27 rfl rfl rfl rfl rfl kffen1_23 rfl (by rw [vi_len, hp6.1]; exact hpl) rfl rfl) rfl rfl ?_
            rintro _ w29 H30
            refine ⟨(H30.pickT (p := [_, _, _]) (m := [_, _]) [0, 2] rfl (by decide)), fun w31 e33 => ?_⟩
            have H32 := H30.ext e33
            refine tv_nil ?_
            refine fn_block ?_
            refine fn_next ?_
            refine cw_reg ?_
            refine ry (y_mov rfl rfl) rfl rfl ?_
            refine ry (y_mov rfl rfl) rfl rfl ?_
            refine ry (y_mov rfl rfl) rfl rfl ?_
            refine ry (y_neg rfl rfl (show _ = -(Xx : Int) from (wi (by omega)).trans (by omega))) rfl rfl ?_
            refine ry (y_and rfl rfl rfl (bits_up Xx (by omega))) rfl rfl ?_
            refine ry (y_add rfl rfl rfl (wi (by omega))) rfl rfl ?_
            refine ry (y_asg rfl rfl) rfl rfl ?_
            refine reg_nil ?_
            rw [vi_set] at H32
            refine fn_roundJ ⟨Xx + lb Xx, _, rfl, H32, ⟨by omega, by omega⟩, hp5.step (by omega) (by omega), hpt, rfl⟩ ⟨rfl, trivial⟩ (by omega) (by repeat (first | exact kp_refl | refine kp_app rfl rfl ?_ | refine kp_cons rfl ?_)) rfl
          · skip
            refine cw_exit ?_
            refine fn_then_exit (fn_then_exit (fn_block_exit ?_))
            refine fn_block ?_
            refine fn_next ?_
            refine cw_reg ?_
            refine ry (y_mov rfl rfl) rfl rfl ?_
            refine ry (y_mov rfl rfl) rfl rfl ?_
            refine ry (y_mov rfl rfl) rfl rfl ?_
            refine ry (y_neg rfl rfl (show _ = -(Yk : Int) from (wi (by omega)).trans (by omega))) rfl rfl ?_
            refine ry (y_and rfl rfl rfl (bits_up Yk (by omega))) rfl rfl ?_
            refine ry (y_add rfl rfl rfl (wi (by omega))) rfl rfl ?_
            refine ry (y_asg rfl rfl) rfl rfl ?_
            refine reg_nil ?_
            refine fn_roundJ ⟨Yk + lb Yk, _, rfl, H15, ⟨by omega, by omega⟩, hp1.step (by omega) (by omega), hp6.rowEnd s4 (by omega) (by omega) (by omega) hp1, rfl⟩ ⟨rfl, trivial⟩ (by omega) (by repeat (first | exact kp_refl | refine kp_app rfl rfl ?_ | refine kp_cons rfl ?_)) rfl
        · skip
          refine cw_exit ?_
          refine fn_then_exit (fn_then_exit (fn_block_exit ?_))
          refine fn_next ?_
          refine cw_seq ?_
          refine cw_reg ?_
          refine ry (y_asg rfl rfl) rfl rfl ?_
          refine reg_nil ?_
          refine fn_next ?_
          refine cw_ret ?_
          refine fn_ret1 rfl rfl ?_
          have hc := faddC_ok hw hd
          rw [hc, faddV_ok hc]
          refine ⟨Z, rfl, (H11.pickT (p := [_, _, _]) (m := [_, _]) [0, 1] rfl (by decide)), G.s, G.m, by rw [addV_len]; exact G.len, ?_, hp2.done G.len (by omega) (by omega) (by omega)⟩
          have := faddV_bd (x := (x : Int)) (y := (y : Int)) (d := d) G.s G.len G.bd
          rw [faddV_ok hc] at this
          exact this

theorem fenAdd (w0 : World) (l : List Ob) (f a h : Nat) (A : Option Addr) (cap : Nat) (V U : List Int) (x y d : Int) (w : World) (G : FV a h V U) (H0 : HS w0 w (Ob.blk f [.int .i64 (a : Int), .int .i64 (h : Int), .slice A ((a + 1) * (h + 1)) cap] 117 :: Ob.row A ((a + 1) * (h + 1)) cap (vi .i64 (U)) 2 1 :: l)) : Ret Try.prog 18 [.pointer (some ⟨f, 0, none⟩), .agg #[.int .i64 x, .int .i64 y], .int .i64 d] w (fun z w' => ∃ U', z = .int .i64 (faddC V a h x y d) ∧ HS w0 w' (Ob.blk f [.int .i64 (a : Int), .int .i64 (h : Int), .slice A ((a + 1) * (h + 1)) cap] 117 :: Ob.row A ((a + 1) * (h + 1)) cap (vi .i64 (U')) 2 1 :: l) ∧ FV a h (faddV V a h x y d) U') := by
  by_cases hw : withinC x y x y a h = 0
  · by_cases hd : d > 1099511627776 - gatV V a h x y ∨ d < -1099511627776 - gatV V a h x y
    · exact fenAdd_v w0 l f a h A cap V U x y d w hw hd G H0
    · exact fenAdd_ok w0 l f a h A cap V U x y d w hw hd G H0
  · exact fenAdd_w w0 l f a h A cap V U x y d w hw G H0

set_option maxRecDepth 100000 in
theorem fenNil_Size  (w : World) :
    Ret Try.prog 23 [.pointer none] w (fun v w' => v = .tuple #[.int .i64 0, .int .i64 0] ∧ Below w.heap.size w w') := by
  refine ret_enter Try.func23 rfl rfl rfl ?_
  have H0 := HS.start w
  refine cw_seq ?_
  refine cw_reg ?_
  refine ry (y_asg rfl rfl) rfl rfl ?_
  refine ry (y_asg rfl rfl) rfl rfl ?_
  refine reg_nil ?_
  refine fn_next ?_
  refine cw_seq ?_
  refine cw_seq ?_
  refine cw_reg ?_
  refine ry (y_mov rfl rfl) rfl rfl ?_
  refine ry (y_peqlnil rfl Try.underlying28 rfl rfl) rfl rfl ?_
  refine reg_nil ?_
  refine fn_next ?_
  refine cw_condt rfl ?_
  refine cw_seq ?_
  refine cw_reg ?_
  refine ry (y_asg rfl rfl) rfl rfl ?_
  refine ry (y_asg rfl rfl) rfl rfl ?_
  refine reg_nil ?_
  refine fn_next ?_
  refine cw_ret ?_
  refine fn_then_ret ?_
  refine fn_retn (vs := [_, _]) rfl ⟨rfl, rfl, trivial⟩ rfl ?_
  exact ⟨rfl, H0.base⟩

set_option maxRecDepth 100000 in
theorem fenNil_Sum (x0 y0 x1 y1 : Int) (w : World) :
    Ret Try.prog 19 [.pointer none, .agg #[.int .i64 x0, .int .i64 y0, .int .i64 x1, .int .i64 y1]] w (fun v w' => v = .tuple #[.int .i64 0, .int .i64 1] ∧ Below w.heap.size w w') := by
  refine ret_enter Try.func19 rfl rfl rfl ?_
  have H0 := HS.start w
  refine cw_seq ?_
  refine cw_reg ?_
  refine reg_op (op_box (cs := [.int _ _, .int _ _, .int _ _, .int _ _]) H0 rfl rfl rfl) rfl rfl ?_
  rintro _ w2 ⟨b1, rfl, H3⟩
  refine ry (y_asg rfl rfl) rfl rfl ?_
  refine ry (y_asg rfl rfl) rfl rfl ?_
  refine reg_nil ?_
  refine fn_next ?_
  refine cw_seq ?_
  refine cw_seq ?_
  refine cw_reg ?_
  refine ry (y_mov rfl rfl) rfl rfl ?_
  refine ry (y_peqlnil rfl Try.underlying28 rfl rfl) rfl rfl ?_
  refine reg_nil ?_
  refine fn_next ?_
  refine cw_condt rfl ?_
  refine cw_seq ?_
  refine cw_reg ?_
  refine ry (y_asg rfl rfl) rfl rfl ?_
  refine ry (y_asg rfl rfl) rfl rfl ?_
  refine reg_nil ?_
  refine fn_next ?_
  refine cw_ret ?_
  refine fn_then_ret ?_
  refine fn_retn (vs := [_, _]) rfl ⟨rfl, rfl, trivial⟩ rfl ?_
  exact ⟨rfl, H3.base⟩

set_option maxRecDepth 100000 in
theorem fenNil_At (x y : Int) (w : World) :
    Ret Try.prog 21 [.pointer none, .agg #[.int .i64 x, .int .i64 y]] w (fun v w' => v = .tuple #[.int .i64 0, .int .i64 1] ∧ Below w.heap.size w w') := by
  refine ret_enter Try.func21 rfl rfl rfl ?_
  have H0 := HS.start w
  refine cw_seq ?_
  refine cw_reg ?_
  refine reg_op (op_box (cs := [.int _ _, .int _ _]) H0 rfl rfl rfl) rfl rfl ?_
  rintro _ w2 ⟨b1, rfl, H3⟩
  refine ry (y_asg rfl rfl) rfl rfl ?_
  refine ry (y_asg rfl rfl) rfl rfl ?_
  refine reg_nil ?_
  refine fn_next ?_
  refine cw_seq ?_
  refine cw_reg ?_
  refine ry (y_mov rfl rfl) rfl rfl ?_
  refine ry (y_fa rfl rfl kffen1_15 rfl) rfl rfl ?_
  refine ry (y_ld rfl rfl kffen1_2 (H3.cell (i := 0) rfl rfl)) rfl rfl ?_
  refine ry (y_fa rfl rfl kffen1_16 rfl) rfl rfl ?_
  refine ry (y_ld rfl rfl kffen1_2 (H3.cell (i := 0) rfl rfl)) rfl rfl ?_
  refine ry (y_fa rfl rfl kffen1_15 rfl) rfl rfl ?_
  refine ry (y_ld rfl rfl kffen1_2 (H3.cell (i := 0) rfl rfl)) rfl rfl ?_
  refine ry (y_fa rfl rfl kffen1_16 rfl) rfl rfl ?_
  refine ry (y_ld rfl rfl kffen1_2 (H3.cell (i := 0) rfl rfl)) rfl rfl ?_
  refine ry (y_build (places := [(0, 1), (1, 1), (2, 1), (3, 1)]) (parts := [(0, _), (1, _), (2, _), (3, _)]) (vs := [(0, _), (1, _), (2, _), (3, _)]) (cs := [.int _ _, .int _ _, .int _ _, .int _ _]) rfl Try.underlying24 (by kernel_rfl) kffen1_17 rfl ⟨rfl, rfl, rfl, rfl, trivial⟩ rfl) rfl rfl ?_
  refine reg_op (op_call (fenNil_Sum _ _ _ _ _) rfl kffen1_18 ⟨rfl, rfl, trivial⟩) rfl rfl ?_
  rintro _ w5 ⟨rfl, e4⟩
  have H6 := H3.ext e4
  refine ry (y_ext rfl rfl rfl) rfl rfl ?_
  refine ry (y_ext rfl rfl rfl) rfl rfl ?_
  refine ry (y_asg rfl rfl) rfl rfl ?_
  refine ry (y_asg rfl rfl) rfl rfl ?_
  refine reg_nil ?_
  refine fn_next ?_
  refine cw_ret ?_
  refine fn_retn (vs := [_, _]) rfl ⟨rfl, rfl, trivial⟩ rfl ?_
  exact ⟨rfl, H6.base⟩

set_option maxRecDepth 100000 in
theorem fenNil_Add (x y d : Int) (w : World) :
    Ret Try.prog 18 [.pointer none, .agg #[.int .i64 x, .int .i64 y], .int .i64 d] w (fun v w' => v = .int .i64 1 ∧ Below w.heap.size w w') := by
  refine ret_enter Try.func18 rfl rfl rfl ?_
  have H0 := HS.start w
  refine cw_seq ?_
  refine cw_reg ?_
  refine reg_op (op_box (cs := [.int _ _, .int _ _]) H0 rfl rfl rfl) rfl rfl ?_
  rintro _ w2 ⟨b1, rfl, H3⟩
  refine ry (y_asg rfl rfl) rfl rfl ?_
  refine reg_nil ?_
  refine fn_next ?_
  refine cw_seq ?_
  refine cw_reg ?_
  refine ry (y_mov rfl rfl) rfl rfl ?_
  refine ry (y_ldb (i := 0) (cs := [_, _]) H3 rfl rfl kffen1_21 rfl rfl) rfl rfl ?_
  refine reg_op (op_call (fenNil_At _ _ _) rfl kffen1_22 ⟨rfl, rfl, trivial⟩) rfl rfl ?_
  rintro _ w5 ⟨rfl, e4⟩
  have H6 := H3.ext e4
  refine ry (y_mov rfl rfl) rfl rfl ?_
  refine ry (y_ext rfl rfl rfl) rfl rfl ?_
  refine ry (y_ext rfl rfl rfl) rfl rfl ?_
  refine ry (y_asg rfl rfl) rfl rfl ?_
  refine ry (y_asg rfl rfl) rfl rfl ?_
  refine reg_nil ?_
  refine fn_next ?_
  refine cw_seq ?_
  refine cw_block ?_
  refine cw_seq ?_
  refine cw_reg ?_
  refine ry (y_mov rfl rfl) rfl rfl ?_
  refine ry (y_neq rfl rfl rfl) rfl rfl ?_
  refine ry (y_asg rfl rfl) rfl rfl ?_
  refine reg_nil ?_
  refine fn_next ?_
  refine cw_condd rfl (fun h7 => ?_) (fun h7 => ?_)
  · skip
    refine cw_seq ?_
    refine cw_reg ?_
    refine ry (y_mov rfl rfl) rfl rfl ?_
    refine ry (y_asg rfl rfl) rfl rfl ?_
    refine reg_nil ?_
    refine fn_next ?_
    refine cw_ret ?_
    refine fn_block_ret (fn_then_ret ?_)
    refine fn_ret1 rfl rfl ?_
    exact ⟨rfl, H6.base⟩
  · exact absurd (Classical.not_not.1 h7) (by decide)

set_option maxRecDepth 100000 in
theorem fenNil_Of  (w : World) :
    Ret Try.prog 24 [.pointer none] w (fun v w' => v = .tuple #[.pointer none, .int .i64 1] ∧ Below w.heap.size w w') := by
  refine ret_enter Try.func24 rfl rfl rfl ?_
  have H0 := HS.start w
  refine cw_seq ?_
  refine cw_reg ?_
  refine ry (y_asg rfl rfl) rfl rfl ?_
  refine ry (y_asg rfl rfl) rfl rfl ?_
  refine reg_nil ?_
  refine fn_next ?_
  refine cw_seq ?_
  refine cw_seq ?_
  refine cw_reg ?_
  refine ry (y_mov rfl rfl) rfl rfl ?_
  refine ry (y_peqlnil rfl Try.underlying74 rfl rfl) rfl rfl ?_
  refine reg_nil ?_
  refine fn_next ?_
  refine cw_condt rfl ?_
  refine cw_seq ?_
  refine cw_reg ?_
  refine ry (y_asg rfl rfl) rfl rfl ?_
  refine ry (y_asg rfl rfl) rfl rfl ?_
  refine reg_nil ?_
  refine fn_next ?_
  refine cw_ret ?_
  refine fn_then_ret ?_
  refine fn_retn (vs := [_, _]) rfl ⟨rfl, rfl, trivial⟩ rfl ?_
  exact ⟨rfl, H0.base⟩

end Go.Proofs.Ytkphmcaoioaglaa
