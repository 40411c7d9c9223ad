/- Layer 42: the reference. -/
import Derived.Test.YtbhmkpnihgjlnaaPlain42b
set_option linter.unusedVariables false
set_option linter.unusedSimpArgs false
namespace Go.Proofs.Ytbhmkpnihgjlnaa
open Go Go.RowKit
theorem kfturn3_1 : (Try.prog.info? 25).bind (fun i => i.zero.map Value.cells) = some (List.toArray [(.int .i64 0), (.int .i64 0), (.slice none 0 0)]) := by kernel_rfl
theorem kfturn3_2 : fldB Try.prog 25 1 1 = true := by kernel_rfl
theorem kfturn3_3 : oneB Try.prog 2 = true := by kernel_rfl
theorem kfturn3_4 : fldB Try.prog 25 0 0 = true := by kernel_rfl
theorem kfturn3_5 : szB Try.prog 25 3 = true := by kernel_rfl
theorem kfturn3_6 : fldB Try.prog 25 2 2 = true := by kernel_rfl
theorem kfturn3_7 : oneB Try.prog 22 = true := by kernel_rfl
theorem kfturn3_8 : elB Try.prog 22 1 = true := by kernel_rfl
theorem kfturn3_9 : (Try.prog.info? 2).map (fun i => (i.size, i.zero.map Value.cells)) = some (1, some (List.toArray [(.int .i64 0)])) := by kernel_rfl
theorem kfturn3_10 : (Try.prog.info? 2).map (fun i => (i.zero.map (·.cells.toList), i.size, i.bytes)) = some (some [(.int .i64 0)], 1, 8) := by kernel_rfl
theorem kfturn3_11 : szB Try.prog 22 1 = true := by kernel_rfl
theorem kfturn3_12 : aggB Try.prog 25 3 = true := by kernel_rfl

set_option maxRecDepth 100000 in
theorem mSwap (a h : Nat) (A : Option Addr) (cap : Nat) (V : List Int) (w : World) (s : SzG a h) (hr : Rd w A (vi .i64 V)) (hl : V.length = a * h) :
    Ret Try.prog 44 [.agg #[.int .i64 (a : Int), .int .i64 (h : Int), .slice A (a * h) cap]] w (fun z w' => ∃ A' cap', z = .agg #[.int .i64 (h : Int), .int .i64 (a : Int), .slice A' (h * a) cap'] ∧ HS w w' [.row A' (h * a) cap' (vi .i64 (swV V a h)) 2 1]) := by
  obtain ⟨s1, s2, s3, s4⟩ := id s
  have hm := s.mul
  refine ret_enter Try.func44 rfl rfl rfl ?_
  have H0 := HS.start w
  refine cw_seq ?_
  refine cw_reg ?_
  refine reg_op (op_box (cs := [.int _ _, .int _ _, .slice _ _ _]) H0 rfl rfl rfl) rfl rfl ?_
  rintro _ w2 ⟨b1, rfl, H3⟩
  refine reg_op (op_alloc H3 rfl kfturn3_1) rfl rfl ?_
  rintro _ w5 ⟨b4, rfl, H6⟩
  refine reg_nil ?_
  refine fn_next ?_
  refine cw_seq ?_
  refine cw_reg ?_
  refine ry (y_fa rfl rfl kfturn3_2 rfl) rfl rfl ?_
  refine ry (y_ld rfl rfl kfturn3_3 (H6.cell (i := 1) rfl rfl)) rfl rfl ?_
  refine ry (y_fa rfl rfl kfturn3_4 rfl) rfl rfl ?_
  refine ry (y_ld rfl rfl kfturn3_3 (H6.cell (i := 1) rfl rfl)) rfl rfl ?_
  refine ry (y_build (places := [(0, 1), (1, 1), (2, 1)]) (parts := [(0, _), (1, _)]) (vs := [(0, _), (1, _)]) (cs := [.int _ _, .int _ _, .slice _ _ _]) rfl Try.underlying25 (by kernel_rfl) kfturn3_1 rfl ⟨rfl, rfl, trivial⟩ rfl) rfl rfl ?_
  refine reg_op (op_alloc H6 rfl kfturn3_1) rfl rfl ?_
  rintro _ w8 ⟨b7, rfl, H9⟩
  refine reg_op (op_st (i := 0) (vs := [.int _ _, .int _ _, .slice _ _ _]) H9 rfl rfl rfl rfl rfl kfturn3_5 rfl rfl rfl) rfl rfl ?_
  rintro _ w10 H11
  refine reg_nil ?_
  refine fn_next ?_
  refine cw_seq ?_
  refine cw_seq ?_
  refine cw_reg ?_
  refine ry (y_asg rfl rfl) rfl rfl ?_
  refine reg_nil ?_
  refine fn_next ?_
  refine cw_block ?_
  have Hn12 := H11.nilrow 2 1
  have hE13 : HS w w10 [Ob.row none (0 * h) 0 (vi .i64 (mN (V) a h (fun _ y => y) (fun x _ => x) (0 * h))) 2 1, Ob.blk b7 [.int .i64 (h : Int), .int .i64 (a : Int), .slice none (0 * h) 0] 25, Ob.blk b1 [.int .i64 (a : Int), .int .i64 (h : Int), .slice A (a * h) cap] 25, Ob.blk b4 [.int .i64 0, .int .i64 0, .slice none 0 0] 25] := by rw [Nat.zero_mul]; exact (Hn12.pick (m := [_, _, _, _]) [0, 1, 3, 2] rfl (by decide))
  refine cw_loopJ [4, 5, 11, 12, 13, 14, 15, 16, 17, 18, 19, 20, 21, 22, 23, 24, 25, 26, 27, 28, 29, 30, 31, 32, 33, 34, 35, 36, 37] (fun M wl ml => ∃ (y : Nat) (A1 : Option Addr) (c1 : Nat), M = [(4, .int .i64 (y : Int))] ∧ HS w wl [Ob.row A1 (y * h) c1 (vi .i64 (mN (V) a h (fun _ y => y) (fun x _ => x) (y * h))) 2 1, Ob.blk b7 [.int .i64 (h : Int), .int .i64 (a : Int), .slice A1 (y * h) c1] 25, Ob.blk b1 [.int .i64 (a : Int), .int .i64 (h : Int), .slice A (a * h) cap] 25, Ob.blk b4 [.int .i64 0, .int .i64 0, .slice none 0 0] 25] ∧ (y ≤ a) ∧ ml = a - y) ⟨0, _, _, rfl, hE13, Nat.zero_le _, rfl⟩ ⟨rfl, trivial⟩ ?_
  rintro M w14 m16 ⟨y, A1, c1, rfl, H15, hy0, rfl⟩
  refine cw_seq ?_
  refine cw_seq ?_
  refine cw_reg ?_
  refine ry (y_mov rfl rfl) rfl rfl ?_
  refine ry (y_fa rfl rfl kfturn3_4 rfl) rfl rfl ?_
  refine ry (y_ld rfl rfl kfturn3_3 (H15.cell (i := 2) rfl rfl)) rfl rfl ?_
  refine ry (y_lss rfl rfl rfl) rfl rfl ?_
  refine reg_nil ?_
  refine fn_next ?_
  refine cw_condd rfl (fun h17 => ?_) (fun h17 => ?_)
  · skip
    have hy : y < a := by omega
    refine cw_skip ?_
    refine fn_next ?_
    refine cw_seq ?_
    refine cw_block ?_
    refine cw_seq ?_
    refine cw_reg ?_
    refine ry (y_asg rfl rfl) rfl rfl ?_
    refine reg_nil ?_
    refine fn_next ?_
    refine cw_block ?_
    refine cw_loopJ [5, 17, 18, 19, 20, 21, 22, 23, 24, 25, 26, 27, 28, 29, 30, 31, 32, 33, 34, 35, 36, 37] (fun M wl ml => ∃ (x : Nat) (A2 : Option Addr) (c2 : Nat), M = [(5, .int .i64 ((x : Int)))] ∧ HS w wl [Ob.row A2 (y * h + x) c2 (vi .i64 (mN (V) a h (fun _ y => y) (fun x _ => x) (y * h + x))) 2 1, Ob.blk b7 [.int .i64 (h : Int), .int .i64 (a : Int), .slice A2 (y * h + x) c2] 25, Ob.blk b1 [.int .i64 (a : Int), .int .i64 (h : Int), .slice A (a * h) cap] 25, Ob.blk b4 [.int .i64 0, .int .i64 0, .slice none 0 0] 25] ∧ (x ≤ h) ∧ ml = h - x) ⟨0, _, _, rfl, H15, Nat.zero_le _, rfl⟩ ⟨si (by omega), trivial⟩ ?_
    rintro M w18 m20 ⟨x, A2, c2, rfl, H19, hx0, rfl⟩
    refine cw_seq ?_
    refine cw_seq ?_
    refine cw_reg ?_
    refine ry (y_mov rfl rfl) rfl rfl ?_
    refine ry (y_fa rfl rfl kfturn3_2 rfl) rfl rfl ?_
    refine ry (y_ld rfl rfl kfturn3_3 (H19.cell (i := 2) rfl rfl)) rfl rfl ?_
    refine ry (y_lss rfl rfl rfl) rfl rfl ?_
    refine reg_nil ?_
    refine fn_next ?_
    refine cw_condd rfl (fun h21 => ?_) (fun h21 => ?_)
    · skip
      have hx : x < h := by omega
      have hcl := cell_lt hy hx
      have hcl2 := cell_lt' hx hy
      have hgi := vi_get (k := .i64) (zs := V) (i := x * a + y) (by omega)
      refine cw_skip ?_
      refine fn_next ?_
      refine cw_seq ?_
      refine cw_block ?_
      refine cw_drawT H19 [0, 2, 3, 4, 5, 6, 7, 8, 9, 10, 11] (.alt (.step 1 (.step 12 (.step 13 (.step 14 (.step 15 (.leaf)))))) (.step 12 (.step 1 (.step 13 (.step 14 (.step 15 (.leaf))))))) (fun X HX => (HX.pick (m := [_, _]) [2, 3] rfl (by decide))) (by kernel_rfl) (by kernel_rfl) (by rfl) ?_
      simp only [pick, List.getElem?_cons_succ, List.getElem?_cons_zero]
      refine hk_y (fun Y HY => y_fa rfl rfl kfturn3_6 rfl) rfl rfl ?_
      refine hk_y (fun Y HY => y_fa rfl rfl kfturn3_6 rfl) rfl rfl ?_
      refine hk_y (fun Y HY => y_ld rfl rfl kfturn3_7 (HY.cell (i := 0) rfl rfl)) rfl rfl ?_
      refine hk_y (fun Y HY => y_mov rfl rfl) rfl rfl ?_
      refine hk_y (fun Y HY => y_fa rfl rfl kfturn3_4 rfl) rfl rfl ?_
      refine hk_y (fun Y HY => y_ld rfl rfl kfturn3_3 (HY.cell (i := 0) rfl rfl)) rfl rfl ?_
      refine hk_y (fun Y HY => y_mul rfl rfl rfl (mulN (by omega))) rfl rfl ?_
      refine hk_y (fun Y HY => y_mov rfl rfl) rfl rfl ?_
      refine hk_y (fun Y HY => y_add rfl rfl rfl (addN (by omega))) rfl rfl ?_
      refine hk_y (fun Y HY => y_iar (i := x * a + y) (hr.below HY.base) rfl rfl rfl kfturn3_8 (rfl) (by omega) (Nat.mul_one _) (hgi)) rfl rfl ?_
      refine hk_y (fun Y HY => y_ldr (hr.below HY.base) rfl rfl kfturn3_3 (hgi)) rfl rfl ?_
      refine hkt_nil [24, 35, 36, 37] (fun M wl => ∃ (A2k : Option Addr) (c2k : Nat), M = [] ∧ HS w wl [Ob.row A2k (y * h + x + 1) c2k (vi .i64 (mN (V) a h (fun _ y => y) (fun x _ => x) (y * h + x)) ++ [.int .i64 (nth V (x * a + y))]) 2 1, Ob.blk b7 [.int .i64 (h : Int), .int .i64 (a : Int), .slice A2k (y * h + x + 1) c2k] 25, Ob.blk b1 [.int .i64 (a : Int), .int .i64 (h : Int), .slice A (a * h) cap] 25, Ob.blk b4 [.int .i64 0, .int .i64 0, .slice none 0 0] 25]) (fun wX HX => ?_) ?_
      · skip
        refine tt_alt ?_ ?_
        · skip
          refine tt_op rfl (Yd.op (y_ld rfl rfl kfturn3_7 (HX.cell (i := 1) rfl rfl))) rfl rfl ?_
          rintro _ _ ⟨rfl, rfl⟩
          refine ⟨(HX.pick (m := [_, _]) [2, 3] rfl (by decide)), fun w22 e24 => ?_⟩
          have H23 := HX.ext e24
          refine tt_op rfl (op_lit (parts := [(0, _)]) (vs := [(0, _)]) (cs := [.int _ _]) H23 rfl Try.underlying22 kfturn3_9 rfl ⟨rfl, trivial⟩ rfl rfl) rfl rfl ?_
          rintro _ w26 ⟨b25, rfl, H27⟩
          have H28 := H27.asrow (m := 1) (size := 1) rfl (by decide)
          refine ⟨(H28.pick (m := [_, _]) [3, 4] rfl (by decide)), fun w29 e31 => ?_⟩
          have H30 := H28.ext e31
          refine tt_op rfl (op_app (i := 1) H30 rfl rfl rfl rfl (H30.rd (i := 0) rfl) (rfl) (rfl) Try.underlying22 kfturn3_10 rfl rfl (by unfold maxLen; omega) (by omega)) rfl rfl ?_
          rintro _ w34 ⟨A32, c33, rfl, H35⟩
          refine ⟨(H35.pick (m := [_, _]) [3, 4] rfl (by decide)), fun w36 e38 => ?_⟩
          have H37 := H35.ext e38
          refine tt_op rfl (Yd.op (y_fa rfl rfl kfturn3_6 rfl)) rfl rfl ?_
          rintro _ _ ⟨rfl, rfl⟩
          refine ⟨(H37.pick (m := [_, _]) [3, 4] rfl (by decide)), fun w39 e41 => ?_⟩
          have H40 := H37.ext e41
          refine tt_op rfl (op_st (i := 2) (vs := [.slice _ _ _]) H40 rfl rfl rfl rfl rfl kfturn3_11 rfl rfl rfl) rfl rfl ?_
          rintro _ w42 H43
          refine ⟨(H43.pick (m := [_, _]) [3, 4] rfl (by decide)), fun w44 e46 => ?_⟩
          have H45 := H43.ext e46
          exact tt_leaf ⟨A32, c33, rfl, (H45.pick (m := [_, _, _, _]) [1, 2, 3, 4] rfl (by decide))⟩ trivial (by repeat (first | exact kp_refl | refine kp_app rfl rfl ?_ | refine kp_cons rfl ?_))
        refine tt_op rfl (op_lit (parts := [(0, _)]) (vs := [(0, _)]) (cs := [.int _ _]) HX rfl Try.underlying22 kfturn3_9 rfl ⟨rfl, trivial⟩ rfl rfl) rfl rfl ?_
        rintro _ w48 ⟨b47, rfl, H49⟩
        have H50 := H49.asrow (m := 1) (size := 1) rfl (by decide)
        refine ⟨(H50.pick (m := [_, _]) [3, 4] rfl (by decide)), fun w51 e53 => ?_⟩
        have H52 := H50.ext e53
        refine tt_op rfl (Yd.op (y_ld rfl rfl kfturn3_7 (H52.cell (i := 2) rfl rfl))) rfl rfl ?_
        rintro _ _ ⟨rfl, rfl⟩
        refine ⟨(H52.pick (m := [_, _]) [3, 4] rfl (by decide)), fun w54 e56 => ?_⟩
        have H55 := H52.ext e56
        refine tt_op rfl (op_app (i := 1) H55 rfl rfl rfl rfl (H55.rd (i := 0) rfl) (rfl) (rfl) Try.underlying22 kfturn3_10 rfl rfl (by unfold maxLen; omega) (by omega)) rfl rfl ?_
        rintro _ w59 ⟨A57, c58, rfl, H60⟩
        refine ⟨(H60.pick (m := [_, _]) [3, 4] rfl (by decide)), fun w61 e63 => ?_⟩
        have H62 := H60.ext e63
        refine tt_op rfl (Yd.op (y_fa rfl rfl kfturn3_6 rfl)) rfl rfl ?_
        rintro _ _ ⟨rfl, rfl⟩
        refine ⟨(H62.pick (m := [_, _]) [3, 4] rfl (by decide)), fun w64 e66 => ?_⟩
        have H65 := H62.ext e66
        refine tt_op rfl (op_st (i := 2) (vs := [.slice _ _ _]) H65 rfl rfl rfl rfl rfl kfturn3_11 rfl rfl rfl) rfl rfl ?_
        rintro _ w67 H68
        refine ⟨(H68.pick (m := [_, _]) [3, 4] rfl (by decide)), fun w69 e71 => ?_⟩
        have H70 := H68.ext e71
        exact tt_leaf ⟨A57, c58, rfl, (H70.pick (m := [_, _, _, _]) [1, 2, 3, 4] rfl (by decide))⟩ trivial (by repeat (first | exact kp_refl | refine kp_app rfl rfl ?_ | refine kp_cons rfl ?_))
      · skip
        rintro M w73 ⟨A2k, c2k, rfl, H72⟩
        refine fn_block ?_
        refine fn_next ?_
        refine cw_reg ?_
        refine ry (y_mov rfl rfl) rfl rfl ?_
        refine ry (y_add rfl rfl rfl (wi (by omega))) rfl rfl ?_
        refine ry (y_asg rfl rfl) rfl rfl ?_
        refine reg_nil ?_
        rw [vi_snoc, mN_succ hx] at H72
        refine fn_roundJ ⟨x + 1, _, _, rfl, H72, by omega, rfl⟩ ⟨si (by omega), trivial⟩ (by omega) (by repeat (first | exact kp_refl | refine kp_app rfl rfl ?_ | refine kp_cons rfl ?_)) rfl
    · skip
      obtain rfl : h = x := by omega
      refine cw_exit ?_
      refine fn_then_exit (fn_then_exit (fn_block_exit ?_))
      refine fn_block ?_
      refine fn_next ?_
      refine cw_reg ?_
      refine ry (y_mov rfl rfl) rfl rfl ?_
      refine ry (y_add rfl rfl rfl (wi (by omega))) rfl rfl ?_
      refine ry (y_asg rfl rfl) rfl rfl ?_
      refine reg_nil ?_
      rw [← Nat.succ_mul] at H19
      refine fn_roundJ ⟨y + 1, _, _, rfl, H19, by omega, rfl⟩ ⟨rfl, trivial⟩ (by omega) (by repeat (first | exact kp_refl | refine kp_app rfl rfl ?_ | refine kp_cons rfl ?_)) rfl
  · skip
    obtain rfl : a = y := by omega
    refine cw_exit ?_
    refine fn_then_exit (fn_then_exit (fn_block_exit ?_))
    refine fn_next ?_
    refine cw_seq ?_
    refine cw_reg ?_
    refine ry (y_ldb (i := 1) (cs := [_, _, _]) H15 rfl rfl kfturn3_12 rfl rfl) rfl rfl ?_
    refine reg_op (op_st (i := 3) (vs := [.int _ _, .int _ _, .slice _ _ _]) H15 rfl rfl rfl rfl rfl kfturn3_5 rfl rfl rfl) rfl rfl ?_
    rintro _ w74 H75
    refine reg_nil ?_
    refine fn_next ?_
    refine cw_ret ?_
    refine fn_ret1 rfl (⟨_, rfl, load_agg (cs := [_, _, _]) kfturn3_12 rfl fun j v hv => by rw [Nat.zero_add]; exact H75.cell (i := 3) rfl hv⟩) ?_
    have Hz := (H75.pick (m := [_]) [0] rfl (by decide))
    refine ⟨_, _, by rw [Nat.mul_comm h a], ?_⟩
    rw [Nat.mul_comm a h] at Hz
    exact Hz

set_option maxRecDepth 100000 in
theorem mMirror (a h : Nat) (A : Option Addr) (cap : Nat) (V : List Int) (w : World) (s : SzG a h) (hr : Rd w A (vi .i64 V)) (hl : V.length = a * h) :
    Ret Try.prog 43 [.agg #[.int .i64 (a : Int), .int .i64 (h : Int), .slice A (a * h) cap]] w (fun z w' => ∃ A' cap', z = .agg #[.int .i64 (a : Int), .int .i64 (h : Int), .slice A' (a * h) cap'] ∧ HS w w' [.row A' (a * h) cap' (vi .i64 (miV V a h)) 2 1]) := by
  obtain ⟨s1, s2, s3, s4⟩ := id s
  have hm := s.mul
  refine ret_enter Try.func43 rfl rfl rfl ?_
  have H0 := HS.start w
  refine cw_seq ?_
  refine cw_reg ?_
  refine reg_op (op_box (cs := [.int _ _, .int _ _, .slice _ _ _]) H0 rfl rfl rfl) rfl rfl ?_
  rintro _ w2 ⟨b1, rfl, H3⟩
  refine reg_op (op_alloc H3 rfl kfturn3_1) rfl rfl ?_
  rintro _ w5 ⟨b4, rfl, H6⟩
  refine reg_nil ?_
  refine fn_next ?_
  refine cw_seq ?_
  refine cw_reg ?_
  refine ry (y_fa rfl rfl kfturn3_4 rfl) rfl rfl ?_
  refine ry (y_ld rfl rfl kfturn3_3 (H6.cell (i := 1) rfl rfl)) rfl rfl ?_
  refine ry (y_fa rfl rfl kfturn3_2 rfl) rfl rfl ?_
  refine ry (y_ld rfl rfl kfturn3_3 (H6.cell (i := 1) rfl rfl)) rfl rfl ?_
  refine ry (y_build (places := [(0, 1), (1, 1), (2, 1)]) (parts := [(0, _), (1, _)]) (vs := [(0, _), (1, _)]) (cs := [.int _ _, .int _ _, .slice _ _ _]) rfl Try.underlying25 (by kernel_rfl) kfturn3_1 rfl ⟨rfl, rfl, trivial⟩ rfl) rfl rfl ?_
  refine reg_op (op_alloc H6 rfl kfturn3_1) rfl rfl ?_
  rintro _ w8 ⟨b7, rfl, H9⟩
  refine reg_op (op_st (i := 0) (vs := [.int _ _, .int _ _, .slice _ _ _]) H9 rfl rfl rfl rfl rfl kfturn3_5 rfl rfl rfl) rfl rfl ?_
  rintro _ w10 H11
  refine reg_nil ?_
  refine fn_next ?_
  refine cw_seq ?_
  refine cw_seq ?_
  refine cw_reg ?_
  refine ry (y_asg rfl rfl) rfl rfl ?_
  refine reg_nil ?_
  refine fn_next ?_
  refine cw_block ?_
  have Hn12 := H11.nilrow 2 1
  have hE13 : HS w w10 [Ob.row none (0 * a) 0 (vi .i64 (mN (V) a a (fun x _ => a - 1 - x) (fun _ y => y) (0 * a))) 2 1, Ob.blk b7 [.int .i64 (a : Int), .int .i64 (h : Int), .slice none (0 * a) 0] 25, Ob.blk b1 [.int .i64 (a : Int), .int .i64 (h : Int), .slice A (a * h) cap] 25, Ob.blk b4 [.int .i64 0, .int .i64 0, .slice none 0 0] 25] := by rw [Nat.zero_mul]; exact (Hn12.pick (m := [_, _, _, _]) [0, 1, 3, 2] rfl (by decide))
  refine cw_loopJ [4, 5, 11, 12, 13, 14, 15, 16, 17, 18, 19, 20, 21, 22, 23, 24, 25, 26, 27, 28, 29, 30, 31, 32, 33, 34, 35, 36, 37, 38] (fun M wl ml => ∃ (y : Nat) (A1 : Option Addr) (c1 : Nat), M = [(4, .int .i64 (y : Int))] ∧ HS w wl [Ob.row A1 (y * a) c1 (vi .i64 (mN (V) a a (fun x _ => a - 1 - x) (fun _ y => y) (y * a))) 2 1, Ob.blk b7 [.int .i64 (a : Int), .int .i64 (h : Int), .slice A1 (y * a) c1] 25, Ob.blk b1 [.int .i64 (a : Int), .int .i64 (h : Int), .slice A (a * h) cap] 25, Ob.blk b4 [.int .i64 0, .int .i64 0, .slice none 0 0] 25] ∧ (y ≤ h) ∧ ml = h - y) ⟨0, _, _, rfl, hE13, Nat.zero_le _, rfl⟩ ⟨rfl, trivial⟩ ?_
  rintro M w14 m16 ⟨y, A1, c1, rfl, H15, hy0, rfl⟩
  refine cw_seq ?_
  refine cw_seq ?_
  refine cw_reg ?_
  refine ry (y_mov rfl rfl) rfl rfl ?_
  refine ry (y_fa rfl rfl kfturn3_2 rfl) rfl rfl ?_
  refine ry (y_ld rfl rfl kfturn3_3 (H15.cell (i := 2) rfl rfl)) rfl rfl ?_
  refine ry (y_lss rfl rfl rfl) rfl rfl ?_
  refine reg_nil ?_
  refine fn_next ?_
  refine cw_condd rfl (fun h17 => ?_) (fun h17 => ?_)
  · skip
    have hy : y < h := by omega
    refine cw_skip ?_
    refine fn_next ?_
    refine cw_seq ?_
    refine cw_block ?_
    refine cw_seq ?_
    refine cw_reg ?_
    refine ry (y_fa rfl rfl kfturn3_4 rfl) rfl rfl ?_
    refine ry (y_ld rfl rfl kfturn3_3 (H15.cell (i := 2) rfl rfl)) rfl rfl ?_
    refine ry (y_sub rfl rfl rfl (wi (by omega))) rfl rfl ?_
    refine ry (y_asg rfl rfl) rfl rfl ?_
    refine reg_nil ?_
    refine fn_next ?_
    refine cw_block ?_
    refine cw_loopJ [5, 20, 21, 22, 23, 24, 25, 26, 27, 28, 29, 30, 31, 32, 33, 34, 35, 36, 37, 38] (fun M wl ml => ∃ (x : Nat) (A2 : Option Addr) (c2 : Nat), M = [(5, .int .i64 ((a : Int) - 1 - (x : Nat)))] ∧ HS w wl [Ob.row A2 (y * a + x) c2 (vi .i64 (mN (V) a a (fun x _ => a - 1 - x) (fun _ y => y) (y * a + x))) 2 1, Ob.blk b7 [.int .i64 (a : Int), .int .i64 (h : Int), .slice A2 (y * a + x) c2] 25, Ob.blk b1 [.int .i64 (a : Int), .int .i64 (h : Int), .slice A (a * h) cap] 25, Ob.blk b4 [.int .i64 0, .int .i64 0, .slice none 0 0] 25] ∧ (x ≤ a) ∧ ml = a - x) ⟨0, _, _, rfl, H15, Nat.zero_le _, rfl⟩ ⟨si (by omega), trivial⟩ ?_
    rintro M w18 m20 ⟨x, A2, c2, rfl, H19, hx0, rfl⟩
    refine cw_seq ?_
    refine cw_seq ?_
    refine cw_reg ?_
    refine ry (y_mov rfl rfl) rfl rfl ?_
    refine ry (y_geq rfl rfl rfl) rfl rfl ?_
    refine reg_nil ?_
    refine fn_next ?_
    refine cw_condd rfl (fun h21 => ?_) (fun h21 => ?_)
    · skip
      have hx : x < a := by omega
      have hcl := cell_lt (x := a - 1 - x) (show a - 1 - x < a by omega) hy
      have hcl2 := cell_lt' hx hy
      have hgi := vi_get (k := .i64) (zs := V) (i := y * a + (a - 1 - x)) (by omega)
      refine cw_skip ?_
      refine fn_next ?_
      refine cw_seq ?_
      refine cw_block ?_
      refine cw_drawT H19 [0, 2, 3, 4, 5, 6, 7, 8, 9, 10, 11] (.alt (.step 1 (.step 12 (.step 13 (.step 14 (.step 15 (.leaf)))))) (.step 12 (.step 1 (.step 13 (.step 14 (.step 15 (.leaf))))))) (fun X HX => (HX.pick (m := [_, _]) [2, 3] rfl (by decide))) (by kernel_rfl) (by kernel_rfl) (by rfl) ?_
      simp only [pick, List.getElem?_cons_succ, List.getElem?_cons_zero]
      refine hk_y (fun Y HY => y_fa rfl rfl kfturn3_6 rfl) rfl rfl ?_
      refine hk_y (fun Y HY => y_fa rfl rfl kfturn3_6 rfl) rfl rfl ?_
      refine hk_y (fun Y HY => y_ld rfl rfl kfturn3_7 (HY.cell (i := 0) rfl rfl)) rfl rfl ?_
      refine hk_y (fun Y HY => y_mov rfl rfl) rfl rfl ?_
      refine hk_y (fun Y HY => y_fa rfl rfl kfturn3_4 rfl) rfl rfl ?_
      refine hk_y (fun Y HY => y_ld rfl rfl kfturn3_3 (HY.cell (i := 0) rfl rfl)) rfl rfl ?_
      refine hk_y (fun Y HY => y_mul rfl rfl rfl (mulN (by omega))) rfl rfl ?_
      refine hk_y (fun Y HY => y_mov rfl rfl) rfl rfl ?_
      refine hk_y (fun Y HY => y_add rfl rfl rfl (show _ = ((y * a + (a - 1 - x) : Nat) : Int) from (wi (by omega)).trans (by omega))) rfl rfl ?_
      refine hk_y (fun Y HY => y_iar (i := y * a + (a - 1 - x)) (hr.below HY.base) rfl rfl rfl kfturn3_8 (rfl) (by omega) (Nat.mul_one _) (hgi)) rfl rfl ?_
      refine hk_y (fun Y HY => y_ldr (hr.below HY.base) rfl rfl kfturn3_3 (hgi)) rfl rfl ?_
      refine hkt_nil [25, 36, 37, 38] (fun M wl => ∃ (A2k : Option Addr) (c2k : Nat), M = [] ∧ HS w wl [Ob.row A2k (y * a + x + 1) c2k (vi .i64 (mN (V) a a (fun x _ => a - 1 - x) (fun _ y => y) (y * a + x)) ++ [.int .i64 (nth V (y * a + (a - 1 - x)))]) 2 1, Ob.blk b7 [.int .i64 (a : Int), .int .i64 (h : Int), .slice A2k (y * a + x + 1) c2k] 25, Ob.blk b1 [.int .i64 (a : Int), .int .i64 (h : Int), .slice A (a * h) cap] 25, Ob.blk b4 [.int .i64 0, .int .i64 0, .slice none 0 0] 25]) (fun wX HX => ?_) ?_
      · skip
        refine tt_alt ?_ ?_
        · skip
          refine tt_op rfl (Yd.op (y_ld rfl rfl kfturn3_7 (HX.cell (i := 1) rfl rfl))) rfl rfl ?_
          rintro _ _ ⟨rfl, rfl⟩
          refine ⟨(HX.pick (m := [_, _]) [2, 3] rfl (by decide)), fun w22 e24 => ?_⟩
          have H23 := HX.ext e24
          refine tt_op rfl (op_lit (parts := [(0, _)]) (vs := [(0, _)]) (cs := [.int _ _]) H23 rfl Try.underlying22 kfturn3_9 rfl ⟨rfl, trivial⟩ rfl rfl) rfl rfl ?_
          rintro _ w26 ⟨b25, rfl, H27⟩
          have H28 := H27.asrow (m := 1) (size := 1) rfl (by decide)
          refine ⟨(H28.pick (m := [_, _]) [3, 4] rfl (by decide)), fun w29 e31 => ?_⟩
          have H30 := H28.ext e31
          refine tt_op rfl (op_app (i := 1) H30 rfl rfl rfl rfl (H30.rd (i := 0) rfl) (rfl) (rfl) Try.underlying22 kfturn3_10 rfl rfl (by unfold maxLen; omega) (by omega)) rfl rfl ?_
          rintro _ w34 ⟨A32, c33, rfl, H35⟩
          refine ⟨(H35.pick (m := [_, _]) [3, 4] rfl (by decide)), fun w36 e38 => ?_⟩
          have H37 := H35.ext e38
          refine tt_op rfl (Yd.op (y_fa rfl rfl kfturn3_6 rfl)) rfl rfl ?_
          rintro _ _ ⟨rfl, rfl⟩
          refine ⟨(H37.pick (m := [_, _]) [3, 4] rfl (by decide)), fun w39 e41 => ?_⟩
          have H40 := H37.ext e41
          refine tt_op rfl (op_st (i := 2) (vs := [.slice _ _ _]) H40 rfl rfl rfl rfl rfl kfturn3_11 rfl rfl rfl) rfl rfl ?_
          rintro _ w42 H43
          refine ⟨(H43.pick (m := [_, _]) [3, 4] rfl (by decide)), fun w44 e46 => ?_⟩
          have H45 := H43.ext e46
          exact tt_leaf ⟨A32, c33, rfl, (H45.pick (m := [_, _, _, _]) [1, 2, 3, 4] rfl (by decide))⟩ trivial (by repeat (first | exact kp_refl | refine kp_app rfl rfl ?_ | refine kp_cons rfl ?_))
        refine tt_op rfl (op_lit (parts := [(0, _)]) (vs := [(0, _)]) (cs := [.int _ _]) HX rfl Try.underlying22 kfturn3_9 rfl ⟨rfl, trivial⟩ rfl rfl) rfl rfl ?_
        rintro _ w48 ⟨b47, rfl, H49⟩
        have H50 := H49.asrow (m := 1) (size := 1) rfl (by decide)
        refine ⟨(H50.pick (m := [_, _]) [3, 4] rfl (by decide)), fun w51 e53 => ?_⟩
        have H52 := H50.ext e53
        refine tt_op rfl (Yd.op (y_ld rfl rfl kfturn3_7 (H52.cell (i := 2) rfl rfl))) rfl rfl ?_
        rintro _ _ ⟨rfl, rfl⟩
        refine ⟨(H52.pick (m := [_, _]) [3, 4] rfl (by decide)), fun w54 e56 => ?_⟩
        have H55 := H52.ext e56
        refine tt_op rfl (op_app (i := 1) H55 rfl rfl rfl rfl (H55.rd (i := 0) rfl) (rfl) (rfl) Try.underlying22 kfturn3_10 rfl rfl (by unfold maxLen; omega) (by omega)) rfl rfl ?_
        rintro _ w59 ⟨A57, c58, rfl, H60⟩
        refine ⟨(H60.pick (m := [_, _]) [3, 4] rfl (by decide)), fun w61 e63 => ?_⟩
        have H62 := H60.ext e63
        refine tt_op rfl (Yd.op (y_fa rfl rfl kfturn3_6 rfl)) rfl rfl ?_
        rintro _ _ ⟨rfl, rfl⟩
        refine ⟨(H62.pick (m := [_, _]) [3, 4] rfl (by decide)), fun w64 e66 => ?_⟩
        have H65 := H62.ext e66
        refine tt_op rfl (op_st (i := 2) (vs := [.slice _ _ _]) H65 rfl rfl rfl rfl rfl kfturn3_11 rfl rfl rfl) rfl rfl ?_
        rintro _ w67 H68
        refine ⟨(H68.pick (m := [_, _]) [3, 4] rfl (by decide)), fun w69 e71 => ?_⟩
        have H70 := H68.ext e71
        exact tt_leaf ⟨A57, c58, rfl, (H70.pick (m := [_, _, _, _]) [1, 2, 3, 4] rfl (by decide))⟩ trivial (by repeat (first | exact kp_refl | refine kp_app rfl rfl ?_ | refine kp_cons rfl ?_))
      · skip
        rintro M w73 ⟨A2k, c2k, rfl, H72⟩
        refine fn_block ?_
        refine fn_next ?_
        refine cw_reg ?_
        refine ry (y_mov rfl rfl) rfl rfl ?_
        refine ry (y_sub rfl rfl rfl (wi (by omega))) rfl rfl ?_
        refine ry (y_asg rfl rfl) rfl rfl ?_
        refine reg_nil ?_
        rw [vi_snoc, mN_succ hx] at H72
        refine fn_roundJ ⟨x + 1, _, _, rfl, H72, by omega, rfl⟩ ⟨si (by omega), trivial⟩ (by omega) (by repeat (first | exact kp_refl | refine kp_app rfl rfl ?_ | refine kp_cons rfl ?_)) rfl
    · skip
      obtain rfl : a = x := by omega
      refine cw_exit ?_
      refine fn_then_exit (fn_then_exit (fn_block_exit ?_))
      refine fn_block ?_
      refine fn_next ?_
      refine cw_reg ?_
      refine ry (y_mov rfl rfl) rfl rfl ?_
      refine ry (y_add rfl rfl rfl (wi (by omega))) rfl rfl ?_
      refine ry (y_asg rfl rfl) rfl rfl ?_
      refine reg_nil ?_
      rw [← Nat.succ_mul] at H19
      refine fn_roundJ ⟨y + 1, _, _, rfl, H19, by omega, rfl⟩ ⟨rfl, trivial⟩ (by omega) (by repeat (first | exact kp_refl | refine kp_app rfl rfl ?_ | refine kp_cons rfl ?_)) rfl
  · skip
    obtain rfl : h = y := by omega
    refine cw_exit ?_
    refine fn_then_exit (fn_then_exit (fn_block_exit ?_))
    refine fn_next ?_
    refine cw_seq ?_
    refine cw_reg ?_
    refine ry (y_ldb (i := 1) (cs := [_, _, _]) H15 rfl rfl kfturn3_12 rfl rfl) rfl rfl ?_
    refine reg_op (op_st (i := 3) (vs := [.int _ _, .int _ _, .slice _ _ _]) H15 rfl rfl rfl rfl rfl kfturn3_5 rfl rfl rfl) rfl rfl ?_
    rintro _ w74 H75
    refine reg_nil ?_
    refine fn_next ?_
    refine cw_ret ?_
    refine fn_ret1 rfl (⟨_, rfl, load_agg (cs := [_, _, _]) kfturn3_12 rfl fun j v hv => by rw [Nat.zero_add]; exact H75.cell (i := 3) rfl hv⟩) ?_
    have Hz := (H75.pick (m := [_]) [0] rfl (by decide))
    refine ⟨_, _, by rw [Nat.mul_comm a h], ?_⟩
    rw [Nat.mul_comm h a] at Hz
    exact Hz

set_option maxRecDepth 100000 in
theorem mQuarter0 (a h : Nat) (A : Option Addr) (cap : Nat) (V : List Int) (w : World) (s : SzG a h) (hr : Rd w A (vi .i64 V)) (hl : V.length = a * h) :
    Ret Try.prog 42 [.agg #[.int .i64 (a : Int), .int .i64 (h : Int), .slice A (a * h) cap], .int .i64 0] w (fun z w' => z = .agg #[.int .i64 (a : Int), .int .i64 (h : Int), .slice A (a * h) cap] ∧ Below w.heap.size w w') := by
  obtain ⟨s1, s2, s3, s4⟩ := id s
  have hm := s.mul
  refine ret_enter Try.func42 rfl rfl rfl ?_
  have H0 := HS.start w
  refine cw_seq ?_
  refine cw_reg ?_
  refine reg_op (op_box (cs := [.int _ _, .int _ _, .slice _ _ _]) H0 rfl rfl rfl) rfl rfl ?_
  rintro _ w2 ⟨b1, rfl, H3⟩
  refine reg_op (op_alloc H3 rfl kfturn3_1) rfl rfl ?_
  rintro _ w5 ⟨b4, rfl, H6⟩
  refine reg_nil ?_
  refine fn_next ?_
  refine cw_seq ?_
  refine cw_seq ?_
  refine cw_reg ?_
  refine ry (y_asg rfl rfl) rfl rfl ?_
  refine reg_nil ?_
  refine fn_next ?_
  refine cw_block ?_
  refine cw_loopR 1 ?_
  refine cw_seq ?_
  refine cw_seq ?_
  refine cw_reg ?_
  refine ry (y_mov rfl rfl) rfl rfl ?_
  refine ry (y_mov rfl rfl) rfl rfl ?_
  refine ry (y_lss rfl rfl rfl) rfl rfl ?_
  refine reg_nil ?_
  refine fn_next ?_
  refine cw_condd rfl (fun h7 => ?_) (fun h7 => ?_)
  · exact absurd h7 (by decide)
  · skip
    refine cw_exit ?_
    refine fn_then_exit (fn_then_exit (fn_block_exit ?_))
    refine fn_next ?_
    refine cw_seq ?_
    refine cw_reg ?_
    refine ry (y_ldb (i := 1) (cs := [_, _, _]) H6 rfl rfl kfturn3_12 rfl rfl) rfl rfl ?_
    refine reg_op (op_st (i := 0) (vs := [.int _ _, .int _ _, .slice _ _ _]) H6 rfl rfl rfl rfl rfl kfturn3_5 rfl rfl rfl) rfl rfl ?_
    rintro _ w8 H9
    refine reg_nil ?_
    refine fn_next ?_
    refine cw_ret ?_
    refine fn_ret1 rfl (⟨_, rfl, load_agg (cs := [_, _, _]) kfturn3_12 rfl fun j v hv => by rw [Nat.zero_add]; exact H9.cell (i := 0) rfl hv⟩) ?_
    exact ⟨rfl, H9.base⟩

set_option maxRecDepth 100000 in
theorem mQuarter1 (a h : Nat) (A : Option Addr) (cap : Nat) (V : List Int) (w : World) (s : SzG a h) (hr : Rd w A (vi .i64 V)) (hl : V.length = a * h) :
    Ret Try.prog 42 [.agg #[.int .i64 (a : Int), .int .i64 (h : Int), .slice A (a * h) cap], .int .i64 1] w (fun z w' => ∃ A' cap', z = .agg #[.int .i64 (h : Int), .int .i64 (a : Int), .slice A' (h * a) cap'] ∧ HS w w' [.row A' (h * a) cap' (vi .i64 (q1V V a h)) 2 1]) := by
  obtain ⟨s1, s2, s3, s4⟩ := id s
  have hm := s.mul
  refine ret_enter Try.func42 rfl rfl rfl ?_
  have H0 := HS.start w
  refine cw_seq ?_
  refine cw_reg ?_
  refine reg_op (op_box (cs := [.int _ _, .int _ _, .slice _ _ _]) H0 rfl rfl rfl) rfl rfl ?_
  rintro _ w2 ⟨b1, rfl, H3⟩
  refine reg_op (op_alloc H3 rfl kfturn3_1) rfl rfl ?_
  rintro _ w5 ⟨b4, rfl, H6⟩
  refine reg_nil ?_
  refine fn_next ?_
  refine cw_seq ?_
  refine cw_seq ?_
  refine cw_reg ?_
  refine ry (y_asg rfl rfl) rfl rfl ?_
  refine reg_nil ?_
  refine fn_next ?_
  refine cw_block ?_
  refine cw_loopR 2 ?_
  refine cw_seq ?_
  refine cw_seq ?_
  refine cw_reg ?_
  refine ry (y_mov rfl rfl) rfl rfl ?_
  refine ry (y_mov rfl rfl) rfl rfl ?_
  refine ry (y_lss rfl rfl rfl) rfl rfl ?_
  refine reg_nil ?_
  refine fn_next ?_
  refine cw_condd rfl (fun h7 => ?_) (fun h7 => ?_)
  · skip
    refine cw_skip ?_
    refine fn_next ?_
    refine cw_seq ?_
    refine cw_block ?_
    refine cw_seq ?_
    refine cw_reg ?_
    refine ry (y_fa rfl rfl kfturn3_2 rfl) rfl rfl ?_
    refine ry (y_ld rfl rfl kfturn3_3 (H6.cell (i := 1) rfl rfl)) rfl rfl ?_
    refine ry (y_fa rfl rfl kfturn3_4 rfl) rfl rfl ?_
    refine ry (y_ld rfl rfl kfturn3_3 (H6.cell (i := 1) rfl rfl)) rfl rfl ?_
    refine ry (y_build (places := [(0, 1), (1, 1), (2, 1)]) (parts := [(0, _), (1, _)]) (vs := [(0, _), (1, _)]) (cs := [.int _ _, .int _ _, .slice _ _ _]) rfl Try.underlying25 (by kernel_rfl) kfturn3_1 rfl ⟨rfl, rfl, trivial⟩ rfl) rfl rfl ?_
    refine reg_op (op_alloc H6 rfl kfturn3_1) rfl rfl ?_
    rintro _ w9 ⟨b8, rfl, H10⟩
    refine reg_op (op_st (i := 0) (vs := [.int _ _, .int _ _, .slice _ _ _]) H10 rfl rfl rfl rfl rfl kfturn3_5 rfl rfl rfl) rfl rfl ?_
    rintro _ w11 H12
    refine reg_nil ?_
    refine fn_next ?_
    refine cw_seq ?_
    refine cw_seq ?_
    refine cw_reg ?_
    refine ry (y_asg rfl rfl) rfl rfl ?_
    refine reg_nil ?_
    refine fn_next ?_
    refine cw_block ?_
    have Hn13 := H12.nilrow 2 1
    have hE14 : HS w w11 [Ob.row none (0 * h) 0 (vi .i64 (mN (V) a h (fun _ y => y) (fun x _ => h - 1 - x) (0 * h))) 2 1, Ob.blk b8 [.int .i64 (h : Int), .int .i64 (a : Int), .slice none (0 * h) 0] 25, Ob.blk b1 [.int .i64 (a : Int), .int .i64 (h : Int), .slice A (a * h) cap] 25, Ob.blk b4 [.int .i64 0, .int .i64 0, .slice none 0 0] 25] := by rw [Nat.zero_mul]; exact (Hn13.pick (m := [_, _, _, _]) [0, 1, 3, 2] rfl (by decide))
    refine cw_loopJ [7, 8, 19, 20, 21, 22, 23, 24, 25, 26, 27, 28, 29, 30, 31, 32, 33, 34, 35, 36, 37, 38, 39, 40, 41, 42, 43, 44, 45, 46] (fun M wl ml => ∃ (yr0 : Nat) (A1r0 : Option Addr) (c1r0 : Nat), M = [(7, .int .i64 (yr0 : Int))] ∧ HS w wl [Ob.row A1r0 (yr0 * h) c1r0 (vi .i64 (mN (V) a h (fun _ y => y) (fun x _ => h - 1 - x) (yr0 * h))) 2 1, Ob.blk b8 [.int .i64 (h : Int), .int .i64 (a : Int), .slice A1r0 (yr0 * h) c1r0] 25, Ob.blk b1 [.int .i64 (a : Int), .int .i64 (h : Int), .slice A (a * h) cap] 25, Ob.blk b4 [.int .i64 0, .int .i64 0, .slice none 0 0] 25] ∧ (yr0 ≤ a) ∧ ml = a - yr0) ⟨0, _, _, rfl, hE14, Nat.zero_le _, rfl⟩ ⟨rfl, trivial⟩ ?_
    rintro M w15 m17 ⟨yr0, A1r0, c1r0, rfl, H16, hyr00, rfl⟩
    refine cw_seq ?_
    refine cw_seq ?_
    refine cw_reg ?_
    refine ry (y_mov rfl rfl) rfl rfl ?_
    refine ry (y_fa rfl rfl kfturn3_4 rfl) rfl rfl ?_
    refine ry (y_ld rfl rfl kfturn3_3 (H16.cell (i := 2) rfl rfl)) rfl rfl ?_
    refine ry (y_lss rfl rfl rfl) rfl rfl ?_
    refine reg_nil ?_
    refine fn_next ?_
    refine cw_condd rfl (fun h18 => ?_) (fun h18 => ?_)
    · skip
      have hyr0 : yr0 < a := by omega
      refine cw_skip ?_
      refine fn_next ?_
      refine cw_seq ?_
      refine cw_block ?_
      refine cw_seq ?_
      refine cw_reg ?_
      refine ry (y_fa rfl rfl kfturn3_2 rfl) rfl rfl ?_
      refine ry (y_ld rfl rfl kfturn3_3 (H16.cell (i := 2) rfl rfl)) rfl rfl ?_
      refine ry (y_sub rfl rfl rfl (wi (by omega))) rfl rfl ?_
      refine ry (y_asg rfl rfl) rfl rfl ?_
      refine reg_nil ?_
      refine fn_next ?_
      refine cw_block ?_
      refine cw_loopJ [8, 28, 29, 30, 31, 32, 33, 34, 35, 36, 37, 38, 39, 40, 41, 42, 43, 44, 45, 46] (fun M wl ml => ∃ (xr0 : Nat) (A2r0 : Option Addr) (c2r0 : Nat), M = [(8, .int .i64 ((h : Int) - 1 - (xr0 : Nat)))] ∧ HS w wl [Ob.row A2r0 (yr0 * h + xr0) c2r0 (vi .i64 (mN (V) a h (fun _ y => y) (fun x _ => h - 1 - x) (yr0 * h + xr0))) 2 1, Ob.blk b8 [.int .i64 (h : Int), .int .i64 (a : Int), .slice A2r0 (yr0 * h + xr0) c2r0] 25, Ob.blk b1 [.int .i64 (a : Int), .int .i64 (h : Int), .slice A (a * h) cap] 25, Ob.blk b4 [.int .i64 0, .int .i64 0, .slice none 0 0] 25] ∧ (xr0 ≤ h) ∧ ml = h - xr0) ⟨0, _, _, rfl, H16, Nat.zero_le _, rfl⟩ ⟨si (by omega), trivial⟩ ?_
      rintro M w19 m21 ⟨xr0, A2r0, c2r0, rfl, H20, hxr00, rfl⟩
      refine cw_seq ?_
      refine cw_seq ?_
      refine cw_reg ?_
      refine ry (y_mov rfl rfl) rfl rfl ?_
      refine ry (y_geq rfl rfl rfl) rfl rfl ?_
      refine reg_nil ?_
      refine fn_next ?_
      refine cw_condd rfl (fun h22 => ?_) (fun h22 => ?_)
      · skip
        have hxr0 : xr0 < h := by omega
        have hcl := cell_lt' (x := yr0) (y := h - 1 - xr0) hyr0 (show _ < h by omega)
        have hcl3 := hcl
        rw [Nat.mul_comm h a] at hcl3
        have hcl2 := cell_lt' (x := xr0) (y := yr0) hxr0 hyr0
        have hlr : (V).length = a * h := hl
        have hgi := vi_get (k := .i64) (zs := V) (i := (h - 1 - xr0) * a + yr0) (by rw [hlr, Nat.mul_comm a h]; exact hcl)
        have hm2 : h * a ≤ 1048576 := by rw [Nat.mul_comm]; exact hm.2
        refine cw_skip ?_
        refine fn_next ?_
        refine cw_seq ?_
        refine cw_block ?_
        refine cw_drawT H20 [0, 2, 3, 4, 5, 6, 7, 8, 9, 10, 11] (.alt (.step 1 (.step 12 (.step 13 (.step 14 (.step 15 (.leaf)))))) (.step 12 (.step 1 (.step 13 (.step 14 (.step 15 (.leaf))))))) (fun X HX => (HX.pick (m := [_, _]) [2, 3] rfl (by decide))) (by kernel_rfl) (by kernel_rfl) (by rfl) ?_
        simp only [pick, List.getElem?_cons_succ, List.getElem?_cons_zero]
        refine hk_y (fun Y HY => y_fa rfl rfl kfturn3_6 rfl) rfl rfl ?_
        refine hk_y (fun Y HY => y_fa rfl rfl kfturn3_6 rfl) rfl rfl ?_
        refine hk_y (fun Y HY => y_ld rfl rfl kfturn3_7 (HY.cell (i := 0) rfl rfl)) rfl rfl ?_
        refine hk_y (fun Y HY => y_mov rfl rfl) rfl rfl ?_
        refine hk_y (fun Y HY => y_fa rfl rfl kfturn3_4 rfl) rfl rfl ?_
        refine hk_y (fun Y HY => y_ld rfl rfl kfturn3_3 (HY.cell (i := 0) rfl rfl)) rfl rfl ?_
        refine hk_y (fun Y HY => y_mul rfl rfl rfl (show _ = (((h - 1 - xr0) * a : Nat) : Int) from by rw [show (h : Int) - 1 - (xr0 : Nat) = ((h - 1 - xr0 : Nat) : Int) by omega]; exact mulN (by omega))) rfl rfl ?_
        refine hk_y (fun Y HY => y_mov rfl rfl) rfl rfl ?_
        refine hk_y (fun Y HY => y_add rfl rfl rfl (addN (by omega))) rfl rfl ?_
        refine hk_y (fun Y HY => y_iar (i := (h - 1 - xr0) * a + yr0) (hr.below HY.base) rfl rfl rfl kfturn3_8 (rfl) (by first | omega | (rw [Nat.mul_comm]; omega)) (Nat.mul_one _) (hgi)) rfl rfl ?_
        refine hk_y (fun Y HY => y_ldr (hr.below HY.base) rfl rfl kfturn3_3 (hgi)) rfl rfl ?_
        refine hkt_nil [33, 44, 45, 46] (fun M wl => ∃ (A2r0k : Option Addr) (c2r0k : Nat), M = [] ∧ HS w wl [Ob.row A2r0k (yr0 * h + xr0 + 1) c2r0k (vi .i64 (mN (V) a h (fun _ y => y) (fun x _ => h - 1 - x) (yr0 * h + xr0)) ++ [.int .i64 (nth (V) ((h - 1 - xr0) * a + yr0))]) 2 1, Ob.blk b8 [.int .i64 (h : Int), .int .i64 (a : Int), .slice A2r0k (yr0 * h + xr0 + 1) c2r0k] 25, Ob.blk b1 [.int .i64 (a : Int), .int .i64 (h : Int), .slice A (a * h) cap] 25, Ob.blk b4 [.int .i64 0, .int .i64 0, .slice none 0 0] 25]) (fun wX HX => ?_) ?_
        · skip
          refine tt_alt ?_ ?_
          · skip
            refine tt_op rfl (Yd.op (y_ld rfl rfl kfturn3_7 (HX.cell (i := 1) rfl rfl))) rfl rfl ?_
            rintro _ _ ⟨rfl, rfl⟩
            refine ⟨(HX.pick (m := [_, _]) [2, 3] rfl (by decide)), fun w23 e25 => ?_⟩
            have H24 := HX.ext e25
            refine tt_op rfl (op_lit (parts := [(0, _)]) (vs := [(0, _)]) (cs := [.int _ _]) H24 rfl Try.underlying22 kfturn3_9 rfl ⟨rfl, trivial⟩ rfl rfl) rfl rfl ?_
            rintro _ w27 ⟨b26, rfl, H28⟩
            have H29 := H28.asrow (m := 1) (size := 1) rfl (by decide)
            refine ⟨(H29.pick (m := [_, _]) [3, 4] rfl (by decide)), fun w30 e32 => ?_⟩
            have H31 := H29.ext e32
            refine tt_op rfl (op_app (i := 1) H31 rfl rfl rfl rfl (H31.rd (i := 0) rfl) (rfl) (rfl) Try.underlying22 kfturn3_10 rfl rfl (by unfold maxLen; omega) (by omega)) rfl rfl ?_
            rintro _ w35 ⟨A33, c34, rfl, H36⟩
            refine ⟨(H36.pick (m := [_, _]) [3, 4] rfl (by decide)), fun w37 e39 => ?_⟩
            have H38 := H36.ext e39
            refine tt_op rfl (Yd.op (y_fa rfl rfl kfturn3_6 rfl)) rfl rfl ?_
            rintro _ _ ⟨rfl, rfl⟩
            refine ⟨(H38.pick (m := [_, _]) [3, 4] rfl (by decide)), fun w40 e42 => ?_⟩
            have H41 := H38.ext e42
            refine tt_op rfl (op_st (i := 2) (vs := [.slice _ _ _]) H41 rfl rfl rfl rfl rfl kfturn3_11 rfl rfl rfl) rfl rfl ?_
            rintro _ w43 H44
            refine ⟨(H44.pick (m := [_, _]) [3, 4] rfl (by decide)), fun w45 e47 => ?_⟩
            have H46 := H44.ext e47
            exact tt_leaf ⟨A33, c34, rfl, (H46.pick (m := [_, _, _, _]) [1, 2, 3, 4] rfl (by decide))⟩ trivial (by repeat (first | exact kp_refl | refine kp_app rfl rfl ?_ | refine kp_cons rfl ?_))
          refine tt_op rfl (op_lit (parts := [(0, _)]) (vs := [(0, _)]) (cs := [.int _ _]) HX rfl Try.underlying22 kfturn3_9 rfl ⟨rfl, trivial⟩ rfl rfl) rfl rfl ?_
          rintro _ w49 ⟨b48, rfl, H50⟩
          have H51 := H50.asrow (m := 1) (size := 1) rfl (by decide)
          refine ⟨(H51.pick (m := [_, _]) [3, 4] rfl (by decide)), fun w52 e54 => ?_⟩
          have H53 := H51.ext e54
          refine tt_op rfl (Yd.op (y_ld rfl rfl kfturn3_7 (H53.cell (i := 2) rfl rfl))) rfl rfl ?_
          rintro _ _ ⟨rfl, rfl⟩
          refine ⟨(H53.pick (m := [_, _]) [3, 4] rfl (by decide)), fun w55 e57 => ?_⟩
          have H56 := H53.ext e57
          refine tt_op rfl (op_app (i := 1) H56 rfl rfl rfl rfl (H56.rd (i := 0) rfl) (rfl) (rfl) Try.underlying22 kfturn3_10 rfl rfl (by unfold maxLen; omega) (by omega)) rfl rfl ?_
          rintro _ w60 ⟨A58, c59, rfl, H61⟩
          refine ⟨(H61.pick (m := [_, _]) [3, 4] rfl (by decide)), fun w62 e64 => ?_⟩
          have H63 := H61.ext e64
          refine tt_op rfl (Yd.op (y_fa rfl rfl kfturn3_6 rfl)) rfl rfl ?_
          rintro _ _ ⟨rfl, rfl⟩
          refine ⟨(H63.pick (m := [_, _]) [3, 4] rfl (by decide)), fun w65 e67 => ?_⟩
          have H66 := H63.ext e67
          refine tt_op rfl (op_st (i := 2) (vs := [.slice _ _ _]) H66 rfl rfl rfl rfl rfl kfturn3_11 rfl rfl rfl) rfl rfl ?_
          rintro _ w68 H69
          refine ⟨(H69.pick (m := [_, _]) [3, 4] rfl (by decide)), fun w70 e72 => ?_⟩
          have H71 := H69.ext e72
          exact tt_leaf ⟨A58, c59, rfl, (H71.pick (m := [_, _, _, _]) [1, 2, 3, 4] rfl (by decide))⟩ trivial (by repeat (first | exact kp_refl | refine kp_app rfl rfl ?_ | refine kp_cons rfl ?_))
        · skip
          rintro M w74 ⟨A2r0k, c2r0k, rfl, H73⟩
          refine fn_block ?_
          refine fn_next ?_
          refine cw_reg ?_
          refine ry (y_mov rfl rfl) rfl rfl ?_
          refine ry (y_sub rfl rfl rfl (wi (by omega))) rfl rfl ?_
          refine ry (y_asg rfl rfl) rfl rfl ?_
          refine reg_nil ?_
          rw [vi_snoc, mN_succ hxr0] at H73
          refine fn_roundJ ⟨xr0 + 1, _, _, rfl, H73, by omega, rfl⟩ ⟨si (by omega), trivial⟩ (by omega) (by repeat (first | exact kp_refl | refine kp_app rfl rfl ?_ | refine kp_cons rfl ?_)) rfl
      · skip
        obtain rfl : h = xr0 := by omega
        refine cw_exit ?_
        refine fn_then_exit (fn_then_exit (fn_block_exit ?_))
        refine fn_block ?_
        refine fn_next ?_
        refine cw_reg ?_
        refine ry (y_mov rfl rfl) rfl rfl ?_
        refine ry (y_add rfl rfl rfl (wi (by omega))) rfl rfl ?_
        refine ry (y_asg rfl rfl) rfl rfl ?_
        refine reg_nil ?_
        rw [← Nat.succ_mul] at H20
        refine fn_roundJ ⟨yr0 + 1, _, _, rfl, H20, by omega, rfl⟩ ⟨rfl, trivial⟩ (by omega) (by repeat (first | exact kp_refl | refine kp_app rfl rfl ?_ | refine kp_cons rfl ?_)) rfl
    · skip
      obtain ⟨rfl⟩ : a = yr0 := by omega
      refine cw_exit ?_
      refine fn_then_exit (fn_then_exit (fn_block_exit ?_))
      refine fn_next ?_
      refine cw_reg ?_
      refine ry (y_ldb (i := 1) (cs := [_, _, _]) H16 rfl rfl kfturn3_12 rfl rfl) rfl rfl ?_
      refine reg_op (op_st (i := 2) (vs := [.int _ _, .int _ _, .slice _ _ _]) H16 rfl rfl rfl rfl rfl kfturn3_5 rfl rfl rfl) rfl rfl ?_
      rintro _ w75 H76
      refine reg_nil ?_
      refine fn_block ?_
      refine fn_next ?_
      refine cw_reg ?_
      refine ry (y_mov rfl rfl) rfl rfl ?_
      refine ry (y_add rfl rfl rfl (wi (by omega))) rfl rfl ?_
      refine ry (y_asg rfl rfl) rfl rfl ?_
      refine reg_nil ?_
      refine fn_roundR ?_
      refine cw_seq ?_
      refine cw_seq ?_
      refine cw_reg ?_
      refine ry (y_mov rfl rfl) rfl rfl ?_
      refine ry (y_mov rfl rfl) rfl rfl ?_
      refine ry (y_lss rfl rfl rfl) rfl rfl ?_
      refine reg_nil ?_
      refine fn_next ?_
      refine cw_condd rfl (fun h77 => ?_) (fun h77 => ?_)
      · exact absurd h77 (by decide)
      · skip
        refine cw_exit ?_
        refine fn_then_exit (fn_then_exit (fn_block_exit ?_))
        refine fn_next ?_
        refine cw_seq ?_
        refine cw_reg ?_
        refine ry (y_ldb (i := 2) (cs := [_, _, _]) H76 rfl rfl kfturn3_12 rfl rfl) rfl rfl ?_
        refine reg_op (op_st (i := 3) (vs := [.int _ _, .int _ _, .slice _ _ _]) H76 rfl rfl rfl rfl rfl kfturn3_5 rfl rfl rfl) rfl rfl ?_
        rintro _ w78 H79
        refine reg_nil ?_
        refine fn_next ?_
        refine cw_ret ?_
        refine fn_ret1 rfl (⟨_, rfl, load_agg (cs := [_, _, _]) kfturn3_12 rfl fun j v hv => by rw [Nat.zero_add]; exact H79.cell (i := 3) rfl hv⟩) ?_
        have Hz := (H79.pick (m := [_]) [0] rfl (by decide))
        have hvz : mN (V) a h (fun _ y => y) (fun x _ => h - 1 - x) (a * h) = q1V V a h := by rw [Nat.mul_comm a h]; rfl
        rw [hvz, Nat.mul_comm a h] at Hz
        refine ⟨_, _, by rw [Nat.mul_comm h a], Hz⟩
  · exact absurd (by decide) h7

set_option maxRecDepth 100000 in
set_option maxHeartbeats 2000000 in
theorem mQuarter2 (a h : Nat) (A : Option Addr) (cap : Nat) (V : List Int) (w : World) (s : SzG a h) (hr : Rd w A (vi .i64 V)) (hl : V.length = a * h) :
    Ret Try.prog 42 [.agg #[.int .i64 (a : Int), .int .i64 (h : Int), .slice A (a * h) cap], .int .i64 2] w (fun z w' => ∃ A' cap', z = .agg #[.int .i64 (a : Int), .int .i64 (h : Int), .slice A' (a * h) cap'] ∧ HS w w' [.row A' (a * h) cap' (vi .i64 (q1V (q1V V a h) h a)) 2 1]) := by
  obtain ⟨s1, s2, s3, s4⟩ := id s
  have hm := s.mul
  refine ret_enter Try.func42 rfl rfl rfl ?_
  have H0 := HS.start w
  refine cw_seq ?_
  refine cw_reg ?_
  refine reg_op (op_box (cs := [.int _ _, .int _ _, .slice _ _ _]) H0 rfl rfl rfl) rfl rfl ?_
  rintro _ w2 ⟨b1, rfl, H3⟩
  refine reg_op (op_alloc H3 rfl kfturn3_1) rfl rfl ?_
  rintro _ w5 ⟨b4, rfl, H6⟩
  refine reg_nil ?_
  refine fn_next ?_
  refine cw_seq ?_
  refine cw_seq ?_
  refine cw_reg ?_
  refine ry (y_asg rfl rfl) rfl rfl ?_
  refine reg_nil ?_
  refine fn_next ?_
  refine cw_block ?_
  refine cw_loopR 3 ?_
  refine cw_seq ?_
  refine cw_seq ?_
  refine cw_reg ?_
  refine ry (y_mov rfl rfl) rfl rfl ?_
  refine ry (y_mov rfl rfl) rfl rfl ?_
  refine ry (y_lss rfl rfl rfl) rfl rfl ?_
  refine reg_nil ?_
  refine fn_next ?_
  refine cw_condd rfl (fun h7 => ?_) (fun h7 => ?_)
  · skip
    refine cw_skip ?_
    refine fn_next ?_
    refine cw_seq ?_
    refine cw_block ?_
    refine cw_seq ?_
    refine cw_reg ?_
    refine ry (y_fa rfl rfl kfturn3_2 rfl) rfl rfl ?_
    refine ry (y_ld rfl rfl kfturn3_3 (H6.cell (i := 1) rfl rfl)) rfl rfl ?_
    refine ry (y_fa rfl rfl kfturn3_4 rfl) rfl rfl ?_
    refine ry (y_ld rfl rfl kfturn3_3 (H6.cell (i := 1) rfl rfl)) rfl rfl ?_
    refine ry (y_build (places := [(0, 1), (1, 1), (2, 1)]) (parts := [(0, _), (1, _)]) (vs := [(0, _), (1, _)]) (cs := [.int _ _, .int _ _, .slice _ _ _]) rfl Try.underlying25 (by kernel_rfl) kfturn3_1 rfl ⟨rfl, rfl, trivial⟩ rfl) rfl rfl ?_
    refine reg_op (op_alloc H6 rfl kfturn3_1) rfl rfl ?_
    rintro _ w9 ⟨b8, rfl, H10⟩
    refine reg_op (op_st (i := 0) (vs := [.int _ _, .int _ _, .slice _ _ _]) H10 rfl rfl rfl rfl rfl kfturn3_5 rfl rfl rfl) rfl rfl ?_
    rintro _ w11 H12
    refine reg_nil ?_
    refine fn_next ?_
    refine cw_seq ?_
    refine cw_seq ?_
    refine cw_reg ?_
    refine ry (y_asg rfl rfl) rfl rfl ?_
    refine reg_nil ?_
    refine fn_next ?_
    refine cw_block ?_
    have Hn13 := H12.nilrow 2 1
    have hE14 : HS w w11 [Ob.row none (0 * h) 0 (vi .i64 (mN (V) a h (fun _ y => y) (fun x _ => h - 1 - x) (0 * h))) 2 1, Ob.blk b8 [.int .i64 (h : Int), .int .i64 (a : Int), .slice none (0 * h) 0] 25, Ob.blk b1 [.int .i64 (a : Int), .int .i64 (h : Int), .slice A (a * h) cap] 25, Ob.blk b4 [.int .i64 0, .int .i64 0, .slice none 0 0] 25] := by rw [Nat.zero_mul]; exact (Hn13.pick (m := [_, _, _, _]) [0, 1, 3, 2] rfl (by decide))
    refine cw_loopJ [7, 8, 19, 20, 21, 22, 23, 24, 25, 26, 27, 28, 29, 30, 31, 32, 33, 34, 35, 36, 37, 38, 39, 40, 41, 42, 43, 44, 45, 46] (fun M wl ml => ∃ (yr0 : Nat) (A1r0 : Option Addr) (c1r0 : Nat), M = [(7, .int .i64 (yr0 : Int))] ∧ HS w wl [Ob.row A1r0 (yr0 * h) c1r0 (vi .i64 (mN (V) a h (fun _ y => y) (fun x _ => h - 1 - x) (yr0 * h))) 2 1, Ob.blk b8 [.int .i64 (h : Int), .int .i64 (a : Int), .slice A1r0 (yr0 * h) c1r0] 25, Ob.blk b1 [.int .i64 (a : Int), .int .i64 (h : Int), .slice A (a * h) cap] 25, Ob.blk b4 [.int .i64 0, .int .i64 0, .slice none 0 0] 25] ∧ (yr0 ≤ a) ∧ ml = a - yr0) ⟨0, _, _, rfl, hE14, Nat.zero_le _, rfl⟩ ⟨rfl, trivial⟩ ?_
    rintro M w15 m17 ⟨yr0, A1r0, c1r0, rfl, H16, hyr00, rfl⟩
    refine cw_seq ?_
    refine cw_seq ?_
    refine cw_reg ?_
    refine ry (y_mov rfl rfl) rfl rfl ?_
    refine ry (y_fa rfl rfl kfturn3_4 rfl) rfl rfl ?_
    refine ry (y_ld rfl rfl kfturn3_3 (H16.cell (i := 2) rfl rfl)) rfl rfl ?_
    refine ry (y_lss rfl rfl rfl) rfl rfl ?_
    refine reg_nil ?_
    refine fn_next ?_
    refine cw_condd rfl (fun h18 => ?_) (fun h18 => ?_)
    · skip
      have hyr0 : yr0 < a := by omega
      refine cw_skip ?_
      refine fn_next ?_
      refine cw_seq ?_
      refine cw_block ?_
      refine cw_seq ?_
      refine cw_reg ?_
      refine ry (y_fa rfl rfl kfturn3_2 rfl) rfl rfl ?_
      refine ry (y_ld rfl rfl kfturn3_3 (H16.cell (i := 2) rfl rfl)) rfl rfl ?_
      refine ry (y_sub rfl rfl rfl (wi (by omega))) rfl rfl ?_
      refine ry (y_asg rfl rfl) rfl rfl ?_
      refine reg_nil ?_
      refine fn_next ?_
      refine cw_block ?_
      refine cw_loopJ [8, 28, 29, 30, 31, 32, 33, 34, 35, 36, 37, 38, 39, 40, 41, 42, 43, 44, 45, 46] (fun M wl ml => ∃ (xr0 : Nat) (A2r0 : Option Addr) (c2r0 : Nat), M = [(8, .int .i64 ((h : Int) - 1 - (xr0 : Nat)))] ∧ HS w wl [Ob.row A2r0 (yr0 * h + xr0) c2r0 (vi .i64 (mN (V) a h (fun _ y => y) (fun x _ => h - 1 - x) (yr0 * h + xr0))) 2 1, Ob.blk b8 [.int .i64 (h : Int), .int .i64 (a : Int), .slice A2r0 (yr0 * h + xr0) c2r0] 25, Ob.blk b1 [.int .i64 (a : Int), .int .i64 (h : Int), .slice A (a * h) cap] 25, Ob.blk b4 [.int .i64 0, .int .i64 0, .slice none 0 0] 25] ∧ (xr0 ≤ h) ∧ ml = h - xr0) ⟨0, _, _, rfl, H16, Nat.zero_le _, rfl⟩ ⟨si (by omega), trivial⟩ ?_
      rintro M w19 m21 ⟨xr0, A2r0, c2r0, rfl, H20, hxr00, rfl⟩
      refine cw_seq ?_
      refine cw_seq ?_
      refine cw_reg ?_
      refine ry (y_mov rfl rfl) rfl rfl ?_
      refine ry (y_geq rfl rfl rfl) rfl rfl ?_
      refine reg_nil ?_
      refine fn_next ?_
      refine cw_condd rfl (fun h22 => ?_) (fun h22 => ?_)
      · skip
        have hxr0 : xr0 < h := by omega
        have hcl := cell_lt' (x := yr0) (y := h - 1 - xr0) hyr0 (show _ < h by omega)
        have hcl3 := hcl
        rw [Nat.mul_comm h a] at hcl3
        have hcl2 := cell_lt' (x := xr0) (y := yr0) hxr0 hyr0
        have hlr : (V).length = a * h := hl
        have hgi := vi_get (k := .i64) (zs := V) (i := (h - 1 - xr0) * a + yr0) (by rw [hlr, Nat.mul_comm a h]; exact hcl)
        have hm2 : h * a ≤ 1048576 := by rw [Nat.mul_comm]; exact hm.2
        refine cw_skip ?_
        refine fn_next ?_
        refine cw_seq ?_
        refine cw_block ?_
        refine cw_drawT H20 [0, 2, 3, 4, 5, 6, 7, 8, 9, 10, 11] (.alt (.step 1 (.step 12 (.step 13 (.step 14 (.step 15 (.leaf)))))) (.step 12 (.step 1 (.step 13 (.step 14 (.step 15 (.leaf))))))) (fun X HX => (HX.pick (m := [_, _]) [2, 3] rfl (by decide))) (by kernel_rfl) (by kernel_rfl) (by rfl) ?_
        simp only [pick, List.getElem?_cons_succ, List.getElem?_cons_zero]
        refine hk_y (fun Y HY => y_fa rfl rfl kfturn3_6 rfl) rfl rfl ?_
        refine hk_y (fun Y HY => y_fa rfl rfl kfturn3_6 rfl) rfl rfl ?_
        refine hk_y (fun Y HY => y_ld rfl rfl kfturn3_7 (HY.cell (i := 0) rfl rfl)) rfl rfl ?_
        refine hk_y (fun Y HY => y_mov rfl rfl) rfl rfl ?_
        refine hk_y (fun Y HY => y_fa rfl rfl kfturn3_4 rfl) rfl rfl ?_
        refine hk_y (fun Y HY => y_ld rfl rfl kfturn3_3 (HY.cell (i := 0) rfl rfl)) rfl rfl ?_
        refine hk_y (fun Y HY => y_mul rfl rfl rfl (show _ = (((h - 1 - xr0) * a : Nat) : Int) from by rw [show (h : Int) - 1 - (xr0 : Nat) = ((h - 1 - xr0 : Nat) : Int) by omega]; exact mulN (by omega))) rfl rfl ?_
        refine hk_y (fun Y HY => y_mov rfl rfl) rfl rfl ?_
        refine hk_y (fun Y HY => y_add rfl rfl rfl (addN (by omega))) rfl rfl ?_
        refine hk_y (fun Y HY => y_iar (i := (h - 1 - xr0) * a + yr0) (hr.below HY.base) rfl rfl rfl kfturn3_8 (rfl) (by first | omega | (rw [Nat.mul_comm]; omega)) (Nat.mul_one _) (hgi)) rfl rfl ?_
        refine hk_y (fun Y HY => y_ldr (hr.below HY.base) rfl rfl kfturn3_3 (hgi)) rfl rfl ?_
        refine hkt_nil [33, 44, 45, 46] (fun M wl => ∃ (A2r0k : Option Addr) (c2r0k : Nat), M = [] ∧ HS w wl [Ob.row A2r0k (yr0 * h + xr0 + 1) c2r0k (vi .i64 (mN (V) a h (fun _ y => y) (fun x _ => h - 1 - x) (yr0 * h + xr0)) ++ [.int .i64 (nth (V) ((h - 1 - xr0) * a + yr0))]) 2 1, Ob.blk b8 [.int .i64 (h : Int), .int .i64 (a : Int), .slice A2r0k (yr0 * h + xr0 + 1) c2r0k] 25, Ob.blk b1 [.int .i64 (a : Int), .int .i64 (h : Int), .slice A (a * h) cap] 25, Ob.blk b4 [.int .i64 0, .int .i64 0, .slice none 0 0] 25]) (fun wX HX => ?_) ?_
        · skip
          refine tt_alt ?_ ?_
          · skip
            refine tt_op rfl (Yd.op (y_ld rfl rfl kfturn3_7 (HX.cell (i := 1) rfl rfl))) rfl rfl ?_
            rintro _ _ ⟨rfl, rfl⟩
            refine ⟨(HX.pick (m := [_, _]) [2, 3] rfl (by decide)), fun w23 e25 => ?_⟩
            have H24 := HX.ext e25
            refine tt_op rfl (op_lit (parts := [(0, _)]) (vs := [(0, _)]) (cs := [.int _ _]) H24 rfl Try.underlying22 kfturn3_9 rfl ⟨rfl, trivial⟩ rfl rfl) rfl rfl ?_
            rintro _ w27 ⟨b26, rfl, H28⟩
            have H29 := H28.asrow (m := 1) (size := 1) rfl (by decide)
            refine ⟨(H29.pick (m := [_, _]) [3, 4] rfl (by decide)), fun w30 e32 => ?_⟩
            have H31 := H29.ext e32
            refine tt_op rfl (op_app (i := 1) H31 rfl rfl rfl rfl (H31.rd (i := 0) rfl) (rfl) (rfl) Try.underlying22 kfturn3_10 rfl rfl (by unfold maxLen; omega) (by omega)) rfl rfl ?_
            rintro _ w35 ⟨A33, c34, rfl, H36⟩
            refine ⟨(H36.pick (m := [_, _]) [3, 4] rfl (by decide)), fun w37 e39 => ?_⟩
            have H38 := H36.ext e39
            refine tt_op rfl (Yd.op (y_fa rfl rfl kfturn3_6 rfl)) rfl rfl ?_
            rintro _ _ ⟨rfl, rfl⟩
            refine ⟨(H38.pick (m := [_, _]) [3, 4] rfl (by decide)), fun w40 e42 => ?_⟩
            have H41 := H38.ext e42
            refine tt_op rfl (op_st (i := 2) (vs := [.slice _ _ _]) H41 rfl rfl rfl rfl rfl kfturn3_11 rfl rfl rfl) rfl rfl ?_
            rintro _ w43 H44
            refine ⟨(H44.pick (m := [_, _]) [3, 4] rfl (by decide)), fun w45 e47 => ?_⟩
            have H46 := H44.ext e47
            exact tt_leaf ⟨A33, c34, rfl, (H46.pick (m := [_, _, _, _]) [1, 2, 3, 4] rfl (by decide))⟩ trivial (by repeat (first | exact kp_refl | refine kp_app rfl rfl ?_ | refine kp_cons rfl ?_))
          refine tt_op rfl (op_lit (parts := [(0, _)]) (vs := [(0, _)]) (cs := [.int _ _]) HX rfl Try.underlying22 kfturn3_9 rfl ⟨rfl, trivial⟩ rfl rfl) rfl rfl ?_
          rintro _ w49 ⟨b48, rfl, H50⟩
          have H51 := H50.asrow (m := 1) (size := 1) rfl (by decide)
          refine ⟨(H51.pick (m := [_, _]) [3, 4] rfl (by decide)), fun w52 e54 => ?_⟩
          have H53 := H51.ext e54
          refine tt_op rfl (Yd.op (y_ld rfl rfl kfturn3_7 (H53.cell (i := 2) rfl rfl))) rfl rfl ?_
          rintro _ _ ⟨rfl, rfl⟩
          refine ⟨(H53.pick (m := [_, _]) [3, 4] rfl (by decide)), fun w55 e57 => ?_⟩
          have H56 := H53.ext e57
          refine tt_op rfl (op_app (i := 1) H56 rfl rfl rfl rfl (H56.rd (i := 0) rfl) (rfl) (rfl) Try.underlying22 kfturn3_10 rfl rfl (by unfold maxLen; omega) (by omega)) rfl rfl ?_
          rintro _ w60 ⟨A58, c59, rfl, H61⟩
          refine ⟨(H61.pick (m := [_, _]) [3, 4] rfl (by decide)), fun w62 e64 => ?_⟩
          have H63 := H61.ext e64
          refine tt_op rfl (Yd.op (y_fa rfl rfl kfturn3_6 rfl)) rfl rfl ?_
          rintro _ _ ⟨rfl, rfl⟩
          refine ⟨(H63.pick (m := [_, _]) [3, 4] rfl (by decide)), fun w65 e67 => ?_⟩
          have H66 := H63.ext e67
          refine tt_op rfl (op_st (i := 2) (vs := [.slice _ _ _]) H66 rfl rfl rfl rfl rfl kfturn3_11 rfl rfl rfl) rfl rfl ?_
          rintro _ w68 H69
          refine ⟨(H69.pick (m := [_, _]) [3, 4] rfl (by decide)), fun w70 e72 => ?_⟩
          have H71 := H69.ext e72
          exact tt_leaf ⟨A58, c59, rfl, (H71.pick (m := [_, _, _, _]) [1, 2, 3, 4] rfl (by decide))⟩ trivial (by repeat (first | exact kp_refl | refine kp_app rfl rfl ?_ | refine kp_cons rfl ?_))
        · skip
          rintro M w74 ⟨A2r0k, c2r0k, rfl, H73⟩
          refine fn_block ?_
          refine fn_next ?_
          refine cw_reg ?_
          refine ry (y_mov rfl rfl) rfl rfl ?_
          refine ry (y_sub rfl rfl rfl (wi (by omega))) rfl rfl ?_
          refine ry (y_asg rfl rfl) rfl rfl ?_
          refine reg_nil ?_
          rw [vi_snoc, mN_succ hxr0] at H73
          refine fn_roundJ ⟨xr0 + 1, _, _, rfl, H73, by omega, rfl⟩ ⟨si (by omega), trivial⟩ (by omega) (by repeat (first | exact kp_refl | refine kp_app rfl rfl ?_ | refine kp_cons rfl ?_)) rfl
      · skip
        obtain rfl : h = xr0 := by omega
        refine cw_exit ?_
        refine fn_then_exit (fn_then_exit (fn_block_exit ?_))
        refine fn_block ?_
        refine fn_next ?_
        refine cw_reg ?_
        refine ry (y_mov rfl rfl) rfl rfl ?_
        refine ry (y_add rfl rfl rfl (wi (by omega))) rfl rfl ?_
        refine ry (y_asg rfl rfl) rfl rfl ?_
        refine reg_nil ?_
        rw [← Nat.succ_mul] at H20
        refine fn_roundJ ⟨yr0 + 1, _, _, rfl, H20, by omega, rfl⟩ ⟨rfl, trivial⟩ (by omega) (by repeat (first | exact kp_refl | refine kp_app rfl rfl ?_ | refine kp_cons rfl ?_)) rfl
    · skip
      obtain ⟨rfl⟩ : a = yr0 := by omega
      refine cw_exit ?_
      refine fn_then_exit (fn_then_exit (fn_block_exit ?_))
      refine fn_next ?_
      refine cw_reg ?_
      refine ry (y_ldb (i := 1) (cs := [_, _, _]) H16 rfl rfl kfturn3_12 rfl rfl) rfl rfl ?_
      refine reg_op (op_st (i := 2) (vs := [.int _ _, .int _ _, .slice _ _ _]) H16 rfl rfl rfl rfl rfl kfturn3_5 rfl rfl rfl) rfl rfl ?_
      rintro _ w75 H76
      refine reg_nil ?_
      refine fn_block ?_
      refine fn_next ?_
      refine cw_reg ?_
      refine ry (y_mov rfl rfl) rfl rfl ?_
      refine ry (y_add rfl rfl rfl (wi (by omega))) rfl rfl ?_
      refine ry (y_asg rfl rfl) rfl rfl ?_
      refine reg_nil ?_
      refine fn_roundR ?_
      refine cw_seq ?_
      refine cw_seq ?_
      refine cw_reg ?_
      refine ry (y_mov rfl rfl) rfl rfl ?_
      refine ry (y_mov rfl rfl) rfl rfl ?_
      refine ry (y_lss rfl rfl rfl) rfl rfl ?_
      refine reg_nil ?_
      refine fn_next ?_
      refine cw_condd rfl (fun h77 => ?_) (fun h77 => ?_)
      · skip
        refine cw_skip ?_
        refine fn_next ?_
        refine cw_seq ?_
        refine cw_block ?_
        refine cw_seq ?_
        refine cw_reg ?_
        refine ry (y_fa rfl rfl kfturn3_2 rfl) rfl rfl ?_
        refine ry (y_ld rfl rfl kfturn3_3 (H76.cell (i := 2) rfl rfl)) rfl rfl ?_
        refine ry (y_fa rfl rfl kfturn3_4 rfl) rfl rfl ?_
        refine ry (y_ld rfl rfl kfturn3_3 (H76.cell (i := 2) rfl rfl)) rfl rfl ?_
        refine ry (y_build (places := [(0, 1), (1, 1), (2, 1)]) (parts := [(0, _), (1, _)]) (vs := [(0, _), (1, _)]) (cs := [.int _ _, .int _ _, .slice _ _ _]) rfl Try.underlying25 (by kernel_rfl) kfturn3_1 rfl ⟨rfl, rfl, trivial⟩ rfl) rfl rfl ?_
        refine reg_op (op_alloc H76 rfl kfturn3_1) rfl rfl ?_
        rintro _ w79 ⟨b78, rfl, H80⟩
        refine reg_op (op_st (i := 0) (vs := [.int _ _, .int _ _, .slice _ _ _]) H80 rfl rfl rfl rfl rfl kfturn3_5 rfl rfl rfl) rfl rfl ?_
        rintro _ w81 H82
        refine reg_nil ?_
        refine fn_next ?_
        refine cw_seq ?_
        refine cw_seq ?_
        refine cw_reg ?_
        refine ry (y_asg rfl rfl) rfl rfl ?_
        refine reg_nil ?_
        refine fn_next ?_
        refine cw_block ?_
        have hv1 : mN (V) a h (fun _ y => y) (fun x _ => h - 1 - x) (a * h) = q1V V a h := by rw [Nat.mul_comm a h]; rfl
        rw [hv1] at H82
        have Hn84 := H82.nilrow 2 1
        have hE85 : HS w w81 [Ob.row none (0 * a) 0 (vi .i64 (mN (q1V V a h) h a (fun _ y => y) (fun x _ => a - 1 - x) (0 * a))) 2 1, Ob.blk b78 [.int .i64 (a : Int), .int .i64 (h : Int), .slice none (0 * a) 0] 25, Ob.blk b1 [.int .i64 (h : Int), .int .i64 (a : Int), .slice A1r0 (a * h) c1r0] 25, Ob.blk b4 [.int .i64 0, .int .i64 0, .slice none 0 0] 25, Ob.row A1r0 (a * h) c1r0 (vi .i64 (q1V V a h)) 2 1] := by rw [Nat.zero_mul]; exact (Hn84.pick (m := [_, _, _, _, _]) [0, 1, 4, 5, 2] rfl (by decide))
        refine cw_loopJ [7, 8, 19, 20, 21, 22, 23, 24, 25, 26, 27, 28, 29, 30, 31, 32, 33, 34, 35, 36, 37, 38, 39, 40, 41, 42, 43, 44, 45, 46] (fun M wl ml => ∃ (yr1 : Nat) (A1r1 : Option Addr) (c1r1 : Nat), M = [(7, .int .i64 (yr1 : Int))] ∧ HS w wl [Ob.row A1r1 (yr1 * a) c1r1 (vi .i64 (mN (q1V V a h) h a (fun _ y => y) (fun x _ => a - 1 - x) (yr1 * a))) 2 1, Ob.blk b78 [.int .i64 (a : Int), .int .i64 (h : Int), .slice A1r1 (yr1 * a) c1r1] 25, Ob.blk b1 [.int .i64 (h : Int), .int .i64 (a : Int), .slice A1r0 (a * h) c1r0] 25, Ob.blk b4 [.int .i64 0, .int .i64 0, .slice none 0 0] 25, Ob.row A1r0 (a * h) c1r0 (vi .i64 (q1V V a h)) 2 1] ∧ (yr1 ≤ h) ∧ ml = h - yr1) ⟨0, _, _, rfl, hE85, Nat.zero_le _, rfl⟩ ⟨rfl, trivial⟩ ?_
        rintro M w86 m88 ⟨yr1, A1r1, c1r1, rfl, H87, hyr10, rfl⟩
        refine cw_seq ?_
        refine cw_seq ?_
        refine cw_reg ?_
        refine ry (y_mov rfl rfl) rfl rfl ?_
        refine ry (y_fa rfl rfl kfturn3_4 rfl) rfl rfl ?_
        refine ry (y_ld rfl rfl kfturn3_3 (H87.cell (i := 2) rfl rfl)) rfl rfl ?_
        refine ry (y_lss rfl rfl rfl) rfl rfl ?_
        refine reg_nil ?_
        refine fn_next ?_
        refine cw_condd rfl (fun h89 => ?_) (fun h89 => ?_)
        · skip
          have hyr1 : yr1 < h := by omega
          refine cw_skip ?_
          refine fn_next ?_
          refine cw_seq ?_
          refine cw_block ?_
          refine cw_seq ?_
          refine cw_reg ?_
          refine ry (y_fa rfl rfl kfturn3_2 rfl) rfl rfl ?_
          refine ry (y_ld rfl rfl kfturn3_3 (H87.cell (i := 2) rfl rfl)) rfl rfl ?_
          refine ry (y_sub rfl rfl rfl (wi (by omega))) rfl rfl ?_
          refine ry (y_asg rfl rfl) rfl rfl ?_
          refine reg_nil ?_
          refine fn_next ?_
          refine cw_block ?_
          refine cw_loopJ [8, 28, 29, 30, 31, 32, 33, 34, 35, 36, 37, 38, 39, 40, 41, 42, 43, 44, 45, 46] (fun M wl ml => ∃ (xr1 : Nat) (A2r1 : Option Addr) (c2r1 : Nat), M = [(8, .int .i64 ((a : Int) - 1 - (xr1 : Nat)))] ∧ HS w wl [Ob.row A2r1 (yr1 * a + xr1) c2r1 (vi .i64 (mN (q1V V a h) h a (fun _ y => y) (fun x _ => a - 1 - x) (yr1 * a + xr1))) 2 1, Ob.blk b78 [.int .i64 (a : Int), .int .i64 (h : Int), .slice A2r1 (yr1 * a + xr1) c2r1] 25, Ob.blk b1 [.int .i64 (h : Int), .int .i64 (a : Int), .slice A1r0 (a * h) c1r0] 25, Ob.blk b4 [.int .i64 0, .int .i64 0, .slice none 0 0] 25, Ob.row A1r0 (a * h) c1r0 (vi .i64 (q1V V a h)) 2 1] ∧ (xr1 ≤ a) ∧ ml = a - xr1) ⟨0, _, _, rfl, H87, Nat.zero_le _, rfl⟩ ⟨si (by omega), trivial⟩ ?_
          rintro M w90 m92 ⟨xr1, A2r1, c2r1, rfl, H91, hxr10, rfl⟩
          refine cw_seq ?_
          refine cw_seq ?_
          refine cw_reg ?_
          refine ry (y_mov rfl rfl) rfl rfl ?_
          refine ry (y_geq rfl rfl rfl) rfl rfl ?_
          refine reg_nil ?_
          refine fn_next ?_
          refine cw_condd rfl (fun h93 => ?_) (fun h93 => ?_)
          · skip
            have hxr1 : xr1 < a := by omega
            have hcl := cell_lt' (x := yr1) (y := a - 1 - xr1) hyr1 (show _ < a by omega)
            have hcl3 := hcl
            rw [Nat.mul_comm a h] at hcl3
            have hcl2 := cell_lt' (x := xr1) (y := yr1) hxr1 hyr1
            have hlr : (q1V V a h).length = h * a := q1V_len
            have hgi := vi_get (k := .i64) (zs := q1V V a h) (i := (a - 1 - xr1) * h + yr1) (by rw [hlr, Nat.mul_comm h a]; exact hcl)
            have hm2 : h * a ≤ 1048576 := by rw [Nat.mul_comm]; exact hm.2
            refine cw_skip ?_
            refine fn_next ?_
            refine cw_seq ?_
            refine cw_block ?_
            refine cw_drawT H91 [0, 2, 3, 4, 5, 6, 7, 8, 9, 10, 11] (.alt (.step 1 (.step 12 (.step 13 (.step 14 (.step 15 (.leaf)))))) (.step 12 (.step 1 (.step 13 (.step 14 (.step 15 (.leaf))))))) (fun X HX => (HX.pick (m := [_, _, _]) [2, 3, 4] rfl (by decide))) (by kernel_rfl) (by kernel_rfl) (by rfl) ?_
            simp only [pick, List.getElem?_cons_succ, List.getElem?_cons_zero]
            refine hk_y (fun Y HY => y_fa rfl rfl kfturn3_6 rfl) rfl rfl ?_
            refine hk_y (fun Y HY => y_fa rfl rfl kfturn3_6 rfl) rfl rfl ?_
            refine hk_y (fun Y HY => y_ld rfl rfl kfturn3_7 (HY.cell (i := 0) rfl rfl)) rfl rfl ?_
            refine hk_y (fun Y HY => y_mov rfl rfl) rfl rfl ?_
            refine hk_y (fun Y HY => y_fa rfl rfl kfturn3_4 rfl) rfl rfl ?_
            refine hk_y (fun Y HY => y_ld rfl rfl kfturn3_3 (HY.cell (i := 0) rfl rfl)) rfl rfl ?_
            refine hk_y (fun Y HY => y_mul rfl rfl rfl (show _ = (((a - 1 - xr1) * h : Nat) : Int) from by rw [show (a : Int) - 1 - (xr1 : Nat) = ((a - 1 - xr1 : Nat) : Int) by omega]; exact mulN (by omega))) rfl rfl ?_
            refine hk_y (fun Y HY => y_mov rfl rfl) rfl rfl ?_
            refine hk_y (fun Y HY => y_add rfl rfl rfl (addN (by omega))) rfl rfl ?_
            refine hk_y (fun Y HY => y_iar (i := (a - 1 - xr1) * h + yr1) (HY.rd (i := 2) rfl) rfl rfl rfl kfturn3_8 (rfl) (by first | omega | (rw [Nat.mul_comm]; omega)) (Nat.mul_one _) (hgi)) rfl rfl ?_
            refine hk_y (fun Y HY => y_ldr (HY.rd (i := 2) rfl) rfl rfl kfturn3_3 (hgi)) rfl rfl ?_
            refine hkt_nil [33, 44, 45, 46] (fun M wl => ∃ (A2r1k : Option Addr) (c2r1k : Nat), M = [] ∧ HS w wl [Ob.row A2r1k (yr1 * a + xr1 + 1) c2r1k (vi .i64 (mN (q1V V a h) h a (fun _ y => y) (fun x _ => a - 1 - x) (yr1 * a + xr1)) ++ [.int .i64 (nth (q1V V a h) ((a - 1 - xr1) * h + yr1))]) 2 1, Ob.blk b78 [.int .i64 (a : Int), .int .i64 (h : Int), .slice A2r1k (yr1 * a + xr1 + 1) c2r1k] 25, Ob.blk b1 [.int .i64 (h : Int), .int .i64 (a : Int), .slice A1r0 (a * h) c1r0] 25, Ob.blk b4 [.int .i64 0, .int .i64 0, .slice none 0 0] 25, Ob.row A1r0 (a * h) c1r0 (vi .i64 (q1V V a h)) 2 1]) (fun wX HX => ?_) ?_
            · skip
              refine tt_alt ?_ ?_
              · skip
                refine tt_op rfl (Yd.op (y_ld rfl rfl kfturn3_7 (HX.cell (i := 1) rfl rfl))) rfl rfl ?_
                rintro _ _ ⟨rfl, rfl⟩
                refine ⟨(HX.pick (m := [_, _, _]) [2, 3, 4] rfl (by decide)), fun w94 e96 => ?_⟩
                have H95 := HX.ext e96
                refine tt_op rfl (op_lit (parts := [(0, _)]) (vs := [(0, _)]) (cs := [.int _ _]) H95 rfl Try.underlying22 kfturn3_9 rfl ⟨rfl, trivial⟩ rfl rfl) rfl rfl ?_
                rintro _ w98 ⟨b97, rfl, H99⟩
                have H100 := H99.asrow (m := 1) (size := 1) rfl (by decide)
                refine ⟨(H100.pick (m := [_, _, _]) [3, 4, 5] rfl (by decide)), fun w101 e103 => ?_⟩
                have H102 := H100.ext e103
                refine tt_op rfl (op_app (i := 1) H102 rfl rfl rfl rfl (H102.rd (i := 0) rfl) (rfl) (rfl) Try.underlying22 kfturn3_10 rfl rfl (by unfold maxLen; omega) (by omega)) rfl rfl ?_
                rintro _ w106 ⟨A104, c105, rfl, H107⟩
                refine ⟨(H107.pick (m := [_, _, _]) [3, 4, 5] rfl (by decide)), fun w108 e110 => ?_⟩
                have H109 := H107.ext e110
                refine tt_op rfl (Yd.op (y_fa rfl rfl kfturn3_6 rfl)) rfl rfl ?_
                rintro _ _ ⟨rfl, rfl⟩
                refine ⟨(H109.pick (m := [_, _, _]) [3, 4, 5] rfl (by decide)), fun w111 e113 => ?_⟩
                have H112 := H109.ext e113
                refine tt_op rfl (op_st (i := 2) (vs := [.slice _ _ _]) H112 rfl rfl rfl rfl rfl kfturn3_11 rfl rfl rfl) rfl rfl ?_
                rintro _ w114 H115
                refine ⟨(H115.pick (m := [_, _, _]) [3, 4, 5] rfl (by decide)), fun w116 e118 => ?_⟩
                have H117 := H115.ext e118
                exact tt_leaf ⟨A104, c105, rfl, (H117.pick (m := [_, _, _, _, _]) [1, 2, 3, 4, 5] rfl (by decide))⟩ trivial (by repeat (first | exact kp_refl | refine kp_app rfl rfl ?_ | refine kp_cons rfl ?_))
              refine tt_op rfl (op_lit (parts := [(0, _)]) (vs := [(0, _)]) (cs := [.int _ _]) HX rfl Try.underlying22 kfturn3_9 rfl ⟨rfl, trivial⟩ rfl rfl) rfl rfl ?_
              rintro _ w120 ⟨b119, rfl, H121⟩
              have H122 := H121.asrow (m := 1) (size := 1) rfl (by decide)
              refine ⟨(H122.pick (m := [_, _, _]) [3, 4, 5] rfl (by decide)), fun w123 e125 => ?_⟩
              have H124 := H122.ext e125
              refine tt_op rfl (Yd.op (y_ld rfl rfl kfturn3_7 (H124.cell (i := 2) rfl rfl))) rfl rfl ?_
              rintro _ _ ⟨rfl, rfl⟩
              refine ⟨(H124.pick (m := [_, _, _]) [3, 4, 5] rfl (by decide)), fun w126 e128 => ?_⟩
              have H127 := H124.ext e128
              refine tt_op rfl (op_app (i := 1) H127 rfl rfl rfl rfl (H127.rd (i := 0) rfl) (rfl) (rfl) Try.underlying22 kfturn3_10 rfl rfl (by unfold maxLen; omega) (by omega)) rfl rfl ?_
              rintro _ w131 ⟨A129, c130, rfl, H132⟩
              refine ⟨(H132.pick (m := [_, _, _]) [3, 4, 5] rfl (by decide)), fun w133 e135 => ?_⟩
              have H134 := H132.ext e135
              refine tt_op rfl (Yd.op (y_fa rfl rfl kfturn3_6 rfl)) rfl rfl ?_
              rintro _ _ ⟨rfl, rfl⟩
              refine ⟨(H134.pick (m := [_, _, _]) [3, 4, 5] rfl (by decide)), fun w136 e138 => ?_⟩
              have H137 := H134.ext e138
              refine tt_op rfl (op_st (i := 2) (vs := [.slice _ _ _]) H137 rfl rfl rfl rfl rfl kfturn3_11 rfl rfl rfl) rfl rfl ?_
              rintro _ w139 H140
              refine ⟨(H140.pick (m := [_, _, _]) [3, 4, 5] rfl (by decide)), fun w141 e143 => ?_⟩
              have H142 := H140.ext e143
              exact tt_leaf ⟨A129, c130, rfl, (H142.pick (m := [_, _, _, _, _]) [1, 2, 3, 4, 5] rfl (by decide))⟩ trivial (by repeat (first | exact kp_refl | refine kp_app rfl rfl ?_ | refine kp_cons rfl ?_))
            · skip
              rintro M w145 ⟨A2r1k, c2r1k, rfl, H144⟩
              refine fn_block ?_
              refine fn_next ?_
              refine cw_reg ?_
              refine ry (y_mov rfl rfl) rfl rfl ?_
              refine ry (y_sub rfl rfl rfl (wi (by omega))) rfl rfl ?_
              refine ry (y_asg rfl rfl) rfl rfl ?_
              refine reg_nil ?_
              rw [vi_snoc, mN_succ hxr1] at H144
              refine fn_roundJ ⟨xr1 + 1, _, _, rfl, H144, by omega, rfl⟩ ⟨si (by omega), trivial⟩ (by omega) (by repeat (first | exact kp_refl | refine kp_app rfl rfl ?_ | refine kp_cons rfl ?_)) rfl
          · skip
            obtain rfl : a = xr1 := by omega
            refine cw_exit ?_
            refine fn_then_exit (fn_then_exit (fn_block_exit ?_))
            refine fn_block ?_
            refine fn_next ?_
            refine cw_reg ?_
            refine ry (y_mov rfl rfl) rfl rfl ?_
            refine ry (y_add rfl rfl rfl (wi (by omega))) rfl rfl ?_
            refine ry (y_asg rfl rfl) rfl rfl ?_
            refine reg_nil ?_
            rw [← Nat.succ_mul] at H91
            refine fn_roundJ ⟨yr1 + 1, _, _, rfl, H91, by omega, rfl⟩ ⟨rfl, trivial⟩ (by omega) (by repeat (first | exact kp_refl | refine kp_app rfl rfl ?_ | refine kp_cons rfl ?_)) rfl
        · skip
          obtain ⟨rfl⟩ : h = yr1 := by omega
          refine cw_exit ?_
          refine fn_then_exit (fn_then_exit (fn_block_exit ?_))
          refine fn_next ?_
          refine cw_reg ?_
          refine ry (y_ldb (i := 1) (cs := [_, _, _]) H87 rfl rfl kfturn3_12 rfl rfl) rfl rfl ?_
          refine reg_op (op_st (i := 2) (vs := [.int _ _, .int _ _, .slice _ _ _]) H87 rfl rfl rfl rfl rfl kfturn3_5 rfl rfl rfl) rfl rfl ?_
          rintro _ w146 H147
          refine reg_nil ?_
          refine fn_block ?_
          refine fn_next ?_
          refine cw_reg ?_
          refine ry (y_mov rfl rfl) rfl rfl ?_
          refine ry (y_add rfl rfl rfl (wi (by omega))) rfl rfl ?_
          refine ry (y_asg rfl rfl) rfl rfl ?_
          refine reg_nil ?_
          refine fn_roundR ?_
          refine cw_seq ?_
          refine cw_seq ?_
          refine cw_reg ?_
          refine ry (y_mov rfl rfl) rfl rfl ?_
          refine ry (y_mov rfl rfl) rfl rfl ?_
          refine ry (y_lss rfl rfl rfl) rfl rfl ?_
          refine reg_nil ?_
          refine fn_next ?_
          refine cw_condd rfl (fun h148 => ?_) (fun h148 => ?_)
          · exact absurd h148 (by decide)
          · skip
            refine cw_exit ?_
            refine fn_then_exit (fn_then_exit (fn_block_exit ?_))
            refine fn_next ?_
            refine cw_seq ?_
            refine cw_reg ?_
            refine ry (y_ldb (i := 2) (cs := [_, _, _]) H147 rfl rfl kfturn3_12 rfl rfl) rfl rfl ?_
            refine reg_op (op_st (i := 3) (vs := [.int _ _, .int _ _, .slice _ _ _]) H147 rfl rfl rfl rfl rfl kfturn3_5 rfl rfl rfl) rfl rfl ?_
            rintro _ w149 H150
            refine reg_nil ?_
            refine fn_next ?_
            refine cw_ret ?_
            refine fn_ret1 rfl (⟨_, rfl, load_agg (cs := [_, _, _]) kfturn3_12 rfl fun j v hv => by rw [Nat.zero_add]; exact H150.cell (i := 3) rfl hv⟩) ?_
            have Hz := (H150.pick (m := [_]) [0] rfl (by decide))
            have hvz : mN (q1V V a h) h a (fun _ y => y) (fun x _ => a - 1 - x) (h * a) = q1V (q1V V a h) h a := by rw [Nat.mul_comm h a]; rfl
            rw [hvz, Nat.mul_comm h a] at Hz
            refine ⟨_, _, by rw [Nat.mul_comm a h], Hz⟩
      · exact absurd (by decide) h77
  · exact absurd (by decide) h7

set_option maxRecDepth 100000 in
set_option maxHeartbeats 2000000 in
theorem mQuarter3 (a h : Nat) (A : Option Addr) (cap : Nat) (V : List Int) (w : World) (s : SzG a h) (hr : Rd w A (vi .i64 V)) (hl : V.length = a * h) :
    Ret Try.prog 42 [.agg #[.int .i64 (a : Int), .int .i64 (h : Int), .slice A (a * h) cap], .int .i64 3] w (fun z w' => ∃ A' cap', z = .agg #[.int .i64 (h : Int), .int .i64 (a : Int), .slice A' (h * a) cap'] ∧ HS w w' [.row A' (h * a) cap' (vi .i64 (q1V (q1V (q1V V a h) h a) a h)) 2 1]) := by
  obtain ⟨s1, s2, s3, s4⟩ := id s
  have hm := s.mul
  refine ret_enter Try.func42 rfl rfl rfl ?_
  have H0 := HS.start w
  refine cw_seq ?_
  refine cw_reg ?_
  refine reg_op (op_box (cs := [.int _ _, .int _ _, .slice _ _ _]) H0 rfl rfl rfl) rfl rfl ?_
  rintro _ w2 ⟨b1, rfl, H3⟩
  refine reg_op (op_alloc H3 rfl kfturn3_1) rfl rfl ?_
  rintro _ w5 ⟨b4, rfl, H6⟩
  refine reg_nil ?_
  refine fn_next ?_
  refine cw_seq ?_
  refine cw_seq ?_
  refine cw_reg ?_
  refine ry (y_asg rfl rfl) rfl rfl ?_
  refine reg_nil ?_
  refine fn_next ?_
  refine cw_block ?_
  refine cw_loopR 4 ?_
  refine cw_seq ?_
  refine cw_seq ?_
  refine cw_reg ?_
  refine ry (y_mov rfl rfl) rfl rfl ?_
  refine ry (y_mov rfl rfl) rfl rfl ?_
  refine ry (y_lss rfl rfl rfl) rfl rfl ?_
  refine reg_nil ?_
  refine fn_next ?_
  refine cw_condd rfl (fun h7 => ?_) (fun h7 => ?_)
  · skip
    refine cw_skip ?_
    refine fn_next ?_
    refine cw_seq ?_
    refine cw_block ?_
    refine cw_seq ?_
    refine cw_reg ?_
    refine ry (y_fa rfl rfl kfturn3_2 rfl) rfl rfl ?_
    refine ry (y_ld rfl rfl kfturn3_3 (H6.cell (i := 1) rfl rfl)) rfl rfl ?_
    refine ry (y_fa rfl rfl kfturn3_4 rfl) rfl rfl ?_
    refine ry (y_ld rfl rfl kfturn3_3 (H6.cell (i := 1) rfl rfl)) rfl rfl ?_
    refine ry (y_build (places := [(0, 1), (1, 1), (2, 1)]) (parts := [(0, _), (1, _)]) (vs := [(0, _), (1, _)]) (cs := [.int _ _, .int _ _, .slice _ _ _]) rfl Try.underlying25 (by kernel_rfl) kfturn3_1 rfl ⟨rfl, rfl, trivial⟩ rfl) rfl rfl ?_
    refine reg_op (op_alloc H6 rfl kfturn3_1) rfl rfl ?_
    rintro _ w9 ⟨b8, rfl, H10⟩
    refine reg_op (op_st (i := 0) (vs := [.int _ _, .int _ _, .slice _ _ _]) H10 rfl rfl rfl rfl rfl kfturn3_5 rfl rfl rfl) rfl rfl ?_
    rintro _ w11 H12
    refine reg_nil ?_
    refine fn_next ?_
    refine cw_seq ?_
    refine cw_seq ?_
    refine cw_reg ?_
    refine ry (y_asg rfl rfl) rfl rfl ?_
    refine reg_nil ?_
    refine fn_next ?_
    refine cw_block ?_
    have Hn13 := H12.nilrow 2 1
    have hE14 : HS w w11 [Ob.row none (0 * h) 0 (vi .i64 (mN (V) a h (fun _ y => y) (fun x _ => h - 1 - x) (0 * h))) 2 1, Ob.blk b8 [.int .i64 (h : Int), .int .i64 (a : Int), .slice none (0 * h) 0] 25, Ob.blk b1 [.int .i64 (a : Int), .int .i64 (h : Int), .slice A (a * h) cap] 25, Ob.blk b4 [.int .i64 0, .int .i64 0, .slice none 0 0] 25] := by rw [Nat.zero_mul]; exact (Hn13.pick (m := [_, _, _, _]) [0, 1, 3, 2] rfl (by decide))
    refine cw_loopJ [7, 8, 19, 20, 21, 22, 23, 24, 25, 26, 27, 28, 29, 30, 31, 32, 33, 34, 35, 36, 37, 38, 39, 40, 41, 42, 43, 44, 45, 46] (fun M wl ml => ∃ (yr0 : Nat) (A1r0 : Option Addr) (c1r0 : Nat), M = [(7, .int .i64 (yr0 : Int))] ∧ HS w wl [Ob.row A1r0 (yr0 * h) c1r0 (vi .i64 (mN (V) a h (fun _ y => y) (fun x _ => h - 1 - x) (yr0 * h))) 2 1, Ob.blk b8 [.int .i64 (h : Int), .int .i64 (a : Int), .slice A1r0 (yr0 * h) c1r0] 25, Ob.blk b1 [.int .i64 (a : Int), .int .i64 (h : Int), .slice A (a * h) cap] 25, Ob.blk b4 [.int .i64 0, .int .i64 0, .slice none 0 0] 25] ∧ (yr0 ≤ a) ∧ ml = a - yr0) ⟨0, _, _, rfl, hE14, Nat.zero_le _, rfl⟩ ⟨rfl, trivial⟩ ?_
    rintro M w15 m17 ⟨yr0, A1r0, c1r0, rfl, H16, hyr00, rfl⟩
    refine cw_seq ?_
    refine cw_seq ?_
    refine cw_reg ?_
    refine ry (y_mov rfl rfl) rfl rfl ?_
    refine ry (y_fa rfl rfl kfturn3_4 rfl) rfl rfl ?_
    refine ry (y_ld rfl rfl kfturn3_3 (H16.cell (i := 2) rfl rfl)) rfl rfl ?_
    refine ry (y_lss rfl rfl rfl) rfl rfl ?_
    refine reg_nil ?_
    refine fn_next ?_
    refine cw_condd rfl (fun h18 => ?_) (fun h18 => ?_)
    · skip
      have hyr0 : yr0 < a := by omega
      refine cw_skip ?_
      refine fn_next ?_
      refine cw_seq ?_
      refine cw_block ?_
      refine cw_seq ?_
      refine cw_reg ?_
      refine ry (y_fa rfl rfl kfturn3_2 rfl) rfl rfl ?_
      refine ry (y_ld rfl rfl kfturn3_3 (H16.cell (i := 2) rfl rfl)) rfl rfl ?_
      refine ry (y_sub rfl rfl rfl (wi (by omega))) rfl rfl ?_
      refine ry (y_asg rfl rfl) rfl rfl ?_
      refine reg_nil ?_
      refine fn_next ?_
      refine cw_block ?_
      refine cw_loopJ [8, 28, 29, 30, 31, 32, 33, 34, 35, 36, 37, 38, 39, 40, 41, 42, 43, 44, 45, 46] (fun M wl ml => ∃ (xr0 : Nat) (A2r0 : Option Addr) (c2r0 : Nat), M = [(8, .int .i64 ((h : Int) - 1 - (xr0 : Nat)))] ∧ HS w wl [Ob.row A2r0 (yr0 * h + xr0) c2r0 (vi .i64 (mN (V) a h (fun _ y => y) (fun x _ => h - 1 - x) (yr0 * h + xr0))) 2 1, Ob.blk b8 [.int .i64 (h : Int), .int .i64 (a : Int), .slice A2r0 (yr0 * h + xr0) c2r0] 25, Ob.blk b1 [.int .i64 (a : Int), .int .i64 (h : Int), .slice A (a * h) cap] 25, Ob.blk b4 [.int .i64 0, .int .i64 0, .slice none 0 0] 25] ∧ (xr0 ≤ h) ∧ ml = h - xr0) ⟨0, _, _, rfl, H16, Nat.zero_le _, rfl⟩ ⟨si (by omega), trivial⟩ ?_
      rintro M w19 m21 ⟨xr0, A2r0, c2r0, rfl, H20, hxr00, rfl⟩
      refine cw_seq ?_
      refine cw_seq ?_
      refine cw_reg ?_
      refine ry (y_mov rfl rfl) rfl rfl ?_
      refine ry (y_geq rfl rfl rfl) rfl rfl ?_
      refine reg_nil ?_
      refine fn_next ?_
      refine cw_condd rfl (fun h22 => ?_) (fun h22 => ?_)
      · skip
        have hxr0 : xr0 < h := by omega
        have hcl := cell_lt' (x := yr0) (y := h - 1 - xr0) hyr0 (show _ < h by omega)
        have hcl3 := hcl
        rw [Nat.mul_comm h a] at hcl3
        have hcl2 := cell_lt' (x := xr0) (y := yr0) hxr0 hyr0
        have hlr : (V).length = a * h := hl
        have hgi := vi_get (k := .i64) (zs := V) (i := (h - 1 - xr0) * a + yr0) (by rw [hlr, Nat.mul_comm a h]; exact hcl)
        have hm2 : h * a ≤ 1048576 := by rw [Nat.mul_comm]; exact hm.2
        refine cw_skip ?_
        refine fn_next ?_
        refine cw_seq ?_
        refine cw_block ?_
        refine cw_drawT H20 [0, 2, 3, 4, 5, 6, 7, 8, 9, 10, 11] (.alt (.step 1 (.step 12 (.step 13 (.step 14 (.step 15 (.leaf)))))) (.step 12 (.step 1 (.step 13 (.step 14 (.step 15 (.leaf))))))) (fun X HX => (HX.pick (m := [_, _]) [2, 3] rfl (by decide))) (by kernel_rfl) (by kernel_rfl) (by rfl) ?_
        simp only [pick, List.getElem?_cons_succ, List.getElem?_cons_zero]
        refine hk_y (fun Y HY => y_fa rfl rfl kfturn3_6 rfl) rfl rfl ?_
        refine hk_y (fun Y HY => y_fa rfl rfl kfturn3_6 rfl) rfl rfl ?_
        refine hk_y (fun Y HY => y_ld rfl rfl kfturn3_7 (HY.cell (i := 0) rfl rfl)) rfl rfl ?_
        refine hk_y (fun Y HY => y_mov rfl rfl) rfl rfl ?_
        refine hk_y (fun Y HY => y_fa rfl rfl kfturn3_4 rfl) rfl rfl ?_
        refine hk_y (fun Y HY => y_ld rfl rfl kfturn3_3 (HY.cell (i := 0) rfl rfl)) rfl rfl ?_
        refine hk_y (fun Y HY => y_mul rfl rfl rfl (show _ = (((h - 1 - xr0) * a : Nat) : Int) from by rw [show (h : Int) - 1 - (xr0 : Nat) = ((h - 1 - xr0 : Nat) : Int) by omega]; exact mulN (by omega))) rfl rfl ?_
        refine hk_y (fun Y HY => y_mov rfl rfl) rfl rfl ?_
        refine hk_y (fun Y HY => y_add rfl rfl rfl (addN (by omega))) rfl rfl ?_
        refine hk_y (fun Y HY => y_iar (i := (h - 1 - xr0) * a + yr0) (hr.below HY.base) rfl rfl rfl kfturn3_8 (rfl) (by first | omega | (rw [Nat.mul_comm]; omega)) (Nat.mul_one _) (hgi)) rfl rfl ?_
        refine hk_y (fun Y HY => y_ldr (hr.below HY.base) rfl rfl kfturn3_3 (hgi)) rfl rfl ?_
        refine hkt_nil [33, 44, 45, 46] (fun M wl => ∃ (A2r0k : Option Addr) (c2r0k : Nat), M = [] ∧ HS w wl [Ob.row A2r0k (yr0 * h + xr0 + 1) c2r0k (vi .i64 (mN (V) a h (fun _ y => y) (fun x _ => h - 1 - x) (yr0 * h + xr0)) ++ [.int .i64 (nth (V) ((h - 1 - xr0) * a + yr0))]) 2 1, Ob.blk b8 [.int .i64 (h : Int), .int .i64 (a : Int), .slice A2r0k (yr0 * h + xr0 + 1) c2r0k] 25, Ob.blk b1 [.int .i64 (a : Int), .int .i64 (h : Int), .slice A (a * h) cap] 25, Ob.blk b4 [.int .i64 0, .int .i64 0, .slice none 0 0] 25]) (fun wX HX => ?_) ?_
        · skip
          refine tt_alt ?_ ?_
          · skip
            refine tt_op rfl (Yd.op (y_ld rfl rfl kfturn3_7 (HX.cell (i := 1) rfl rfl))) rfl rfl ?_
            rintro _ _ ⟨rfl, rfl⟩
            refine ⟨(HX.pick (m := [_, _]) [2, 3] rfl (by decide)), fun w23 e25 => ?_⟩
            have H24 := HX.ext e25
            refine tt_op rfl (op_lit (parts := [(0, _)]) (vs := [(0, _)]) (cs := [.int _ _]) H24 rfl Try.underlying22 kfturn3_9 rfl ⟨rfl, trivial⟩ rfl rfl) rfl rfl ?_
            rintro _ w27 ⟨b26, rfl, H28⟩
            have H29 := H28.asrow (m := 1) (size := 1) rfl (by decide)
            refine ⟨(H29.pick (m := [_, _]) [3, 4] rfl (by decide)), fun w30 e32 => ?_⟩
            have H31 := H29.ext e32
            refine tt_op rfl (op_app (i := 1) H31 rfl rfl rfl rfl (H31.rd (i := 0) rfl) (rfl) (rfl) Try.underlying22 kfturn3_10 rfl rfl (by unfold maxLen; omega) (by omega)) rfl rfl ?_
            rintro _ w35 ⟨A33, c34, rfl, H36⟩
            refine ⟨(H36.pick (m := [_, _]) [3, 4] rfl (by decide)), fun w37 e39 => ?_⟩
            have H38 := H36.ext e39
            refine tt_op rfl (Yd.op (y_fa rfl rfl kfturn3_6 rfl)) rfl rfl ?_
            rintro _ _ ⟨rfl, rfl⟩
            refine ⟨(H38.pick (m := [_, _]) [3, 4] rfl (by decide)), fun w40 e42 => ?_⟩
            have H41 := H38.ext e42
            refine tt_op rfl (op_st (i := 2) (vs := [.slice _ _ _]) H41 rfl rfl rfl rfl rfl kfturn3_11 rfl rfl rfl) rfl rfl ?_
            rintro _ w43 H44
            refine ⟨(H44.pick (m := [_, _]) [3, 4] rfl (by decide)), fun w45 e47 => ?_⟩
            have H46 := H44.ext e47
            exact tt_leaf ⟨A33, c34, rfl, (H46.pick (m := [_, _, _, _]) [1, 2, 3, 4] rfl (by decide))⟩ trivial (by repeat (first | exact kp_refl | refine kp_app rfl rfl ?_ | refine kp_cons rfl ?_))
          refine tt_op rfl (op_lit (parts := [(0, _)]) (vs := [(0, _)]) (cs := [.int _ _]) HX rfl Try.underlying22 kfturn3_9 rfl ⟨rfl, trivial⟩ rfl rfl) rfl rfl ?_
          rintro _ w49 ⟨b48, rfl, H50⟩
          have H51 := H50.asrow (m := 1) (size := 1) rfl (by decide)
          refine ⟨(H51.pick (m := [_, _]) [3, 4] rfl (by decide)), fun w52 e54 => ?_⟩
          have H53 := H51.ext e54
          refine tt_op rfl (Yd.op (y_ld rfl rfl kfturn3_7 (H53.cell (i := 2) rfl rfl))) rfl rfl ?_
          rintro _ _ ⟨rfl, rfl⟩
          refine ⟨(H53.pick (m := [_, _]) [3, 4] rfl (by decide)), fun w55 e57 => ?_⟩
          have H56 := H53.ext e57
          refine tt_op rfl (op_app (i := 1) H56 rfl rfl rfl rfl (H56.rd (i := 0) rfl) (rfl) (rfl) Try.underlying22 kfturn3_10 rfl rfl (by unfold maxLen; omega) (by omega)) rfl rfl ?_
          rintro _ w60 ⟨A58, c59, rfl, H61⟩
          refine ⟨(H61.pick (m := [_, _]) [3, 4] rfl (by decide)), fun w62 e64 => ?_⟩
          have H63 := H61.ext e64
          refine tt_op rfl (Yd.op (y_fa rfl rfl kfturn3_6 rfl)) rfl rfl ?_
          rintro _ _ ⟨rfl, rfl⟩
          refine ⟨(H63.pick (m := [_, _]) [3, 4] rfl (by decide)), fun w65 e67 => ?_⟩
          have H66 := H63.ext e67
          refine tt_op rfl (op_st (i := 2) (vs := [.slice _ _ _]) H66 rfl rfl rfl rfl rfl kfturn3_11 rfl rfl rfl) rfl rfl ?_
          rintro _ w68 H69
          refine ⟨(H69.pick (m := [_, _]) [3, 4] rfl (by decide)), fun w70 e72 => ?_⟩
          have H71 := H69.ext e72
          exact tt_leaf ⟨A58, c59, rfl, (H71.pick (m := [_, _, _, _]) [1, 2, 3, 4] rfl (by decide))⟩ trivial (by repeat (first | exact kp_refl | refine kp_app rfl rfl ?_ | refine kp_cons rfl ?_))
        · skip
          rintro M w74 ⟨A2r0k, c2r0k, rfl, H73⟩
          refine fn_block ?_
          refine fn_next ?_
          refine cw_reg ?_
          refine ry (y_mov rfl rfl) rfl rfl ?_
          refine ry (y_sub rfl rfl rfl (wi (by omega))) rfl rfl ?_
          refine ry (y_asg rfl rfl) rfl rfl ?_
          refine reg_nil ?_
          rw [vi_snoc, mN_succ hxr0] at H73
          refine fn_roundJ ⟨xr0 + 1, _, _, rfl, H73, by omega, rfl⟩ ⟨si (by omega), trivial⟩ (by omega) (by repeat (first | exact kp_refl | refine kp_app rfl rfl ?_ | refine kp_cons rfl ?_)) rfl
      · skip
        obtain rfl : h = xr0 := by omega
        refine cw_exit ?_
        refine fn_then_exit (fn_then_exit (fn_block_exit ?_))
        refine fn_block ?_
        refine fn_next ?_
        refine cw_reg ?_
        refine ry (y_mov rfl rfl) rfl rfl ?_
        refine ry (y_add rfl rfl rfl (wi (by omega))) rfl rfl ?_
        refine ry (y_asg rfl rfl) rfl rfl ?_
        refine reg_nil ?_
        rw [← Nat.succ_mul] at H20
        refine fn_roundJ ⟨yr0 + 1, _, _, rfl, H20, by omega, rfl⟩ ⟨rfl, trivial⟩ (by omega) (by repeat (first | exact kp_refl | refine kp_app rfl rfl ?_ | refine kp_cons rfl ?_)) rfl
    · skip
      obtain ⟨rfl⟩ : a = yr0 := by omega
      refine cw_exit ?_
      refine fn_then_exit (fn_then_exit (fn_block_exit ?_))
      refine fn_next ?_
      refine cw_reg ?_
      refine ry (y_ldb (i := 1) (cs := [_, _, _]) H16 rfl rfl kfturn3_12 rfl rfl) rfl rfl ?_
      refine reg_op (op_st (i := 2) (vs := [.int _ _, .int _ _, .slice _ _ _]) H16 rfl rfl rfl rfl rfl kfturn3_5 rfl rfl rfl) rfl rfl ?_
      rintro _ w75 H76
      refine reg_nil ?_
      refine fn_block ?_
      refine fn_next ?_
      refine cw_reg ?_
      refine ry (y_mov rfl rfl) rfl rfl ?_
      refine ry (y_add rfl rfl rfl (wi (by omega))) rfl rfl ?_
      refine ry (y_asg rfl rfl) rfl rfl ?_
      refine reg_nil ?_
      refine fn_roundR ?_
      refine cw_seq ?_
      refine cw_seq ?_
      refine cw_reg ?_
      refine ry (y_mov rfl rfl) rfl rfl ?_
      refine ry (y_mov rfl rfl) rfl rfl ?_
      refine ry (y_lss rfl rfl rfl) rfl rfl ?_
      refine reg_nil ?_
      refine fn_next ?_
      refine cw_condd rfl (fun h77 => ?_) (fun h77 => ?_)
      · skip
        refine cw_skip ?_
        refine fn_next ?_
        refine cw_seq ?_
        refine cw_block ?_
        refine cw_seq ?_
        refine cw_reg ?_
        refine ry (y_fa rfl rfl kfturn3_2 rfl) rfl rfl ?_
        refine ry (y_ld rfl rfl kfturn3_3 (H76.cell (i := 2) rfl rfl)) rfl rfl ?_
        refine ry (y_fa rfl rfl kfturn3_4 rfl) rfl rfl ?_
        refine ry (y_ld rfl rfl kfturn3_3 (H76.cell (i := 2) rfl rfl)) rfl rfl ?_
        refine ry (y_build (places := [(0, 1), (1, 1), (2, 1)]) (parts := [(0, _), (1, _)]) (vs := [(0, _), (1, _)]) (cs := [.int _ _, .int _ _, .slice _ _ _]) rfl Try.underlying25 (by kernel_rfl) kfturn3_1 rfl ⟨rfl, rfl, trivial⟩ rfl) rfl rfl ?_
        refine reg_op (op_alloc H76 rfl kfturn3_1) rfl rfl ?_
        rintro _ w79 ⟨b78, rfl, H80⟩
        refine reg_op (op_st (i := 0) (vs := [.int _ _, .int _ _, .slice _ _ _]) H80 rfl rfl rfl rfl rfl kfturn3_5 rfl rfl rfl) rfl rfl ?_
        rintro _ w81 H82
        refine reg_nil ?_
        refine fn_next ?_
        refine cw_seq ?_
        refine cw_seq ?_
        refine cw_reg ?_
        refine ry (y_asg rfl rfl) rfl rfl ?_
        refine reg_nil ?_
        refine fn_next ?_
        refine cw_block ?_
        have hv1 : mN (V) a h (fun _ y => y) (fun x _ => h - 1 - x) (a * h) = q1V V a h := by rw [Nat.mul_comm a h]; rfl
        rw [hv1] at H82
        have Hn84 := H82.nilrow 2 1
        have hE85 : HS w w81 [Ob.row none (0 * a) 0 (vi .i64 (mN (q1V V a h) h a (fun _ y => y) (fun x _ => a - 1 - x) (0 * a))) 2 1, Ob.blk b78 [.int .i64 (a : Int), .int .i64 (h : Int), .slice none (0 * a) 0] 25, Ob.blk b1 [.int .i64 (h : Int), .int .i64 (a : Int), .slice A1r0 (a * h) c1r0] 25, Ob.blk b4 [.int .i64 0, .int .i64 0, .slice none 0 0] 25, Ob.row A1r0 (a * h) c1r0 (vi .i64 (q1V V a h)) 2 1] := by rw [Nat.zero_mul]; exact (Hn84.pick (m := [_, _, _, _, _]) [0, 1, 4, 5, 2] rfl (by decide))
        refine cw_loopJ [7, 8, 19, 20, 21, 22, 23, 24, 25, 26, 27, 28, 29, 30, 31, 32, 33, 34, 35, 36, 37, 38, 39, 40, 41, 42, 43, 44, 45, 46] (fun M wl ml => ∃ (yr1 : Nat) (A1r1 : Option Addr) (c1r1 : Nat), M = [(7, .int .i64 (yr1 : Int))] ∧ HS w wl [Ob.row A1r1 (yr1 * a) c1r1 (vi .i64 (mN (q1V V a h) h a (fun _ y => y) (fun x _ => a - 1 - x) (yr1 * a))) 2 1, Ob.blk b78 [.int .i64 (a : Int), .int .i64 (h : Int), .slice A1r1 (yr1 * a) c1r1] 25, Ob.blk b1 [.int .i64 (h : Int), .int .i64 (a : Int), .slice A1r0 (a * h) c1r0] 25, Ob.blk b4 [.int .i64 0, .int .i64 0, .slice none 0 0] 25, Ob.row A1r0 (a * h) c1r0 (vi .i64 (q1V V a h)) 2 1] ∧ (yr1 ≤ h) ∧ ml = h - yr1) ⟨0, _, _, rfl, hE85, Nat.zero_le _, rfl⟩ ⟨rfl, trivial⟩ ?_
        rintro M w86 m88 ⟨yr1, A1r1, c1r1, rfl, H87, hyr10, rfl⟩
        refine cw_seq ?_
        refine cw_seq ?_
        refine cw_reg ?_
        refine ry (y_mov rfl rfl) rfl rfl ?_
        refine ry (y_fa rfl rfl kfturn3_4 rfl) rfl rfl ?_
        refine ry (y_ld rfl rfl kfturn3_3 (H87.cell (i := 2) rfl rfl)) rfl rfl ?_
        refine ry (y_lss rfl rfl rfl) rfl rfl ?_
        refine reg_nil ?_
        refine fn_next ?_
        refine cw_condd rfl (fun h89 => ?_) (fun h89 => ?_)
        · skip
          have hyr1 : yr1 < h := by omega
          refine cw_skip ?_
          refine fn_next ?_
          refine cw_seq ?_
          refine cw_block ?_
          refine cw_seq ?_
          refine cw_reg ?_
          refine ry (y_fa rfl rfl kfturn3_2 rfl) rfl rfl ?_
          refine ry (y_ld rfl rfl kfturn3_3 (H87.cell (i := 2) rfl rfl)) rfl rfl ?_
          refine ry (y_sub rfl rfl rfl (wi (by omega))) rfl rfl ?_
          refine ry (y_asg rfl rfl) rfl rfl ?_
          refine reg_nil ?_
          refine fn_next ?_
          refine cw_block ?_
          refine cw_loopJ [8, 28, 29, 30, 31, 32, 33, 34, 35, 36, 37, 38, 39, 40, 41, 42, 43, 44, 45, 46] (fun M wl ml => ∃ (xr1 : Nat) (A2r1 : Option Addr) (c2r1 : Nat), M = [(8, .int .i64 ((a : Int) - 1 - (xr1 : Nat)))] ∧ HS w wl [Ob.row A2r1 (yr1 * a + xr1) c2r1 (vi .i64 (mN (q1V V a h) h a (fun _ y => y) (fun x _ => a - 1 - x) (yr1 * a + xr1))) 2 1, Ob.blk b78 [.int .i64 (a : Int), .int .i64 (h : Int), .slice A2r1 (yr1 * a + xr1) c2r1] 25, Ob.blk b1 [.int .i64 (h : Int), .int .i64 (a : Int), .slice A1r0 (a * h) c1r0] 25, Ob.blk b4 [.int .i64 0, .int .i64 0, .slice none 0 0] 25, Ob.row A1r0 (a * h) c1r0 (vi .i64 (q1V V a h)) 2 1] ∧ (xr1 ≤ a) ∧ ml = a - xr1) ⟨0, _, _, rfl, H87, Nat.zero_le _, rfl⟩ ⟨si (by omega), trivial⟩ ?_
          rintro M w90 m92 ⟨xr1, A2r1, c2r1, rfl, H91, hxr10, rfl⟩
          refine cw_seq ?_
          refine cw_seq ?_
          refine cw_reg ?_
          refine ry (y_mov rfl rfl) rfl rfl ?_
          refine ry (y_geq rfl rfl rfl) rfl rfl ?_
          refine reg_nil ?_
          refine fn_next ?_
          refine cw_condd rfl (fun h93 => ?_) (fun h93 => ?_)
          · skip
            have hxr1 : xr1 < a := by omega
            have hcl := cell_lt' (x := yr1) (y := a - 1 - xr1) hyr1 (show _ < a by omega)
            have hcl3 := hcl
            rw [Nat.mul_comm a h] at hcl3
            have hcl2 := cell_lt' (x := xr1) (y := yr1) hxr1 hyr1
            have hlr : (q1V V a h).length = h * a := q1V_len
            have hgi := vi_get (k := .i64) (zs := q1V V a h) (i := (a - 1 - xr1) * h + yr1) (by rw [hlr, Nat.mul_comm h a]; exact hcl)
            have hm2 : h * a ≤ 1048576 := by rw [Nat.mul_comm]; exact hm.2
            refine cw_skip ?_
            refine fn_next ?_
            refine cw_seq ?_
            refine cw_block ?_
            refine cw_drawT H91 [0, 2, 3, 4, 5, 6, 7, 8, 9, 10, 11] (.alt (.step 1 (.step 12 (.step 13 (.step 14 (.step 15 (.leaf)))))) (.step 12 (.step 1 (.step 13 (.step 14 (.step 15 (.leaf))))))) (fun X HX => (HX.pick (m := [_, _, _]) [2, 3, 4] rfl (by decide))) (by kernel_rfl) (by kernel_rfl) (by rfl) ?_
            simp only [pick, List.getElem?_cons_succ, List.getElem?_cons_zero]
            refine hk_y (fun Y HY => y_fa rfl rfl kfturn3_6 rfl) rfl rfl ?_
            refine hk_y (fun Y HY => y_fa rfl rfl kfturn3_6 rfl) rfl rfl ?_
            refine hk_y (fun Y HY => y_ld rfl rfl kfturn3_7 (HY.cell (i := 0) rfl rfl)) rfl rfl ?_
            refine hk_y (fun Y HY => y_mov rfl rfl) rfl rfl ?_
            refine hk_y (fun Y HY => y_fa rfl rfl kfturn3_4 rfl) rfl rfl ?_
            refine hk_y (fun Y HY => y_ld rfl rfl kfturn3_3 (HY.cell (i := 0) rfl rfl)) rfl rfl ?_
            refine hk_y (fun Y HY => y_mul rfl rfl rfl (show _ = (((a - 1 - xr1) * h : Nat) : Int) from by rw [show (a : Int) - 1 - (xr1 : Nat) = ((a - 1 - xr1 : Nat) : Int) by omega]; exact mulN (by omega))) rfl rfl ?_
            refine hk_y (fun Y HY => y_mov rfl rfl) rfl rfl ?_
            refine hk_y (fun Y HY => y_add rfl rfl rfl (addN (by omega))) rfl rfl ?_
            refine hk_y (fun Y HY => y_iar (i := (a - 1 - xr1) * h + yr1) (HY.rd (i := 2) rfl) rfl rfl rfl kfturn3_8 (rfl) (by first | omega | (rw [Nat.mul_comm]; omega)) (Nat.mul_one _) (hgi)) rfl rfl ?_
            refine hk_y (fun Y HY => y_ldr (HY.rd (i := 2) rfl) rfl rfl kfturn3_3 (hgi)) rfl rfl ?_
            refine hkt_nil [33, 44, 45, 46] (fun M wl => ∃ (A2r1k : Option Addr) (c2r1k : Nat), M = [] ∧ HS w wl [Ob.row A2r1k (yr1 * a + xr1 + 1) c2r1k (vi .i64 (mN (q1V V a h) h a (fun _ y => y) (fun x _ => a - 1 - x) (yr1 * a + xr1)) ++ [.int .i64 (nth (q1V V a h) ((a - 1 - xr1) * h + yr1))]) 2 1, Ob.blk b78 [.int .i64 (a : Int), .int .i64 (h : Int), .slice A2r1k (yr1 * a + xr1 + 1) c2r1k] 25, Ob.blk b1 [.int .i64 (h : Int), .int .i64 (a : Int), .slice A1r0 (a * h) c1r0] 25, Ob.blk b4 [.int .i64 0, .int .i64 0, .slice none 0 0] 25, Ob.row A1r0 (a * h) c1r0 (vi .i64 (q1V V a h)) 2 1]) (fun wX HX => ?_) ?_
            · skip
              refine tt_alt ?_ ?_
              · skip
                refine tt_op rfl (Yd.op (y_ld rfl rfl kfturn3_7 (HX.cell (i := 1) rfl rfl))) rfl rfl ?_
                rintro _ _ ⟨rfl, rfl⟩
                refine ⟨(HX.pick (m := [_, _, _]) [2, 3, 4] rfl (by decide)), fun w94 e96 => ?_⟩
                have H95 := HX.ext e96
                refine tt_op rfl (op_lit (parts := [(0, _)]) (vs := [(0, _)]) (cs := [.int _ _]) H95 rfl Try.underlying22 kfturn3_9 rfl ⟨rfl, trivial⟩ rfl rfl) rfl rfl ?_
                rintro _ w98 ⟨b97, rfl, H99⟩
                have H100 := H99.asrow (m := 1) (size := 1) rfl (by decide)
                refine ⟨(H100.pick (m := [_, _, _]) [3, 4, 5] rfl (by decide)), fun w101 e103 => ?_⟩
                have H102 := H100.ext e103
                refine tt_op rfl (op_app (i := 1) H102 rfl rfl rfl rfl (H102.rd (i := 0) rfl) (rfl) (rfl) Try.underlying22 kfturn3_10 rfl rfl (by unfold maxLen; omega) (by omega)) rfl rfl ?_
                rintro _ w106 ⟨A104, c105, rfl, H107⟩
                refine ⟨(H107.pick (m := [_, _, _]) [3, 4, 5] rfl (by decide)), fun w108 e110 => ?_⟩
                have H109 := H107.ext e110
                refine tt_op rfl (Yd.op (y_fa rfl rfl kfturn3_6 rfl)) rfl rfl ?_
                rintro _ _ ⟨rfl, rfl⟩
                refine ⟨(H109.pick (m := [_, _, _]) [3, 4, 5] rfl (by decide)), fun w111 e113 => ?_⟩
                have H112 := H109.ext e113
                refine tt_op rfl (op_st (i := 2) (vs := [.slice _ _ _]) H112 rfl rfl rfl rfl rfl kfturn3_11 rfl rfl rfl) rfl rfl ?_
                rintro _ w114 H115
                refine ⟨(H115.pick (m := [_, _, _]) [3, 4, 5] rfl (by decide)), fun w116 e118 => ?_⟩
                have H117 := H115.ext e118
                exact tt_leaf ⟨A104, c105, rfl, (H117.pick (m := [_, _, _, _, _]) [1, 2, 3, 4, 5] rfl (by decide))⟩ trivial (by repeat (first | exact kp_refl | refine kp_app rfl rfl ?_ | refine kp_cons rfl ?_))
              refine tt_op rfl (op_lit (parts := [(0, _)]) (vs := [(0, _)]) (cs := [.int _ _]) HX rfl Try.underlying22 kfturn3_9 rfl ⟨rfl, trivial⟩ rfl rfl) rfl rfl ?_
              rintro _ w120 ⟨b119, rfl, H121⟩
              have H122 := H121.asrow (m := 1) (size := 1) rfl (by decide)
              refine ⟨(H122.pick (m := [_, _, _]) [3, 4, 5] rfl (by decide)), fun w123 e125 => ?_⟩
              have H124 := H122.ext e125
              refine tt_op rfl (Yd.op (y_ld rfl rfl kfturn3_7 (H124.cell (i := 2) rfl rfl))) rfl rfl ?_
              rintro _ _ ⟨rfl, rfl⟩
              refine ⟨(H124.pick (m := [_, _, _]) [3, 4, 5] rfl (by decide)), fun w126 e128 => ?_⟩
              have H127 := H124.ext e128
              refine tt_op rfl (op_app (i := 1) H127 rfl rfl rfl rfl (H127.rd (i := 0) rfl) (rfl) (rfl) Try.underlying22 kfturn3_10 rfl rfl (by unfold maxLen; omega) (by omega)) rfl rfl ?_
              rintro _ w131 ⟨A129, c130, rfl, H132⟩
              refine ⟨(H132.pick (m := [_, _, _]) [3, 4, 5] rfl (by decide)), fun w133 e135 => ?_⟩
              have H134 := H132.ext e135
              refine tt_op rfl (Yd.op (y_fa rfl rfl kfturn3_6 rfl)) rfl rfl ?_
              rintro _ _ ⟨rfl, rfl⟩
              refine ⟨(H134.pick (m := [_, _, _]) [3, 4, 5] rfl (by decide)), fun w136 e138 => ?_⟩
              have H137 := H134.ext e138
              refine tt_op rfl (op_st (i := 2) (vs := [.slice _ _ _]) H137 rfl rfl rfl rfl rfl kfturn3_11 rfl rfl rfl) rfl rfl ?_
              rintro _ w139 H140
              refine ⟨(H140.pick (m := [_, _, _]) [3, 4, 5] rfl (by decide)), fun w141 e143 => ?_⟩
              have H142 := H140.ext e143
              exact tt_leaf ⟨A129, c130, rfl, (H142.pick (m := [_, _, _, _, _]) [1, 2, 3, 4, 5] rfl (by decide))⟩ trivial (by repeat (first | exact kp_refl | refine kp_app rfl rfl ?_ | refine kp_cons rfl ?_))
            · skip
              rintro M w145 ⟨A2r1k, c2r1k, rfl, H144⟩
              refine fn_block ?_
              refine fn_next ?_
              refine cw_reg ?_
              refine ry (y_mov rfl rfl) rfl rfl ?_
              refine ry (y_sub rfl rfl rfl (wi (by omega))) rfl rfl ?_
              refine ry (y_asg rfl rfl) rfl rfl ?_
              refine reg_nil ?_
              rw [vi_snoc, mN_succ hxr1] at H144
              refine fn_roundJ ⟨xr1 + 1, _, _, rfl, H144, by omega, rfl⟩ ⟨si (by omega), trivial⟩ (by omega) (by repeat (first | exact kp_refl | refine kp_app rfl rfl ?_ | refine kp_cons rfl ?_)) rfl
          · skip
            obtain rfl : a = xr1 := by omega
            refine cw_exit ?_
            refine fn_then_exit (fn_then_exit (fn_block_exit ?_))
            refine fn_block ?_
            refine fn_next ?_
            refine cw_reg ?_
            refine ry (y_mov rfl rfl) rfl rfl ?_
            refine ry (y_add rfl rfl rfl (wi (by omega))) rfl rfl ?_
            refine ry (y_asg rfl rfl) rfl rfl ?_
            refine reg_nil ?_
            rw [← Nat.succ_mul] at H91
            refine fn_roundJ ⟨yr1 + 1, _, _, rfl, H91, by omega, rfl⟩ ⟨rfl, trivial⟩ (by omega) (by repeat (first | exact kp_refl | refine kp_app rfl rfl ?_ | refine kp_cons rfl ?_)) rfl
        · skip
          obtain ⟨rfl⟩ : h = yr1 := by omega
          refine cw_exit ?_
          refine fn_then_exit (fn_then_exit (fn_block_exit ?_))
          refine fn_next ?_
          refine cw_reg ?_
          refine ry (y_ldb (i := 1) (cs := [_, _, _]) H87 rfl rfl kfturn3_12 rfl rfl) rfl rfl ?_
          refine reg_op (op_st (i := 2) (vs := [.int _ _, .int _ _, .slice _ _ _]) H87 rfl rfl rfl rfl rfl kfturn3_5 rfl rfl rfl) rfl rfl ?_
          rintro _ w146 H147
          refine reg_nil ?_
          refine fn_block ?_
          refine fn_next ?_
          refine cw_reg ?_
          refine ry (y_mov rfl rfl) rfl rfl ?_
          refine ry (y_add rfl rfl rfl (wi (by omega))) rfl rfl ?_
          refine ry (y_asg rfl rfl) rfl rfl ?_
          refine reg_nil ?_
          refine fn_roundR ?_
          refine cw_seq ?_
          refine cw_seq ?_
          refine cw_reg ?_
          refine ry (y_mov rfl rfl) rfl rfl ?_
          refine ry (y_mov rfl rfl) rfl rfl ?_
          refine ry (y_lss rfl rfl rfl) rfl rfl ?_
          refine reg_nil ?_
          refine fn_next ?_
          refine cw_condd rfl (fun h148 => ?_) (fun h148 => ?_)
          · skip
            refine cw_skip ?_
            refine fn_next ?_
            refine cw_seq ?_
            refine cw_block ?_
            refine cw_seq ?_
            refine cw_reg ?_
            refine ry (y_fa rfl rfl kfturn3_2 rfl) rfl rfl ?_
            refine ry (y_ld rfl rfl kfturn3_3 (H147.cell (i := 2) rfl rfl)) rfl rfl ?_
            refine ry (y_fa rfl rfl kfturn3_4 rfl) rfl rfl ?_
            refine ry (y_ld rfl rfl kfturn3_3 (H147.cell (i := 2) rfl rfl)) rfl rfl ?_
            refine ry (y_build (places := [(0, 1), (1, 1), (2, 1)]) (parts := [(0, _), (1, _)]) (vs := [(0, _), (1, _)]) (cs := [.int _ _, .int _ _, .slice _ _ _]) rfl Try.underlying25 (by kernel_rfl) kfturn3_1 rfl ⟨rfl, rfl, trivial⟩ rfl) rfl rfl ?_
            refine reg_op (op_alloc H147 rfl kfturn3_1) rfl rfl ?_
            rintro _ w150 ⟨b149, rfl, H151⟩
            refine reg_op (op_st (i := 0) (vs := [.int _ _, .int _ _, .slice _ _ _]) H151 rfl rfl rfl rfl rfl kfturn3_5 rfl rfl rfl) rfl rfl ?_
            rintro _ w152 H153
            refine reg_nil ?_
            refine fn_next ?_
            refine cw_seq ?_
            refine cw_seq ?_
            refine cw_reg ?_
            refine ry (y_asg rfl rfl) rfl rfl ?_
            refine reg_nil ?_
            refine fn_next ?_
            refine cw_block ?_
            have hv2 : mN (q1V V a h) h a (fun _ y => y) (fun x _ => a - 1 - x) (h * a) = q1V (q1V V a h) h a := by rw [Nat.mul_comm h a]; rfl
            rw [hv2] at H153
            have Hn155 := H153.nilrow 2 1
            have hE156 : HS w w152 [Ob.row none (0 * h) 0 (vi .i64 (mN (q1V (q1V V a h) h a) a h (fun _ y => y) (fun x _ => h - 1 - x) (0 * h))) 2 1, Ob.blk b149 [.int .i64 (h : Int), .int .i64 (a : Int), .slice none (0 * h) 0] 25, Ob.blk b1 [.int .i64 (a : Int), .int .i64 (h : Int), .slice A1r1 (h * a) c1r1] 25, Ob.blk b4 [.int .i64 0, .int .i64 0, .slice none 0 0] 25, Ob.row A1r1 (h * a) c1r1 (vi .i64 (q1V (q1V V a h) h a)) 2 1] := by rw [Nat.zero_mul]; exact (Hn155.pick (m := [_, _, _, _, _]) [0, 1, 4, 5, 2] rfl (by decide))
            refine cw_loopJ [7, 8, 19, 20, 21, 22, 23, 24, 25, 26, 27, 28, 29, 30, 31, 32, 33, 34, 35, 36, 37, 38, 39, 40, 41, 42, 43, 44, 45, 46] (fun M wl ml => ∃ (yr2 : Nat) (A1r2 : Option Addr) (c1r2 : Nat), M = [(7, .int .i64 (yr2 : Int))] ∧ HS w wl [Ob.row A1r2 (yr2 * h) c1r2 (vi .i64 (mN (q1V (q1V V a h) h a) a h (fun _ y => y) (fun x _ => h - 1 - x) (yr2 * h))) 2 1, Ob.blk b149 [.int .i64 (h : Int), .int .i64 (a : Int), .slice A1r2 (yr2 * h) c1r2] 25, Ob.blk b1 [.int .i64 (a : Int), .int .i64 (h : Int), .slice A1r1 (h * a) c1r1] 25, Ob.blk b4 [.int .i64 0, .int .i64 0, .slice none 0 0] 25, Ob.row A1r1 (h * a) c1r1 (vi .i64 (q1V (q1V V a h) h a)) 2 1] ∧ (yr2 ≤ a) ∧ ml = a - yr2) ⟨0, _, _, rfl, hE156, Nat.zero_le _, rfl⟩ ⟨rfl, trivial⟩ ?_
            rintro M w157 m159 ⟨yr2, A1r2, c1r2, rfl, H158, hyr20, rfl⟩
            refine cw_seq ?_
            refine cw_seq ?_
            refine cw_reg ?_
            refine ry (y_mov rfl rfl) rfl rfl ?_
            refine ry (y_fa rfl rfl kfturn3_4 rfl) rfl rfl ?_
            refine ry (y_ld rfl rfl kfturn3_3 (H158.cell (i := 2) rfl rfl)) rfl rfl ?_
            refine ry (y_lss rfl rfl rfl) rfl rfl ?_
            refine reg_nil ?_
            refine fn_next ?_
            refine cw_condd rfl (fun h160 => ?_) (fun h160 => ?_)
            · skip
              have hyr2 : yr2 < a := by omega
              refine cw_skip ?_
              refine fn_next ?_
              refine cw_seq ?_
              refine cw_block ?_
              refine cw_seq ?_
              refine cw_reg ?_
              refine ry (y_fa rfl rfl kfturn3_2 rfl) rfl rfl ?_
              refine ry (y_ld rfl rfl kfturn3_3 (H158.cell (i := 2) rfl rfl)) rfl rfl ?_
              refine ry (y_sub rfl rfl rfl (wi (by omega))) rfl rfl ?_
              refine ry (y_asg rfl rfl) rfl rfl ?_
              refine reg_nil ?_
              refine fn_next ?_
              refine cw_block ?_
              refine cw_loopJ [8, 28, 29, 30, 31, 32, 33, 34, 35, 36, 37, 38, 39, 40, 41, 42, 43, 44, 45, 46] (fun M wl ml => ∃ (xr2 : Nat) (A2r2 : Option Addr) (c2r2 : Nat), M = [(8, .int .i64 ((h : Int) - 1 - (xr2 : Nat)))] ∧ HS w wl [Ob.row A2r2 (yr2 * h + xr2) c2r2 (vi .i64 (mN (q1V (q1V V a h) h a) a h (fun _ y => y) (fun x _ => h - 1 - x) (yr2 * h + xr2))) 2 1, Ob.blk b149 [.int .i64 (h : Int), .int .i64 (a : Int), .slice A2r2 (yr2 * h + xr2) c2r2] 25, Ob.blk b1 [.int .i64 (a : Int), .int .i64 (h : Int), .slice A1r1 (h * a) c1r1] 25, Ob.blk b4 [.int .i64 0, .int .i64 0, .slice none 0 0] 25, Ob.row A1r1 (h * a) c1r1 (vi .i64 (q1V (q1V V a h) h a)) 2 1] ∧ (xr2 ≤ h) ∧ ml = h - xr2) ⟨0, _, _, rfl, H158, Nat.zero_le _, rfl⟩ ⟨si (by omega), trivial⟩ ?_
              rintro M w161 m163 ⟨xr2, A2r2, c2r2, rfl, H162, hxr20, rfl⟩
              refine cw_seq ?_
              refine cw_seq ?_
              refine cw_reg ?_
              refine ry (y_mov rfl rfl) rfl rfl ?_
              refine ry (y_geq rfl rfl rfl) rfl rfl ?_
              refine reg_nil ?_
              refine fn_next ?_
              refine cw_condd rfl (fun h164 => ?_) (fun h164 => ?_)
              · skip
                have hxr2 : xr2 < h := by omega
                have hcl := cell_lt' (x := yr2) (y := h - 1 - xr2) hyr2 (show _ < h by omega)
                have hcl3 := hcl
                rw [Nat.mul_comm h a] at hcl3
                have hcl2 := cell_lt' (x := xr2) (y := yr2) hxr2 hyr2
                have hlr : (q1V (q1V V a h) h a).length = a * h := q1V_len
                have hgi := vi_get (k := .i64) (zs := q1V (q1V V a h) h a) (i := (h - 1 - xr2) * a + yr2) (by rw [hlr, Nat.mul_comm a h]; exact hcl)
                have hm2 : h * a ≤ 1048576 := by rw [Nat.mul_comm]; exact hm.2
                refine cw_skip ?_
                refine fn_next ?_
                refine cw_seq ?_
                refine cw_block ?_
                refine cw_drawT H162 [0, 2, 3, 4, 5, 6, 7, 8, 9, 10, 11] (.alt (.step 1 (.step 12 (.step 13 (.step 14 (.step 15 (.leaf)))))) (.step 12 (.step 1 (.step 13 (.step 14 (.step 15 (.leaf))))))) (fun X HX => (HX.pick (m := [_, _, _]) [2, 3, 4] rfl (by decide))) (by kernel_rfl) (by kernel_rfl) (by rfl) ?_
                simp only [pick, List.getElem?_cons_succ, List.getElem?_cons_zero]
                refine hk_y (fun Y HY => y_fa rfl rfl kfturn3_6 rfl) rfl rfl ?_
                refine hk_y (fun Y HY => y_fa rfl rfl kfturn3_6 rfl) rfl rfl ?_
                refine hk_y (fun Y HY => y_ld rfl rfl kfturn3_7 (HY.cell (i := 0) rfl rfl)) rfl rfl ?_
                refine hk_y (fun Y HY => y_mov rfl rfl) rfl rfl ?_
                refine hk_y (fun Y HY => y_fa rfl rfl kfturn3_4 rfl) rfl rfl ?_
                refine hk_y (fun Y HY => y_ld rfl rfl kfturn3_3 (HY.cell (i := 0) rfl rfl)) rfl rfl ?_
                refine hk_y (fun Y HY => y_mul rfl rfl rfl (show _ = (((h - 1 - xr2) * a : Nat) : Int) from by rw [show (h : Int) - 1 - (xr2 : Nat) = ((h - 1 - xr2 : Nat) : Int) by omega]; exact mulN (by omega))) rfl rfl ?_
                refine hk_y (fun Y HY => y_mov rfl rfl) rfl rfl ?_
                refine hk_y (fun Y HY => y_add rfl rfl rfl (addN (by omega))) rfl rfl ?_
                refine hk_y (fun Y HY => y_iar (i := (h - 1 - xr2) * a + yr2) (HY.rd (i := 2) rfl) rfl rfl rfl kfturn3_8 (rfl) (by first | omega | (rw [Nat.mul_comm]; omega)) (Nat.mul_one _) (hgi)) rfl rfl ?_
                refine hk_y (fun Y HY => y_ldr (HY.rd (i := 2) rfl) rfl rfl kfturn3_3 (hgi)) rfl rfl ?_
                refine hkt_nil [33, 44, 45, 46] (fun M wl => ∃ (A2r2k : Option Addr) (c2r2k : Nat), M = [] ∧ HS w wl [Ob.row A2r2k (yr2 * h + xr2 + 1) c2r2k (vi .i64 (mN (q1V (q1V V a h) h a) a h (fun _ y => y) (fun x _ => h - 1 - x) (yr2 * h + xr2)) ++ [.int .i64 (nth (q1V (q1V V a h) h a) ((h - 1 - xr2) * a + yr2))]) 2 1, Ob.blk b149 [.int .i64 (h : Int), .int .i64 (a : Int), .slice A2r2k (yr2 * h + xr2 + 1) c2r2k] 25, Ob.blk b1 [.int .i64 (a : Int), .int .i64 (h : Int), .slice A1r1 (h * a) c1r1] 25, Ob.blk b4 [.int .i64 0, .int .i64 0, .slice none 0 0] 25, Ob.row A1r1 (h * a) c1r1 (vi .i64 (q1V (q1V V a h) h a)) 2 1]) (fun wX HX => ?_) ?_
                · skip
                  refine tt_alt ?_ ?_
                  · skip
                    refine tt_op rfl (Yd.op (y_ld rfl rfl kfturn3_7 (HX.cell (i := 1) rfl rfl))) rfl rfl ?_
                    rintro _ _ ⟨rfl, rfl⟩
                    refine ⟨(HX.pick (m := [_, _, _]) [2, 3, 4] rfl (by decide)), fun w165 e167 => ?_⟩
                    have H166 := HX.ext e167
                    refine tt_op rfl (op_lit (parts := [(0, _)]) (vs := [(0, _)]) (cs := [.int _ _]) H166 rfl Try.underlying22 kfturn3_9 rfl ⟨rfl, trivial⟩ rfl rfl) rfl rfl ?_
                    rintro _ w169 ⟨b168, rfl, H170⟩
                    have H171 := H170.asrow (m := 1) (size := 1) rfl (by decide)
                    refine ⟨(H171.pick (m := [_, _, _]) [3, 4, 5] rfl (by decide)), fun w172 e174 => ?_⟩
                    have H173 := H171.ext e174
                    refine tt_op rfl (op_app (i := 1) H173 rfl rfl rfl rfl (H173.rd (i := 0) rfl) (rfl) (rfl) Try.underlying22 kfturn3_10 rfl rfl (by unfold maxLen; omega) (by omega)) rfl rfl ?_
                    rintro _ w177 ⟨A175, c176, rfl, H178⟩
                    refine ⟨(H178.pick (m := [_, _, _]) [3, 4, 5] rfl (by decide)), fun w179 e181 => ?_⟩
                    have H180 := H178.ext e181
                    refine tt_op rfl (Yd.op (y_fa rfl rfl kfturn3_6 rfl)) rfl rfl ?_
                    rintro _ _ ⟨rfl, rfl⟩
                    refine ⟨(H180.pick (m := [_, _, _]) [3, 4, 5] rfl (by decide)), fun w182 e184 => ?_⟩
                    have H183 := H180.ext e184
                    refine tt_op rfl (op_st (i := 2) (vs := [.slice _ _ _]) H183 rfl rfl rfl rfl rfl kfturn3_11 rfl rfl rfl) rfl rfl ?_
                    rintro _ w185 H186
                    refine ⟨(H186.pick (m := [_, _, _]) [3, 4, 5] rfl (by decide)), fun w187 e189 => ?_⟩
                    have H188 := H186.ext e189
                    exact tt_leaf ⟨A175, c176, rfl, (H188.pick (m := [_, _, _, _, _]) [1, 2, 3, 4, 5] rfl (by decide))⟩ trivial (by repeat (first | exact kp_refl | refine kp_app rfl rfl ?_ | refine kp_cons rfl ?_))
                  refine tt_op rfl (op_lit (parts := [(0, _)]) (vs := [(0, _)]) (cs := [.int _ _]) HX rfl Try.underlying22 kfturn3_9 rfl ⟨rfl, trivial⟩ rfl rfl) rfl rfl ?_
                  rintro _ w191 ⟨b190, rfl, H192⟩
                  have H193 := H192.asrow (m := 1) (size := 1) rfl (by decide)
                  refine ⟨(H193.pick (m := [_, _, _]) [3, 4, 5] rfl (by decide)), fun w194 e196 => ?_⟩
                  have H195 := H193.ext e196
                  refine tt_op rfl (Yd.op (y_ld rfl rfl kfturn3_7 (H195.cell (i := 2) rfl rfl))) rfl rfl ?_
                  rintro _ _ ⟨rfl, rfl⟩
                  refine ⟨(H195.pick (m := [_, _, _]) [3, 4, 5] rfl (by decide)), fun w197 e199 => ?_⟩
                  have H198 := H195.ext e199
                  refine tt_op rfl (op_app (i := 1) H198 rfl rfl rfl rfl (H198.rd (i := 0) rfl) (rfl) (rfl) Try.underlying22 kfturn3_10 rfl rfl (by unfold maxLen; omega) (by omega)) rfl rfl ?_
                  rintro _ w202 ⟨A200, c201, rfl, H203⟩
                  refine ⟨(H203.pick (m := [_, _, _]) [3, 4, 5] rfl (by decide)), fun w204 e206 => ?_⟩
                  have H205 := H203.ext e206
                  refine tt_op rfl (Yd.op (y_fa rfl rfl kfturn3_6 rfl)) rfl rfl ?_
                  rintro _ _ ⟨rfl, rfl⟩
                  refine ⟨(H205.pick (m := [_, _, _]) [3, 4, 5] rfl (by decide)), fun w207 e209 => ?_⟩
                  have H208 := H205.ext e209
                  refine tt_op rfl (op_st (i := 2) (vs := [.slice _ _ _]) H208 rfl rfl rfl rfl rfl kfturn3_11 rfl rfl rfl) rfl rfl ?_
                  rintro _ w210 H211
                  refine ⟨(H211.pick (m := [_, _, _]) [3, 4, 5] rfl (by decide)), fun w212 e214 => ?_⟩
                  have H213 := H211.ext e214
                  exact tt_leaf ⟨A200, c201, rfl, (H213.pick (m := [_, _, _, _, _]) [1, 2, 3, 4, 5] rfl (by decide))⟩ trivial (by repeat (first | exact kp_refl | refine kp_app rfl rfl ?_ | refine kp_cons rfl ?_))
                · skip
                  rintro M w216 ⟨A2r2k, c2r2k, rfl, H215⟩
                  refine fn_block ?_
                  refine fn_next ?_
                  refine cw_reg ?_
                  refine ry (y_mov rfl rfl) rfl rfl ?_
                  refine ry (y_sub rfl rfl rfl (wi (by omega))) rfl rfl ?_
                  refine ry (y_asg rfl rfl) rfl rfl ?_
                  refine reg_nil ?_
                  rw [vi_snoc, mN_succ hxr2] at H215
                  refine fn_roundJ ⟨xr2 + 1, _, _, rfl, H215, by omega, rfl⟩ ⟨si (by omega), trivial⟩ (by omega) (by repeat (first | exact kp_refl | refine kp_app rfl rfl ?_ | refine kp_cons rfl ?_)) rfl
              · skip
                obtain rfl : h = xr2 := by omega
                refine cw_exit ?_
                refine fn_then_exit (fn_then_exit (fn_block_exit ?_))
                refine fn_block ?_
                refine fn_next ?_
                refine cw_reg ?_
                refine ry (y_mov rfl rfl) rfl rfl ?_
                refine ry (y_add rfl rfl rfl (wi (by omega))) rfl rfl ?_
                refine ry (y_asg rfl rfl) rfl rfl ?_
                refine reg_nil ?_
                rw [← Nat.succ_mul] at H162
                refine fn_roundJ ⟨yr2 + 1, _, _, rfl, H162, by omega, rfl⟩ ⟨rfl, trivial⟩ (by omega) (by repeat (first | exact kp_refl | refine kp_app rfl rfl ?_ | refine kp_cons rfl ?_)) rfl
            · skip
              obtain ⟨rfl⟩ : a = yr2 := by omega
              refine cw_exit ?_
              refine fn_then_exit (fn_then_exit (fn_block_exit ?_))
              refine fn_next ?_
              refine cw_reg ?_
              refine ry (y_ldb (i := 1) (cs := [_, _, _]) H158 rfl rfl kfturn3_12 rfl rfl) rfl rfl ?_
              refine reg_op (op_st (i := 2) (vs := [.int _ _, .int _ _, .slice _ _ _]) H158 rfl rfl rfl rfl rfl kfturn3_5 rfl rfl rfl) rfl rfl ?_
              rintro _ w217 H218
              refine reg_nil ?_
              refine fn_block ?_
              refine fn_next ?_
              refine cw_reg ?_
              refine ry (y_mov rfl rfl) rfl rfl ?_
              refine ry (y_add rfl rfl rfl (wi (by omega))) rfl rfl ?_
              refine ry (y_asg rfl rfl) rfl rfl ?_
              refine reg_nil ?_
              refine fn_roundR ?_
              refine cw_seq ?_
              refine cw_seq ?_
              refine cw_reg ?_
              refine ry (y_mov rfl rfl) rfl rfl ?_
              refine ry (y_mov rfl rfl) rfl rfl ?_
              refine ry (y_lss rfl rfl rfl) rfl rfl ?_
              refine reg_nil ?_
              refine fn_next ?_
              refine cw_condd rfl (fun h219 => ?_) (fun h219 => ?_)
              · exact absurd h219 (by decide)
              · skip
                refine cw_exit ?_
                refine fn_then_exit (fn_then_exit (fn_block_exit ?_))
                refine fn_next ?_
                refine cw_seq ?_
                refine cw_reg ?_
                refine ry (y_ldb (i := 2) (cs := [_, _, _]) H218 rfl rfl kfturn3_12 rfl rfl) rfl rfl ?_
                refine reg_op (op_st (i := 3) (vs := [.int _ _, .int _ _, .slice _ _ _]) H218 rfl rfl rfl rfl rfl kfturn3_5 rfl rfl rfl) rfl rfl ?_
                rintro _ w220 H221
                refine reg_nil ?_
                refine fn_next ?_
                refine cw_ret ?_
                refine fn_ret1 rfl (⟨_, rfl, load_agg (cs := [_, _, _]) kfturn3_12 rfl fun j v hv => by rw [Nat.zero_add]; exact H221.cell (i := 3) rfl hv⟩) ?_
                have Hz := (H221.pick (m := [_]) [0] rfl (by decide))
                have hvz : mN (q1V (q1V V a h) h a) a h (fun _ y => y) (fun x _ => h - 1 - x) (a * h) = q1V (q1V (q1V V a h) h a) a h := by rw [Nat.mul_comm a h]; rfl
                rw [hvz, Nat.mul_comm a h] at Hz
                refine ⟨_, _, by rw [Nat.mul_comm h a], Hz⟩
          · exact absurd (by decide) h148
      · exact absurd (by decide) h77
  · exact absurd (by decide) h7

end Go.Proofs.Ytbhmkpnihgjlnaa
