/- Layers 8 and 9: the reference, of greater sides. -/
import Derived.Test.YtkphmcaoioaglaaGrid2
import Derived.Test.YtkphmcaoioaglaaRef8b
set_option linter.unusedVariables false
set_option linter.unusedSimpArgs false
namespace Go.Proofs.Ytkphmcaoioaglaa
open Go Go.RowKit
theorem kfref9_1 : (Try.prog.info? 34).bind (fun i => i.zero.map Value.cells) = some (List.toArray [(.int .i64 0), (.int .i64 0), (.slice none 0 0)]) := by kernel_rfl
theorem kfref9_2 : szB Try.prog 34 3 = true := by kernel_rfl
theorem kfref9_3 : aggB Try.prog 34 3 = true := by kernel_rfl
theorem kfref9_4 : callB Try.prog 32 = true := by kernel_rfl
theorem kfref9_5 : fldB Try.prog 34 2 2 = true := by kernel_rfl
theorem kfref9_6 : oneB Try.prog 32 = true := by kernel_rfl
theorem kfref9_7 : (Try.prog.info? 2).map (fun i => (i.size, i.zero.map Value.cells)) = some (1, some (List.toArray [(.int .i64 0)])) := by kernel_rfl
theorem kfref9_8 : (Try.prog.info? 2).map (fun i => (i.zero.map (·.cells.toList), i.size, i.bytes)) = some (some [(.int .i64 0)], 1, 8) := by kernel_rfl
theorem kfref9_9 : szB Try.prog 32 1 = true := by kernel_rfl
theorem kfref9_10 : callB Try.prog 33 = true := by kernel_rfl
theorem kfref9_11 : fldB Try.prog 26 0 0 = true := by kernel_rfl
theorem kfref9_12 : oneB Try.prog 2 = true := by kernel_rfl
theorem kfref9_13 : fldB Try.prog 34 0 0 = true := by kernel_rfl
theorem kfref9_14 : fldB Try.prog 26 1 1 = true := by kernel_rfl
theorem kfref9_15 : fldB Try.prog 34 1 1 = true := by kernel_rfl
theorem kfref9_16 : elB Try.prog 32 1 = true := by kernel_rfl
theorem kfref9_17 : (Try.prog.info? 24).bind (fun i => i.zero.map Value.cells) = some (List.toArray [(.int .i64 0), (.int .i64 0), (.int .i64 0), (.int .i64 0)]) := by kernel_rfl
theorem kfref9_18 : szB Try.prog 24 4 = true := by kernel_rfl
theorem kfref9_19 : aggB Try.prog 24 4 = true := by kernel_rfl
theorem kfref9_20 : callB Try.prog 81 = true := by kernel_rfl
theorem kfref9_21 : fldB Try.prog 24 1 1 = true := by kernel_rfl
theorem kfref9_22 : fldB Try.prog 24 3 3 = true := by kernel_rfl
theorem kfref9_23 : fldB Try.prog 24 0 0 = true := by kernel_rfl
theorem kfref9_24 : fldB Try.prog 24 2 2 = true := by kernel_rfl
theorem kfref9_25 : callB Try.prog 52 = true := by kernel_rfl
theorem kfref9_26 : callB Try.prog 98 = true := by kernel_rfl
theorem kfref9_27 : callB Try.prog 55 = true := by kernel_rfl
theorem kfref9_28 : elB Try.prog 88 4 = true := by kernel_rfl
theorem kfref9_29 : callB Try.prog 47 = true := by kernel_rfl
theorem kfref9_30 : callB Try.prog 36 = true := by kernel_rfl
theorem SzG.mul {a h : Nat} (s : SzG a h) : 1 ≤ a * h ∧ a * h ≤ 1048576 := by
  obtain ⟨h1, h2, h3, h4⟩ := s
  exact ⟨Nat.mul_le_mul h1 h3, Nat.mul_le_mul h2 h4⟩
theorem gnewC_sz {a h v : Int} (hs : ¬ (1 ≤ a ∧ a ≤ 1024 ∧ 1 ≤ h ∧ h ≤ 1024)) : gnewC a h v = 3 := if_neg hs
theorem gnewC_v {a h v : Int} (hs : 1 ≤ a ∧ a ≤ 1024 ∧ 1 ≤ h ∧ h ≤ 1024) (hv : ¬ B32 v) : gnewC a h v = 7 := by unfold gnewC; rw [if_pos hs, if_neg hv]
theorem gvalV_le {V : List Int} {a h : Nat} {x0 y0 x1 y1 : Int} (s : SzG a h) : (gvalV V a h x0 y0 x1 y1).length ≤ 1048576 := by
  by_cases hw : withinC x0 y0 x1 y1 a h = 0
  · obtain ⟨h1, h2, h3, h4⟩ := s
    have := within_zero (by omega) (by omega) (by omega) (by omega) hw
    unfold gvalV
    rw [if_pos hw, rvAll_len]
    exact Nat.le_trans (Nat.mul_le_mul (show (y1 - y0 + 1).toNat ≤ 1024 by omega) (show (x1 - x0 + 1).toNat ≤ 1024 by omega)) (by decide)
  · rw [gvalV_no hw]; exact Nat.zero_le _
theorem within_natG {a h : Nat} {x0 y0 x1 y1 : Int} (s : SzG a h) (hw : withinC x0 y0 x1 y1 a h = 0) : ∃ p0 q0 p1 q1 : Nat, x0 = p0 ∧ y0 = q0 ∧ x1 = p1 ∧ y1 = q1 ∧ p0 ≤ p1 ∧ p1 < a ∧ q0 ≤ q1 ∧ q1 < h := by
  obtain ⟨h1, h2, h3, h4⟩ := s
  have := within_zero (by omega) (by omega) (by omega) (by omega) hw
  exact ⟨x0.toNat, y0.toNat, x1.toNat, y1.toNat, by omega, by omega, by omega, by omega, by omega, by omega, by omega, by omega⟩
theorem within_inG {a h : Nat} {x y : Int} (s : SzG a h) (hi : 0 ≤ x ∧ x < a ∧ 0 ≤ y ∧ y < h) : withinC x y x y a h = 0 := by
  obtain ⟨s1, s2, s3, s4⟩ := s
  unfold withinC; simp only [insideB_not]
  rw [if_neg (by unfold wrap64; omega), if_neg (by omega), if_neg (by omega)]
theorem within_outG {a h : Nat} {x y : Int} (s : SzG a h) (hi : ¬ (0 ≤ x ∧ x < a ∧ 0 ≤ y ∧ y < h)) : withinC x y x y a h = 4 := by
  obtain ⟨s1, s2, s3, s4⟩ := s
  unfold withinC; simp only [insideB_not]
  rw [if_neg (by unfold wrap64; omega), if_pos (by omega)]
theorem row_bdG {a h x y : Nat} (s : SzG a h) (hx : x < a) (hy : y < h) : (y : Int) * (a : Int) = ((y * a : Nat) : Int) ∧ y * a + x < a * h ∧ a * h ≤ 1048576 := ⟨by rw [Int.natCast_mul], cell_lt hx hy, s.mul.2⟩

set_option maxRecDepth 100000 in
theorem mNew_sz (a h v : Int) (w : World) (hs : ¬ (1 ≤ a ∧ a ≤ 1024 ∧ 1 ≤ h ∧ h ≤ 1024)) :
    Ret Try.prog 33 [.int .i64 a, .int .i64 h, .int .i64 v, .int .i64 1024] w (fun z w' => z = .tuple #[.agg #[.int .i64 0, .int .i64 0, .slice none 0 0], .int .i64 (gnewC a h v)] ∧ Below w.heap.size w w') := by
  refine ret_enter Try.func33 rfl rfl rfl ?_
  have H0 := HS.start w
  refine cw_seq ?_
  refine cw_reg ?_
  refine reg_op (op_alloc H0 rfl kfref9_1) rfl rfl ?_
  rintro _ w2 ⟨b1, rfl, H3⟩
  refine ry (y_asg rfl rfl) rfl rfl ?_
  refine reg_nil ?_
  refine fn_next ?_
  refine cw_seq ?_
  refine cw_seq ?_
  refine cw_reg ?_
  refine ry (y_mov rfl rfl) rfl rfl ?_
  refine ry (y_lss rfl rfl rfl) rfl rfl ?_
  refine ry (y_mov rfl rfl) rfl rfl ?_
  refine rg_splitd (d := 14) rfl (fun h4 => ?_) (fun h4 => ?_)
  · skip
    refine rg_off rfl rfl rfl rfl rfl ?_
    refine rg_off rfl rfl rfl rfl rfl ?_
    refine rg_off rfl rfl rfl rfl rfl ?_
    refine ry (y_pick rfl rfl rfl) rfl rfl ?_
    refine ry (y_mov rfl rfl) rfl rfl ?_
    refine rg_off rfl rfl rfl rfl rfl ?_
    refine rg_off rfl rfl rfl rfl rfl ?_
    refine ry (y_pick rfl rfl rfl) rfl rfl ?_
    refine ry (y_mov rfl rfl) rfl rfl ?_
    refine rg_off rfl rfl rfl rfl rfl ?_
    refine rg_off rfl rfl rfl rfl rfl ?_
    refine rg_off rfl rfl rfl rfl rfl ?_
    refine ry (y_pick rfl rfl rfl) rfl rfl ?_
    refine reg_nil ?_
    refine fn_next ?_
    refine cw_condt rfl ?_
    refine cw_seq ?_
    refine cw_reg ?_
    refine ry (y_build (places := [(0, 1), (1, 1), (2, 1)]) (parts := []) (vs := []) (cs := [.int _ _, .int _ _, .slice _ _ _]) rfl Try.underlying34 (by kernel_rfl) kfref9_1 rfl trivial rfl) rfl rfl ?_
    refine reg_op (op_st (i := 0) (vs := [.int _ _, .int _ _, .slice _ _ _]) H3 rfl rfl rfl rfl rfl kfref9_2 rfl rfl rfl) rfl rfl ?_
    rintro _ w5 H6
    refine ry (y_asg rfl rfl) rfl rfl ?_
    refine reg_nil ?_
    refine fn_next ?_
    refine cw_ret ?_
    refine fn_then_ret ?_
    refine fn_retn (vs := [_, _]) rfl ⟨⟨_, rfl, load_agg (cs := [_, _, _]) kfref9_3 rfl fun j v hv => by rw [Nat.zero_add]; exact H6.cell (i := 0) rfl hv⟩, rfl, trivial⟩ rfl ?_
    rw [gnewC_sz hs]
    exact ⟨rfl, H6.base⟩
  · skip
    refine rgy (y_mov rfl rfl) rfl rfl rfl rfl ?_
    refine rgy (y_mov rfl rfl) rfl rfl rfl rfl ?_
    refine rgy (y_gtr rfl rfl rfl) rfl rfl rfl rfl ?_
    refine ry (y_pick rfl rfl rfl) rfl rfl ?_
    refine ry (y_mov rfl rfl) rfl rfl ?_
    refine rg_splitd (d := 19) rfl (fun h7 => ?_) (fun h7 => ?_)
    · skip
      refine rg_off rfl rfl rfl rfl rfl ?_
      refine rg_off rfl rfl rfl rfl rfl ?_
      refine ry (y_pick rfl rfl rfl) rfl rfl ?_
      refine ry (y_mov rfl rfl) rfl rfl ?_
      refine rg_off rfl rfl rfl rfl rfl ?_
      refine rg_off rfl rfl rfl rfl rfl ?_
      refine rg_off rfl rfl rfl rfl rfl ?_
      refine ry (y_pick rfl rfl rfl) rfl rfl ?_
      refine reg_nil ?_
      refine fn_next ?_
      refine cw_condt rfl ?_
      refine cw_seq ?_
      refine cw_reg ?_
      refine ry (y_build (places := [(0, 1), (1, 1), (2, 1)]) (parts := []) (vs := []) (cs := [.int _ _, .int _ _, .slice _ _ _]) rfl Try.underlying34 (by kernel_rfl) kfref9_1 rfl trivial rfl) rfl rfl ?_
      refine reg_op (op_st (i := 0) (vs := [.int _ _, .int _ _, .slice _ _ _]) H3 rfl rfl rfl rfl rfl kfref9_2 rfl rfl rfl) rfl rfl ?_
      rintro _ w8 H9
      refine ry (y_asg rfl rfl) rfl rfl ?_
      refine reg_nil ?_
      refine fn_next ?_
      refine cw_ret ?_
      refine fn_then_ret ?_
      refine fn_retn (vs := [_, _]) rfl ⟨⟨_, rfl, load_agg (cs := [_, _, _]) kfref9_3 rfl fun j v hv => by rw [Nat.zero_add]; exact H9.cell (i := 0) rfl hv⟩, rfl, trivial⟩ rfl ?_
      rw [gnewC_sz hs]
      exact ⟨rfl, H9.base⟩
    · skip
      refine rgy (y_mov rfl rfl) rfl rfl rfl rfl ?_
      refine rgy (y_lss rfl rfl rfl) rfl rfl rfl rfl ?_
      refine ry (y_pick rfl rfl rfl) rfl rfl ?_
      refine ry (y_mov rfl rfl) rfl rfl ?_
      refine rg_splitd (d := 23) rfl (fun h10 => ?_) (fun h10 => ?_)
      · skip
        refine rg_off rfl rfl rfl rfl rfl ?_
        refine rg_off rfl rfl rfl rfl rfl ?_
        refine rg_off rfl rfl rfl rfl rfl ?_
        refine ry (y_pick rfl rfl rfl) rfl rfl ?_
        refine reg_nil ?_
        refine fn_next ?_
        refine cw_condt rfl ?_
        refine cw_seq ?_
        refine cw_reg ?_
        refine ry (y_build (places := [(0, 1), (1, 1), (2, 1)]) (parts := []) (vs := []) (cs := [.int _ _, .int _ _, .slice _ _ _]) rfl Try.underlying34 (by kernel_rfl) kfref9_1 rfl trivial rfl) rfl rfl ?_
        refine reg_op (op_st (i := 0) (vs := [.int _ _, .int _ _, .slice _ _ _]) H3 rfl rfl rfl rfl rfl kfref9_2 rfl rfl rfl) rfl rfl ?_
        rintro _ w11 H12
        refine ry (y_asg rfl rfl) rfl rfl ?_
        refine reg_nil ?_
        refine fn_next ?_
        refine cw_ret ?_
        refine fn_then_ret ?_
        refine fn_retn (vs := [_, _]) rfl ⟨⟨_, rfl, load_agg (cs := [_, _, _]) kfref9_3 rfl fun j v hv => by rw [Nat.zero_add]; exact H12.cell (i := 0) rfl hv⟩, rfl, trivial⟩ rfl ?_
        rw [gnewC_sz hs]
        exact ⟨rfl, H12.base⟩
      · skip
        refine rgy (y_mov rfl rfl) rfl rfl rfl rfl ?_
        refine rgy (y_mov rfl rfl) rfl rfl rfl rfl ?_
        refine rgy (y_gtr rfl rfl rfl) rfl rfl rfl rfl ?_
        refine ry (y_pick rfl rfl rfl) rfl rfl ?_
        refine reg_nil ?_
        refine fn_next ?_
        refine cw_condd rfl (fun h13 => ?_) (fun h13 => ?_)
        · skip
          refine cw_seq ?_
          refine cw_reg ?_
          refine ry (y_build (places := [(0, 1), (1, 1), (2, 1)]) (parts := []) (vs := []) (cs := [.int _ _, .int _ _, .slice _ _ _]) rfl Try.underlying34 (by kernel_rfl) kfref9_1 rfl trivial rfl) rfl rfl ?_
          refine reg_op (op_st (i := 0) (vs := [.int _ _, .int _ _, .slice _ _ _]) H3 rfl rfl rfl rfl rfl kfref9_2 rfl rfl rfl) rfl rfl ?_
          rintro _ w14 H15
          refine ry (y_asg rfl rfl) rfl rfl ?_
          refine reg_nil ?_
          refine fn_next ?_
          refine cw_ret ?_
          refine fn_then_ret ?_
          refine fn_retn (vs := [_, _]) rfl ⟨⟨_, rfl, load_agg (cs := [_, _, _]) kfref9_3 rfl fun j v hv => by rw [Nat.zero_add]; exact H15.cell (i := 0) rfl hv⟩, rfl, trivial⟩ rfl ?_
          rw [gnewC_sz hs]
          exact ⟨rfl, H15.base⟩
        · exfalso; omega

set_option maxRecDepth 100000 in
theorem mNew_v (a h v : Int) (w : World) (hs : 1 ≤ a ∧ a ≤ 1024 ∧ 1 ≤ h ∧ h ≤ 1024) (hv : ¬ B32 v) :
    Ret Try.prog 33 [.int .i64 a, .int .i64 h, .int .i64 v, .int .i64 1024] w (fun z w' => z = .tuple #[.agg #[.int .i64 0, .int .i64 0, .slice none 0 0], .int .i64 (gnewC a h v)] ∧ Below w.heap.size w w') := by
  refine ret_enter Try.func33 rfl rfl rfl ?_
  have H0 := HS.start w
  refine cw_seq ?_
  refine cw_reg ?_
  refine reg_op (op_alloc H0 rfl kfref9_1) rfl rfl ?_
  rintro _ w2 ⟨b1, rfl, H3⟩
  refine ry (y_asg rfl rfl) rfl rfl ?_
  refine reg_nil ?_
  refine fn_next ?_
  refine cw_seq ?_
  refine cw_seq ?_
  refine cw_reg ?_
  refine ry (y_mov rfl rfl) rfl rfl ?_
  refine ry (y_lss rfl rfl rfl) rfl rfl ?_
  refine ry (y_mov rfl rfl) rfl rfl ?_
  refine rg_splitd (d := 14) rfl (fun h4 => ?_) (fun h4 => ?_)
  · exfalso; omega
  · skip
    refine rgy (y_mov rfl rfl) rfl rfl rfl rfl ?_
    refine rgy (y_mov rfl rfl) rfl rfl rfl rfl ?_
    refine rgy (y_gtr rfl rfl rfl) rfl rfl rfl rfl ?_
    refine ry (y_pick rfl rfl rfl) rfl rfl ?_
    refine ry (y_mov rfl rfl) rfl rfl ?_
    refine rg_splitd (d := 19) rfl (fun h5 => ?_) (fun h5 => ?_)
    · exfalso; omega
    · skip
      refine rgy (y_mov rfl rfl) rfl rfl rfl rfl ?_
      refine rgy (y_lss rfl rfl rfl) rfl rfl rfl rfl ?_
      refine ry (y_pick rfl rfl rfl) rfl rfl ?_
      refine ry (y_mov rfl rfl) rfl rfl ?_
      refine rg_splitd (d := 23) rfl (fun h6 => ?_) (fun h6 => ?_)
      · exfalso; omega
      · skip
        refine rgy (y_mov rfl rfl) rfl rfl rfl rfl ?_
        refine rgy (y_mov rfl rfl) rfl rfl rfl rfl ?_
        refine rgy (y_gtr rfl rfl rfl) rfl rfl rfl rfl ?_
        refine ry (y_pick rfl rfl rfl) rfl rfl ?_
        refine reg_nil ?_
        refine fn_next ?_
        refine cw_condd rfl (fun h7 => ?_) (fun h7 => ?_)
        · exfalso; omega
        · skip
          refine cw_skip ?_
          refine fn_next ?_
          refine cw_seq ?_
          refine cw_seq ?_
          refine cw_reg ?_
          refine ry (y_mov rfl rfl) rfl rfl ?_
          refine reg_op (op_call (refMay_any v _) rfl kfref9_4 ⟨rfl, trivial⟩) rfl rfl ?_
          rintro _ w9 ⟨rfl, e8⟩
          have H10 := H3.ext e8
          refine ry (y_notd rfl rfl) rfl rfl ?_
          refine reg_nil ?_
          refine fn_next ?_
          refine cw_condd rfl (fun h11 => ?_) (fun h11 => ?_)
          · skip
            refine cw_seq ?_
            refine cw_reg ?_
            refine ry (y_build (places := [(0, 1), (1, 1), (2, 1)]) (parts := []) (vs := []) (cs := [.int _ _, .int _ _, .slice _ _ _]) rfl Try.underlying34 (by kernel_rfl) kfref9_1 rfl trivial rfl) rfl rfl ?_
            refine reg_op (op_st (i := 0) (vs := [.int _ _, .int _ _, .slice _ _ _]) H10 rfl rfl rfl rfl rfl kfref9_2 rfl rfl rfl) rfl rfl ?_
            rintro _ w12 H13
            refine ry (y_asg rfl rfl) rfl rfl ?_
            refine reg_nil ?_
            refine fn_next ?_
            refine cw_ret ?_
            refine fn_then_ret ?_
            refine fn_retn (vs := [_, _]) rfl ⟨⟨_, rfl, load_agg (cs := [_, _, _]) kfref9_3 rfl fun j v hv => by rw [Nat.zero_add]; exact H13.cell (i := 0) rfl hv⟩, rfl, trivial⟩ rfl ?_
            rw [gnewC_v hs hv]
            exact ⟨rfl, H13.base⟩
          · exact absurd (Classical.not_not.1 h11) hv

theorem mNew_no (a h v : Int) (w : World) (hc : ¬ gnewC a h v = 0) : Ret Try.prog 33 [.int .i64 a, .int .i64 h, .int .i64 v, .int .i64 1024] w (fun z w' => z = .tuple #[.agg #[.int .i64 0, .int .i64 0, .slice none 0 0], .int .i64 (gnewC a h v)] ∧ Below w.heap.size w w') := by
  by_cases hs : 1 ≤ a ∧ a ≤ 1024 ∧ 1 ≤ h ∧ h ≤ 1024
  · exact mNew_v a h v w hs fun hv => hc (by unfold gnewC; rw [if_pos hs, if_pos hv])
  · exact mNew_sz a h v w hs

set_option maxRecDepth 100000 in
theorem mNew_ok (a h : Nat) (v : Int) (w : World) (p : SzG a h) (hv : B32 v) :
    Ret Try.prog 33 [.int .i64 (a : Int), .int .i64 (h : Int), .int .i64 v, .int .i64 1024] w (fun z w' => ∃ A cap, z = .tuple #[.agg #[.int .i64 (a : Int), .int .i64 (h : Int), .slice A (a * h) cap], .int .i64 0] ∧ HS w w' [.row A (a * h) cap (vi .i64 (List.replicate (a * h) v)) 2 1]) := by
  have hm := p.mul
  obtain ⟨s1, s2, s3, s4⟩ := id p
  refine ret_enter Try.func33 rfl rfl rfl ?_
  have H0 := HS.start w
  refine cw_seq ?_
  refine cw_reg ?_
  refine reg_op (op_alloc H0 rfl kfref9_1) rfl rfl ?_
  rintro _ w2 ⟨b1, rfl, H3⟩
  refine ry (y_asg rfl rfl) rfl rfl ?_
  refine reg_nil ?_
  refine fn_next ?_
  refine cw_seq ?_
  refine cw_seq ?_
  refine cw_reg ?_
  refine ry (y_mov rfl rfl) rfl rfl ?_
  refine ry (y_lss rfl rfl rfl) rfl rfl ?_
  refine ry (y_mov rfl rfl) rfl rfl ?_
  refine rg_splitd (d := 14) rfl (fun h4 => ?_) (fun h4 => ?_)
  · exfalso; omega
  · skip
    refine rgy (y_mov rfl rfl) rfl rfl rfl rfl ?_
    refine rgy (y_mov rfl rfl) rfl rfl rfl rfl ?_
    refine rgy (y_gtr rfl rfl rfl) rfl rfl rfl rfl ?_
    refine ry (y_pick rfl rfl rfl) rfl rfl ?_
    refine ry (y_mov rfl rfl) rfl rfl ?_
    refine rg_splitd (d := 19) rfl (fun h5 => ?_) (fun h5 => ?_)
    · exfalso; omega
    · skip
      refine rgy (y_mov rfl rfl) rfl rfl rfl rfl ?_
      refine rgy (y_lss rfl rfl rfl) rfl rfl rfl rfl ?_
      refine ry (y_pick rfl rfl rfl) rfl rfl ?_
      refine ry (y_mov rfl rfl) rfl rfl ?_
      refine rg_splitd (d := 23) rfl (fun h6 => ?_) (fun h6 => ?_)
      · exfalso; omega
      · skip
        refine rgy (y_mov rfl rfl) rfl rfl rfl rfl ?_
        refine rgy (y_mov rfl rfl) rfl rfl rfl rfl ?_
        refine rgy (y_gtr rfl rfl rfl) rfl rfl rfl rfl ?_
        refine ry (y_pick rfl rfl rfl) rfl rfl ?_
        refine reg_nil ?_
        refine fn_next ?_
        refine cw_condd rfl (fun h7 => ?_) (fun h7 => ?_)
        · exfalso; omega
        · skip
          refine cw_skip ?_
          refine fn_next ?_
          refine cw_seq ?_
          refine cw_seq ?_
          refine cw_reg ?_
          refine ry (y_mov rfl rfl) rfl rfl ?_
          refine reg_op (op_call (refMay_any v _) rfl kfref9_4 ⟨rfl, trivial⟩) rfl rfl ?_
          rintro _ w9 ⟨rfl, e8⟩
          have H10 := H3.ext e8
          refine ry (y_notd rfl rfl) rfl rfl ?_
          refine reg_nil ?_
          refine fn_next ?_
          refine cw_condd rfl (fun h11 => ?_) (fun h11 => ?_)
          · exact absurd hv h11
          · skip
            refine cw_skip ?_
            refine fn_next ?_
            refine cw_seq ?_
            refine cw_reg ?_
            refine ry (y_mov rfl rfl) rfl rfl ?_
            refine ry (y_mov rfl rfl) rfl rfl ?_
            refine ry (y_build (places := [(0, 1), (1, 1), (2, 1)]) (parts := [(0, _), (1, _)]) (vs := [(0, _), (1, _)]) (cs := [.int _ _, .int _ _, .slice _ _ _]) rfl Try.underlying34 (by kernel_rfl) kfref9_1 rfl ⟨rfl, rfl, trivial⟩ rfl) rfl rfl ?_
            refine reg_op (op_alloc H10 rfl kfref9_1) rfl rfl ?_
            rintro _ w13 ⟨b12, rfl, H14⟩
            refine reg_op (op_st (i := 0) (vs := [.int _ _, .int _ _, .slice _ _ _]) H14 rfl rfl rfl rfl rfl kfref9_2 rfl rfl rfl) rfl rfl ?_
            rintro _ w15 H16
            refine reg_nil ?_
            refine fn_next ?_
            refine cw_seq ?_
            refine cw_seq ?_
            refine cw_reg ?_
            refine ry (y_asg rfl rfl) rfl rfl ?_
            refine reg_nil ?_
            refine fn_next ?_
            refine cw_block ?_
            have Hn := H16.nilrow 2 1
            refine cw_loopJ [11, 36, 37, 38, 39, 40, 41, 42, 43, 44, 45, 46, 47, 48] (fun M wl ml => ∃ (i : Nat) (A : Option Addr) (cap : Nat), M = [(11, .int .i64 (i : Int))] ∧ HS w wl [Ob.row A i cap (vi .i64 (List.replicate i v)) 2 1, Ob.blk b12 [.int .i64 (a : Int), .int .i64 (h : Int), .slice A i cap] 34, Ob.blk b1 [.int .i64 0, .int .i64 0, .slice none 0 0] 34] ∧ (i ≤ a * h) ∧ ml = a * h - i) ⟨0, _, _, rfl, Hn, Nat.zero_le _, rfl⟩ ⟨rfl, trivial⟩ ?_
            rintro M w17 m19 ⟨i, A, cap, rfl, H18, hp0, rfl⟩
            refine cw_seq ?_
            refine cw_seq ?_
            refine cw_reg ?_
            refine ry (y_mov rfl rfl) rfl rfl ?_
            refine ry (y_mov rfl rfl) rfl rfl ?_
            refine ry (y_mov rfl rfl) rfl rfl ?_
            refine ry (y_mul rfl rfl rfl (show _ = ((a * h : Nat) : Int) from by rw [← Int.natCast_mul]; exact wi (by omega))) rfl rfl ?_
            refine ry (y_lss rfl rfl rfl) rfl rfl ?_
            refine reg_nil ?_
            refine fn_next ?_
            refine cw_condd rfl (fun h20 => ?_) (fun h20 => ?_)
            · skip
              refine cw_skip ?_
              refine fn_next ?_
              refine cw_seq ?_
              refine cw_block ?_
              refine cw_reg ?_
              refine ry (y_fa rfl rfl kfref9_5 rfl) rfl rfl ?_
              refine ry (y_ld rfl rfl kfref9_6 (H18.cell (i := 1) rfl rfl)) rfl rfl ?_
              refine ry (y_mov rfl rfl) rfl rfl ?_
              refine reg_op (op_lit (parts := [(0, _)]) (vs := [(0, _)]) (cs := [.int _ _]) H18 rfl Try.underlying32 kfref9_7 rfl ⟨rfl, trivial⟩ rfl rfl) rfl rfl ?_
              rintro _ w22 ⟨b21, rfl, H23⟩
              have H24 := H23.asrow (m := 1) (size := 1) rfl (by decide)
              refine reg_op (op_app (i := 1) H24 rfl rfl rfl rfl (H24.rd (i := 0) rfl) (rfl) (rfl) Try.underlying32 kfref9_8 rfl rfl (by unfold maxLen; omega) (by omega)) rfl rfl ?_
              rintro _ w27 ⟨A25, c26, rfl, H28⟩
              refine ry (y_fa rfl rfl kfref9_5 rfl) rfl rfl ?_
              refine reg_op (op_st (i := 2) (vs := [.slice _ _ _]) H28 rfl rfl rfl rfl rfl kfref9_9 rfl rfl rfl) rfl rfl ?_
              rintro _ w29 H30
              refine reg_nil ?_
              refine fn_block ?_
              refine fn_next ?_
              refine cw_reg ?_
              refine ry (y_mov rfl rfl) rfl rfl ?_
              refine ry (y_add rfl rfl rfl (wi (by omega))) rfl rfl ?_
              refine ry (y_asg rfl rfl) rfl rfl ?_
              refine reg_nil ?_
              rw [rep_push] at H30
              refine fn_roundJ ⟨i + 1, _, _, rfl, (H30.pick (m := [_, _, _]) [1, 2, 3] rfl (by decide)), by omega, rfl⟩ ⟨rfl, trivial⟩ (by omega) (by repeat (first | exact kp_refl | refine kp_app rfl rfl ?_ | refine kp_cons rfl ?_)) rfl
            · skip
              have hie : i = a * h := by omega
              subst hie
              refine cw_exit ?_
              refine fn_then_exit (fn_then_exit (fn_block_exit ?_))
              refine fn_next ?_
              refine cw_seq ?_
              refine cw_reg ?_
              refine ry (y_ldb (i := 1) (cs := [_, _, _]) H18 rfl rfl kfref9_3 rfl rfl) rfl rfl ?_
              refine reg_op (op_st (i := 2) (vs := [.int _ _, .int _ _, .slice _ _ _]) H18 rfl rfl rfl rfl rfl kfref9_2 rfl rfl rfl) rfl rfl ?_
              rintro _ w31 H32
              refine ry (y_asg rfl rfl) rfl rfl ?_
              refine reg_nil ?_
              refine fn_next ?_
              refine cw_ret ?_
              refine fn_retn (vs := [_, _]) rfl ⟨⟨_, rfl, load_agg (cs := [_, _, _]) kfref9_3 rfl fun j v hv => by rw [Nat.zero_add]; exact H32.cell (i := 2) rfl hv⟩, rfl, trivial⟩ rfl ?_
              exact ⟨_, _, rfl, (H32.pick (m := [_]) [0] rfl (by decide))⟩

set_option maxRecDepth 100000 in
theorem rNew_no (a h v : Int) (w : World) (hc : ¬ gnewC a h v = 0) :
    Ret Try.prog 43 [.int .i64 a, .int .i64 h, .int .i64 v] w (fun z w' => z = .tuple #[.agg #[.int .i64 0, .int .i64 0, .slice none 0 0], .int .i64 (gnewC a h v)] ∧ Below w.heap.size w w') := by
  refine ret_enter Try.func43 rfl rfl rfl ?_
  have H0 := HS.start w
  refine cw_seq ?_
  refine cw_reg ?_
  refine reg_op (op_alloc H0 rfl kfref9_1) rfl rfl ?_
  rintro _ w2 ⟨b1, rfl, H3⟩
  refine ry (y_asg rfl rfl) rfl rfl ?_
  refine reg_nil ?_
  refine fn_next ?_
  refine cw_seq ?_
  refine cw_reg ?_
  refine ry (y_mov rfl rfl) rfl rfl ?_
  refine ry (y_mov rfl rfl) rfl rfl ?_
  refine ry (y_mov rfl rfl) rfl rfl ?_
  refine reg_op (op_call (mNew_no a h v _ hc) rfl kfref9_10 ⟨rfl, rfl, rfl, rfl, trivial⟩) rfl rfl ?_
  rintro _ w5 ⟨rfl, e4⟩
  have H6 := H3.ext e4
  refine ry (y_ext rfl rfl rfl) rfl rfl ?_
  refine ry (y_ext rfl rfl rfl) rfl rfl ?_
  refine reg_op (op_st (i := 0) (vs := [.int _ _, .int _ _, .slice _ _ _]) H6 rfl rfl rfl rfl rfl kfref9_2 rfl rfl rfl) rfl rfl ?_
  rintro _ w7 H8
  refine ry (y_asg rfl rfl) rfl rfl ?_
  refine reg_nil ?_
  refine fn_next ?_
  refine cw_ret ?_
  refine fn_retn (vs := [_, _]) rfl ⟨⟨_, rfl, load_agg (cs := [_, _, _]) kfref9_3 rfl fun j v hv => by rw [Nat.zero_add]; exact H8.cell (i := 0) rfl hv⟩, rfl, trivial⟩ rfl ?_
  exact ⟨rfl, H8.base⟩

set_option maxRecDepth 100000 in
theorem rNew_ok (a h : Nat) (v : Int) (w : World) (p : SzG a h) (hv : B32 v) :
    Ret Try.prog 43 [.int .i64 (a : Int), .int .i64 (h : Int), .int .i64 v] w (fun z w' => ∃ A cap, z = .tuple #[.agg #[.int .i64 (a : Int), .int .i64 (h : Int), .slice A (a * h) cap], .int .i64 0] ∧ HS w w' [.row A (a * h) cap (vi .i64 (List.replicate (a * h) v)) 2 1]) := by
  refine ret_enter Try.func43 rfl rfl rfl ?_
  have H0 := HS.start w
  refine cw_seq ?_
  refine cw_reg ?_
  refine reg_op (op_alloc H0 rfl kfref9_1) rfl rfl ?_
  rintro _ w2 ⟨b1, rfl, H3⟩
  refine ry (y_asg rfl rfl) rfl rfl ?_
  refine reg_nil ?_
  refine fn_next ?_
  refine cw_seq ?_
  refine cw_reg ?_
  refine ry (y_mov rfl rfl) rfl rfl ?_
  refine ry (y_mov rfl rfl) rfl rfl ?_
  refine ry (y_mov rfl rfl) rfl rfl ?_
  refine reg_op (op_call (mNew_ok a h v _ p hv) rfl kfref9_10 ⟨rfl, rfl, rfl, rfl, trivial⟩) rfl rfl ?_
  rintro _ w5 ⟨A7, c8, rfl, k4⟩
  have H6 := H3.call k4
  refine ry (y_ext rfl rfl rfl) rfl rfl ?_
  refine ry (y_ext rfl rfl rfl) rfl rfl ?_
  refine reg_op (op_st (i := 1) (vs := [.int _ _, .int _ _, .slice _ _ _]) H6 rfl rfl rfl rfl rfl kfref9_2 rfl rfl rfl) rfl rfl ?_
  rintro _ w9 H10
  refine ry (y_asg rfl rfl) rfl rfl ?_
  refine reg_nil ?_
  refine fn_next ?_
  refine cw_ret ?_
  refine fn_retn (vs := [_, _]) rfl ⟨⟨_, rfl, load_agg (cs := [_, _, _]) kfref9_3 rfl fun j v hv => by rw [Nat.zero_add]; exact H10.cell (i := 1) rfl hv⟩, rfl, trivial⟩ rfl ?_
  exact ⟨_, _, rfl, (H10.pick (m := [_]) [0] rfl (by decide))⟩

set_option maxRecDepth 100000 in
theorem mAt_no (a h : Nat) (A : Option Addr) (cap : Nat) (x y : Int) (V : List Int) (w : World) (p : SzG a h) (hw : ¬ withinC x y x y a h = 0) :
    Ret Try.prog 22 [.agg #[.int .i64 (a : Int), .int .i64 (h : Int), .slice A (a * h) cap], .agg #[.int .i64 x, .int .i64 y]] w (fun z w' => z = .tuple #[.int .i64 (gatV V a h x y), .int .i64 (withinC x y x y a h)] ∧ Below w.heap.size w w') := by
  have hc : withinC x y x y a h = 4 := within_outG p (fun hi => hw (within_inG p hi))
  refine ret_enter Try.func22 rfl rfl rfl ?_
  have H0 := HS.start w
  refine cw_seq ?_
  refine cw_reg ?_
  refine reg_op (op_box (cs := [.int _ _, .int _ _, .slice _ _ _]) H0 rfl rfl rfl) rfl rfl ?_
  rintro _ w2 ⟨b1, rfl, H3⟩
  refine reg_op (op_box (cs := [.int _ _, .int _ _]) H3 rfl rfl rfl) rfl rfl ?_
  rintro _ w5 ⟨b4, rfl, H6⟩
  refine ry (y_asg rfl rfl) rfl rfl ?_
  refine ry (y_asg rfl rfl) rfl rfl ?_
  refine reg_nil ?_
  refine fn_next ?_
  refine cw_seq ?_
  refine cw_seq ?_
  refine cw_reg ?_
  refine ry (y_fa rfl rfl kfref9_11 rfl) rfl rfl ?_
  refine ry (y_ld rfl rfl kfref9_12 (H6.cell (i := 0) rfl rfl)) rfl rfl ?_
  refine ry (y_lss rfl rfl rfl) rfl rfl ?_
  refine ry (y_mov rfl rfl) rfl rfl ?_
  refine rg_splitd (d := 9) rfl (fun h7 => ?_) (fun h7 => ?_)
  · skip
    refine rg_off rfl rfl rfl rfl rfl ?_
    refine rg_off rfl rfl rfl rfl rfl ?_
    refine rg_off rfl rfl rfl rfl rfl ?_
    refine rg_off rfl rfl rfl rfl rfl ?_
    refine rg_off rfl rfl rfl rfl rfl ?_
    refine ry (y_pick rfl rfl rfl) rfl rfl ?_
    refine ry (y_mov rfl rfl) rfl rfl ?_
    refine rg_off rfl rfl rfl rfl rfl ?_
    refine rg_off rfl rfl rfl rfl rfl ?_
    refine rg_off rfl rfl rfl rfl rfl ?_
    refine ry (y_pick rfl rfl rfl) rfl rfl ?_
    refine ry (y_mov rfl rfl) rfl rfl ?_
    refine rg_off rfl rfl rfl rfl rfl ?_
    refine rg_off rfl rfl rfl rfl rfl ?_
    refine rg_off rfl rfl rfl rfl rfl ?_
    refine rg_off rfl rfl rfl rfl rfl ?_
    refine rg_off rfl rfl rfl rfl rfl ?_
    refine ry (y_pick rfl rfl rfl) rfl rfl ?_
    refine reg_nil ?_
    refine fn_next ?_
    refine cw_condt rfl ?_
    refine cw_seq ?_
    refine cw_reg ?_
    refine ry (y_asg rfl rfl) rfl rfl ?_
    refine ry (y_asg rfl rfl) rfl rfl ?_
    refine reg_nil ?_
    refine fn_next ?_
    refine cw_ret ?_
    refine fn_then_ret ?_
    refine fn_retn (vs := [_, _]) rfl ⟨rfl, rfl, trivial⟩ rfl ?_
    rw [gatV_no hw, hc]
    exact ⟨rfl, H6.base⟩
  · skip
    refine rgy (y_fa rfl rfl kfref9_11 rfl) rfl rfl rfl rfl ?_
    refine rgy (y_ld rfl rfl kfref9_12 (H6.cell (i := 0) rfl rfl)) rfl rfl rfl rfl ?_
    refine rgy (y_fa rfl rfl kfref9_13 rfl) rfl rfl rfl rfl ?_
    refine rgy (y_ld rfl rfl kfref9_12 (H6.cell (i := 1) rfl rfl)) rfl rfl rfl rfl ?_
    refine rgy (y_geq rfl rfl rfl) rfl rfl rfl rfl ?_
    refine ry (y_pick rfl rfl rfl) rfl rfl ?_
    refine ry (y_mov rfl rfl) rfl rfl ?_
    refine rg_splitd (d := 16) rfl (fun h8 => ?_) (fun h8 => ?_)
    · skip
      refine rg_off rfl rfl rfl rfl rfl ?_
      refine rg_off rfl rfl rfl rfl rfl ?_
      refine rg_off rfl rfl rfl rfl rfl ?_
      refine ry (y_pick rfl rfl rfl) rfl rfl ?_
      refine ry (y_mov rfl rfl) rfl rfl ?_
      refine rg_off rfl rfl rfl rfl rfl ?_
      refine rg_off rfl rfl rfl rfl rfl ?_
      refine rg_off rfl rfl rfl rfl rfl ?_
      refine rg_off rfl rfl rfl rfl rfl ?_
      refine rg_off rfl rfl rfl rfl rfl ?_
      refine ry (y_pick rfl rfl rfl) rfl rfl ?_
      refine reg_nil ?_
      refine fn_next ?_
      refine cw_condt rfl ?_
      refine cw_seq ?_
      refine cw_reg ?_
      refine ry (y_asg rfl rfl) rfl rfl ?_
      refine ry (y_asg rfl rfl) rfl rfl ?_
      refine reg_nil ?_
      refine fn_next ?_
      refine cw_ret ?_
      refine fn_then_ret ?_
      refine fn_retn (vs := [_, _]) rfl ⟨rfl, rfl, trivial⟩ rfl ?_
      rw [gatV_no hw, hc]
      exact ⟨rfl, H6.base⟩
    · skip
      refine rgy (y_fa rfl rfl kfref9_14 rfl) rfl rfl rfl rfl ?_
      refine rgy (y_ld rfl rfl kfref9_12 (H6.cell (i := 0) rfl rfl)) rfl rfl rfl rfl ?_
      refine rgy (y_lss rfl rfl rfl) rfl rfl rfl rfl ?_
      refine ry (y_pick rfl rfl rfl) rfl rfl ?_
      refine ry (y_mov rfl rfl) rfl rfl ?_
      refine rg_splitd (d := 21) rfl (fun h9 => ?_) (fun h9 => ?_)
      · skip
        refine rg_off rfl rfl rfl rfl rfl ?_
        refine rg_off rfl rfl rfl rfl rfl ?_
        refine rg_off rfl rfl rfl rfl rfl ?_
        refine rg_off rfl rfl rfl rfl rfl ?_
        refine rg_off rfl rfl rfl rfl rfl ?_
        refine ry (y_pick rfl rfl rfl) rfl rfl ?_
        refine reg_nil ?_
        refine fn_next ?_
        refine cw_condt rfl ?_
        refine cw_seq ?_
        refine cw_reg ?_
        refine ry (y_asg rfl rfl) rfl rfl ?_
        refine ry (y_asg rfl rfl) rfl rfl ?_
        refine reg_nil ?_
        refine fn_next ?_
        refine cw_ret ?_
        refine fn_then_ret ?_
        refine fn_retn (vs := [_, _]) rfl ⟨rfl, rfl, trivial⟩ rfl ?_
        rw [gatV_no hw, hc]
        exact ⟨rfl, H6.base⟩
      · skip
        refine rgy (y_fa rfl rfl kfref9_14 rfl) rfl rfl rfl rfl ?_
        refine rgy (y_ld rfl rfl kfref9_12 (H6.cell (i := 0) rfl rfl)) rfl rfl rfl rfl ?_
        refine rgy (y_fa rfl rfl kfref9_15 rfl) rfl rfl rfl rfl ?_
        refine rgy (y_ld rfl rfl kfref9_12 (H6.cell (i := 1) rfl rfl)) rfl rfl rfl rfl ?_
        refine rgy (y_geq rfl rfl rfl) rfl rfl rfl rfl ?_
        refine ry (y_pick rfl rfl rfl) rfl rfl ?_
        refine reg_nil ?_
        refine fn_next ?_
        refine cw_condd rfl (fun h10 => ?_) (fun h10 => ?_)
        · skip
          refine cw_seq ?_
          refine cw_reg ?_
          refine ry (y_asg rfl rfl) rfl rfl ?_
          refine ry (y_asg rfl rfl) rfl rfl ?_
          refine reg_nil ?_
          refine fn_next ?_
          refine cw_ret ?_
          refine fn_then_ret ?_
          refine fn_retn (vs := [_, _]) rfl ⟨rfl, rfl, trivial⟩ rfl ?_
          rw [gatV_no hw, hc]
          exact ⟨rfl, H6.base⟩
        · exact absurd (within_inG p (by omega)) hw

set_option maxRecDepth 100000 in
theorem mAt_ok (a h : Nat) (A : Option Addr) (cap : Nat) (x y : Int) (V : List Int) (w : World) (p : SzG a h) (hr : Rd w A (vi .i64 V)) (hl : V.length = a * h) (hw : withinC x y x y a h = 0) :
    Ret Try.prog 22 [.agg #[.int .i64 (a : Int), .int .i64 (h : Int), .slice A (a * h) cap], .agg #[.int .i64 x, .int .i64 y]] w (fun z w' => z = .tuple #[.int .i64 (gatV V a h x y), .int .i64 (withinC x y x y a h)] ∧ Below w.heap.size w w') := by
  obtain ⟨x, y, _, _, rfl, rfl, _, _, _, _, _, _⟩ := within_natG p hw
  have hx : x < a := by omega
  have hy : y < h := by omega
  obtain ⟨e1, e2, e3⟩ := row_bdG p hx hy
  have hgi := vi_get (k := .i64) (zs := V) (i := y * a + x) (by omega)
  refine ret_enter Try.func22 rfl rfl rfl ?_
  have H0 := HS.start w
  refine cw_seq ?_
  refine cw_reg ?_
  refine reg_op (op_box (cs := [.int _ _, .int _ _, .slice _ _ _]) H0 rfl rfl rfl) rfl rfl ?_
  rintro _ w2 ⟨b1, rfl, H3⟩
  refine reg_op (op_box (cs := [.int _ _, .int _ _]) H3 rfl rfl rfl) rfl rfl ?_
  rintro _ w5 ⟨b4, rfl, H6⟩
  refine ry (y_asg rfl rfl) rfl rfl ?_
  refine ry (y_asg rfl rfl) rfl rfl ?_
  refine reg_nil ?_
  refine fn_next ?_
  refine cw_seq ?_
  refine cw_seq ?_
  refine cw_reg ?_
  refine ry (y_fa rfl rfl kfref9_11 rfl) rfl rfl ?_
  refine ry (y_ld rfl rfl kfref9_12 (H6.cell (i := 0) rfl rfl)) rfl rfl ?_
  refine ry (y_lss rfl rfl rfl) rfl rfl ?_
  refine ry (y_mov rfl rfl) rfl rfl ?_
  refine rg_splitd (d := 9) rfl (fun h7 => ?_) (fun h7 => ?_)
  · exfalso; omega
  · skip
    refine rgy (y_fa rfl rfl kfref9_11 rfl) rfl rfl rfl rfl ?_
    refine rgy (y_ld rfl rfl kfref9_12 (H6.cell (i := 0) rfl rfl)) rfl rfl rfl rfl ?_
    refine rgy (y_fa rfl rfl kfref9_13 rfl) rfl rfl rfl rfl ?_
    refine rgy (y_ld rfl rfl kfref9_12 (H6.cell (i := 1) rfl rfl)) rfl rfl rfl rfl ?_
    refine rgy (y_geq rfl rfl rfl) rfl rfl rfl rfl ?_
    refine ry (y_pick rfl rfl rfl) rfl rfl ?_
    refine ry (y_mov rfl rfl) rfl rfl ?_
    refine rg_splitd (d := 16) rfl (fun h8 => ?_) (fun h8 => ?_)
    · exfalso; omega
    · skip
      refine rgy (y_fa rfl rfl kfref9_14 rfl) rfl rfl rfl rfl ?_
      refine rgy (y_ld rfl rfl kfref9_12 (H6.cell (i := 0) rfl rfl)) rfl rfl rfl rfl ?_
      refine rgy (y_lss rfl rfl rfl) rfl rfl rfl rfl ?_
      refine ry (y_pick rfl rfl rfl) rfl rfl ?_
      refine ry (y_mov rfl rfl) rfl rfl ?_
      refine rg_splitd (d := 21) rfl (fun h9 => ?_) (fun h9 => ?_)
      · exfalso; omega
      · skip
        refine rgy (y_fa rfl rfl kfref9_14 rfl) rfl rfl rfl rfl ?_
        refine rgy (y_ld rfl rfl kfref9_12 (H6.cell (i := 0) rfl rfl)) rfl rfl rfl rfl ?_
        refine rgy (y_fa rfl rfl kfref9_15 rfl) rfl rfl rfl rfl ?_
        refine rgy (y_ld rfl rfl kfref9_12 (H6.cell (i := 1) rfl rfl)) rfl rfl rfl rfl ?_
        refine rgy (y_geq rfl rfl rfl) rfl rfl rfl rfl ?_
        refine ry (y_pick rfl rfl rfl) rfl rfl ?_
        refine reg_nil ?_
        refine fn_next ?_
        refine cw_condd rfl (fun h10 => ?_) (fun h10 => ?_)
        · exfalso; omega
        · skip
          refine cw_skip ?_
          refine fn_next ?_
          refine cw_seq ?_
          refine cw_reg ?_
          refine ry (y_fa rfl rfl kfref9_5 rfl) rfl rfl ?_
          refine ry (y_ld rfl rfl kfref9_6 (H6.cell (i := 1) rfl rfl)) rfl rfl ?_
          refine ry (y_fa rfl rfl kfref9_14 rfl) rfl rfl ?_
          refine ry (y_ld rfl rfl kfref9_12 (H6.cell (i := 0) rfl rfl)) rfl rfl ?_
          refine ry (y_fa rfl rfl kfref9_13 rfl) rfl rfl ?_
          refine ry (y_ld rfl rfl kfref9_12 (H6.cell (i := 1) rfl rfl)) rfl rfl ?_
          refine ry (y_mul rfl rfl rfl (show _ = ((y * a : Nat) : Int) from by rw [e1]; exact wi (by omega))) rfl rfl ?_
          refine ry (y_fa rfl rfl kfref9_11 rfl) rfl rfl ?_
          refine ry (y_ld rfl rfl kfref9_12 (H6.cell (i := 0) rfl rfl)) rfl rfl ?_
          refine ry (y_add rfl rfl rfl (show _ = ((y * a + x : Nat) : Int) from by rw [← Int.natCast_add]; exact wi (by omega))) rfl rfl ?_
          refine ry (y_iar (hr.below H6.base) rfl rfl rfl kfref9_16 (rfl) (by omega) (Nat.mul_one _) (hgi)) rfl rfl ?_
          refine ry (y_ldr (hr.below H6.base) rfl rfl kfref9_12 (hgi)) rfl rfl ?_
          refine ry (y_asg rfl rfl) rfl rfl ?_
          refine ry (y_asg rfl rfl) rfl rfl ?_
          refine reg_nil ?_
          refine fn_next ?_
          refine cw_ret ?_
          refine fn_retn (vs := [_, _]) rfl ⟨rfl, rfl, trivial⟩ rfl ?_
          rw [gatV_ok hw, hw]
          exact ⟨rfl, H6.base⟩

theorem mAt (a h : Nat) (A : Option Addr) (cap : Nat) (x y : Int) (V : List Int) (w : World) (p : SzG a h) (hr : Rd w A (vi .i64 V)) (hl : V.length = a * h) : Ret Try.prog 22 [.agg #[.int .i64 (a : Int), .int .i64 (h : Int), .slice A (a * h) cap], .agg #[.int .i64 x, .int .i64 y]] w (fun z w' => z = .tuple #[.int .i64 (gatV V a h x y), .int .i64 (withinC x y x y a h)] ∧ Below w.heap.size w w') := by
  by_cases hw : withinC x y x y a h = 0
  · exact mAt_ok a h A cap x y V w p hr hl hw
  · exact mAt_no a h A cap x y V w p hw

set_option maxRecDepth 100000 in
theorem rAll (a h : Nat) (A : Option Addr) (cap : Nat) (w : World) (p : SzG a h) :
    Ret Try.prog 52 [.agg #[.int .i64 (a : Int), .int .i64 (h : Int), .slice A (a * h) cap]] w (fun v w' => v = .agg #[.int .i64 0, .int .i64 0, .int .i64 ((a : Int) - 1), .int .i64 ((h : Int) - 1)] ∧ Below w.heap.size w w') := by
  obtain ⟨s1, s2, s3, s4⟩ := p
  refine ret_enter Try.func52 rfl rfl rfl ?_
  have H0 := HS.start w
  refine cw_seq ?_
  refine cw_reg ?_
  refine reg_op (op_box (cs := [.int _ _, .int _ _, .slice _ _ _]) H0 rfl rfl rfl) rfl rfl ?_
  rintro _ w2 ⟨b1, rfl, H3⟩
  refine reg_op (op_alloc H3 rfl kfref9_17) rfl rfl ?_
  rintro _ w5 ⟨b4, rfl, H6⟩
  refine reg_nil ?_
  refine fn_next ?_
  refine cw_seq ?_
  refine cw_reg ?_
  refine ry (y_fa rfl rfl kfref9_13 rfl) rfl rfl ?_
  refine ry (y_ld rfl rfl kfref9_12 (H6.cell (i := 1) rfl rfl)) rfl rfl ?_
  refine ry (y_sub rfl rfl rfl (wi (by omega))) rfl rfl ?_
  refine ry (y_fa rfl rfl kfref9_15 rfl) rfl rfl ?_
  refine ry (y_ld rfl rfl kfref9_12 (H6.cell (i := 1) rfl rfl)) rfl rfl ?_
  refine ry (y_sub rfl rfl rfl (wi (by omega))) rfl rfl ?_
  refine ry (y_build (places := [(0, 1), (1, 1), (2, 1), (3, 1)]) (parts := [(2, _), (3, _)]) (vs := [(2, _), (3, _)]) (cs := [.int _ _, .int _ _, .int _ _, .int _ _]) rfl Try.underlying24 (by kernel_rfl) kfref9_17 rfl ⟨rfl, rfl, trivial⟩ rfl) rfl rfl ?_
  refine reg_op (op_st (i := 0) (vs := [.int _ _, .int _ _, .int _ _, .int _ _]) H6 rfl rfl rfl rfl rfl kfref9_18 rfl rfl rfl) rfl rfl ?_
  rintro _ w7 H8
  refine reg_nil ?_
  refine fn_next ?_
  refine cw_ret ?_
  refine fn_ret1 rfl (⟨_, rfl, load_agg (cs := [_, _, _, _]) kfref9_19 rfl fun j v hv => by rw [Nat.zero_add]; exact H8.cell (i := 0) rfl hv⟩) ?_
  exact ⟨rfl, H8.base⟩

set_option maxRecDepth 100000 in
theorem rValues_no (a h : Nat) (A : Option Addr) (cap : Nat) (V : List Int) (x0 y0 x1 y1 : Int) (w : World) (p : SzG a h) (hw : ¬ withinC x0 y0 x1 y1 a h = 0) :
    Ret Try.prog 47 [.agg #[.int .i64 (a : Int), .int .i64 (h : Int), .slice A (a * h) cap], .agg #[.int .i64 x0, .int .i64 y0, .int .i64 x1, .int .i64 y1]] w (fun z w' => ∃ A cap, z = .tuple #[.slice A (gvalV V a h x0 y0 x1 y1).length cap, .int .i64 (withinC x0 y0 x1 y1 a h)] ∧ HS w w' [.row A (gvalV V a h x0 y0 x1 y1).length cap (vi .i64 (gvalV V a h x0 y0 x1 y1)) 2 1]) := by
  obtain ⟨s1, s2, s3, s4⟩ := p
  refine ret_enter Try.func47 rfl rfl rfl ?_
  have H0 := HS.start w
  refine cw_seq ?_
  refine cw_reg ?_
  refine reg_op (op_box (cs := [.int _ _, .int _ _, .slice _ _ _]) H0 rfl rfl rfl) rfl rfl ?_
  rintro _ w2 ⟨b1, rfl, H3⟩
  refine reg_op (op_box (cs := [.int _ _, .int _ _, .int _ _, .int _ _]) H3 rfl rfl rfl) rfl rfl ?_
  rintro _ w5 ⟨b4, rfl, H6⟩
  refine ry (y_asg rfl rfl) rfl rfl ?_
  refine ry (y_asg rfl rfl) rfl rfl ?_
  refine reg_nil ?_
  refine fn_next ?_
  refine cw_seq ?_
  refine cw_reg ?_
  refine ry (y_ldb (i := 0) (cs := [_, _, _, _]) H6 rfl rfl kfref9_19 rfl rfl) rfl rfl ?_
  refine ry (y_fa rfl rfl kfref9_13 rfl) rfl rfl ?_
  refine ry (y_ld rfl rfl kfref9_12 (H6.cell (i := 1) rfl rfl)) rfl rfl ?_
  refine ry (y_fa rfl rfl kfref9_15 rfl) rfl rfl ?_
  refine ry (y_ld rfl rfl kfref9_12 (H6.cell (i := 1) rfl rfl)) rfl rfl ?_
  refine reg_op (op_call (ret_elder (refWithin_any x0 y0 x1 y1 a h _ (by omega) (by omega) (by omega) (by omega))) rfl kfref9_20 ⟨rfl, rfl, rfl, trivial⟩) rfl rfl ?_
  rintro _ w8 ⟨rfl, e7⟩
  have H9 := H6.ext e7
  refine ry (y_asg rfl rfl) rfl rfl ?_
  refine reg_nil ?_
  refine fn_next ?_
  refine cw_seq ?_
  refine cw_seq ?_
  refine cw_reg ?_
  refine ry (y_mov rfl rfl) rfl rfl ?_
  refine ry (y_neq rfl rfl rfl) rfl rfl ?_
  refine reg_nil ?_
  refine fn_next ?_
  refine cw_condd rfl (fun h10 => ?_) (fun h10 => ?_)
  · skip
    refine cw_seq ?_
    refine cw_reg ?_
    refine ry (y_mov rfl rfl) rfl rfl ?_
    refine ry (y_asg rfl rfl) rfl rfl ?_
    refine ry (y_asg rfl rfl) rfl rfl ?_
    refine reg_nil ?_
    refine fn_next ?_
    refine cw_ret ?_
    refine fn_then_ret ?_
    refine fn_retn (vs := [_, _]) rfl ⟨rfl, rfl, trivial⟩ rfl ?_
    rw [gvalV_no hw]
    exact ⟨none, 0, rfl, (HS.start _ |>.ext H9.base).nilrow _ _⟩
  · exact absurd (Classical.not_not.1 h10) hw

set_option maxRecDepth 100000 in
theorem rValues_ok (a h : Nat) (A : Option Addr) (cap : Nat) (V : List Int) (p0 q0 p1 q1 : Nat) (w : World) (p : SzG a h) (hr : Rd w A (vi .i64 V)) (hl : V.length = a * h) (h1 : p0 ≤ p1) (h2 : p1 < a) (h3 : q0 ≤ q1) (h4 : q1 < h) (hw : withinC p0 q0 p1 q1 a h = 0) :
    Ret Try.prog 47 [.agg #[.int .i64 (a : Int), .int .i64 (h : Int), .slice A (a * h) cap], .agg #[.int .i64 (p0 : Int), .int .i64 (q0 : Int), .int .i64 (p1 : Int), .int .i64 (q1 : Int)]] w (fun z w' => ∃ A cap, z = .tuple #[.slice A (gvalV V a h p0 q0 p1 q1).length cap, .int .i64 (withinC p0 q0 p1 q1 a h)] ∧ HS w w' [.row A (gvalV V a h p0 q0 p1 q1).length cap (vi .i64 (gvalV V a h p0 q0 p1 q1)) 2 1]) := by
  obtain ⟨s1, s2, s3, s4⟩ := id p
  have hnm : (q1 + 1 - q0) * (p1 + 1 - p0) ≤ 1024 * 1024 := Nat.mul_le_mul (by omega) (by omega)
  refine ret_enter Try.func47 rfl rfl rfl ?_
  have H0 := HS.start w
  refine cw_seq ?_
  refine cw_reg ?_
  refine reg_op (op_box (cs := [.int _ _, .int _ _, .slice _ _ _]) H0 rfl rfl rfl) rfl rfl ?_
  rintro _ w2 ⟨b1, rfl, H3⟩
  refine reg_op (op_box (cs := [.int _ _, .int _ _, .int _ _, .int _ _]) H3 rfl rfl rfl) rfl rfl ?_
  rintro _ w5 ⟨b4, rfl, H6⟩
  refine ry (y_asg rfl rfl) rfl rfl ?_
  refine ry (y_asg rfl rfl) rfl rfl ?_
  refine reg_nil ?_
  refine fn_next ?_
  refine cw_seq ?_
  refine cw_reg ?_
  refine ry (y_ldb (i := 0) (cs := [_, _, _, _]) H6 rfl rfl kfref9_19 rfl rfl) rfl rfl ?_
  refine ry (y_fa rfl rfl kfref9_13 rfl) rfl rfl ?_
  refine ry (y_ld rfl rfl kfref9_12 (H6.cell (i := 1) rfl rfl)) rfl rfl ?_
  refine ry (y_fa rfl rfl kfref9_15 rfl) rfl rfl ?_
  refine ry (y_ld rfl rfl kfref9_12 (H6.cell (i := 1) rfl rfl)) rfl rfl ?_
  refine reg_op (op_call (ret_elder (refWithin_any p0 q0 p1 q1 a h _ (by omega) (by omega) (by omega) (by omega))) rfl kfref9_20 ⟨rfl, rfl, rfl, trivial⟩) rfl rfl ?_
  rintro _ w8 ⟨rfl, e7⟩
  have H9 := H6.ext e7
  refine ry (y_asg rfl rfl) rfl rfl ?_
  refine reg_nil ?_
  refine fn_next ?_
  refine cw_seq ?_
  refine cw_seq ?_
  refine cw_reg ?_
  refine ry (y_mov rfl rfl) rfl rfl ?_
  refine ry (y_neq rfl rfl rfl) rfl rfl ?_
  refine reg_nil ?_
  refine fn_next ?_
  refine cw_condd rfl (fun h10 => ?_) (fun h10 => ?_)
  · exact absurd hw h10
  · skip
    refine cw_skip ?_
    refine fn_next ?_
    refine cw_seq ?_
    refine cw_reg ?_
    refine reg_op (op_lit (parts := []) (vs := []) (cs := []) H9 rfl Try.underlying32 kfref9_7 rfl trivial rfl rfl) rfl rfl ?_
    rintro _ w12 ⟨b11, rfl, H13⟩
    have H14 := H13.asrow (m := 0) (size := 1) rfl (by decide)
    refine ry (y_asg rfl rfl) rfl rfl ?_
    refine reg_nil ?_
    refine fn_next ?_
    refine cw_seq ?_
    refine cw_seq ?_
    refine cw_reg ?_
    refine ry (y_fa rfl rfl kfref9_21 rfl) rfl rfl ?_
    refine ry (y_ld rfl rfl kfref9_12 (H14.cell (i := 1) rfl rfl)) rfl rfl ?_
    refine ry (y_asg rfl rfl) rfl rfl ?_
    refine reg_nil ?_
    refine fn_next ?_
    refine cw_block ?_
    have hE : HS w w12 [Ob.row (some ⟨b11, 0, none⟩) (0 * (p1 + 1 - p0)) 0 (vi .i64 (rvAll V a p0 q0 (p1 + 1 - p0) 0)) 2 1, Ob.blk b4 [.int .i64 (p0 : Int), .int .i64 (q0 : Int), .int .i64 (p1 : Int), .int .i64 (q1 : Int)] 24, Ob.blk b1 [.int .i64 (a : Int), .int .i64 (h : Int), .slice A (a * h) cap] 34] := by rw [Nat.zero_mul]; exact (H14.pick (m := [_, _, _]) [0, 1, 2] rfl (by decide))
    refine cw_loopJ [7, 8, 9, 22, 23, 24, 25, 26, 27, 28, 29, 30, 31, 32, 33, 34, 35, 36, 37, 38, 39, 40, 41, 42, 43, 44, 45, 46, 47, 48] (fun M wl ml => ∃ (k : Nat) (A' : Option Addr) (cap' : Nat), M = [(8, .int .i64 ((q0 + k : Nat) : Int)), (7, .slice A' (k * (p1 + 1 - p0)) cap')] ∧ HS w wl [Ob.row A' (k * (p1 + 1 - p0)) cap' (vi .i64 (rvAll V a p0 q0 (p1 + 1 - p0) k)) 2 1, Ob.blk b4 [.int .i64 (p0 : Int), .int .i64 (q0 : Int), .int .i64 (p1 : Int), .int .i64 (q1 : Int)] 24, Ob.blk b1 [.int .i64 (a : Int), .int .i64 (h : Int), .slice A (a * h) cap] 34] ∧ (k ≤ (q1 + 1 - q0)) ∧ ml = q1 + 2 - (q0 + k)) ⟨0, _, _, rfl, hE, Nat.zero_le _, rfl⟩ ⟨rfl, by rw [Nat.zero_mul]; rfl, trivial⟩ ?_
    rintro M w15 m17 ⟨k, A', cap', rfl, H16, hp0, rfl⟩
    refine cw_seq ?_
    refine cw_seq ?_
    refine cw_reg ?_
    refine ry (y_mov rfl rfl) rfl rfl ?_
    refine ry (y_fa rfl rfl kfref9_22 rfl) rfl rfl ?_
    refine ry (y_ld rfl rfl kfref9_12 (H16.cell (i := 1) rfl rfl)) rfl rfl ?_
    refine ry (y_leq rfl rfl rfl) rfl rfl ?_
    refine reg_nil ?_
    refine fn_next ?_
    refine cw_condd rfl (fun h18 => ?_) (fun h18 => ?_)
    · skip
      refine cw_skip ?_
      refine fn_next ?_
      refine cw_seq ?_
      refine cw_block ?_
      refine cw_seq ?_
      refine cw_reg ?_
      refine ry (y_fa rfl rfl kfref9_23 rfl) rfl rfl ?_
      refine ry (y_ld rfl rfl kfref9_12 (H16.cell (i := 1) rfl rfl)) rfl rfl ?_
      refine ry (y_asg rfl rfl) rfl rfl ?_
      refine reg_nil ?_
      refine fn_next ?_
      refine cw_block ?_
      have hz2 : rvAll V a p0 q0 (p1 + 1 - p0) k ++ rvRow V a p0 0 (q0 + k) = rvAll V a p0 q0 (p1 + 1 - p0) k := List.append_nil _
      rw [← hz2] at H16
      refine cw_loopJ [7, 9, 30, 31, 32, 33, 34, 35, 36, 37, 38, 39, 40, 41, 42, 43, 44, 45, 46, 47, 48] (fun M wl ml => ∃ (j : Nat) (A2 : Option Addr) (cap2 : Nat), M = [(9, .int .i64 ((p0 + j : Nat) : Int)), (7, .slice A2 (k * (p1 + 1 - p0) + j) cap2)] ∧ HS w wl [Ob.row A2 (k * (p1 + 1 - p0) + j) cap2 (vi .i64 (rvAll V a p0 q0 (p1 + 1 - p0) k ++ rvRow V a p0 j (q0 + k))) 2 1, Ob.blk b4 [.int .i64 (p0 : Int), .int .i64 (q0 : Int), .int .i64 (p1 : Int), .int .i64 (q1 : Int)] 24, Ob.blk b1 [.int .i64 (a : Int), .int .i64 (h : Int), .slice A (a * h) cap] 34] ∧ (j ≤ (p1 + 1 - p0)) ∧ ml = p1 + 2 - (p0 + j)) ⟨0, _, _, rfl, H16, Nat.zero_le _, rfl⟩ ⟨rfl, rfl, trivial⟩ ?_
      rintro M w19 m21 ⟨j, A2, cap2, rfl, H20, hp0, rfl⟩
      refine cw_seq ?_
      refine cw_seq ?_
      refine cw_reg ?_
      refine ry (y_mov rfl rfl) rfl rfl ?_
      refine ry (y_fa rfl rfl kfref9_24 rfl) rfl rfl ?_
      refine ry (y_ld rfl rfl kfref9_12 (H20.cell (i := 1) rfl rfl)) rfl rfl ?_
      refine ry (y_leq rfl rfl rfl) rfl rfl ?_
      refine reg_nil ?_
      refine fn_next ?_
      refine cw_condd rfl (fun h22 => ?_) (fun h22 => ?_)
      · skip
        have hkn : k * (p1 + 1 - p0) ≤ 1024 * 1024 := Nat.le_trans (Nat.mul_le_mul_right _ (by omega)) hnm
        obtain ⟨e1, e2, e3⟩ := row_bdG (x := p0 + j) (y := q0 + k) p (by omega) (by omega)
        have hgi := vi_get (k := .i64) (zs := V) (i := (q0 + k) * a + (p0 + j)) (by omega)
        refine cw_skip ?_
        refine fn_next ?_
        refine cw_seq ?_
        refine cw_block ?_
        refine cw_reg ?_
        refine ry (y_mov rfl rfl) rfl rfl ?_
        refine ry (y_fa rfl rfl kfref9_5 rfl) rfl rfl ?_
        refine ry (y_ld rfl rfl kfref9_6 (H20.cell (i := 2) rfl rfl)) rfl rfl ?_
        refine ry (y_mov rfl rfl) rfl rfl ?_
        refine ry (y_fa rfl rfl kfref9_13 rfl) rfl rfl ?_
        refine ry (y_ld rfl rfl kfref9_12 (H20.cell (i := 2) rfl rfl)) rfl rfl ?_
        refine ry (y_mul rfl rfl rfl (show _ = (((q0 + k) * a : Nat) : Int) from by rw [e1]; exact wi (by omega))) rfl rfl ?_
        refine ry (y_mov rfl rfl) rfl rfl ?_
        refine ry (y_add rfl rfl rfl (show _ = (((q0 + k) * a + (p0 + j) : Nat) : Int) from by rw [Int.natCast_add ((q0 + k) * a)]; exact wi (by omega))) rfl rfl ?_
        refine ry (y_iar (hr.below H20.base) rfl rfl rfl kfref9_16 (rfl) (by omega) (Nat.mul_one _) (hgi)) rfl rfl ?_
        refine ry (y_ldr (hr.below H20.base) rfl rfl kfref9_12 (hgi)) rfl rfl ?_
        refine reg_op (op_lit (parts := [(0, _)]) (vs := [(0, _)]) (cs := [.int _ _]) H20 rfl Try.underlying32 kfref9_7 rfl ⟨rfl, trivial⟩ rfl rfl) rfl rfl ?_
        rintro _ w24 ⟨b23, rfl, H25⟩
        have H26 := H25.asrow (m := 1) (size := 1) rfl (by decide)
        refine reg_op (op_app (i := 1) H26 rfl rfl rfl rfl (H26.rd (i := 0) rfl) (rfl) (rfl) Try.underlying32 kfref9_8 rfl rfl (by unfold maxLen; omega) (by omega)) rfl rfl ?_
        rintro _ w29 ⟨A27, c28, rfl, H30⟩
        refine ry (y_asg rfl rfl) rfl rfl ?_
        refine reg_nil ?_
        refine fn_block ?_
        refine fn_next ?_
        refine cw_reg ?_
        refine ry (y_mov rfl rfl) rfl rfl ?_
        refine ry (y_add rfl rfl rfl (wi (by omega))) rfl rfl ?_
        refine ry (y_asg rfl rfl) rfl rfl ?_
        refine reg_nil ?_
        rw [vi_snoc, List.append_assoc, ← rvRow_succ] at H30
        refine fn_roundJ ⟨j + 1, _, _, rfl, (H30.pick (m := [_, _, _]) [1, 2, 3] rfl (by decide)), by omega, rfl⟩ ⟨rfl, rfl, trivial⟩ (by omega) (by repeat (first | exact kp_refl | refine kp_app rfl rfl ?_ | refine kp_cons rfl ?_)) rfl
      · skip
        obtain rfl : j = (p1 + 1 - p0) := by omega
        refine cw_exit ?_
        refine fn_then_exit (fn_then_exit (fn_block_exit ?_))
        refine fn_block ?_
        refine fn_next ?_
        refine cw_reg ?_
        refine ry (y_mov rfl rfl) rfl rfl ?_
        refine ry (y_add rfl rfl rfl (wi (by omega))) rfl rfl ?_
        refine ry (y_asg rfl rfl) rfl rfl ?_
        refine reg_nil ?_
        have hrs : rvAll V a p0 q0 (p1 + 1 - p0) (k + 1) = rvAll V a p0 q0 (p1 + 1 - p0) k ++ rvRow V a p0 (p1 + 1 - p0) (q0 + k) := rfl
        rw [← hrs, ← Nat.succ_mul] at H20
        refine fn_roundJ ⟨k + 1, _, _, rfl, H20, by omega, rfl⟩ ⟨rfl, by rw [Nat.succ_mul]; rfl, trivial⟩ (by omega) (by repeat (first | exact kp_refl | refine kp_app rfl rfl ?_ | refine kp_cons rfl ?_)) rfl
    · skip
      obtain rfl : k = (q1 + 1 - q0) := by omega
      refine cw_exit ?_
      refine fn_then_exit (fn_then_exit (fn_block_exit ?_))
      refine fn_next ?_
      refine cw_seq ?_
      refine cw_reg ?_
      refine ry (y_mov rfl rfl) rfl rfl ?_
      refine ry (y_asg rfl rfl) rfl rfl ?_
      refine ry (y_asg rfl rfl) rfl rfl ?_
      refine reg_nil ?_
      refine fn_next ?_
      refine cw_ret ?_
      refine fn_retn (vs := [_, _]) rfl ⟨rfl, rfl, trivial⟩ rfl ?_
      rw [hw, gvalV_ok hw h1 h3]
      have hrl := rvAll_len (V := V) (a := a) (x0 := p0) (y0 := q0) (n := (p1 + 1 - p0)) (q1 + 1 - q0)
      rw [hrl]
      exact ⟨_, _, rfl, (H16.pick (m := [_]) [0] rfl (by decide))⟩

theorem rValues (a h : Nat) (A : Option Addr) (cap : Nat) (V : List Int) (x0 y0 x1 y1 : Int) (w : World) (p : SzG a h) (hr : Rd w A (vi .i64 V)) (hl : V.length = a * h) : Ret Try.prog 47 [.agg #[.int .i64 (a : Int), .int .i64 (h : Int), .slice A (a * h) cap], .agg #[.int .i64 x0, .int .i64 y0, .int .i64 x1, .int .i64 y1]] w (fun z w' => ∃ A cap, z = .tuple #[.slice A (gvalV V a h x0 y0 x1 y1).length cap, .int .i64 (withinC x0 y0 x1 y1 a h)] ∧ HS w w' [.row A (gvalV V a h x0 y0 x1 y1).length cap (vi .i64 (gvalV V a h x0 y0 x1 y1)) 2 1]) := by
  by_cases hw : withinC x0 y0 x1 y1 a h = 0
  · obtain ⟨p0, q0, p1, q1, rfl, rfl, rfl, rfl, h1, h2, h3, h4⟩ := within_natG p hw
    exact rValues_ok a h A cap V p0 q0 p1 q1 w p hr hl h1 h2 h3 h4 hw
  · exact rValues_no a h A cap V x0 y0 x1 y1 w p hw

set_option maxRecDepth 100000 in
theorem rTiles (a h : Nat) (A : Option Addr) (cap : Nat) (w : World) (p : SzG a h) :
    Ret Try.prog 55 [.agg #[.int .i64 (a : Int), .int .i64 (h : Int), .slice A (a * h) cap]] w (fun z w' => ∃ A cap, z = .slice A (piecesL ⟨0, 0, (a : Int) - 1, (h : Int) - 1⟩).length cap ∧ HS w w' [.row A (piecesL ⟨0, 0, (a : Int) - 1, (h : Int) - 1⟩).length cap (rcells (piecesL ⟨0, 0, (a : Int) - 1, (h : Int) - 1⟩)) 24 4]) := by
  refine ret_enter Try.func55 rfl rfl rfl ?_
  have H0 := HS.start w
  refine cw_seq ?_
  refine cw_reg ?_
  refine reg_op (op_box (cs := [.int _ _, .int _ _, .slice _ _ _]) H0 rfl rfl rfl) rfl rfl ?_
  rintro _ w2 ⟨b1, rfl, H3⟩
  refine ry (y_asg rfl rfl) rfl rfl ?_
  refine reg_nil ?_
  refine fn_next ?_
  refine cw_seq ?_
  refine cw_reg ?_
  refine ry (y_ldb (i := 0) (cs := [_, _, _]) H3 rfl rfl kfref9_3 rfl rfl) rfl rfl ?_
  refine reg_op (op_call (rAll a h _ _ _ p) rfl kfref9_25 ⟨rfl, trivial⟩) rfl rfl ?_
  rintro _ w5 ⟨rfl, e4⟩
  have H6 := H3.ext e4
  refine reg_op (op_call (refPieces_any 0 0 ((a : Int) - 1) ((h : Int) - 1) _) rfl kfref9_26 ⟨rfl, trivial⟩) rfl rfl ?_
  rintro _ w8 ⟨A10, c11, rfl, k7⟩
  have H9 := H6.call k7
  refine ry (y_asg rfl rfl) rfl rfl ?_
  refine reg_nil ?_
  refine fn_next ?_
  refine cw_ret ?_
  refine fn_ret1 rfl rfl ?_
  exact ⟨_, _, rfl, (H9.pick (m := [_]) [0] rfl (by decide))⟩

theorem cast_pred {a : Nat} (h : 1 ≤ a) : (a : Int) - 1 = ((a - 1 : Nat) : Int) := by omega
theorem tl_len {a h : Nat} (s : SzG a h) : (piecesL ⟨0, 0, (a : Int) - 1, (h : Int) - 1⟩).length = across h * across a := by
  rw [cast_pred s.1, cast_pred s.2.2.1]; exact pall_len s
/-- the i-th tile -/
theorem tl_rc {a h i : Nat} (s : SzG a h) (hi : i < across h * across a) (c : Pc) (hc : c = pcN 0 0 (a - 1) (h - 1) i) : ∀ j v, ([.int .i64 (c.u0 : Int), .int .i64 (c.v0 : Int), .int .i64 (c.u1 : Int), .int .i64 (c.v1 : Int)] : List Value)[j]? = some v → (rcells (piecesL ⟨0, 0, (a : Int) - 1, (h : Int) - 1⟩))[i * 4 + j]? = some v := by
  obtain ⟨s1, s2, s3, s4⟩ := s
  rw [cast_pred s1, cast_pred s3]
  exact pc_rc (p0 := 0) (q0 := 0) (Nat.zero_le _) (by omega) (Nat.zero_le _) (by omega) (by rw [pcs_all s1 s3]; exact hi) c hc
theorem gvalV_tile {a h i : Nat} {V : List Int} (s : SzG a h) (hi : i < across h * across a) (c : Pc) (hc : c = pcN 0 0 (a - 1) (h - 1) i) : gvalV V a h c.u0 c.v0 c.u1 c.v1 = rvAll V a (16 * (i % across a)) (16 * (i / across a)) (tw a (i % across a)) (tw h (i / across a)) ∧ 1 ≤ tw a (i % across a) * tw h (i / across a) ∧ tw a (i % across a) * tw h (i / across a) ≤ 256 := by
  obtain ⟨s1, s2, s3, s4⟩ := id s
  have hpt : i < pcs 0 0 (a - 1) (h - 1) := by rw [pcs_all s1 s3]; exact hi
  obtain ⟨c1, c2, c3, c4, c5, c6⟩ := pcN_all s1 s3 hi
  obtain ⟨k1, k2, k3, k4, k5, k6, k7, k8, k9, k10⟩ := pcN_tile (Nat.zero_le _) (Nat.zero_le _) hpt
  have hu : (pcN 0 0 (a - 1) (h - 1) i).u0 = 16 * (i % across a) := by simp only [pcN]; rw [tcol_all s1]; omega
  have hv : (pcN 0 0 (a - 1) (h - 1) i).v0 = 16 * (i / across a) := by simp only [pcN]; rw [tcol_all s1]; omega
  rw [← hc] at c1 c2 k1 k2 k3 k4 k5 k6 hu hv
  have hw : withinC c.u0 c.v0 c.u1 c.v1 a h = 0 := by
    unfold withinC; simp only [insideB_not]
    rw [if_neg (by unfold wrap64; omega), if_neg (by omega), if_neg (by omega)]
  refine ⟨?_, Nat.mul_le_mul c3 c4, Nat.mul_le_mul c5 c6⟩
  rw [gvalV_ok hw k2 k5, hu, hv, show c.u1 + 1 - 16 * (i % across a) = tw a (i % across a) by omega, show c.v1 + 1 - 16 * (i / across a) = tw h (i / across a) by omega]
theorem gflV_no {V : List Int} {a h : Nat} {i : Int} (hi : ¬ (0 ≤ i ∧ i < (across h * across a : Nat))) : gflV V a h i = (0, false) := if_neg hi
theorem gflV_ok {V : List Int} {a h i : Nat} (hi : i < across h * across a) : gflV V a h i = flS (rvAll V a (16 * (i % across a)) (16 * (i / across a)) (tw a (i % across a)) (tw h (i / across a))) (tw a (i % across a) * tw h (i / across a)) := by
  unfold gflV; rw [if_pos (by omega)]; rfl

set_option maxRecDepth 100000 in
theorem rFlat_no (a h : Nat) (A : Option Addr) (cap : Nat) (V : List Int) (i : Int) (w : World) (p : SzG a h) (hi : ¬ (0 ≤ i ∧ i < (across h * across a : Nat))) :
    Ret Try.prog 49 [.agg #[.int .i64 (a : Int), .int .i64 (h : Int), .slice A (a * h) cap], .int .i64 i] w (fun z w' => z = .tuple #[.int .i64 (gflV V a h i).1, .bool (gflV V a h i).2] ∧ Below w.heap.size w w') := by
  obtain ⟨s1, s2, s3, s4⟩ := id p
  have htl := tl_len p
  refine ret_enter Try.func49 rfl rfl rfl ?_
  have H0 := HS.start w
  refine cw_seq ?_
  refine cw_reg ?_
  refine reg_op (op_box (cs := [.int _ _, .int _ _, .slice _ _ _]) H0 rfl rfl rfl) rfl rfl ?_
  rintro _ w2 ⟨b1, rfl, H3⟩
  refine ry (y_asg rfl rfl) rfl rfl ?_
  refine ry (y_asg rfl rfl) rfl rfl ?_
  refine reg_nil ?_
  refine fn_next ?_
  refine cw_seq ?_
  refine cw_reg ?_
  refine ry (y_ldb (i := 0) (cs := [_, _, _]) H3 rfl rfl kfref9_3 rfl rfl) rfl rfl ?_
  refine reg_op (op_call (rTiles a h _ _ _ p) rfl kfref9_27 ⟨rfl, trivial⟩) rfl rfl ?_
  rintro _ w5 ⟨A7, c8, rfl, k4⟩
  have H6 := H3.call k4
  refine ry (y_asg rfl rfl) rfl rfl ?_
  refine reg_nil ?_
  refine fn_next ?_
  refine cw_seq ?_
  refine cw_seq ?_
  refine cw_reg ?_
  refine ry (y_mov rfl rfl) rfl rfl ?_
  refine ry (y_lss rfl rfl rfl) rfl rfl ?_
  refine ry (y_mov rfl rfl) rfl rfl ?_
  refine rg_splitd (d := 13) rfl (fun h9 => ?_) (fun h9 => ?_)
  · skip
    refine rg_off rfl rfl rfl rfl rfl ?_
    refine rg_off rfl rfl rfl rfl rfl ?_
    refine rg_off rfl rfl rfl rfl rfl ?_
    refine rg_off rfl rfl rfl rfl rfl ?_
    refine ry (y_pick rfl rfl rfl) rfl rfl ?_
    refine reg_nil ?_
    refine fn_next ?_
    refine cw_condt rfl ?_
    refine cw_seq ?_
    refine cw_reg ?_
    refine ry (y_asg rfl rfl) rfl rfl ?_
    refine ry (y_asg rfl rfl) rfl rfl ?_
    refine reg_nil ?_
    refine fn_next ?_
    refine cw_ret ?_
    refine fn_then_ret ?_
    refine fn_retn (vs := [_, _]) rfl ⟨rfl, rfl, trivial⟩ rfl ?_
    rw [gflV_no hi]
    exact ⟨rfl, H6.base⟩
  · skip
    refine rgy (y_mov rfl rfl) rfl rfl rfl rfl ?_
    refine rgy (y_mov rfl rfl) rfl rfl rfl rfl ?_
    refine rgy (y_len rfl Try.underlying88 rfl) rfl rfl rfl rfl ?_
    refine rgy (y_geq rfl rfl rfl) rfl rfl rfl rfl ?_
    refine ry (y_pick rfl rfl rfl) rfl rfl ?_
    refine reg_nil ?_
    refine fn_next ?_
    refine cw_condd rfl (fun h10 => ?_) (fun h10 => ?_)
    · skip
      refine cw_seq ?_
      refine cw_reg ?_
      refine ry (y_asg rfl rfl) rfl rfl ?_
      refine ry (y_asg rfl rfl) rfl rfl ?_
      refine reg_nil ?_
      refine fn_next ?_
      refine cw_ret ?_
      refine fn_then_ret ?_
      refine fn_retn (vs := [_, _]) rfl ⟨rfl, rfl, trivial⟩ rfl ?_
      rw [gflV_no hi]
      exact ⟨rfl, H6.base⟩
    · exfalso; omega

set_option maxRecDepth 100000 in
theorem rFlat_ok (a h : Nat) (A : Option Addr) (cap : Nat) (V : List Int) (i : Nat) (w : World) (p : SzG a h) (hr : Rd w A (vi .i64 V)) (hl : V.length = a * h) (hi : i < across h * across a) :
    Ret Try.prog 49 [.agg #[.int .i64 (a : Int), .int .i64 (h : Int), .slice A (a * h) cap], .int .i64 (i : Int)] w (fun z w' => z = .tuple #[.int .i64 (gflV V a h i).1, .bool (gflV V a h i).2] ∧ Below w.heap.size w w') := by
  obtain ⟨s1, s2, s3, s4⟩ := id p
  have htl := tl_len p
  have hml : across h * across a ≤ 64 * 64 := Nat.mul_le_mul (by unfold across; omega) (by unfold across; omega)
  obtain ⟨c, hc⟩ : ∃ c, c = pcN 0 0 (a - 1) (h - 1) i := ⟨_, rfl⟩
  have hrc := tl_rc p hi c hc
  obtain ⟨e1, e2, e3⟩ := gvalV_tile (V := V) p hi c hc
  have hln : (gvalV V a h c.u0 c.v0 c.u1 c.v1).length = tw a (i % across a) * tw h (i / across a) := by rw [e1, rvAll_len, Nat.mul_comm]
  have hn1 : 1 ≤ (gvalV V a h c.u0 c.v0 c.u1 c.v1).length := by rw [hln]; exact e2
  have hn2 : (gvalV V a h c.u0 c.v0 c.u1 c.v1).length ≤ 4000000 := by rw [hln]; omega
  refine ret_enter Try.func49 rfl rfl rfl ?_
  have H0 := HS.start w
  refine cw_seq ?_
  refine cw_reg ?_
  refine reg_op (op_box (cs := [.int _ _, .int _ _, .slice _ _ _]) H0 rfl rfl rfl) rfl rfl ?_
  rintro _ w2 ⟨b1, rfl, H3⟩
  refine ry (y_asg rfl rfl) rfl rfl ?_
  refine ry (y_asg rfl rfl) rfl rfl ?_
  refine reg_nil ?_
  refine fn_next ?_
  refine cw_seq ?_
  refine cw_reg ?_
  refine ry (y_ldb (i := 0) (cs := [_, _, _]) H3 rfl rfl kfref9_3 rfl rfl) rfl rfl ?_
  refine reg_op (op_call (rTiles a h _ _ _ p) rfl kfref9_27 ⟨rfl, trivial⟩) rfl rfl ?_
  rintro _ w5 ⟨A7, c8, rfl, k4⟩
  have H6 := H3.call k4
  refine ry (y_asg rfl rfl) rfl rfl ?_
  refine reg_nil ?_
  refine fn_next ?_
  refine cw_seq ?_
  refine cw_seq ?_
  refine cw_reg ?_
  refine ry (y_mov rfl rfl) rfl rfl ?_
  refine ry (y_lss rfl rfl rfl) rfl rfl ?_
  refine ry (y_mov rfl rfl) rfl rfl ?_
  refine rg_splitd (d := 13) rfl (fun h9 => ?_) (fun h9 => ?_)
  · exfalso; omega
  · skip
    refine rgy (y_mov rfl rfl) rfl rfl rfl rfl ?_
    refine rgy (y_mov rfl rfl) rfl rfl rfl rfl ?_
    refine rgy (y_len rfl Try.underlying88 rfl) rfl rfl rfl rfl ?_
    refine rgy (y_geq rfl rfl rfl) rfl rfl rfl rfl ?_
    refine ry (y_pick rfl rfl rfl) rfl rfl ?_
    refine reg_nil ?_
    refine fn_next ?_
    refine cw_condd rfl (fun h10 => ?_) (fun h10 => ?_)
    · exfalso; omega
    · skip
      refine cw_skip ?_
      refine fn_next ?_
      refine cw_seq ?_
      refine cw_drawT H6 [0, 1, 2, 3, 4] (.step 5 (.step 6 (.alt (.step 7 (.alt (.step 8 (.step 9 (.step 10 (.leaf)))) (.step 9 (.step 8 (.step 10 (.leaf)))))) (.step 8 (.step 7 (.step 9 (.step 10 (.leaf)))))))) (fun X HX => HX) (by kernel_rfl) (by kernel_rfl) (by rfl) ?_
      simp only [pick, List.getElem?_cons_succ, List.getElem?_cons_zero]
      refine hk_y (fun Y HY => y_ldb (i := 1) (cs := [_, _, _]) HY rfl rfl kfref9_3 rfl rfl) rfl rfl ?_
      refine hk_y (fun Y HY => y_mov rfl rfl) rfl rfl ?_
      refine hk_y (fun Y HY => y_mov rfl rfl) rfl rfl ?_
      refine hk_y (fun Y HY => y_iar (i := i) (HY.rd (i := 0) rfl) rfl rfl rfl kfref9_28 (rfl) (by omega) (rfl) (hrc 0 _ rfl)) rfl rfl ?_
      refine hk_y (fun Y HY => y_ldra (cs := [_, _, _, _]) (HY.rd (i := 0) rfl) rfl rfl kfref9_19 rfl (by decide) (fun j v hv => hrc j v hv)) rfl rfl ?_
      refine hkt_nil [7, 8, 19, 25, 26, 27] (fun M wl => ∃ (A' : Option Addr) (cap' : Nat), M = [(7, .slice A' (gvalV V a h c.u0 c.v0 c.u1 c.v1).length cap')] ∧ HS w wl [Ob.row A' (gvalV V a h c.u0 c.v0 c.u1 c.v1).length cap' (vi .i64 (gvalV V a h c.u0 c.v0 c.u1 c.v1)) 2 1]) (fun wX HX => ?_) ?_
      · skip
        refine tt_op rfl (op_call (rValues a h A cap V c.u0 c.v0 c.u1 c.v1 _ p (hr.below HX.base) hl) rfl kfref9_29 ⟨rfl, rfl, trivial⟩) rfl rfl ?_
        rintro _ w12 ⟨A14, c15, rfl, k11⟩
        have H13 := HX.call k11
        refine ⟨(H13.pick (m := [_, _]) [1, 2] rfl (by decide)), fun w16 e18 => ?_⟩
        have H17 := H13.ext e18
        refine tt_op rfl (Yd.op (y_mov rfl rfl)) rfl rfl ?_
        rintro _ _ ⟨rfl, rfl⟩
        refine ⟨(H17.pick (m := [_, _]) [1, 2] rfl (by decide)), fun w19 e21 => ?_⟩
        have H20 := H17.ext e21
        refine tt_alt ?_ ?_
        · skip
          refine tt_op rfl (Yd.op (y_ext rfl rfl rfl)) rfl rfl ?_
          rintro _ _ ⟨rfl, rfl⟩
          refine ⟨(H20.pick (m := [_, _]) [1, 2] rfl (by decide)), fun w22 e24 => ?_⟩
          have H23 := H20.ext e24
          refine tt_alt ?_ ?_
          · skip
            refine tt_op rfl (Yd.op (y_ext rfl rfl rfl)) rfl rfl ?_
            rintro _ _ ⟨rfl, rfl⟩
            refine ⟨(H23.pick (m := [_, _]) [1, 2] rfl (by decide)), fun w25 e27 => ?_⟩
            have H26 := H23.ext e27
            refine tt_op rfl (Yd.op (y_asg rfl rfl)) rfl rfl ?_
            rintro _ _ ⟨rfl, rfl⟩
            refine ⟨(H26.pick (m := [_, _]) [1, 2] rfl (by decide)), fun w28 e30 => ?_⟩
            have H29 := H26.ext e30
            refine tt_op rfl (Yd.op (y_asg rfl rfl)) rfl rfl ?_
            rintro _ _ ⟨rfl, rfl⟩
            refine ⟨(H29.pick (m := [_, _]) [1, 2] rfl (by decide)), fun w31 e33 => ?_⟩
            have H32 := H29.ext e33
            exact tt_leaf ⟨A14, c15, rfl, (H32.pick (m := [_]) [0] rfl (by decide))⟩ ⟨rfl, trivial⟩ (by repeat (first | exact kp_refl | refine kp_app rfl rfl ?_ | refine kp_cons rfl ?_))
          refine tt_op rfl (Yd.op (y_asg rfl rfl)) rfl rfl ?_
          rintro _ _ ⟨rfl, rfl⟩
          refine ⟨(H23.pick (m := [_, _]) [1, 2] rfl (by decide)), fun w34 e36 => ?_⟩
          have H35 := H23.ext e36
          refine tt_op rfl (Yd.op (y_ext rfl rfl rfl)) rfl rfl ?_
          rintro _ _ ⟨rfl, rfl⟩
          refine ⟨(H35.pick (m := [_, _]) [1, 2] rfl (by decide)), fun w37 e39 => ?_⟩
          have H38 := H35.ext e39
          refine tt_op rfl (Yd.op (y_asg rfl rfl)) rfl rfl ?_
          rintro _ _ ⟨rfl, rfl⟩
          refine ⟨(H38.pick (m := [_, _]) [1, 2] rfl (by decide)), fun w40 e42 => ?_⟩
          have H41 := H38.ext e42
          exact tt_leaf ⟨A14, c15, rfl, (H41.pick (m := [_]) [0] rfl (by decide))⟩ ⟨rfl, trivial⟩ (by repeat (first | exact kp_refl | refine kp_app rfl rfl ?_ | refine kp_cons rfl ?_))
        refine tt_op rfl (Yd.op (y_ext rfl rfl rfl)) rfl rfl ?_
        rintro _ _ ⟨rfl, rfl⟩
        refine ⟨(H20.pick (m := [_, _]) [1, 2] rfl (by decide)), fun w43 e45 => ?_⟩
        have H44 := H20.ext e45
        refine tt_op rfl (Yd.op (y_ext rfl rfl rfl)) rfl rfl ?_
        rintro _ _ ⟨rfl, rfl⟩
        refine ⟨(H44.pick (m := [_, _]) [1, 2] rfl (by decide)), fun w46 e48 => ?_⟩
        have H47 := H44.ext e48
        refine tt_op rfl (Yd.op (y_asg rfl rfl)) rfl rfl ?_
        rintro _ _ ⟨rfl, rfl⟩
        refine ⟨(H47.pick (m := [_, _]) [1, 2] rfl (by decide)), fun w49 e51 => ?_⟩
        have H50 := H47.ext e51
        refine tt_op rfl (Yd.op (y_asg rfl rfl)) rfl rfl ?_
        rintro _ _ ⟨rfl, rfl⟩
        refine ⟨(H50.pick (m := [_, _]) [1, 2] rfl (by decide)), fun w52 e54 => ?_⟩
        have H53 := H50.ext e54
        exact tt_leaf ⟨A14, c15, rfl, (H53.pick (m := [_]) [0] rfl (by decide))⟩ ⟨rfl, trivial⟩ (by repeat (first | exact kp_refl | refine kp_app rfl rfl ?_ | refine kp_cons rfl ?_))
      · skip
        rintro M w56 ⟨A', cap', rfl, H55⟩
        refine fn_next ?_
        refine cw_seq ?_
        refine cw_reg ?_
        refine ry (y_mov rfl rfl) rfl rfl ?_
        refine reg_op (op_call (refFlat_any _ _ _ (gvalV V a h c.u0 c.v0 c.u1 c.v1) _ (H55.rd (i := 0) rfl) rfl hn1 hn2) rfl kfref9_30 ⟨rfl, trivial⟩) rfl rfl ?_
        rintro _ w58 ⟨rfl, e57⟩
        have H59 := H55.ext e57
        refine ry (y_ext rfl rfl rfl) rfl rfl ?_
        refine ry (y_ext rfl rfl rfl) rfl rfl ?_
        refine ry (y_asg rfl rfl) rfl rfl ?_
        refine ry (y_asg rfl rfl) rfl rfl ?_
        refine reg_nil ?_
        refine fn_next ?_
        refine cw_ret ?_
        refine fn_retn (vs := [_, _]) rfl ⟨rfl, rfl, trivial⟩ rfl ?_
        rw [gflV_ok hi, ← e1, ← hln]
        exact ⟨rfl, H59.base⟩

theorem rFlat (a h : Nat) (A : Option Addr) (cap : Nat) (V : List Int) (i : Int) (w : World) (p : SzG a h) (hr : Rd w A (vi .i64 V)) (hl : V.length = a * h) : Ret Try.prog 49 [.agg #[.int .i64 (a : Int), .int .i64 (h : Int), .slice A (a * h) cap], .int .i64 i] w (fun z w' => z = .tuple #[.int .i64 (gflV V a h i).1, .bool (gflV V a h i).2] ∧ Below w.heap.size w w') := by
  by_cases hi : 0 ≤ i ∧ i < (across h * across a : Nat)
  · obtain ⟨j, rfl⟩ : ∃ j : Nat, i = j := ⟨i.toNat, by omega⟩
    exact rFlat_ok a h A cap V j w p hr hl (by omega)
  · exact rFlat_no a h A cap V i w p hi

end Go.Proofs.Ytkphmcaoioaglaa
