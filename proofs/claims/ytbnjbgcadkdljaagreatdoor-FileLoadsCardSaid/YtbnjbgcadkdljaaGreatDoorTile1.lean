/- Layer 6: tiles. -/
import Derived.Test.YtbnjbgcadkdljaaGreatDoorPlain6
set_option linter.unusedVariables false
set_option linter.unusedSimpArgs false
namespace Go.Proofs.YtbnjbgcadkdljaaGreatDoor
open Go Go.RowKit
theorem kftile1_1 : callB Tryz.prog 73 = true := by kernel_rfl
theorem kftile1_2 : callB Tryz.prog 59 = true := by kernel_rfl
theorem kftile1_3 : callB Tryz.prog 30 = true := by kernel_rfl
theorem kftile1_4 : callB Tryz.prog 72 = true := by kernel_rfl
theorem kftile1_5 : (Tryz.prog.info? 5).map (fun i => (i.size, i.zero.map Value.cells)) = some (1, some (List.toArray [(.int .u8 0)])) := by kernel_rfl
theorem kftile1_6 : callB Tryz.prog 74 = true := by kernel_rfl

set_option maxRecDepth 100000 in
theorem tileRight (p q : Int) (w : World) :
    Ret Tryz.prog 59 [.int .i64 p, .int .i64 q] w (fun v w' => v = .bool (decide (tR p q)) ∧ Below w.heap.size w w') := by
 refine ret_enter Tryz.func59 rfl rfl rfl ?_
 have H0 := HS.start w
 refine cw_seq ?_
 refine cw_reg ?_
 refine ry (y_asg rfl rfl) rfl rfl ?_
 refine reg_nil ?_
 refine fn_next ?_
 refine cw_seq ?_
 refine cw_reg ?_
 refine ry (y_mov rfl rfl) rfl rfl ?_
 refine ry (y_geq rfl rfl rfl) rfl rfl ?_
 refine ry (y_mov rfl rfl) rfl rfl ?_
 refine rg_splitd (d := 7) rfl (fun h1 => ?_) (fun h1 => ?_)
 ·skip
  refine rgy (y_mov rfl rfl) rfl rfl rfl rfl ?_
  refine rgy (y_leq rfl rfl rfl) rfl rfl rfl rfl ?_
  refine ry (y_pick rfl rfl rfl) rfl rfl ?_
  refine ry (y_mov rfl rfl) rfl rfl ?_
  refine rg_splitd (d := 11) rfl (fun h2 => ?_) (fun h2 => ?_)
  ·skip
   refine rgy (y_mov rfl rfl) rfl rfl rfl rfl ?_
   refine rgy (y_geq rfl rfl rfl) rfl rfl rfl rfl ?_
   refine ry (y_pick rfl rfl rfl) rfl rfl ?_
   refine ry (y_mov rfl rfl) rfl rfl ?_
   refine rg_splitd (d := 15) rfl (fun h3 => ?_) (fun h3 => ?_)
   ·skip
    refine rgy (y_mov rfl rfl) rfl rfl rfl rfl ?_
    refine rgy (y_leq rfl rfl rfl) rfl rfl rfl rfl ?_
    refine ry (y_pick rfl rfl rfl) rfl rfl ?_
    refine ry (y_asg rfl rfl) rfl rfl ?_
    refine reg_nil ?_
    refine fn_next ?_
    refine cw_ret ?_
    refine fn_ret1 rfl rfl ?_
    first | exact ⟨congrArg Value.bool (decide_eq_decide.2 (by unfold tR; omega)), H0.base⟩ | exact ⟨congrArg Value.bool (decide_eq_false (by unfold tR; omega)).symm, H0.base⟩ | exact ⟨congrArg Value.bool (decide_eq_true (by unfold tR; omega)).symm, H0.base⟩
   ·skip
    refine rg_off rfl rfl rfl rfl rfl ?_
    refine rg_off rfl rfl rfl rfl rfl ?_
    refine ry (y_pick rfl rfl rfl) rfl rfl ?_
    refine ry (y_asg rfl rfl) rfl rfl ?_
    refine reg_nil ?_
    refine fn_next ?_
    refine cw_ret ?_
    refine fn_ret1 rfl rfl ?_
    first | exact ⟨congrArg Value.bool (decide_eq_decide.2 (by unfold tR; omega)), H0.base⟩ | exact ⟨congrArg Value.bool (decide_eq_false (by unfold tR; omega)).symm, H0.base⟩ | exact ⟨congrArg Value.bool (decide_eq_true (by unfold tR; omega)).symm, H0.base⟩
  ·skip
   refine rg_off rfl rfl rfl rfl rfl ?_
   refine rg_off rfl rfl rfl rfl rfl ?_
   refine ry (y_pick rfl rfl rfl) rfl rfl ?_
   refine ry (y_mov rfl rfl) rfl rfl ?_
   refine rg_off rfl rfl rfl rfl rfl ?_
   refine rg_off rfl rfl rfl rfl rfl ?_
   refine ry (y_pick rfl rfl rfl) rfl rfl ?_
   refine ry (y_asg rfl rfl) rfl rfl ?_
   refine reg_nil ?_
   refine fn_next ?_
   refine cw_ret ?_
   refine fn_ret1 rfl rfl ?_
   first | exact ⟨congrArg Value.bool (decide_eq_decide.2 (by unfold tR; omega)), H0.base⟩ | exact ⟨congrArg Value.bool (decide_eq_false (by unfold tR; omega)).symm, H0.base⟩ | exact ⟨congrArg Value.bool (decide_eq_true (by unfold tR; omega)).symm, H0.base⟩
 ·skip
  refine rg_off rfl rfl rfl rfl rfl ?_
  refine rg_off rfl rfl rfl rfl rfl ?_
  refine ry (y_pick rfl rfl rfl) rfl rfl ?_
  refine ry (y_mov rfl rfl) rfl rfl ?_
  refine rg_off rfl rfl rfl rfl rfl ?_
  refine rg_off rfl rfl rfl rfl rfl ?_
  refine ry (y_pick rfl rfl rfl) rfl rfl ?_
  refine ry (y_mov rfl rfl) rfl rfl ?_
  refine rg_off rfl rfl rfl rfl rfl ?_
  refine rg_off rfl rfl rfl rfl rfl ?_
  refine ry (y_pick rfl rfl rfl) rfl rfl ?_
  refine ry (y_asg rfl rfl) rfl rfl ?_
  refine reg_nil ?_
  refine fn_next ?_
  refine cw_ret ?_
  refine fn_ret1 rfl rfl ?_
  first | exact ⟨congrArg Value.bool (decide_eq_decide.2 (by unfold tR; omega)), H0.base⟩ | exact ⟨congrArg Value.bool (decide_eq_false (by unfold tR; omega)).symm, H0.base⟩ | exact ⟨congrArg Value.bool (decide_eq_true (by unfold tR; omega)).symm, H0.base⟩

set_option maxRecDepth 100000 in
theorem refTRight (p q : Int) (w : World) :
    Ret Tryz.prog 45 [.int .i64 p, .int .i64 q] w (fun v w' => v = .bool (decide (tR p q)) ∧ Below w.heap.size w w') := by
 refine ret_enter Tryz.func45 rfl rfl rfl ?_
 have H0 := HS.start w
 refine cw_seq ?_
 refine cw_reg ?_
 refine ry (y_asg rfl rfl) rfl rfl ?_
 refine reg_nil ?_
 refine fn_next ?_
 refine cw_seq ?_
 refine cw_reg ?_
 refine ry (y_mov rfl rfl) rfl rfl ?_
 refine ry (y_gtr rfl rfl rfl) rfl rfl ?_
 refine ry (y_mov rfl rfl) rfl rfl ?_
 refine rg_splitd (d := 7) rfl (fun h1 => ?_) (fun h1 => ?_)
 ·skip
  refine rgy (y_mov rfl rfl) rfl rfl rfl rfl ?_
  refine rgy (y_lss rfl rfl rfl) rfl rfl rfl rfl ?_
  refine ry (y_pick rfl rfl rfl) rfl rfl ?_
  refine ry (y_mov rfl rfl) rfl rfl ?_
  refine rg_splitd (d := 11) rfl (fun h2 => ?_) (fun h2 => ?_)
  ·skip
   refine rgy (y_mov rfl rfl) rfl rfl rfl rfl ?_
   refine rgy (y_gtr rfl rfl rfl) rfl rfl rfl rfl ?_
   refine ry (y_pick rfl rfl rfl) rfl rfl ?_
   refine ry (y_mov rfl rfl) rfl rfl ?_
   refine rg_splitd (d := 15) rfl (fun h3 => ?_) (fun h3 => ?_)
   ·skip
    refine rgy (y_mov rfl rfl) rfl rfl rfl rfl ?_
    refine rgy (y_lss rfl rfl rfl) rfl rfl rfl rfl ?_
    refine ry (y_pick rfl rfl rfl) rfl rfl ?_
    refine ry (y_asg rfl rfl) rfl rfl ?_
    refine reg_nil ?_
    refine fn_next ?_
    refine cw_ret ?_
    refine fn_ret1 rfl rfl ?_
    first | exact ⟨congrArg Value.bool (decide_eq_decide.2 (by unfold tR; omega)), H0.base⟩ | exact ⟨congrArg Value.bool (decide_eq_false (by unfold tR; omega)).symm, H0.base⟩ | exact ⟨congrArg Value.bool (decide_eq_true (by unfold tR; omega)).symm, H0.base⟩
   ·skip
    refine rg_off rfl rfl rfl rfl rfl ?_
    refine rg_off rfl rfl rfl rfl rfl ?_
    refine ry (y_pick rfl rfl rfl) rfl rfl ?_
    refine ry (y_asg rfl rfl) rfl rfl ?_
    refine reg_nil ?_
    refine fn_next ?_
    refine cw_ret ?_
    refine fn_ret1 rfl rfl ?_
    first | exact ⟨congrArg Value.bool (decide_eq_decide.2 (by unfold tR; omega)), H0.base⟩ | exact ⟨congrArg Value.bool (decide_eq_false (by unfold tR; omega)).symm, H0.base⟩ | exact ⟨congrArg Value.bool (decide_eq_true (by unfold tR; omega)).symm, H0.base⟩
  ·skip
   refine rg_off rfl rfl rfl rfl rfl ?_
   refine rg_off rfl rfl rfl rfl rfl ?_
   refine ry (y_pick rfl rfl rfl) rfl rfl ?_
   refine ry (y_mov rfl rfl) rfl rfl ?_
   refine rg_off rfl rfl rfl rfl rfl ?_
   refine rg_off rfl rfl rfl rfl rfl ?_
   refine ry (y_pick rfl rfl rfl) rfl rfl ?_
   refine ry (y_asg rfl rfl) rfl rfl ?_
   refine reg_nil ?_
   refine fn_next ?_
   refine cw_ret ?_
   refine fn_ret1 rfl rfl ?_
   first | exact ⟨congrArg Value.bool (decide_eq_decide.2 (by unfold tR; omega)), H0.base⟩ | exact ⟨congrArg Value.bool (decide_eq_false (by unfold tR; omega)).symm, H0.base⟩ | exact ⟨congrArg Value.bool (decide_eq_true (by unfold tR; omega)).symm, H0.base⟩
 ·skip
  refine rg_off rfl rfl rfl rfl rfl ?_
  refine rg_off rfl rfl rfl rfl rfl ?_
  refine ry (y_pick rfl rfl rfl) rfl rfl ?_
  refine ry (y_mov rfl rfl) rfl rfl ?_
  refine rg_off rfl rfl rfl rfl rfl ?_
  refine rg_off rfl rfl rfl rfl rfl ?_
  refine ry (y_pick rfl rfl rfl) rfl rfl ?_
  refine ry (y_mov rfl rfl) rfl rfl ?_
  refine rg_off rfl rfl rfl rfl rfl ?_
  refine rg_off rfl rfl rfl rfl rfl ?_
  refine ry (y_pick rfl rfl rfl) rfl rfl ?_
  refine ry (y_asg rfl rfl) rfl rfl ?_
  refine reg_nil ?_
  refine fn_next ?_
  refine cw_ret ?_
  refine fn_ret1 rfl rfl ?_
  first | exact ⟨congrArg Value.bool (decide_eq_decide.2 (by unfold tR; omega)), H0.base⟩ | exact ⟨congrArg Value.bool (decide_eq_false (by unfold tR; omega)).symm, H0.base⟩ | exact ⟨congrArg Value.bool (decide_eq_true (by unfold tR; omega)).symm, H0.base⟩

set_option maxRecDepth 100000 in
theorem tileCheck (p q : Int) (zs : List Int) (A : Option Addr) (n c : Nat) (w : World) (hz : Rd w A (vi .i64 zs)) (hl : zs.length = n) (hcap : n ≤ c) (hn : n ≤ 1000000) (hR : tR p q) :
    Ret Tryz.prog 72 [.slice A n c, .int .i64 p, .int .i64 q] w (fun v w' => v = .int .i64 (ckF zs p q) ∧ Below w.heap.size w w') := by
 refine ret_enter Tryz.func72 rfl rfl rfl ?_
 have H0 := HS.start w
 refine cw_seq ?_
 refine cw_reg ?_
 refine ry (y_asg rfl rfl) rfl rfl ?_
 refine reg_nil ?_
 refine fn_next ?_
 refine cw_seq ?_
 refine cw_seq ?_
 refine cw_reg ?_
 refine ry (y_mov rfl rfl) rfl rfl ?_
 refine ry (y_len rfl Tryz.underlying24 rfl) rfl rfl ?_
 refine ry (y_mov rfl rfl) rfl rfl ?_
 refine ry (y_mov rfl rfl) rfl rfl ?_
 refine ry (y_mul rfl rfl rfl (wi (by have := tR_mul hR; omega))) rfl rfl ?_
 refine ry (y_neq rfl rfl rfl) rfl rfl ?_
 refine reg_nil ?_
 refine fn_next ?_
 refine cw_condd rfl (fun h6 => ?_) (fun h6 => ?_)
 ·skip
  refine cw_seq ?_
  refine cw_reg ?_
  refine ry (y_asg rfl rfl) rfl rfl ?_
  refine reg_nil ?_
  refine fn_next ?_
  refine cw_ret ?_
  refine fn_then_ret ?_
  refine fn_ret1 rfl rfl ?_
  exact ⟨by rw [ckF_6 (by omega)], H0.base⟩
 ·skip
  refine cw_skip ?_
  refine fn_next ?_
  refine cw_seq ?_
  refine cw_reg ?_
  refine ry (y_mov rfl rfl) rfl rfl ?_
  refine ry (y_mov rfl rfl) rfl rfl ?_
  refine reg_op (op_call (predRests 0 p zs A n c _ (hz.below H0.base) hl hcap (by omega)) rfl kftile1_1 ⟨rfl, rfl, rfl, trivial⟩) rfl rfl ?_
  rintro _ w3 ⟨A5, c6, rs, e, rfl, hQ, k2⟩
  have H4 := H0.call k2
  refine ry (y_mov rfl rfl) rfl rfl ?_
  refine ry (y_ext rfl rfl rfl) rfl rfl ?_
  refine ry (y_ext rfl rfl rfl) rfl rfl ?_
  refine ry (y_asg rfl rfl) rfl rfl ?_
  refine ry (y_asg rfl rfl) rfl rfl ?_
  refine reg_nil ?_
  refine fn_next ?_
  refine cw_seq ?_
  refine cw_reg ?_
  refine ry (y_mov rfl rfl) rfl rfl ?_
  refine ry (y_asg rfl rfl) rfl rfl ?_
  refine reg_nil ?_
  refine fn_next ?_
  refine cw_ret ?_
  refine fn_ret1 rfl rfl ?_
  have hq := Classical.not_not.1 h6
  rcases hQ with ⟨h, _⟩ | ⟨_, h, _, rfl⟩ | ⟨_, h, _, rfl⟩
  · exact absurd (right4_w hR (by unfold kOk; decide) (by omega)) h
  · exact ⟨by rw [ckF_7 (by omega) h]; rfl, H4.base⟩
  · exact ⟨by rw [ckF_0 (by omega) h]; rfl, H4.base⟩

set_option maxRecDepth 100000 in
set_option maxHeartbeats 1000000 in
theorem tilePut (kind : Int) (p q : Int) (zs : List Int) (A : Option Addr) (n c : Nat) (w : World) (hz : Rd w A (vi .i64 zs)) (hl : zs.length = n) (hcap : n ≤ c) (hn : n ≤ 1000000) :
    Ret Tryz.prog 31 [.int .i64 kind, .slice A n c, .int .i64 p, .int .i64 q] w (fun v w' => ∃ A' c' bs e, v = .tuple #[.slice A' bs.length c', .int .i64 e] ∧ tpF kind zs p q = (bs, e) ∧ HS w w' [.row A' bs.length c' (vi .u8 bs) 5 1]) := by
 refine ret_enter Tryz.func31 rfl rfl rfl ?_
 have H0 := HS.start w
 refine cw_seq ?_
 refine cw_reg ?_
 refine ry (y_asg rfl rfl) rfl rfl ?_
 refine ry (y_asg rfl rfl) rfl rfl ?_
 refine reg_nil ?_
 refine fn_next ?_
 refine cw_seq ?_
 refine cw_block ?_
 refine cw_seq ?_
 refine cw_reg ?_
 refine ry (y_mov rfl rfl) rfl rfl ?_
 refine ry (y_mov rfl rfl) rfl rfl ?_
 refine reg_op (op_call (tileRight p q _) rfl kftile1_2 ⟨rfl, rfl, trivial⟩) rfl rfl ?_
 rintro _ w2 ⟨rfl, e1⟩
 have H3 := H0.ext e1
 refine ry (y_notd rfl rfl) rfl rfl ?_
 refine ry (y_asg rfl rfl) rfl rfl ?_
 refine reg_nil ?_
 refine fn_next ?_
 refine cw_condd rfl (fun hR0 => ?_) (fun hR0 => ?_)
 ·skip
  refine cw_seq ?_
  refine cw_reg ?_
  refine ry (y_asg rfl rfl) rfl rfl ?_
  refine ry (y_asg rfl rfl) rfl rfl ?_
  refine reg_nil ?_
  refine fn_next ?_
  refine cw_ret ?_
  refine fn_block_ret (fn_then_ret ?_)
  refine fn_retn (vs := [_, _]) rfl ⟨rfl, rfl, trivial⟩ rfl ?_
  exact ⟨none, 0, [], 3, rfl, tpF_a hR0, (HS.bare H3).nilrow _ _⟩
 ·skip
  have hR := Classical.not_not.1 hR0
  refine cw_seq ?_
  refine cw_reg ?_
  refine ry (y_mov rfl rfl) rfl rfl ?_
  refine reg_op (op_call (predRight kind 1 _ 0) rfl kftile1_3 ⟨rfl, rfl, rfl, trivial⟩) rfl rfl ?_
  rintro _ w6 ⟨rfl, e5⟩
  have H7 := H3.ext e5
  refine ry (y_notd rfl rfl) rfl rfl ?_
  refine ry (y_asg rfl rfl) rfl rfl ?_
  refine reg_nil ?_
  refine fn_next ?_
  refine cw_condd rfl (fun hK0 => ?_) (fun hK0 => ?_)
  ·skip
   refine cw_seq ?_
   refine cw_reg ?_
   refine ry (y_asg rfl rfl) rfl rfl ?_
   refine ry (y_asg rfl rfl) rfl rfl ?_
   refine reg_nil ?_
   refine fn_next ?_
   refine cw_ret ?_
   refine fn_block_ret (fn_then_ret ?_)
   refine fn_retn (vs := [_, _]) rfl ⟨rfl, rfl, trivial⟩ rfl ?_
   exact ⟨none, 0, [], 11, rfl, tpF_b hR (fun q => hK0 (right4_one.2 q)), (HS.bare H7).nilrow _ _⟩
  ·skip
   have hK := right4_one.1 (Classical.not_not.1 hK0)
   refine cw_skip ?_
   refine fn_block ?_
   refine fn_next ?_
   refine cw_seq ?_
   refine cw_seq ?_
   refine cw_reg ?_
   refine ry (y_mov rfl rfl) rfl rfl ?_
   refine ry (y_mov rfl rfl) rfl rfl ?_
   refine ry (y_mov rfl rfl) rfl rfl ?_
   refine reg_op (op_call (tileCheck p q zs A n c _ (hz.below H7.base) hl hcap hn hR) rfl kftile1_4 ⟨rfl, rfl, rfl, trivial⟩) rfl rfl ?_
   rintro _ w10 ⟨rfl, e9⟩
   have H11 := H7.ext e9
   refine ry (y_asg rfl rfl) rfl rfl ?_
   refine reg_nil ?_
   refine fn_next ?_
   refine cw_seq ?_
   refine cw_reg ?_
   refine ry (y_mov rfl rfl) rfl rfl ?_
   refine ry (y_neq rfl rfl rfl) rfl rfl ?_
   refine reg_nil ?_
   refine fn_next ?_
   refine cw_condd rfl (fun hc => ?_) (fun hc => ?_)
   ·skip
    refine cw_seq ?_
    refine cw_reg ?_
    refine ry (y_mov rfl rfl) rfl rfl ?_
    refine ry (y_asg rfl rfl) rfl rfl ?_
    refine ry (y_asg rfl rfl) rfl rfl ?_
    refine reg_nil ?_
    refine fn_next ?_
    refine cw_ret ?_
    refine fn_then_ret ?_
    refine fn_retn (vs := [_, _]) rfl ⟨rfl, rfl, trivial⟩ rfl ?_
    exact ⟨none, 0, [], _, rfl, tpF_c hR hK hc, (HS.bare H11).nilrow _ _⟩
   ·skip
    refine cw_skip ?_
    refine fn_next ?_
    refine cw_seq ?_
    refine cw_reg ?_
    obtain ⟨hlen, hm⟩ := ckF_ok (Classical.not_not.1 hc)
    refine ry (y_mov rfl rfl) rfl rfl ?_
    refine ry (y_mov rfl rfl) rfl rfl ?_
    refine ry (y_mov rfl rfl) rfl rfl ?_
    refine reg_op (op_call (predRests kind p zs A n c _ (hz.below H11.base) hl hcap (by omega)) rfl kftile1_1 ⟨rfl, rfl, rfl, trivial⟩) rfl rfl ?_
    rintro _ w14 ⟨A16, c17, rs, e, rfl, hQ, k13⟩
    have H15 := H11.call k13
    refine ry (y_mov rfl rfl) rfl rfl ?_
    refine ry (y_ext rfl rfl rfl) rfl rfl ?_
    refine ry (y_ext rfl rfl rfl) rfl rfl ?_
    refine ry (y_asg rfl rfl) rfl rfl ?_
    refine ry (y_asg rfl rfl) rfl rfl ?_
    refine reg_nil ?_
    refine fn_next ?_
    refine cw_seq ?_
    refine cw_reg ?_
    rcases hQ with ⟨h, _⟩ | ⟨_, h, _⟩ | ⟨_, _, rfl, _⟩
    · exact absurd (right4_w hR hK hlen) h
    · exact absurd hm h
    refine ry (y_mov rfl rfl) rfl rfl ?_
    refine ry (y_conv rfl Tryz.underlying3 Tryz.underlying5 rfl (wu8 (by unfold kOk at hK; omega))) rfl rfl ?_
    refine reg_op (op_lit (parts := [(0, _)]) (vs := [(0, _)]) (cs := [.int _ _]) H15 rfl Tryz.underlying22 kftile1_5 rfl ⟨rfl, trivial⟩ rfl rfl) rfl rfl ?_
    rintro _ w19 ⟨b18, rfl, H20⟩
    have H21 := H20.asrow (m := 1) (size := 1) rfl (by decide)
    refine ry (y_mov rfl rfl) rfl rfl ?_
    refine reg_op (op_call (runsPut _ _ 1 1 _ _ [kind] (restsL kind zs p zs.length) _ (H21.rd (i := 0) rfl) rfl (by omega) (H21.rd (i := 1) rfl) rfl (by rw [restsL_len]; omega) (rests_allI hR.1 hm)) rfl kftile1_6 ⟨rfl, rfl, trivial⟩) rfl rfl ?_
    rintro _ w23 ⟨A25, c26, rfl, k22⟩
    have H24 := H21.call k22
    refine ry (y_asg rfl rfl) rfl rfl ?_
    refine ry (y_asg rfl rfl) rfl rfl ?_
    refine reg_nil ?_
    refine fn_next ?_
    refine cw_ret ?_
    refine fn_retn (vs := [_, _]) rfl ⟨rfl, rfl, trivial⟩ rfl ?_
    rw [show 1 + (runsB (rnl (restsL kind zs p zs.length) 0)).length = (kind :: runsB (rnl (restsL kind zs p zs.length) 0)).length by rw [List.length_cons]; omega] at *
    exact ⟨_, _, kind :: runsB (rnl (restsL kind zs p zs.length) 0), 0, rfl, tpF_d hR hK (Classical.not_not.1 hc), (H24.pick (m := [_]) [0] rfl (by decide))⟩

end Go.Proofs.YtbnjbgcadkdljaaGreatDoor
