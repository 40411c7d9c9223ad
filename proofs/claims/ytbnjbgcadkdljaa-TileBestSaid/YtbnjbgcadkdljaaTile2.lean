/- Layer 6: tiles got; the reference. -/
import Derived.Test.YtbnjbgcadkdljaaTile1
set_option linter.unusedVariables false
set_option linter.unusedSimpArgs false
namespace Go.Proofs.Ytbnjbgcadkdljaa
open Go Go.RowKit
theorem kftile2_1 : callB Try.prog 21 = true := by kernel_rfl
theorem kftile2_2 : elB Try.prog 27 1 = true := by kernel_rfl
theorem kftile2_3 : oneB Try.prog 5 = true := by kernel_rfl
theorem kftile2_4 : callB Try.prog 36 = true := by kernel_rfl
theorem kftile2_5 : callB Try.prog 11 = true := by kernel_rfl
theorem kftile2_6 : callB Try.prog 38 = true := by kernel_rfl
theorem kftile2_7 : callB Try.prog 22 = true := by kernel_rfl
theorem kftile2_8 : callB Try.prog 37 = true := by kernel_rfl
theorem kftile2_9 : (Try.prog.info? 5).map (fun i => (i.size, i.zero.map Value.cells)) = some (1, some (List.toArray [(.int .u8 0)])) := by kernel_rfl
theorem kftile2_10 : callB Try.prog 15 = true := by kernel_rfl
theorem kftile2_11 : (Try.prog.info? 5).map (fun i => (i.zero.map (·.cells.toList), i.size, i.bytes)) = some (some [(.int .u8 0)], 1, 1) := by kernel_rfl
theorem kftile2_12 : callB Try.prog 12 = true := by kernel_rfl
theorem kftile2_13 : callB Try.prog 39 = true := by kernel_rfl

set_option maxRecDepth 100000 in
set_option maxHeartbeats 1000000 in
theorem tileGet (p q : Int) (bs : List Int) (A : Option Addr) (n c : Nat) (w : World) (hb : Rd w A (vi .u8 bs)) (hl : bs.length = n) (hcap : n ≤ c) (hB : okB bs) (hn : n ≤ 100000000) :
    Ret Try.prog 23 [.slice A n c, .int .i64 p, .int .i64 q] w (fun v w' => ∃ A' c' zs k e, v = .tuple #[.slice A' zs.length c', .int .i64 k, .int .i64 e] ∧ tgF bs p q = (zs, k, e) ∧ HS w w' [.row A' zs.length c' (vi .i64 zs) 2 1]) := by
 refine ret_enter Try.func23 rfl rfl rfl ?_
 have H0 := HS.start w
 refine cw_seq ?_
 refine cw_reg ?_
 refine ry (y_asg rfl rfl) rfl rfl ?_
 refine ry (y_asg rfl rfl) rfl rfl ?_
 refine ry (y_asg rfl rfl) rfl rfl ?_
 refine reg_nil ?_
 refine fn_next ?_
 refine cw_seq ?_
 refine cw_block ?_
 refine cw_seq ?_
 refine cw_reg ?_
 refine ry (y_mov rfl rfl) rfl rfl ?_
 refine ry (y_mov rfl rfl) rfl rfl ?_
 refine reg_op (op_call (tileRight p q _) rfl kftile2_1 ⟨rfl, rfl, trivial⟩) rfl rfl ?_
 rintro _ w2 ⟨rfl, e1⟩
 have H3 := H0.ext e1
 refine ry (y_notd rfl rfl) rfl rfl ?_
 refine ry (y_asg rfl rfl) rfl rfl ?_
 refine reg_nil ?_
 refine fn_next ?_
 refine cw_condd rfl (fun hR0 => ?_) (fun hR0 => ?_)
 ·skip
  refine cw_seq ?_
  refine cw_reg ?_
  refine ry (y_asg rfl rfl) rfl rfl ?_
  refine ry (y_asg rfl rfl) rfl rfl ?_
  refine ry (y_asg rfl rfl) rfl rfl ?_
  refine reg_nil ?_
  refine fn_next ?_
  refine cw_ret ?_
  refine fn_block_ret (fn_then_ret ?_)
  refine fn_retn (vs := [_, _, _]) rfl ⟨rfl, rfl, rfl, trivial⟩ rfl ?_
  exact ⟨none, 0, [], 0, 3, rfl, tgF_a hR0, (HS.bare H3).nilrow _ _⟩
 ·skip
  have hR := Classical.not_not.1 hR0
  have hmul := tR_mul hR
  refine cw_seq ?_
  refine cw_reg ?_
  refine ry (y_mov rfl rfl) rfl rfl ?_
  refine ry (y_len rfl Try.underlying27 rfl) rfl rfl ?_
  refine ry (y_eql rfl rfl rfl) rfl rfl ?_
  refine ry (y_asg rfl rfl) rfl rfl ?_
  refine reg_nil ?_
  refine fn_next ?_
  refine cw_condd rfl (fun h14 => ?_) (fun h14 => ?_)
  ·skip
   refine cw_seq ?_
   refine cw_reg ?_
   refine ry (y_asg rfl rfl) rfl rfl ?_
   refine ry (y_asg rfl rfl) rfl rfl ?_
   refine ry (y_asg rfl rfl) rfl rfl ?_
   refine reg_nil ?_
   refine fn_next ?_
   refine cw_ret ?_
   refine fn_block_ret (fn_then_ret ?_)
   refine fn_retn (vs := [_, _, _]) rfl ⟨rfl, rfl, rfl, trivial⟩ rfl ?_
   exact ⟨none, 0, [], 0, 14, rfl, tgF_b hR (by omega), (HS.bare H3).nilrow _ _⟩
  ·skip
   have hne : ¬ bs.length = 0 := by omega
   have g0 := vi_get (k := .u8) (zs := bs) (i := 0) (by omega)
   have hc0 := okB_nth hB (i := 0) (by omega)
   refine cw_skip ?_
   refine fn_block ?_
   refine fn_next ?_
   refine cw_seq ?_
   refine cw_reg ?_
   refine ry (y_mov rfl rfl) rfl rfl ?_
   refine ry (y_iar (i := 0) (hb.below H3.base) rfl rfl rfl kftile2_2 (rfl) (by omega) (Nat.mul_one _) (g0)) rfl rfl ?_
   refine ry (y_ldr (hb.below H3.base) rfl rfl kftile2_3 (g0)) rfl rfl ?_
   refine ry (y_conv rfl Try.underlying5 Try.underlying3 rfl (wi (by omega))) rfl rfl ?_
   refine ry (y_asg rfl rfl) rfl rfl ?_
   refine reg_nil ?_
   refine fn_next ?_
   refine cw_seq ?_
   refine cw_seq ?_
   refine cw_reg ?_
   refine ry (y_mov rfl rfl) rfl rfl ?_
   refine reg_op (op_call (predRight (nth bs 0) 1 _ 0) rfl kftile2_4 ⟨rfl, rfl, rfl, trivial⟩) rfl rfl ?_
   rintro _ w7 ⟨rfl, e6⟩
   have H8 := H3.ext e6
   refine ry (y_notd rfl rfl) rfl rfl ?_
   refine reg_nil ?_
   refine fn_next ?_
   refine cw_condd rfl (fun hK0 => ?_) (fun hK0 => ?_)
   ·skip
    refine cw_seq ?_
    refine cw_reg ?_
    refine ry (y_asg rfl rfl) rfl rfl ?_
    refine ry (y_asg rfl rfl) rfl rfl ?_
    refine ry (y_asg rfl rfl) rfl rfl ?_
    refine reg_nil ?_
    refine fn_next ?_
    refine cw_ret ?_
    refine fn_then_ret ?_
    refine fn_retn (vs := [_, _, _]) rfl ⟨rfl, rfl, rfl, trivial⟩ rfl ?_
    exact ⟨none, 0, [], 0, 13, rfl, tgF_c hR hne (by have := mt right4_one.2 hK0; unfold kOk at this; omega), (HS.bare H8).nilrow _ _⟩
   ·skip
    have hk2 : ¬ 2 < nth bs 0 := by have := right4_one.1 (Classical.not_not.1 hK0); unfold kOk at this; omega
    refine cw_skip ?_
    refine fn_next ?_
    refine cw_seq ?_
    refine cw_reg ?_
    refine ry (y_mov rfl rfl) rfl rfl ?_
    refine ry (y_mov rfl rfl) rfl rfl ?_
    refine ry (y_mov rfl rfl) rfl rfl ?_
    refine ry (y_mul rfl rfl rfl (wi (by have := tR_mul hR; omega))) rfl rfl ?_
    refine reg_op (op_call (runsGet A n c 1 (p * q) bs _ (hb.below H8.base) hl hcap hB (by omega)) rfl kftile2_5 ⟨rfl, rfl, rfl, trivial⟩) rfl rfl ?_
    rintro _ w11 ⟨A13, c14, rs, x, e, rfl, hP, k10⟩
    have H12 := H8.call k10
    have hF := rgF_of hP
    have hrl := rgP_len hB hP
    have hrm : rs.length ≤ 256 := by omega
    refine ry (y_mov rfl rfl) rfl rfl ?_
    refine ry (y_ext rfl rfl rfl) rfl rfl ?_
    refine ry (y_ext rfl rfl rfl) rfl rfl ?_
    refine ry (y_ext rfl rfl rfl) rfl rfl ?_
    refine ry (y_asg rfl rfl) rfl rfl ?_
    refine ry (y_asg rfl rfl) rfl rfl ?_
    refine ry (y_asg rfl rfl) rfl rfl ?_
    refine reg_nil ?_
    refine fn_next ?_
    refine cw_seq ?_
    refine cw_seq ?_
    refine cw_reg ?_
    refine ry (y_mov rfl rfl) rfl rfl ?_
    refine ry (y_eql rfl rfl rfl) rfl rfl ?_
    refine ry (y_mov rfl rfl) rfl rfl ?_
    refine rg_splitd (d := 41) rfl (fun h15 => ?_) (fun h15 => ?_)
    ·skip
     refine rgy (y_mov rfl rfl) rfl rfl rfl rfl ?_
     refine rgy (y_mov rfl rfl) rfl rfl rfl rfl ?_
     refine rgy (y_len rfl Try.underlying27 rfl) rfl rfl rfl rfl ?_
     refine rgy (y_neq rfl rfl rfl) rfl rfl rfl rfl ?_
     refine ry (y_pick rfl rfl rfl) rfl rfl ?_
     refine reg_nil ?_
     refine fn_next ?_
     refine cw_condd rfl (fun h16 => ?_) (fun h16 => ?_)
     ·skip
      refine cw_reg ?_
      refine ry (y_asg rfl rfl) rfl rfl ?_
      refine reg_nil ?_
      refine fn_next ?_
      refine cw_seq ?_
      refine cw_seq ?_
      refine cw_reg ?_
      refine ry (y_mov rfl rfl) rfl rfl ?_
      refine ry (y_neq rfl rfl rfl) rfl rfl ?_
      refine reg_nil ?_
      refine fn_next ?_
      refine cw_condt rfl ?_
      refine cw_seq ?_
      refine cw_reg ?_
      refine ry (y_mov rfl rfl) rfl rfl ?_
      refine ry (y_asg rfl rfl) rfl rfl ?_
      refine ry (y_asg rfl rfl) rfl rfl ?_
      refine ry (y_asg rfl rfl) rfl rfl ?_
      refine reg_nil ?_
      refine fn_next ?_
      refine cw_ret ?_
      refine fn_then_ret ?_
      refine fn_retn (vs := [_, _, _]) rfl ⟨rfl, rfl, rfl, trivial⟩ rfl ?_
      first | exact ⟨none, 0, [], 0, _, rfl, tgF_e hR hne hk2 hF (by omega) (by omega), (HS.bare H12).nilrow _ _⟩ | exact ⟨none, 0, [], 0, _, rfl, tgF_d hR hne hk2 hF (by omega), (HS.bare H12).nilrow _ _⟩
     ·skip
      refine cw_skip ?_
      refine fn_next ?_
      refine cw_seq ?_
      refine cw_seq ?_
      refine cw_reg ?_
      refine ry (y_mov rfl rfl) rfl rfl ?_
      refine ry (y_neq rfl rfl rfl) rfl rfl ?_
      refine reg_nil ?_
      refine fn_next ?_
      refine cw_condd rfl (fun he => ?_) (fun he => ?_)
      ·skip
       refine cw_seq ?_
       refine cw_reg ?_
       refine ry (y_mov rfl rfl) rfl rfl ?_
       refine ry (y_asg rfl rfl) rfl rfl ?_
       refine ry (y_asg rfl rfl) rfl rfl ?_
       refine ry (y_asg rfl rfl) rfl rfl ?_
       refine reg_nil ?_
       refine fn_next ?_
       refine cw_ret ?_
       refine fn_then_ret ?_
       refine fn_retn (vs := [_, _, _]) rfl ⟨rfl, rfl, rfl, trivial⟩ rfl ?_
       first | exact ⟨none, 0, [], 0, _, rfl, tgF_e hR hne hk2 hF (by omega) (by omega), (HS.bare H12).nilrow _ _⟩ | exact ⟨none, 0, [], 0, _, rfl, tgF_d hR hne hk2 hF (by omega), (HS.bare H12).nilrow _ _⟩
      ·skip
       refine cw_skip ?_
       refine fn_next ?_
       refine cw_seq ?_
       refine cw_reg ?_
       refine ry (y_mov rfl rfl) rfl rfl ?_
       refine ry (y_mov rfl rfl) rfl rfl ?_
       refine ry (y_mov rfl rfl) rfl rfl ?_
       refine reg_op (op_call (predCells (nth bs 0) p rs _ _ _ _ (H12.rd (i := 0) rfl) rfl (H12.len (i := 0) rfl).2.1 (by omega)) rfl kftile2_6 ⟨rfl, rfl, rfl, trivial⟩) rfl rfl ?_
       rintro _ w19 ⟨A21, c22, cs, e2, rfl, hC, k18⟩
       have H20 := H12.call k18
       have hG := pcF_of hC
       refine ry (y_mov rfl rfl) rfl rfl ?_
       refine ry (y_ext rfl rfl rfl) rfl rfl ?_
       refine ry (y_ext rfl rfl rfl) rfl rfl ?_
       refine ry (y_asg rfl rfl) rfl rfl ?_
       refine ry (y_asg rfl rfl) rfl rfl ?_
       refine reg_nil ?_
       refine fn_next ?_
       refine cw_seq ?_
       refine cw_seq ?_
       refine cw_reg ?_
       refine ry (y_mov rfl rfl) rfl rfl ?_
       refine ry (y_neq rfl rfl rfl) rfl rfl ?_
       refine reg_nil ?_
       refine fn_next ?_
       refine cw_condd rfl (fun he2 => ?_) (fun he2 => ?_)
       ·skip
        refine cw_seq ?_
        refine cw_reg ?_
        refine ry (y_mov rfl rfl) rfl rfl ?_
        refine ry (y_asg rfl rfl) rfl rfl ?_
        refine ry (y_asg rfl rfl) rfl rfl ?_
        refine ry (y_asg rfl rfl) rfl rfl ?_
        refine reg_nil ?_
        refine fn_next ?_
        refine cw_ret ?_
        refine fn_then_ret ?_
        refine fn_retn (vs := [_, _, _]) rfl ⟨rfl, rfl, rfl, trivial⟩ rfl ?_
        exact ⟨none, 0, [], 0, _, rfl, tgF_f hR hne hk2 hF (by omega) (by omega) hG he2, (HS.bare H20).nilrow _ _⟩
       ·skip
        refine cw_skip ?_
        refine fn_next ?_
        refine cw_seq ?_
        refine cw_reg ?_
        refine ry (y_mov rfl rfl) rfl rfl ?_
        refine ry (y_mov rfl rfl) rfl rfl ?_
        refine ry (y_asg rfl rfl) rfl rfl ?_
        refine ry (y_asg rfl rfl) rfl rfl ?_
        refine ry (y_asg rfl rfl) rfl rfl ?_
        refine reg_nil ?_
        refine fn_next ?_
        refine cw_ret ?_
        refine fn_retn (vs := [_, _, _]) rfl ⟨rfl, rfl, rfl, trivial⟩ rfl ?_
        exact ⟨_, _, cs, nth bs 0, 0, rfl, tgF_g hR hne hk2 hF (by omega) (by omega) hG (by omega), (H20.pick (m := [_]) [0] rfl (by decide))⟩
    ·skip
     refine rg_off rfl rfl rfl rfl rfl ?_
     refine rg_off rfl rfl rfl rfl rfl ?_
     refine rg_off rfl rfl rfl rfl rfl ?_
     refine rg_off rfl rfl rfl rfl rfl ?_
     refine ry (y_pick rfl rfl rfl) rfl rfl ?_
     refine reg_nil ?_
     refine fn_next ?_
     refine cw_condf rfl ?_
     refine cw_skip ?_
     refine fn_next ?_
     refine cw_seq ?_
     refine cw_seq ?_
     refine cw_reg ?_
     refine ry (y_mov rfl rfl) rfl rfl ?_
     refine ry (y_neq rfl rfl rfl) rfl rfl ?_
     refine reg_nil ?_
     refine fn_next ?_
     refine cw_condd rfl (fun he => ?_) (fun he => ?_)
     ·skip
      refine cw_seq ?_
      refine cw_reg ?_
      refine ry (y_mov rfl rfl) rfl rfl ?_
      refine ry (y_asg rfl rfl) rfl rfl ?_
      refine ry (y_asg rfl rfl) rfl rfl ?_
      refine ry (y_asg rfl rfl) rfl rfl ?_
      refine reg_nil ?_
      refine fn_next ?_
      refine cw_ret ?_
      refine fn_then_ret ?_
      refine fn_retn (vs := [_, _, _]) rfl ⟨rfl, rfl, rfl, trivial⟩ rfl ?_
      first | exact ⟨none, 0, [], 0, _, rfl, tgF_e hR hne hk2 hF (by omega) (by omega), (HS.bare H12).nilrow _ _⟩ | exact ⟨none, 0, [], 0, _, rfl, tgF_d hR hne hk2 hF (by omega), (HS.bare H12).nilrow _ _⟩
     ·skip
      refine cw_skip ?_
      refine fn_next ?_
      refine cw_seq ?_
      refine cw_reg ?_
      refine ry (y_mov rfl rfl) rfl rfl ?_
      refine ry (y_mov rfl rfl) rfl rfl ?_
      refine ry (y_mov rfl rfl) rfl rfl ?_
      refine reg_op (op_call (predCells (nth bs 0) p rs _ _ _ _ (H12.rd (i := 0) rfl) rfl (H12.len (i := 0) rfl).2.1 (by omega)) rfl kftile2_6 ⟨rfl, rfl, rfl, trivial⟩) rfl rfl ?_
      rintro _ w26 ⟨A28, c29, cs, e2, rfl, hC, k25⟩
      have H27 := H12.call k25
      have hG := pcF_of hC
      refine ry (y_mov rfl rfl) rfl rfl ?_
      refine ry (y_ext rfl rfl rfl) rfl rfl ?_
      refine ry (y_ext rfl rfl rfl) rfl rfl ?_
      refine ry (y_asg rfl rfl) rfl rfl ?_
      refine ry (y_asg rfl rfl) rfl rfl ?_
      refine reg_nil ?_
      refine fn_next ?_
      refine cw_seq ?_
      refine cw_seq ?_
      refine cw_reg ?_
      refine ry (y_mov rfl rfl) rfl rfl ?_
      refine ry (y_neq rfl rfl rfl) rfl rfl ?_
      refine reg_nil ?_
      refine fn_next ?_
      refine cw_condd rfl (fun he2 => ?_) (fun he2 => ?_)
      ·skip
       refine cw_seq ?_
       refine cw_reg ?_
       refine ry (y_mov rfl rfl) rfl rfl ?_
       refine ry (y_asg rfl rfl) rfl rfl ?_
       refine ry (y_asg rfl rfl) rfl rfl ?_
       refine ry (y_asg rfl rfl) rfl rfl ?_
       refine reg_nil ?_
       refine fn_next ?_
       refine cw_ret ?_
       refine fn_then_ret ?_
       refine fn_retn (vs := [_, _, _]) rfl ⟨rfl, rfl, rfl, trivial⟩ rfl ?_
       exact ⟨none, 0, [], 0, _, rfl, tgF_f hR hne hk2 hF (by omega) (by omega) hG he2, (HS.bare H27).nilrow _ _⟩
      ·skip
       refine cw_skip ?_
       refine fn_next ?_
       refine cw_seq ?_
       refine cw_reg ?_
       refine ry (y_mov rfl rfl) rfl rfl ?_
       refine ry (y_mov rfl rfl) rfl rfl ?_
       refine ry (y_asg rfl rfl) rfl rfl ?_
       refine ry (y_asg rfl rfl) rfl rfl ?_
       refine ry (y_asg rfl rfl) rfl rfl ?_
       refine reg_nil ?_
       refine fn_next ?_
       refine cw_ret ?_
       refine fn_retn (vs := [_, _, _]) rfl ⟨rfl, rfl, rfl, trivial⟩ rfl ?_
       exact ⟨_, _, cs, nth bs 0, 0, rfl, tgF_g hR hne hk2 hF (by omega) (by omega) hG (by omega), (H27.pick (m := [_]) [0] rfl (by decide))⟩

set_option maxRecDepth 100000 in
set_option maxHeartbeats 1000000 in
theorem refTPut (kind : Int) (p q : Int) (zs : List Int) (A : Option Addr) (n c : Nat) (w : World) (hz : Rd w A (vi .i64 zs)) (hl : zs.length = n) (hn : n ≤ 1000000) :
    Ret Try.prog 20 [.int .i64 kind, .slice A n c, .int .i64 p, .int .i64 q] w (fun v w' => ∃ A' c' bs e, v = .tuple #[.slice A' bs.length c', .int .i64 e] ∧ tpF kind zs p q = (bs, e) ∧ HS w w' [.row A' bs.length c' (vi .u8 bs) 5 1]) := by
 refine ret_enter Try.func20 rfl rfl rfl ?_
 have H0 := HS.start w
 refine cw_seq ?_
 refine cw_reg ?_
 refine ry (y_asg rfl rfl) rfl rfl ?_
 refine ry (y_asg rfl rfl) rfl rfl ?_
 refine reg_nil ?_
 refine fn_next ?_
 refine cw_seq ?_
 refine cw_seq ?_
 refine cw_reg ?_
 refine ry (y_mov rfl rfl) rfl rfl ?_
 refine ry (y_mov rfl rfl) rfl rfl ?_
 refine reg_op (op_call (refTRight p q _) rfl kftile2_7 ⟨rfl, rfl, trivial⟩) rfl rfl ?_
 rintro _ w2 ⟨rfl, e1⟩
 have H3 := H0.ext e1
 refine ry (y_notd rfl rfl) rfl rfl ?_
 refine reg_nil ?_
 refine fn_next ?_
 refine cw_condd rfl (fun hR0 => ?_) (fun hR0 => ?_)
 ·skip
  refine cw_seq ?_
  refine cw_reg ?_
  refine ry (y_asg rfl rfl) rfl rfl ?_
  refine ry (y_asg rfl rfl) rfl rfl ?_
  refine reg_nil ?_
  refine fn_next ?_
  refine cw_ret ?_
  refine fn_then_ret ?_
  refine fn_retn (vs := [_, _]) rfl ⟨rfl, rfl, trivial⟩ rfl ?_
  exact ⟨none, 0, [], 3, rfl, tpF_a hR0, (HS.bare H3).nilrow _ _⟩
 ·skip
  have hR := Classical.not_not.1 hR0
  refine cw_skip ?_
  refine fn_next ?_
  refine cw_seq ?_
  refine cw_seq ?_
  refine cw_reg ?_
  refine ry (y_mov rfl rfl) rfl rfl ?_
  refine ry (y_lss rfl rfl rfl) rfl rfl ?_
  refine ry (y_mov rfl rfl) rfl rfl ?_
  refine rg_splitd (d := 18) rfl (fun h5 => ?_) (fun h5 => ?_)
  ·skip
   refine rg_off rfl rfl rfl rfl rfl ?_
   refine rg_off rfl rfl rfl rfl rfl ?_
   refine ry (y_pick rfl rfl rfl) rfl rfl ?_
   refine reg_nil ?_
   refine fn_next ?_
   refine cw_condt rfl ?_
   refine cw_seq ?_
   refine cw_reg ?_
   refine ry (y_asg rfl rfl) rfl rfl ?_
   refine ry (y_asg rfl rfl) rfl rfl ?_
   refine reg_nil ?_
   refine fn_next ?_
   refine cw_ret ?_
   refine fn_then_ret ?_
   refine fn_retn (vs := [_, _]) rfl ⟨rfl, rfl, trivial⟩ rfl ?_
   exact ⟨none, 0, [], 11, rfl, tpF_b hR (by unfold kOk; omega), (HS.bare H3).nilrow _ _⟩
  ·skip
   refine rgy (y_mov rfl rfl) rfl rfl rfl rfl ?_
   refine rgy (y_gtr rfl rfl rfl) rfl rfl rfl rfl ?_
   refine ry (y_pick rfl rfl rfl) rfl rfl ?_
   refine reg_nil ?_
   refine fn_next ?_
   refine cw_condd rfl (fun hK0 => ?_) (fun hK0 => ?_)
   ·skip
    refine cw_seq ?_
    refine cw_reg ?_
    refine ry (y_asg rfl rfl) rfl rfl ?_
    refine ry (y_asg rfl rfl) rfl rfl ?_
    refine reg_nil ?_
    refine fn_next ?_
    refine cw_ret ?_
    refine fn_then_ret ?_
    refine fn_retn (vs := [_, _]) rfl ⟨rfl, rfl, trivial⟩ rfl ?_
    exact ⟨none, 0, [], 11, rfl, tpF_b hR (by unfold kOk; omega), (HS.bare H3).nilrow _ _⟩
   ·skip
    have hK : kOk kind := by unfold kOk; omega
    refine cw_skip ?_
    refine fn_next ?_
    refine cw_seq ?_
    refine cw_seq ?_
    refine cw_reg ?_
    refine ry (y_mov rfl rfl) rfl rfl ?_
    refine ry (y_len rfl Try.underlying23 rfl) rfl rfl ?_
    refine ry (y_mov rfl rfl) rfl rfl ?_
    refine ry (y_mov rfl rfl) rfl rfl ?_
    refine ry (y_mul rfl rfl rfl (wi (by have := tR_mul hR; omega))) rfl rfl ?_
    refine ry (y_neq rfl rfl rfl) rfl rfl ?_
    refine reg_nil ?_
    refine fn_next ?_
    refine cw_condd rfl (fun hc => ?_) (fun hc => ?_)
    ·skip
     refine cw_seq ?_
     refine cw_reg ?_
     refine ry (y_asg rfl rfl) rfl rfl ?_
     refine ry (y_asg rfl rfl) rfl rfl ?_
     refine reg_nil ?_
     refine fn_next ?_
     refine cw_ret ?_
     refine fn_then_ret ?_
     refine fn_retn (vs := [_, _]) rfl ⟨rfl, rfl, trivial⟩ rfl ?_
     exact ⟨none, 0, [], 6, rfl, by rw [tpF_c hR hK (by rw [ckF_6 (by omega)]; decide), ckF_6 (by omega)], (HS.bare H3).nilrow _ _⟩
    ·skip
     have hlen : (zs.length : Int) = p * q := by omega
     refine cw_skip ?_
     refine fn_next ?_
     refine cw_seq ?_
     refine cw_reg ?_
     refine ry (y_mov rfl rfl) rfl rfl ?_
     refine ry (y_mov rfl rfl) rfl rfl ?_
     refine ry (y_mov rfl rfl) rfl rfl ?_
     refine reg_op (op_call (refRests kind p zs A n c _ (hz.below H3.base) hl (by omega)) rfl kftile2_8 ⟨rfl, rfl, rfl, trivial⟩) rfl rfl ?_
     rintro _ w9 ⟨A11, c12, rs, e, rfl, hQ, k8⟩
     have H10 := H3.call k8
     refine ry (y_mov rfl rfl) rfl rfl ?_
     refine ry (y_ext rfl rfl rfl) rfl rfl ?_
     refine ry (y_ext rfl rfl rfl) rfl rfl ?_
     refine ry (y_asg rfl rfl) rfl rfl ?_
     refine ry (y_asg rfl rfl) rfl rfl ?_
     refine reg_nil ?_
     refine fn_next ?_
     refine cw_seq ?_
     refine cw_seq ?_
     refine cw_reg ?_
     refine ry (y_mov rfl rfl) rfl rfl ?_
     refine ry (y_neq rfl rfl rfl) rfl rfl ?_
     refine reg_nil ?_
     refine fn_next ?_
     refine cw_condd rfl (fun he => ?_) (fun he => ?_)
     ·skip
      have hnm : ¬ AllMay zs zs.length ∧ e = 7 := by rcases hQ with ⟨h, _⟩ | ⟨_, h, _, h2⟩ | ⟨_, _, _, h⟩; exact absurd (right4_w hR hK hlen) h; exact ⟨h, h2⟩; exact absurd h he
      refine cw_seq ?_
      refine cw_reg ?_
      refine ry (y_mov rfl rfl) rfl rfl ?_
      refine ry (y_asg rfl rfl) rfl rfl ?_
      refine ry (y_asg rfl rfl) rfl rfl ?_
      refine reg_nil ?_
      refine fn_next ?_
      refine cw_ret ?_
      refine fn_then_ret ?_
      refine fn_retn (vs := [_, _]) rfl ⟨rfl, rfl, trivial⟩ rfl ?_
      obtain ⟨hnm, rfl⟩ := hnm
      exact ⟨none, 0, [], 7, rfl, by rw [tpF_c hR hK (by rw [ckF_7 hlen hnm]; decide), ckF_7 hlen hnm], (HS.bare H10).nilrow _ _⟩
     ·skip
      obtain ⟨hm, rfl⟩ : AllMay zs zs.length ∧ rs = restsL kind zs p zs.length := by rcases hQ with ⟨_, _, h⟩ | ⟨_, _, _, h⟩ | ⟨_, h, h2, _⟩; omega; omega; exact ⟨h, h2⟩
      have hbl := runsB_len (rn (restsL kind zs p zs.length) 0)
      have hbl2 := (rn_len (restsL kind zs p zs.length) 0).2 rfl
      have hbl3 := restsL_len kind zs p zs.length
      refine cw_skip ?_
      refine fn_next ?_
      refine cw_seq ?_
      refine cw_reg ?_
      refine ry (y_mov rfl rfl) rfl rfl ?_
      refine ry (y_conv rfl Try.underlying3 Try.underlying5 rfl (wu8 (by unfold kOk at hK; omega))) rfl rfl ?_
      refine reg_op (op_lit (parts := [(0, _)]) (vs := [(0, _)]) (cs := [.int _ _]) H10 rfl Try.underlying27 kftile2_9 rfl ⟨rfl, trivial⟩ rfl rfl) rfl rfl ?_
      rintro _ w15 ⟨b14, rfl, H16⟩
      have H17 := H16.asrow (m := 1) (size := 1) rfl (by decide)
      refine ry (y_mov rfl rfl) rfl rfl ?_
      refine reg_op (op_call (refBytes5 _ _ _ (restsL kind zs p zs.length) _ (H17.rd (i := 1) rfl) rfl (by rw [restsL_len]; omega) (rests_allI hR.1 hm)) rfl kftile2_10 ⟨rfl, trivial⟩) rfl rfl ?_
      rintro _ w19 ⟨A21, c22, rfl, k18⟩
      have H20 := H17.call k18
      refine reg_op (op_app (i := 1) H20 rfl rfl rfl rfl (H20.rd (i := 0) rfl) (by rw [vi_len, Nat.mul_one]) (vi_one) Try.underlying27 kftile2_11 rfl rfl (by unfold maxLen; omega) (by omega)) rfl rfl ?_
      rintro _ w25 ⟨A23, c24, rfl, H26⟩
      refine ry (y_asg rfl rfl) rfl rfl ?_
      refine ry (y_asg rfl rfl) rfl rfl ?_
      refine reg_nil ?_
      refine fn_next ?_
      refine cw_ret ?_
      refine fn_retn (vs := [_, _]) rfl ⟨rfl, rfl, trivial⟩ rfl ?_
      rw [show (1 : Nat) + (runsB (rn (restsL kind zs p zs.length) 0)).length = (kind :: runsB (rn (restsL kind zs p zs.length) 0)).length by rw [List.length_cons]; omega] at *
      exact ⟨_, _, kind :: runsB (rn (restsL kind zs p zs.length) 0), 0, rfl, tpF_d hR hK (ckF_0 hlen hm), (H26.pick (m := [_]) [1] rfl (by decide))⟩

set_option maxRecDepth 100000 in
set_option maxHeartbeats 1000000 in
theorem refTGet (p q : Int) (bs : List Int) (A : Option Addr) (n c : Nat) (w : World) (hb : Rd w A (vi .u8 bs)) (hl : bs.length = n) (hcap : n ≤ c) (hB : okB bs) (hn : n ≤ 100000000) :
    Ret Try.prog 24 [.slice A n c, .int .i64 p, .int .i64 q] w (fun v w' => ∃ A' c' zs k e, v = .tuple #[.slice A' zs.length c', .int .i64 k, .int .i64 e] ∧ tgF bs p q = (zs, k, e) ∧ HS w w' [.row A' zs.length c' (vi .i64 zs) 2 1]) := by
 refine ret_enter Try.func24 rfl rfl rfl ?_
 have H0 := HS.start w
 refine cw_seq ?_
 refine cw_reg ?_
 refine ry (y_asg rfl rfl) rfl rfl ?_
 refine ry (y_asg rfl rfl) rfl rfl ?_
 refine ry (y_asg rfl rfl) rfl rfl ?_
 refine reg_nil ?_
 refine fn_next ?_
 refine cw_seq ?_
 refine cw_seq ?_
 refine cw_reg ?_
 refine ry (y_mov rfl rfl) rfl rfl ?_
 refine ry (y_mov rfl rfl) rfl rfl ?_
 refine reg_op (op_call (refTRight p q _) rfl kftile2_7 ⟨rfl, rfl, trivial⟩) rfl rfl ?_
 rintro _ w2 ⟨rfl, e1⟩
 have H3 := H0.ext e1
 refine ry (y_notd rfl rfl) rfl rfl ?_
 refine reg_nil ?_
 refine fn_next ?_
 refine cw_condd rfl (fun hR0 => ?_) (fun hR0 => ?_)
 ·skip
  refine cw_seq ?_
  refine cw_reg ?_
  refine ry (y_asg rfl rfl) rfl rfl ?_
  refine ry (y_asg rfl rfl) rfl rfl ?_
  refine ry (y_asg rfl rfl) rfl rfl ?_
  refine reg_nil ?_
  refine fn_next ?_
  refine cw_ret ?_
  refine fn_then_ret ?_
  refine fn_retn (vs := [_, _, _]) rfl ⟨rfl, rfl, rfl, trivial⟩ rfl ?_
  exact ⟨none, 0, [], 0, 3, rfl, tgF_a hR0, (HS.bare H3).nilrow _ _⟩
 ·skip
  have hR := Classical.not_not.1 hR0
  have hmul := tR_mul hR
  refine cw_skip ?_
  refine fn_next ?_
  refine cw_seq ?_
  refine cw_seq ?_
  refine cw_reg ?_
  refine ry (y_mov rfl rfl) rfl rfl ?_
  refine ry (y_len rfl Try.underlying27 rfl) rfl rfl ?_
  refine ry (y_eql rfl rfl rfl) rfl rfl ?_
  refine reg_nil ?_
  refine fn_next ?_
  refine cw_condd rfl (fun h14 => ?_) (fun h14 => ?_)
  ·skip
   refine cw_seq ?_
   refine cw_reg ?_
   refine ry (y_asg rfl rfl) rfl rfl ?_
   refine ry (y_asg rfl rfl) rfl rfl ?_
   refine ry (y_asg rfl rfl) rfl rfl ?_
   refine reg_nil ?_
   refine fn_next ?_
   refine cw_ret ?_
   refine fn_then_ret ?_
   refine fn_retn (vs := [_, _, _]) rfl ⟨rfl, rfl, rfl, trivial⟩ rfl ?_
   exact ⟨none, 0, [], 0, 14, rfl, tgF_b hR (by omega), (HS.bare H3).nilrow _ _⟩
  ·skip
   have hne : ¬ bs.length = 0 := by omega
   have g0 := vi_get (k := .u8) (zs := bs) (i := 0) (by omega)
   have hc0 := okB_nth hB (i := 0) (by omega)
   refine cw_skip ?_
   refine fn_next ?_
   refine cw_seq ?_
   refine cw_seq ?_
   refine cw_reg ?_
   refine ry (y_mov rfl rfl) rfl rfl ?_
   refine ry (y_iar (i := 0) (hb.below H3.base) rfl rfl rfl kftile2_2 (rfl) (by omega) (Nat.mul_one _) (g0)) rfl rfl ?_
   refine ry (y_ldr (hb.below H3.base) rfl rfl kftile2_3 (g0)) rfl rfl ?_
   refine ry (y_gtr rfl rfl rfl) rfl rfl ?_
   refine reg_nil ?_
   refine fn_next ?_
   refine cw_condd rfl (fun hk2 => ?_) (fun hk2 => ?_)
   ·skip
    refine cw_seq ?_
    refine cw_reg ?_
    refine ry (y_asg rfl rfl) rfl rfl ?_
    refine ry (y_asg rfl rfl) rfl rfl ?_
    refine ry (y_asg rfl rfl) rfl rfl ?_
    refine reg_nil ?_
    refine fn_next ?_
    refine cw_ret ?_
    refine fn_then_ret ?_
    refine fn_retn (vs := [_, _, _]) rfl ⟨rfl, rfl, rfl, trivial⟩ rfl ?_
    exact ⟨none, 0, [], 0, 13, rfl, tgF_c hR hne (by omega), (HS.bare H3).nilrow _ _⟩
   ·skip
    refine cw_skip ?_
    refine fn_next ?_
    refine cw_seq ?_
    refine cw_reg ?_
    refine ry (y_mov rfl rfl) rfl rfl ?_
    refine ry (y_mov rfl rfl) rfl rfl ?_
    refine ry (y_mov rfl rfl) rfl rfl ?_
    refine ry (y_mul rfl rfl rfl (wi (by have := tR_mul hR; omega))) rfl rfl ?_
    refine reg_op (op_call (refGet5 A n c 1 (p * q) bs _ (hb.below H3.base) hl hcap hB (by omega)) rfl kftile2_12 ⟨rfl, rfl, rfl, trivial⟩) rfl rfl ?_
    rintro _ w8 ⟨A10, c11, rs, x, e, rfl, hP, k7⟩
    have H9 := H3.call k7
    have hF := rgF_of hP
    have hrl := rgP_len hB hP
    have hrm : rs.length ≤ 256 := by omega
    refine ry (y_mov rfl rfl) rfl rfl ?_
    refine ry (y_ext rfl rfl rfl) rfl rfl ?_
    refine ry (y_ext rfl rfl rfl) rfl rfl ?_
    refine ry (y_ext rfl rfl rfl) rfl rfl ?_
    refine ry (y_asg rfl rfl) rfl rfl ?_
    refine ry (y_asg rfl rfl) rfl rfl ?_
    refine ry (y_asg rfl rfl) rfl rfl ?_
    refine reg_nil ?_
    refine fn_next ?_
    refine cw_seq ?_
    refine cw_seq ?_
    refine cw_reg ?_
    refine ry (y_mov rfl rfl) rfl rfl ?_
    refine ry (y_neq rfl rfl rfl) rfl rfl ?_
    refine reg_nil ?_
    refine fn_next ?_
    refine cw_condd rfl (fun he => ?_) (fun he => ?_)
    ·skip
     refine cw_seq ?_
     refine cw_reg ?_
     refine ry (y_mov rfl rfl) rfl rfl ?_
     refine ry (y_asg rfl rfl) rfl rfl ?_
     refine ry (y_asg rfl rfl) rfl rfl ?_
     refine ry (y_asg rfl rfl) rfl rfl ?_
     refine reg_nil ?_
     refine fn_next ?_
     refine cw_ret ?_
     refine fn_then_ret ?_
     refine fn_retn (vs := [_, _, _]) rfl ⟨rfl, rfl, rfl, trivial⟩ rfl ?_
     exact ⟨none, 0, [], 0, _, rfl, tgF_d hR hne hk2 hF he, (HS.bare H9).nilrow _ _⟩
    ·skip
     refine cw_skip ?_
     refine fn_next ?_
     refine cw_seq ?_
     refine cw_seq ?_
     refine cw_reg ?_
     refine ry (y_mov rfl rfl) rfl rfl ?_
     refine ry (y_mov rfl rfl) rfl rfl ?_
     refine ry (y_len rfl Try.underlying27 rfl) rfl rfl ?_
     refine ry (y_lss rfl rfl rfl) rfl rfl ?_
     refine reg_nil ?_
     refine fn_next ?_
     refine cw_condd rfl (fun hx => ?_) (fun hx => ?_)
     ·skip
      refine cw_seq ?_
      refine cw_reg ?_
      refine ry (y_asg rfl rfl) rfl rfl ?_
      refine ry (y_asg rfl rfl) rfl rfl ?_
      refine ry (y_asg rfl rfl) rfl rfl ?_
      refine reg_nil ?_
      refine fn_next ?_
      refine cw_ret ?_
      refine fn_then_ret ?_
      refine fn_retn (vs := [_, _, _]) rfl ⟨rfl, rfl, rfl, trivial⟩ rfl ?_
      exact ⟨none, 0, [], 0, 13, rfl, tgF_e hR hne hk2 hF (by omega) (by omega), (HS.bare H9).nilrow _ _⟩
     ·skip
      refine cw_skip ?_
      refine fn_next ?_
      refine cw_seq ?_
      refine cw_reg ?_
      refine ry (y_mov rfl rfl) rfl rfl ?_
      refine ry (y_iar (i := 0) (hb.below H9.base) rfl rfl rfl kftile2_2 (rfl) (by omega) (Nat.mul_one _) (g0)) rfl rfl ?_
      refine ry (y_ldr (hb.below H9.base) rfl rfl kftile2_3 (g0)) rfl rfl ?_
      refine ry (y_conv rfl Try.underlying5 Try.underlying3 rfl (wi (by omega))) rfl rfl ?_
      refine ry (y_mov rfl rfl) rfl rfl ?_
      refine ry (y_mov rfl rfl) rfl rfl ?_
      refine reg_op (op_call (refCells (nth bs 0) p rs _ _ _ _ (H9.rd (i := 0) rfl) rfl (by omega)) rfl kftile2_13 ⟨rfl, rfl, rfl, trivial⟩) rfl rfl ?_
      rintro _ w15 ⟨A17, c18, cs, e2, rfl, hC, k14⟩
      have H16 := H9.call k14
      have hG := pcF_of hC
      refine ry (y_mov rfl rfl) rfl rfl ?_
      refine ry (y_ext rfl rfl rfl) rfl rfl ?_
      refine ry (y_ext rfl rfl rfl) rfl rfl ?_
      refine ry (y_asg rfl rfl) rfl rfl ?_
      refine ry (y_asg rfl rfl) rfl rfl ?_
      refine reg_nil ?_
      refine fn_next ?_
      refine cw_seq ?_
      refine cw_seq ?_
      refine cw_reg ?_
      refine ry (y_mov rfl rfl) rfl rfl ?_
      refine ry (y_neq rfl rfl rfl) rfl rfl ?_
      refine reg_nil ?_
      refine fn_next ?_
      refine cw_condd rfl (fun he2 => ?_) (fun he2 => ?_)
      ·skip
       refine cw_seq ?_
       refine cw_reg ?_
       refine ry (y_mov rfl rfl) rfl rfl ?_
       refine ry (y_asg rfl rfl) rfl rfl ?_
       refine ry (y_asg rfl rfl) rfl rfl ?_
       refine ry (y_asg rfl rfl) rfl rfl ?_
       refine reg_nil ?_
       refine fn_next ?_
       refine cw_ret ?_
       refine fn_then_ret ?_
       refine fn_retn (vs := [_, _, _]) rfl ⟨rfl, rfl, rfl, trivial⟩ rfl ?_
       exact ⟨none, 0, [], 0, _, rfl, tgF_f hR hne hk2 hF (by omega) (by omega) hG he2, (HS.bare H16).nilrow _ _⟩
      ·skip
       refine cw_skip ?_
       refine fn_next ?_
       refine cw_seq ?_
       refine cw_draw H16 [0, 1, 2, 3, 4, 5, 6, 7] [] (fun X HX => HX) (by kernel_rfl) (by kernel_rfl) (by rfl) ?_
       simp only [pick, List.getElem?_cons_succ, List.getElem?_cons_zero]
       refine hk_y (fun Y HY => y_mov rfl rfl) rfl rfl ?_
       refine hk_y (fun Y HY => y_mov rfl rfl) rfl rfl ?_
       refine hk_y (fun Y HY => y_iar (i := 0) (hb.below HY.base) rfl rfl rfl kftile2_2 (rfl) (by omega) (Nat.mul_one _) (g0)) rfl rfl ?_
       refine hk_y (fun Y HY => y_ldr (hb.below HY.base) rfl rfl kftile2_3 (g0)) rfl rfl ?_
       refine hk_y (fun Y HY => y_conv rfl Try.underlying5 Try.underlying3 rfl (wi (by omega))) rfl rfl ?_
       refine hk_y (fun Y HY => y_asg rfl rfl) rfl rfl ?_
       refine hk_y (fun Y HY => y_asg rfl rfl) rfl rfl ?_
       refine hk_y (fun Y HY => y_asg rfl rfl) rfl rfl ?_
       refine hk_nil ?_
       intro w20 H21
       refine tv_nil ?_
       refine fn_next ?_
       refine cw_ret ?_
       refine fn_retn (vs := [_, _, _]) rfl ⟨rfl, rfl, rfl, trivial⟩ rfl ?_
       exact ⟨_, _, cs, nth bs 0, 0, rfl, tgF_g hR hne hk2 hF (by omega) (by omega) hG (by omega), (H21.pick (m := [_]) [0] rfl (by decide))⟩

end Go.Proofs.Ytbnjbgcadkdljaa
