/- Layer 6: tiles got; the reference. -/
import Derived.Test.YtbnjbgcadkdljaaGreatDoorTile1
set_option linter.unusedVariables false
set_option linter.unusedSimpArgs false
namespace Go.Proofs.YtbnjbgcadkdljaaGreatDoor
open Go Go.RowKit
theorem kftile2_1 : callB Tryz.prog 59 = true := by kernel_rfl
theorem kftile2_2 : elB Tryz.prog 22 1 = true := by kernel_rfl
theorem kftile2_3 : oneB Tryz.prog 5 = true := by kernel_rfl
theorem kftile2_4 : callB Tryz.prog 30 = true := by kernel_rfl
theorem kftile2_5 : callB Tryz.prog 60 = true := by kernel_rfl
theorem kftile2_6 : callB Tryz.prog 61 = true := by kernel_rfl
theorem kftile2_7 : callB Tryz.prog 45 = true := by kernel_rfl
theorem kftile2_12 : callB Tryz.prog 46 = true := by kernel_rfl
theorem kftile2_13 : callB Tryz.prog 47 = true := by kernel_rfl

set_option maxRecDepth 100000 in
set_option maxHeartbeats 1000000 in
theorem tileGet (p q : Int) (bs : List Int) (A : Option Addr) (n c : Nat) (w : World) (hb : Rd w A (vi .u8 bs)) (hl : bs.length = n) (hcap : n ≤ c) (hB : okB bs) (hn : n ≤ 100000000) :
    Ret Tryz.prog 22 [.slice A n c, .int .i64 p, .int .i64 q] w (fun v w' => ∃ A' c' zs k e, v = .tuple #[.slice A' zs.length c', .int .i64 k, .int .i64 e] ∧ tgF bs p q = (zs, k, e) ∧ HS w w' [.row A' zs.length c' (vi .i64 zs) 2 1]) := by
 refine ret_enter Tryz.func22 rfl rfl rfl ?_
 have H0 := HS.start w
 refine cw_seq ?_
 refine cw_reg ?_
 refine ry (y_asg rfl rfl) rfl rfl ?_
 refine ry (y_asg rfl rfl) rfl rfl ?_
 refine ry (y_asg rfl rfl) rfl rfl ?_
 refine reg_nil ?_
 refine fn_next ?_
 refine cw_seq ?_
 refine cw_block ?_
 refine cw_seq ?_
 refine cw_reg ?_
 refine ry (y_mov rfl rfl) rfl rfl ?_
 refine ry (y_mov rfl rfl) rfl rfl ?_
 refine reg_op (op_call (tileRight p q _) rfl kftile2_1 ⟨rfl, rfl, trivial⟩) rfl rfl ?_
 rintro _ w2 ⟨rfl, e1⟩
 have H3 := H0.ext e1
 refine ry (y_notd rfl rfl) rfl rfl ?_
 refine ry (y_asg rfl rfl) rfl rfl ?_
 refine reg_nil ?_
 refine fn_next ?_
 refine cw_condd rfl (fun hR0 => ?_) (fun hR0 => ?_)
 ·skip
  refine cw_seq ?_
  refine cw_reg ?_
  refine ry (y_asg rfl rfl) rfl rfl ?_
  refine ry (y_asg rfl rfl) rfl rfl ?_
  refine ry (y_asg rfl rfl) rfl rfl ?_
  refine reg_nil ?_
  refine fn_next ?_
  refine cw_ret ?_
  refine fn_block_ret (fn_then_ret ?_)
  refine fn_retn (vs := [_, _, _]) rfl ⟨rfl, rfl, rfl, trivial⟩ rfl ?_
  exact ⟨none, 0, [], 0, 3, rfl, tgF_a hR0, (HS.bare H3).nilrow _ _⟩
 ·skip
  have hR := Classical.not_not.1 hR0
  have hmul := tR_mul hR
  refine cw_seq ?_
  refine cw_reg ?_
  refine ry (y_mov rfl rfl) rfl rfl ?_
  refine ry (y_len rfl Tryz.underlying22 rfl) rfl rfl ?_
  refine ry (y_eql rfl rfl rfl) rfl rfl ?_
  refine ry (y_asg rfl rfl) rfl rfl ?_
  refine reg_nil ?_
  refine fn_next ?_
  refine cw_condd rfl (fun h14 => ?_) (fun h14 => ?_)
  ·skip
   refine cw_seq ?_
   refine cw_reg ?_
   refine ry (y_asg rfl rfl) rfl rfl ?_
   refine ry (y_asg rfl rfl) rfl rfl ?_
   refine ry (y_asg rfl rfl) rfl rfl ?_
   refine reg_nil ?_
   refine fn_next ?_
   refine cw_ret ?_
   refine fn_block_ret (fn_then_ret ?_)
   refine fn_retn (vs := [_, _, _]) rfl ⟨rfl, rfl, rfl, trivial⟩ rfl ?_
   exact ⟨none, 0, [], 0, 14, rfl, tgF_b hR (by omega), (HS.bare H3).nilrow _ _⟩
  ·skip
   have hne : ¬ bs.length = 0 := by omega
   have g0 := vi_get (k := .u8) (zs := bs) (i := 0) (by omega)
   have hc0 := okB_nth hB (i := 0) (by omega)
   refine cw_skip ?_
   refine fn_block ?_
   refine fn_next ?_
   refine cw_seq ?_
   refine cw_reg ?_
   refine ry (y_mov rfl rfl) rfl rfl ?_
   refine ry (y_iar (i := 0) (hb.below H3.base) rfl rfl rfl kftile2_2 (rfl) (by omega) (Nat.mul_one _) (g0)) rfl rfl ?_
   refine ry (y_ldr (hb.below H3.base) rfl rfl kftile2_3 (g0)) rfl rfl ?_
   refine ry (y_conv rfl Tryz.underlying5 Tryz.underlying3 rfl (wi (by omega))) rfl rfl ?_
   refine ry (y_asg rfl rfl) rfl rfl ?_
   refine reg_nil ?_
   refine fn_next ?_
   refine cw_seq ?_
   refine cw_seq ?_
   refine cw_reg ?_
   refine ry (y_mov rfl rfl) rfl rfl ?_
   refine reg_op (op_call (predRight (nth bs 0) 1 _ 0) rfl kftile2_4 ⟨rfl, rfl, rfl, trivial⟩) rfl rfl ?_
   rintro _ w7 ⟨rfl, e6⟩
   have H8 := H3.ext e6
   refine ry (y_notd rfl rfl) rfl rfl ?_
   refine reg_nil ?_
   refine fn_next ?_
   refine cw_condd rfl (fun hK0 => ?_) (fun hK0 => ?_)
   ·skip
    refine cw_seq ?_
    refine cw_reg ?_
    refine ry (y_asg rfl rfl) rfl rfl ?_
    refine ry (y_asg rfl rfl) rfl rfl ?_
    refine ry (y_asg rfl rfl) rfl rfl ?_
    refine reg_nil ?_
    refine fn_next ?_
    refine cw_ret ?_
    refine fn_then_ret ?_
    refine fn_retn (vs := [_, _, _]) rfl ⟨rfl, rfl, rfl, trivial⟩ rfl ?_
    exact ⟨none, 0, [], 0, 13, rfl, tgF_c hR hne (by have := mt right4_one.2 hK0; unfold kOk at this; omega), (HS.bare H8).nilrow _ _⟩
   ·skip
    have hk2 : ¬ 2 < nth bs 0 := by have := right4_one.1 (Classical.not_not.1 hK0); unfold kOk at this; omega
    refine cw_skip ?_
    refine fn_next ?_
    refine cw_seq ?_
    refine cw_reg ?_
    refine ry (y_mov rfl rfl) rfl rfl ?_
    refine ry (y_mov rfl rfl) rfl rfl ?_
    refine ry (y_mov rfl rfl) rfl rfl ?_
    refine ry (y_mul rfl rfl rfl (wi (by have := tR_mul hR; omega))) rfl rfl ?_
    refine reg_op (op_call (runsGet A n c 1 (p * q) bs _ (hb.below H8.base) hl hcap hB (by omega)) rfl kftile2_5 ⟨rfl, rfl, rfl, trivial⟩) rfl rfl ?_
    rintro _ w11 ⟨A13, c14, rs, x, e, rfl, hP, k10⟩
    have H12 := H8.call k10
    have hF := rgF_of hP
    have hrl := rgP_len hB hP
    have hrm : rs.length ≤ 256 := by omega
    refine ry (y_mov rfl rfl) rfl rfl ?_
    refine ry (y_ext rfl rfl rfl) rfl rfl ?_
    refine ry (y_ext rfl rfl rfl) rfl rfl ?_
    refine ry (y_ext rfl rfl rfl) rfl rfl ?_
    refine ry (y_asg rfl rfl) rfl rfl ?_
    refine ry (y_asg rfl rfl) rfl rfl ?_
    refine ry (y_asg rfl rfl) rfl rfl ?_
    refine reg_nil ?_
    refine fn_next ?_
    refine cw_seq ?_
    refine cw_seq ?_
    refine cw_reg ?_
    refine ry (y_mov rfl rfl) rfl rfl ?_
    refine ry (y_eql rfl rfl rfl) rfl rfl ?_
    refine ry (y_mov rfl rfl) rfl rfl ?_
    refine rg_splitd (d := 41) rfl (fun h15 => ?_) (fun h15 => ?_)
    ·skip
     refine rgy (y_mov rfl rfl) rfl rfl rfl rfl ?_
     refine rgy (y_mov rfl rfl) rfl rfl rfl rfl ?_
     refine rgy (y_len rfl Tryz.underlying22 rfl) rfl rfl rfl rfl ?_
     refine rgy (y_neq rfl rfl rfl) rfl rfl rfl rfl ?_
     refine ry (y_pick rfl rfl rfl) rfl rfl ?_
     refine reg_nil ?_
     refine fn_next ?_
     refine cw_condd rfl (fun h16 => ?_) (fun h16 => ?_)
     ·skip
      refine cw_reg ?_
      refine ry (y_asg rfl rfl) rfl rfl ?_
      refine reg_nil ?_
      refine fn_next ?_
      refine cw_seq ?_
      refine cw_seq ?_
      refine cw_reg ?_
      refine ry (y_mov rfl rfl) rfl rfl ?_
      refine ry (y_neq rfl rfl rfl) rfl rfl ?_
      refine reg_nil ?_
      refine fn_next ?_
      refine cw_condt rfl ?_
      refine cw_seq ?_
      refine cw_reg ?_
      refine ry (y_mov rfl rfl) rfl rfl ?_
      refine ry (y_asg rfl rfl) rfl rfl ?_
      refine ry (y_asg rfl rfl) rfl rfl ?_
      refine ry (y_asg rfl rfl) rfl rfl ?_
      refine reg_nil ?_
      refine fn_next ?_
      refine cw_ret ?_
      refine fn_then_ret ?_
      refine fn_retn (vs := [_, _, _]) rfl ⟨rfl, rfl, rfl, trivial⟩ rfl ?_
      first | exact ⟨none, 0, [], 0, _, rfl, tgF_e hR hne hk2 hF (by omega) (by omega), (HS.bare H12).nilrow _ _⟩ | exact ⟨none, 0, [], 0, _, rfl, tgF_d hR hne hk2 hF (by omega), (HS.bare H12).nilrow _ _⟩
     ·skip
      refine cw_skip ?_
      refine fn_next ?_
      refine cw_seq ?_
      refine cw_seq ?_
      refine cw_reg ?_
      refine ry (y_mov rfl rfl) rfl rfl ?_
      refine ry (y_neq rfl rfl rfl) rfl rfl ?_
      refine reg_nil ?_
      refine fn_next ?_
      refine cw_condd rfl (fun he => ?_) (fun he => ?_)
      ·skip
       refine cw_seq ?_
       refine cw_reg ?_
       refine ry (y_mov rfl rfl) rfl rfl ?_
       refine ry (y_asg rfl rfl) rfl rfl ?_
       refine ry (y_asg rfl rfl) rfl rfl ?_
       refine ry (y_asg rfl rfl) rfl rfl ?_
       refine reg_nil ?_
       refine fn_next ?_
       refine cw_ret ?_
       refine fn_then_ret ?_
       refine fn_retn (vs := [_, _, _]) rfl ⟨rfl, rfl, rfl, trivial⟩ rfl ?_
       first | exact ⟨none, 0, [], 0, _, rfl, tgF_e hR hne hk2 hF (by omega) (by omega), (HS.bare H12).nilrow _ _⟩ | exact ⟨none, 0, [], 0, _, rfl, tgF_d hR hne hk2 hF (by omega), (HS.bare H12).nilrow _ _⟩
      ·skip
       refine cw_skip ?_
       refine fn_next ?_
       refine cw_seq ?_
       refine cw_reg ?_
       refine ry (y_mov rfl rfl) rfl rfl ?_
       refine ry (y_mov rfl rfl) rfl rfl ?_
       refine ry (y_mov rfl rfl) rfl rfl ?_
       refine reg_op (op_call (predCells (nth bs 0) p rs _ _ _ _ (H12.rd (i := 0) rfl) rfl (H12.len (i := 0) rfl).2.1 (by omega)) rfl kftile2_6 ⟨rfl, rfl, rfl, trivial⟩) rfl rfl ?_
       rintro _ w19 ⟨A21, c22, cs, e2, rfl, hC, k18⟩
       have H20 := H12.call k18
       have hG := pcF_of hC
       refine ry (y_mov rfl rfl) rfl rfl ?_
       refine ry (y_ext rfl rfl rfl) rfl rfl ?_
       refine ry (y_ext rfl rfl rfl) rfl rfl ?_
       refine ry (y_asg rfl rfl) rfl rfl ?_
       refine ry (y_asg rfl rfl) rfl rfl ?_
       refine reg_nil ?_
       refine fn_next ?_
       refine cw_seq ?_
       refine cw_seq ?_
       refine cw_reg ?_
       refine ry (y_mov rfl rfl) rfl rfl ?_
       refine ry (y_neq rfl rfl rfl) rfl rfl ?_
       refine reg_nil ?_
       refine fn_next ?_
       refine cw_condd rfl (fun he2 => ?_) (fun he2 => ?_)
       ·skip
        refine cw_seq ?_
        refine cw_reg ?_
        refine ry (y_mov rfl rfl) rfl rfl ?_
        refine ry (y_asg rfl rfl) rfl rfl ?_
        refine ry (y_asg rfl rfl) rfl rfl ?_
        refine ry (y_asg rfl rfl) rfl rfl ?_
        refine reg_nil ?_
        refine fn_next ?_
        refine cw_ret ?_
        refine fn_then_ret ?_
        refine fn_retn (vs := [_, _, _]) rfl ⟨rfl, rfl, rfl, trivial⟩ rfl ?_
        exact ⟨none, 0, [], 0, _, rfl, tgF_f hR hne hk2 hF (by omega) (by omega) hG he2, (HS.bare H20).nilrow _ _⟩
       ·skip
        refine cw_skip ?_
        refine fn_next ?_
        refine cw_seq ?_
        refine cw_reg ?_
        refine ry (y_mov rfl rfl) rfl rfl ?_
        refine ry (y_mov rfl rfl) rfl rfl ?_
        refine ry (y_asg rfl rfl) rfl rfl ?_
        refine ry (y_asg rfl rfl) rfl rfl ?_
        refine ry (y_asg rfl rfl) rfl rfl ?_
        refine reg_nil ?_
        refine fn_next ?_
        refine cw_ret ?_
        refine fn_retn (vs := [_, _, _]) rfl ⟨rfl, rfl, rfl, trivial⟩ rfl ?_
        exact ⟨_, _, cs, nth bs 0, 0, rfl, tgF_g hR hne hk2 hF (by omega) (by omega) hG (by omega), (H20.pick (m := [_]) [0] rfl (by decide))⟩
    ·skip
     refine rg_off rfl rfl rfl rfl rfl ?_
     refine rg_off rfl rfl rfl rfl rfl ?_
     refine rg_off rfl rfl rfl rfl rfl ?_
     refine rg_off rfl rfl rfl rfl rfl ?_
     refine ry (y_pick rfl rfl rfl) rfl rfl ?_
     refine reg_nil ?_
     refine fn_next ?_
     refine cw_condf rfl ?_
     refine cw_skip ?_
     refine fn_next ?_
     refine cw_seq ?_
     refine cw_seq ?_
     refine cw_reg ?_
     refine ry (y_mov rfl rfl) rfl rfl ?_
     refine ry (y_neq rfl rfl rfl) rfl rfl ?_
     refine reg_nil ?_
     refine fn_next ?_
     refine cw_condd rfl (fun he => ?_) (fun he => ?_)
     ·skip
      refine cw_seq ?_
      refine cw_reg ?_
      refine ry (y_mov rfl rfl) rfl rfl ?_
      refine ry (y_asg rfl rfl) rfl rfl ?_
      refine ry (y_asg rfl rfl) rfl rfl ?_
      refine ry (y_asg rfl rfl) rfl rfl ?_
      refine reg_nil ?_
      refine fn_next ?_
      refine cw_ret ?_
      refine fn_then_ret ?_
      refine fn_retn (vs := [_, _, _]) rfl ⟨rfl, rfl, rfl, trivial⟩ rfl ?_
      first | exact ⟨none, 0, [], 0, _, rfl, tgF_e hR hne hk2 hF (by omega) (by omega), (HS.bare H12).nilrow _ _⟩ | exact ⟨none, 0, [], 0, _, rfl, tgF_d hR hne hk2 hF (by omega), (HS.bare H12).nilrow _ _⟩
     ·skip
      refine cw_skip ?_
      refine fn_next ?_
      refine cw_seq ?_
      refine cw_reg ?_
      refine ry (y_mov rfl rfl) rfl rfl ?_
      refine ry (y_mov rfl rfl) rfl rfl ?_
      refine ry (y_mov rfl rfl) rfl rfl ?_
      refine reg_op (op_call (predCells (nth bs 0) p rs _ _ _ _ (H12.rd (i := 0) rfl) rfl (H12.len (i := 0) rfl).2.1 (by omega)) rfl kftile2_6 ⟨rfl, rfl, rfl, trivial⟩) rfl rfl ?_
      rintro _ w26 ⟨A28, c29, cs, e2, rfl, hC, k25⟩
      have H27 := H12.call k25
      have hG := pcF_of hC
      refine ry (y_mov rfl rfl) rfl rfl ?_
      refine ry (y_ext rfl rfl rfl) rfl rfl ?_
      refine ry (y_ext rfl rfl rfl) rfl rfl ?_
      refine ry (y_asg rfl rfl) rfl rfl ?_
      refine ry (y_asg rfl rfl) rfl rfl ?_
      refine reg_nil ?_
      refine fn_next ?_
      refine cw_seq ?_
      refine cw_seq ?_
      refine cw_reg ?_
      refine ry (y_mov rfl rfl) rfl rfl ?_
      refine ry (y_neq rfl rfl rfl) rfl rfl ?_
      refine reg_nil ?_
      refine fn_next ?_
      refine cw_condd rfl (fun he2 => ?_) (fun he2 => ?_)
      ·skip
       refine cw_seq ?_
       refine cw_reg ?_
       refine ry (y_mov rfl rfl) rfl rfl ?_
       refine ry (y_asg rfl rfl) rfl rfl ?_
       refine ry (y_asg rfl rfl) rfl rfl ?_
       refine ry (y_asg rfl rfl) rfl rfl ?_
       refine reg_nil ?_
       refine fn_next ?_
       refine cw_ret ?_
       refine fn_then_ret ?_
       refine fn_retn (vs := [_, _, _]) rfl ⟨rfl, rfl, rfl, trivial⟩ rfl ?_
       exact ⟨none, 0, [], 0, _, rfl, tgF_f hR hne hk2 hF (by omega) (by omega) hG he2, (HS.bare H27).nilrow _ _⟩
      ·skip
       refine cw_skip ?_
       refine fn_next ?_
       refine cw_seq ?_
       refine cw_reg ?_
       refine ry (y_mov rfl rfl) rfl rfl ?_
       refine ry (y_mov rfl rfl) rfl rfl ?_
       refine ry (y_asg rfl rfl) rfl rfl ?_
       refine ry (y_asg rfl rfl) rfl rfl ?_
       refine ry (y_asg rfl rfl) rfl rfl ?_
       refine reg_nil ?_
       refine fn_next ?_
       refine cw_ret ?_
       refine fn_retn (vs := [_, _, _]) rfl ⟨rfl, rfl, rfl, trivial⟩ rfl ?_
       exact ⟨_, _, cs, nth bs 0, 0, rfl, tgF_g hR hne hk2 hF (by omega) (by omega) hG (by omega), (H27.pick (m := [_]) [0] rfl (by decide))⟩

set_option maxRecDepth 100000 in
set_option maxHeartbeats 1000000 in
theorem refTGet (p q : Int) (bs : List Int) (A : Option Addr) (n c : Nat) (w : World) (hb : Rd w A (vi .u8 bs)) (hl : bs.length = n) (hcap : n ≤ c) (hB : okB bs) (hn : n ≤ 100000000) :
    Ret Tryz.prog 16 [.slice A n c, .int .i64 p, .int .i64 q] w (fun v w' => ∃ A' c' zs k e, v = .tuple #[.slice A' zs.length c', .int .i64 k, .int .i64 e] ∧ tgF bs p q = (zs, k, e) ∧ HS w w' [.row A' zs.length c' (vi .i64 zs) 2 1]) := by
 refine ret_enter Tryz.func16 rfl rfl rfl ?_
 have H0 := HS.start w
 refine cw_seq ?_
 refine cw_reg ?_
 refine ry (y_asg rfl rfl) rfl rfl ?_
 refine ry (y_asg rfl rfl) rfl rfl ?_
 refine ry (y_asg rfl rfl) rfl rfl ?_
 refine reg_nil ?_
 refine fn_next ?_
 refine cw_seq ?_
 refine cw_seq ?_
 refine cw_reg ?_
 refine ry (y_mov rfl rfl) rfl rfl ?_
 refine ry (y_mov rfl rfl) rfl rfl ?_
 refine reg_op (op_call (refTRight p q _) rfl kftile2_7 ⟨rfl, rfl, trivial⟩) rfl rfl ?_
 rintro _ w2 ⟨rfl, e1⟩
 have H3 := H0.ext e1
 refine ry (y_notd rfl rfl) rfl rfl ?_
 refine reg_nil ?_
 refine fn_next ?_
 refine cw_condd rfl (fun hR0 => ?_) (fun hR0 => ?_)
 ·skip
  refine cw_seq ?_
  refine cw_reg ?_
  refine ry (y_asg rfl rfl) rfl rfl ?_
  refine ry (y_asg rfl rfl) rfl rfl ?_
  refine ry (y_asg rfl rfl) rfl rfl ?_
  refine reg_nil ?_
  refine fn_next ?_
  refine cw_ret ?_
  refine fn_then_ret ?_
  refine fn_retn (vs := [_, _, _]) rfl ⟨rfl, rfl, rfl, trivial⟩ rfl ?_
  exact ⟨none, 0, [], 0, 3, rfl, tgF_a hR0, (HS.bare H3).nilrow _ _⟩
 ·skip
  have hR := Classical.not_not.1 hR0
  have hmul := tR_mul hR
  refine cw_skip ?_
  refine fn_next ?_
  refine cw_seq ?_
  refine cw_seq ?_
  refine cw_reg ?_
  refine ry (y_mov rfl rfl) rfl rfl ?_
  refine ry (y_len rfl Tryz.underlying22 rfl) rfl rfl ?_
  refine ry (y_eql rfl rfl rfl) rfl rfl ?_
  refine reg_nil ?_
  refine fn_next ?_
  refine cw_condd rfl (fun h14 => ?_) (fun h14 => ?_)
  ·skip
   refine cw_seq ?_
   refine cw_reg ?_
   refine ry (y_asg rfl rfl) rfl rfl ?_
   refine ry (y_asg rfl rfl) rfl rfl ?_
   refine ry (y_asg rfl rfl) rfl rfl ?_
   refine reg_nil ?_
   refine fn_next ?_
   refine cw_ret ?_
   refine fn_then_ret ?_
   refine fn_retn (vs := [_, _, _]) rfl ⟨rfl, rfl, rfl, trivial⟩ rfl ?_
   exact ⟨none, 0, [], 0, 14, rfl, tgF_b hR (by omega), (HS.bare H3).nilrow _ _⟩
  ·skip
   have hne : ¬ bs.length = 0 := by omega
   have g0 := vi_get (k := .u8) (zs := bs) (i := 0) (by omega)
   have hc0 := okB_nth hB (i := 0) (by omega)
   refine cw_skip ?_
   refine fn_next ?_
   refine cw_seq ?_
   refine cw_seq ?_
   refine cw_reg ?_
   refine ry (y_mov rfl rfl) rfl rfl ?_
   refine ry (y_iar (i := 0) (hb.below H3.base) rfl rfl rfl kftile2_2 (rfl) (by omega) (Nat.mul_one _) (g0)) rfl rfl ?_
   refine ry (y_ldr (hb.below H3.base) rfl rfl kftile2_3 (g0)) rfl rfl ?_
   refine ry (y_gtr rfl rfl rfl) rfl rfl ?_
   refine reg_nil ?_
   refine fn_next ?_
   refine cw_condd rfl (fun hk2 => ?_) (fun hk2 => ?_)
   ·skip
    refine cw_seq ?_
    refine cw_reg ?_
    refine ry (y_asg rfl rfl) rfl rfl ?_
    refine ry (y_asg rfl rfl) rfl rfl ?_
    refine ry (y_asg rfl rfl) rfl rfl ?_
    refine reg_nil ?_
    refine fn_next ?_
    refine cw_ret ?_
    refine fn_then_ret ?_
    refine fn_retn (vs := [_, _, _]) rfl ⟨rfl, rfl, rfl, trivial⟩ rfl ?_
    exact ⟨none, 0, [], 0, 13, rfl, tgF_c hR hne (by omega), (HS.bare H3).nilrow _ _⟩
   ·skip
    refine cw_skip ?_
    refine fn_next ?_
    refine cw_seq ?_
    refine cw_reg ?_
    refine ry (y_mov rfl rfl) rfl rfl ?_
    refine ry (y_mov rfl rfl) rfl rfl ?_
    refine ry (y_mov rfl rfl) rfl rfl ?_
    refine ry (y_mul rfl rfl rfl (wi (by have := tR_mul hR; omega))) rfl rfl ?_
    refine reg_op (op_call (refGet5 A n c 1 (p * q) bs _ (hb.below H3.base) hl hcap hB (by omega)) rfl kftile2_12 ⟨rfl, rfl, rfl, trivial⟩) rfl rfl ?_
    rintro _ w8 ⟨A10, c11, rs, x, e, rfl, hP, k7⟩
    have H9 := H3.call k7
    have hF := rgF_of hP
    have hrl := rgP_len hB hP
    have hrm : rs.length ≤ 256 := by omega
    refine ry (y_mov rfl rfl) rfl rfl ?_
    refine ry (y_ext rfl rfl rfl) rfl rfl ?_
    refine ry (y_ext rfl rfl rfl) rfl rfl ?_
    refine ry (y_ext rfl rfl rfl) rfl rfl ?_
    refine ry (y_asg rfl rfl) rfl rfl ?_
    refine ry (y_asg rfl rfl) rfl rfl ?_
    refine ry (y_asg rfl rfl) rfl rfl ?_
    refine reg_nil ?_
    refine fn_next ?_
    refine cw_seq ?_
    refine cw_seq ?_
    refine cw_reg ?_
    refine ry (y_mov rfl rfl) rfl rfl ?_
    refine ry (y_neq rfl rfl rfl) rfl rfl ?_
    refine reg_nil ?_
    refine fn_next ?_
    refine cw_condd rfl (fun he => ?_) (fun he => ?_)
    ·skip
     refine cw_seq ?_
     refine cw_reg ?_
     refine ry (y_mov rfl rfl) rfl rfl ?_
     refine ry (y_asg rfl rfl) rfl rfl ?_
     refine ry (y_asg rfl rfl) rfl rfl ?_
     refine ry (y_asg rfl rfl) rfl rfl ?_
     refine reg_nil ?_
     refine fn_next ?_
     refine cw_ret ?_
     refine fn_then_ret ?_
     refine fn_retn (vs := [_, _, _]) rfl ⟨rfl, rfl, rfl, trivial⟩ rfl ?_
     exact ⟨none, 0, [], 0, _, rfl, tgF_d hR hne hk2 hF he, (HS.bare H9).nilrow _ _⟩
    ·skip
     refine cw_skip ?_
     refine fn_next ?_
     refine cw_seq ?_
     refine cw_seq ?_
     refine cw_reg ?_
     refine ry (y_mov rfl rfl) rfl rfl ?_
     refine ry (y_mov rfl rfl) rfl rfl ?_
     refine ry (y_len rfl Tryz.underlying22 rfl) rfl rfl ?_
     refine ry (y_lss rfl rfl rfl) rfl rfl ?_
     refine reg_nil ?_
     refine fn_next ?_
     refine cw_condd rfl (fun hx => ?_) (fun hx => ?_)
     ·skip
      refine cw_seq ?_
      refine cw_reg ?_
      refine ry (y_asg rfl rfl) rfl rfl ?_
      refine ry (y_asg rfl rfl) rfl rfl ?_
      refine ry (y_asg rfl rfl) rfl rfl ?_
      refine reg_nil ?_
      refine fn_next ?_
      refine cw_ret ?_
      refine fn_then_ret ?_
      refine fn_retn (vs := [_, _, _]) rfl ⟨rfl, rfl, rfl, trivial⟩ rfl ?_
      exact ⟨none, 0, [], 0, 13, rfl, tgF_e hR hne hk2 hF (by omega) (by omega), (HS.bare H9).nilrow _ _⟩
     ·skip
      refine cw_skip ?_
      refine fn_next ?_
      refine cw_seq ?_
      refine cw_reg ?_
      refine ry (y_mov rfl rfl) rfl rfl ?_
      refine ry (y_iar (i := 0) (hb.below H9.base) rfl rfl rfl kftile2_2 (rfl) (by omega) (Nat.mul_one _) (g0)) rfl rfl ?_
      refine ry (y_ldr (hb.below H9.base) rfl rfl kftile2_3 (g0)) rfl rfl ?_
      refine ry (y_conv rfl Tryz.underlying5 Tryz.underlying3 rfl (wi (by omega))) rfl rfl ?_
      refine ry (y_mov rfl rfl) rfl rfl ?_
      refine ry (y_mov rfl rfl) rfl rfl ?_
      refine reg_op (op_call (refCells (nth bs 0) p rs _ _ _ _ (H9.rd (i := 0) rfl) rfl (by omega)) rfl kftile2_13 ⟨rfl, rfl, rfl, trivial⟩) rfl rfl ?_
      rintro _ w15 ⟨A17, c18, cs, e2, rfl, hC, k14⟩
      have H16 := H9.call k14
      have hG := pcF_of hC
      refine ry (y_mov rfl rfl) rfl rfl ?_
      refine ry (y_ext rfl rfl rfl) rfl rfl ?_
      refine ry (y_ext rfl rfl rfl) rfl rfl ?_
      refine ry (y_asg rfl rfl) rfl rfl ?_
      refine ry (y_asg rfl rfl) rfl rfl ?_
      refine reg_nil ?_
      refine fn_next ?_
      refine cw_seq ?_
      refine cw_seq ?_
      refine cw_reg ?_
      refine ry (y_mov rfl rfl) rfl rfl ?_
      refine ry (y_neq rfl rfl rfl) rfl rfl ?_
      refine reg_nil ?_
      refine fn_next ?_
      refine cw_condd rfl (fun he2 => ?_) (fun he2 => ?_)
      ·skip
       refine cw_seq ?_
       refine cw_reg ?_
       refine ry (y_mov rfl rfl) rfl rfl ?_
       refine ry (y_asg rfl rfl) rfl rfl ?_
       refine ry (y_asg rfl rfl) rfl rfl ?_
       refine ry (y_asg rfl rfl) rfl rfl ?_
       refine reg_nil ?_
       refine fn_next ?_
       refine cw_ret ?_
       refine fn_then_ret ?_
       refine fn_retn (vs := [_, _, _]) rfl ⟨rfl, rfl, rfl, trivial⟩ rfl ?_
       exact ⟨none, 0, [], 0, _, rfl, tgF_f hR hne hk2 hF (by omega) (by omega) hG he2, (HS.bare H16).nilrow _ _⟩
      ·skip
       refine cw_skip ?_
       refine fn_next ?_
       refine cw_seq ?_
       refine cw_draw H16 [0, 1, 2, 3, 4, 5, 6, 7] [] (fun X HX => HX) (by kernel_rfl) (by kernel_rfl) (by rfl) ?_
       simp only [pick, List.getElem?_cons_succ, List.getElem?_cons_zero]
       refine hk_y (fun Y HY => y_mov rfl rfl) rfl rfl ?_
       refine hk_y (fun Y HY => y_mov rfl rfl) rfl rfl ?_
       refine hk_y (fun Y HY => y_iar (i := 0) (hb.below HY.base) rfl rfl rfl kftile2_2 (rfl) (by omega) (Nat.mul_one _) (g0)) rfl rfl ?_
       refine hk_y (fun Y HY => y_ldr (hb.below HY.base) rfl rfl kftile2_3 (g0)) rfl rfl ?_
       refine hk_y (fun Y HY => y_conv rfl Tryz.underlying5 Tryz.underlying3 rfl (wi (by omega))) rfl rfl ?_
       refine hk_y (fun Y HY => y_asg rfl rfl) rfl rfl ?_
       refine hk_y (fun Y HY => y_asg rfl rfl) rfl rfl ?_
       refine hk_y (fun Y HY => y_asg rfl rfl) rfl rfl ?_
       refine hk_nil ?_
       intro w20 H21
       refine tv_nil ?_
       refine fn_next ?_
       refine cw_ret ?_
       refine fn_retn (vs := [_, _, _]) rfl ⟨rfl, rfl, rfl, trivial⟩ rfl ?_
       exact ⟨_, _, cs, nth bs 0, 0, rfl, tgF_g hR hne hk2 hF (by omega) (by omega) hG (by omega), (H21.pick (m := [_]) [0] rfl (by decide))⟩

end Go.Proofs.YtbnjbgcadkdljaaGreatDoor
