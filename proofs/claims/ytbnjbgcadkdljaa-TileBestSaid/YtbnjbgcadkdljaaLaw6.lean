/- Layer 6: the laws. -/
import Derived.Test.YtbnjbgcadkdljaaTile3
set_option linter.unusedVariables false
set_option linter.unusedSimpArgs false
namespace Go.Proofs.Ytbnjbgcadkdljaa
open Go Go.RowKit
theorem kflaw6_1 : (Try.prog.info? 2).map (fun i => (i.size, i.zero.map Value.cells)) = some (1, some (List.toArray [(.int .i64 0)])) := by kernel_rfl
theorem kflaw6_2 : (Try.prog.info? 2).map (fun i => (i.zero.map (·.cells.toList), i.size, i.bytes)) = some (some [(.int .i64 0)], 1, 8) := by kernel_rfl
theorem kflaw6_3 : callB Try.prog 19 = true := by kernel_rfl
theorem kflaw6_4 : callB Try.prog 16 = true := by kernel_rfl
theorem kflaw6_5 : callB Try.prog 20 = true := by kernel_rfl
theorem kflaw6_6 : callB Try.prog 21 = true := by kernel_rfl
theorem kflaw6_7 : callB Try.prog 22 = true := by kernel_rfl
theorem kflaw6_8 : callB Try.prog 23 = true := by kernel_rfl
theorem kflaw6_9 : callB Try.prog 13 = true := by kernel_rfl
theorem kflaw6_10 : callB Try.prog 24 = true := by kernel_rfl
theorem kflaw6_11 : callB Try.prog 17 = true := by kernel_rfl
theorem kflaw6_12 : callB Try.prog 18 = true := by kernel_rfl

set_option maxRecDepth 100000 in
theorem awake_t : tpF 1 (List.replicate 256 5) 16 16 = ([1, 10, 0, 254, 1], 0) := by decide +kernel
theorem rep_push {i : Nat} : vi .i64 (List.replicate i 5) ++ [.int .i64 5] = vi .i64 (List.replicate (i + 1) 5) := by rw [vi_push, List.replicate_succ']

set_option maxRecDepth 100000 in
theorem awake6  (w : World) :
    Ret Try.prog 16 [] w (fun v w' => v = .bool true ∧ Below w.heap.size w w') := by
 refine ret_enter Try.func16 rfl rfl rfl ?_
 have H0 := HS.start w
 refine cw_seq ?_
 refine cw_reg ?_
 refine ry (y_asg rfl rfl) rfl rfl ?_
 refine reg_nil ?_
 refine fn_next ?_
 refine cw_seq ?_
 refine cw_reg ?_
 refine reg_op (op_lit (parts := []) (vs := []) (cs := []) H0 rfl Try.underlying23 kflaw6_1 rfl trivial rfl rfl) rfl rfl ?_
 rintro _ w2 ⟨b1, rfl, H3⟩
 have H4 := H3.asrow (m := 0) (size := 1) rfl (by decide)
 refine ry (y_asg rfl rfl) rfl rfl ?_
 refine reg_nil ?_
 refine fn_next ?_
 refine cw_seq ?_
 refine cw_seq ?_
 refine cw_reg ?_
 refine ry (y_asg rfl rfl) rfl rfl ?_
 refine reg_nil ?_
 refine fn_next ?_
 refine cw_block ?_
 refine cw_loopJ [1, 2, 6, 7, 8, 9, 10, 11, 12] (fun M wl ml => ∃ (i : Nat) (A : Option Addr) (c : Nat), M = [(2, .int .i64 (i : Int)), (1, .slice A i c)] ∧ HS w wl [Ob.row A i c (vi .i64 (List.replicate i 5)) 2 1] ∧ (i ≤ 256) ∧ ml = 257 - i) ⟨0, _, _, rfl, H4, by omega, rfl⟩ ⟨rfl, rfl, trivial⟩ ?_
 rintro M w5 m7 ⟨i, A, c, rfl, H6, hi, rfl⟩
 refine cw_seq ?_
 refine cw_seq ?_
 refine cw_reg ?_
 refine ry (y_mov rfl rfl) rfl rfl ?_
 refine ry (y_lss rfl rfl rfl) rfl rfl ?_
 refine reg_nil ?_
 refine fn_next ?_
 refine cw_condd rfl (fun h8 => ?_) (fun h8 => ?_)
 ·skip
  refine cw_skip ?_
  refine fn_next ?_
  refine cw_seq ?_
  refine cw_block ?_
  refine cw_reg ?_
  refine ry (y_mov rfl rfl) rfl rfl ?_
  refine reg_op (op_lit (parts := [(0, _)]) (vs := [(0, _)]) (cs := [.int _ _]) H6 rfl Try.underlying23 kflaw6_1 rfl ⟨rfl, trivial⟩ rfl rfl) rfl rfl ?_
  rintro _ w10 ⟨b9, rfl, H11⟩
  have H12 := H11.asrow (m := 1) (size := 1) rfl (by decide)
  refine reg_op (op_app (i := 1) (ys := [.int .i64 5]) H12 rfl rfl rfl rfl (H12.rd (i := 0) rfl) (rfl) (rfl) Try.underlying23 kflaw6_2 rfl rfl (by unfold maxLen; omega) (by omega)) rfl rfl ?_
  rintro _ w15 ⟨A13, c14, rfl, H16⟩
  refine ry (y_asg rfl rfl) rfl rfl ?_
  refine reg_nil ?_
  refine fn_block ?_
  refine fn_next ?_
  refine cw_reg ?_
  refine ry (y_mov rfl rfl) rfl rfl ?_
  refine ry (y_add rfl rfl rfl (wi (by omega))) rfl rfl ?_
  refine ry (y_asg rfl rfl) rfl rfl ?_
  refine reg_nil ?_
  rw [rep_push] at H16
  refine fn_roundJ ⟨i + 1, _, _, rfl, (H16.pick (m := [_]) [1] rfl (by decide)), by omega, rfl⟩ ⟨rfl, rfl, trivial⟩ (by omega) (by repeat (first | exact kp_refl | refine kp_app rfl rfl ?_ | refine kp_cons rfl ?_)) rfl
 ·skip
  obtain rfl : i = 256 := by omega
  refine cw_exit ?_
  refine fn_then_exit (fn_then_exit (fn_block_exit ?_))
  refine fn_next ?_
  refine cw_seq ?_
  refine cw_reg ?_
  refine ry (y_mov rfl rfl) rfl rfl ?_
  refine reg_op (op_call (tilePut 1 16 16 (List.replicate 256 5) _ _ _ _ (H6.rd (i := 0) rfl) (by simp) ((H6.len (i := 0) rfl).2.1) (by omega)) rfl kflaw6_3 ⟨rfl, rfl, rfl, rfl, trivial⟩) rfl rfl ?_
  rintro _ w18 ⟨A20, c21, bs, e, rfl, hT, k17⟩
  have H19 := H6.call k17
  obtain ⟨rfl, rfl⟩ := Prod.mk.inj (awake_t.symm.trans hT)
  refine ry (y_mov rfl rfl) rfl rfl ?_
  refine ry (y_ext rfl rfl rfl) rfl rfl ?_
  refine ry (y_ext rfl rfl rfl) rfl rfl ?_
  refine ry (y_asg rfl rfl) rfl rfl ?_
  refine ry (y_asg rfl rfl) rfl rfl ?_
  refine reg_nil ?_
  refine fn_next ?_
  refine cw_seq ?_
  refine cw_reg ?_
  refine ry (y_mov rfl rfl) rfl rfl ?_
  refine ry (yv (congrArg Value.bool (decide_eq_true (rfl))) (y_eql rfl rfl rfl)) rfl rfl ?_
  refine ry (y_mov rfl rfl) rfl rfl ?_
  refine rgy (y_mov rfl rfl) rfl rfl rfl rfl ?_
  refine rgy (y_str rfl Try.underlying27 Try.underlying5 Try.underlying9 rfl (H19.rd (i := 0) rfl) (rfl)) rfl rfl rfl rfl ?_
  refine rgy (y_streq (b := [1, 10, 0, 254, 1]) rfl rfl rfl (by unfold Byt; decide) (by unfold Byt; decide)) rfl rfl rfl rfl ?_
  refine ry (y_pick rfl rfl rfl) rfl rfl ?_
  refine ry (y_asg rfl rfl) rfl rfl ?_
  refine reg_nil ?_
  refine fn_next ?_
  refine cw_ret ?_
  refine fn_ret1 rfl rfl ?_
  exact ⟨rfl, H19.base⟩

set_option maxRecDepth 100000 in
set_option maxHeartbeats 2000000 in
theorem tilePuts_any (kind p q : Int) (zs : List Int) (A : Option Addr) (n c : Nat) (w : World) (hz : Rd w A (vi .i64 zs)) (hl : zs.length = n) (hcap : n ≤ c) (hI : allI zs) :
    Ret Try.prog 7 [.int .i64 kind, .slice A n c, .int .i64 p, .int .i64 q] w (fun v w' => v = .bool true ∧ Below w.heap.size w w') := by
 refine ret_enter Try.func7 rfl rfl rfl ?_
 have H0 := HS.start w
 refine cw_seq ?_
 refine cw_reg ?_
 refine ry (y_asg rfl rfl) rfl rfl ?_
 refine reg_nil ?_
 refine fn_next ?_
 refine cw_seq ?_
 refine cw_seq ?_
 refine cw_reg ?_
 refine reg_op (op_call (awake6 _) rfl kflaw6_4 trivial) rfl rfl ?_
 rintro _ w2 ⟨rfl, e1⟩
 have H3 := H0.ext e1
 refine ry (y_not rfl rfl) rfl rfl ?_
 refine reg_nil ?_
 refine fn_next ?_
 refine cw_condf rfl ?_
 refine cw_skip ?_
 refine fn_next ?_
 refine cw_seq ?_
 refine cw_seq ?_
 refine cw_reg ?_
 refine ry (y_mov rfl rfl) rfl rfl ?_
 refine ry (y_len rfl Try.underlying23 rfl) rfl rfl ?_
 refine ry (y_gtr rfl rfl rfl) rfl rfl ?_
 refine reg_nil ?_
 refine fn_next ?_
 refine cw_condd rfl (fun h4 => ?_) (fun h4 => ?_)
 ·skip
  refine cw_seq ?_
  refine cw_reg ?_
  refine ry (y_asg rfl rfl) rfl rfl ?_
  refine reg_nil ?_
  refine fn_next ?_
  refine cw_ret ?_
  refine fn_then_ret ?_
  refine fn_ret1 rfl rfl ?_
  exact ⟨rfl, H3.base⟩
 ·skip
  refine cw_skip ?_
  refine fn_next ?_
  refine cw_seq ?_
  refine cw_reg ?_
  refine ry (y_mov rfl rfl) rfl rfl ?_
  refine ry (y_mov rfl rfl) rfl rfl ?_
  refine ry (y_mov rfl rfl) rfl rfl ?_
  refine ry (y_mov rfl rfl) rfl rfl ?_
  refine reg_op (op_call (tilePut kind p q zs _ _ _ _ (hz.below H3.base) (hl) (hcap) (by omega)) rfl kflaw6_3 ⟨rfl, rfl, rfl, rfl, trivial⟩) rfl rfl ?_
  rintro _ w6 ⟨A8, c9, bs, e, rfl, hT, k5⟩
  have H7 := H3.call k5
  refine ry (y_mov rfl rfl) rfl rfl ?_
  refine ry (y_ext rfl rfl rfl) rfl rfl ?_
  refine ry (y_ext rfl rfl rfl) rfl rfl ?_
  refine ry (y_asg rfl rfl) rfl rfl ?_
  refine ry (y_asg rfl rfl) rfl rfl ?_
  refine reg_nil ?_
  refine fn_next ?_
  refine cw_seq ?_
  refine cw_reg ?_
  refine ry (y_mov rfl rfl) rfl rfl ?_
  refine ry (y_mov rfl rfl) rfl rfl ?_
  refine ry (y_mov rfl rfl) rfl rfl ?_
  refine ry (y_mov rfl rfl) rfl rfl ?_
  refine reg_op (op_call (refTPut kind p q zs _ _ _ _ (hz.below H7.base) (hl)  (by omega)) rfl kflaw6_5 ⟨rfl, rfl, rfl, rfl, trivial⟩) rfl rfl ?_
  rintro _ w11 ⟨A13, c14, bs2, e2, rfl, hT2, k10⟩
  have H12 := H7.call k10
  obtain ⟨rfl, rfl⟩ := Prod.mk.inj (hT.symm.trans hT2)
  refine ry (y_mov rfl rfl) rfl rfl ?_
  refine ry (y_ext rfl rfl rfl) rfl rfl ?_
  refine ry (y_ext rfl rfl rfl) rfl rfl ?_
  refine ry (y_asg rfl rfl) rfl rfl ?_
  refine ry (y_asg rfl rfl) rfl rfl ?_
  refine reg_nil ?_
  refine fn_next ?_
  refine cw_seq ?_
  refine cw_seq ?_
  refine cw_reg ?_
  refine ry (y_mov rfl rfl) rfl rfl ?_
  refine ry (y_str rfl Try.underlying27 Try.underlying5 Try.underlying9 rfl (H12.rd (i := 1) rfl) (rfl)) rfl rfl ?_
  refine ry (y_mov rfl rfl) rfl rfl ?_
  refine ry (y_str rfl Try.underlying27 Try.underlying5 Try.underlying9 rfl (H12.rd (i := 0) rfl) (rfl)) rfl rfl ?_
  refine ry (yv (congrArg Value.bool (decide_eq_false (fun h => h rfl))) (y_strne rfl rfl rfl (okB_byt.1 (tpF_ok hT (by omega))) (okB_byt.1 (tpF_ok hT (by omega))))) rfl rfl ?_
  refine ry (y_mov rfl rfl) rfl rfl ?_
  refine rgy (y_mov rfl rfl) rfl rfl rfl rfl ?_
  refine rgy (y_mov rfl rfl) rfl rfl rfl rfl ?_
  refine rgy (yv (congrArg Value.bool (decide_eq_false (fun h => h rfl))) (y_neq rfl rfl rfl)) rfl rfl rfl rfl ?_
  refine ry (y_pick rfl rfl rfl) rfl rfl ?_
  refine ry (y_mov rfl rfl) rfl rfl ?_
  refine rgy (y_mov rfl rfl) rfl rfl rfl rfl ?_
  refine rgy (y_mov rfl rfl) rfl rfl rfl rfl ?_
  refine rg_on rfl rfl rfl (op_call (tileRight p q _) rfl kflaw6_6 ⟨rfl, rfl, trivial⟩) rfl ?_
  rintro _ w16 ⟨rfl, e15⟩
  have H17 := H12.ext e15
  refine rgy (y_mov rfl rfl) rfl rfl rfl rfl ?_
  refine rgy (y_mov rfl rfl) rfl rfl rfl rfl ?_
  refine rg_on rfl rfl rfl (op_call (refTRight p q _) rfl kflaw6_7 ⟨rfl, rfl, trivial⟩) rfl ?_
  rintro _ w19 ⟨rfl, e18⟩
  have H20 := H17.ext e18
  refine rgy (yv (congrArg Value.bool (show (!(decide (tR p q) == decide (tR p q))) = false by simp)) (y_bneq rfl Try.underlying4 rfl rfl)) rfl rfl rfl rfl ?_
  refine ry (y_pick rfl rfl rfl) rfl rfl ?_
  refine reg_nil ?_
  refine fn_next ?_
  refine cw_condf rfl ?_
  refine cw_skip ?_
  refine fn_next ?_
  refine cw_seq ?_
  refine cw_seq ?_
  refine cw_reg ?_
  refine ry (y_mov rfl rfl) rfl rfl ?_
  refine ry (y_neq rfl rfl rfl) rfl rfl ?_
  refine reg_nil ?_
  refine fn_next ?_
  refine cw_condd rfl (fun he => ?_) (fun he => ?_)
  ·skip
   refine cw_seq ?_
   refine cw_reg ?_
   refine ry (y_asg rfl rfl) rfl rfl ?_
   refine reg_nil ?_
   refine fn_next ?_
   refine cw_ret ?_
   refine fn_then_ret ?_
   refine fn_ret1 rfl rfl ?_
   exact ⟨rfl, H20.base⟩
  ·skip
   obtain ⟨hR, hK, hc0, rfl⟩ := tpF_inv hT (by omega)
   have hbo := tpF_ok hT (by omega)
   have hbl := tpF_len hT
   refine cw_skip ?_
   refine fn_next ?_
   refine cw_seq ?_
   refine cw_reg ?_
   refine ry (y_mov rfl rfl) rfl rfl ?_
   refine ry (y_mov rfl rfl) rfl rfl ?_
   refine ry (y_mov rfl rfl) rfl rfl ?_
   refine reg_op (op_call (tileGet p q _ _ _ _ _ (H20.rd (i := 1) rfl) rfl (H20.len (i := 1) rfl).2.1 hbo (by omega)) rfl kflaw6_8 ⟨rfl, rfl, rfl, trivial⟩) rfl rfl ?_
   rintro _ w23 ⟨A25, c26, zs2, k2, e2, rfl, hG, k22⟩
   have H24 := H20.call k22
   rw [tile_back hR hK hc0] at hG
   obtain ⟨rfl, hG2⟩ := Prod.mk.inj hG
   obtain ⟨rfl, rfl⟩ := Prod.mk.inj hG2
   refine ry (y_mov rfl rfl) rfl rfl ?_
   refine ry (y_ext rfl rfl rfl) rfl rfl ?_
   refine ry (y_ext rfl rfl rfl) rfl rfl ?_
   refine ry (y_ext rfl rfl rfl) rfl rfl ?_
   refine ry (y_asg rfl rfl) rfl rfl ?_
   refine ry (y_asg rfl rfl) rfl rfl ?_
   refine ry (y_asg rfl rfl) rfl rfl ?_
   refine reg_nil ?_
   refine fn_next ?_
   refine cw_seq ?_
   refine cw_reg ?_
   refine ry (y_mov rfl rfl) rfl rfl ?_
   refine ry (y_mov rfl rfl) rfl rfl ?_
   refine reg_op (op_call (refSame4 _ _ _ _ _ _ zs zs _ (H24.rd (i := 0) rfl) rfl (hz.below H24.base) (hl) (by omega)) rfl kflaw6_9 ⟨rfl, rfl, trivial⟩) rfl rfl ?_
   rintro _ w28 ⟨rfl, e27⟩
   have H29 := H24.ext e27
   refine ry (y_mov rfl rfl) rfl rfl ?_
   refine rg_splitd (d := 69) rfl (fun h30 => ?_) (fun h30 => ?_)
   ·skip
    refine rgy (y_mov rfl rfl) rfl rfl rfl rfl ?_
    refine rgy (y_mov rfl rfl) rfl rfl rfl rfl ?_
    refine rgy (y_eql rfl rfl rfl) rfl rfl rfl rfl ?_
    refine ry (y_pick rfl rfl rfl) rfl rfl ?_
    refine ry (y_mov rfl rfl) rfl rfl ?_
    refine rg_splitd (d := 74) rfl (fun h31 => ?_) (fun h31 => ?_)
    ·skip
     refine rgy (y_mov rfl rfl) rfl rfl rfl rfl ?_
     refine rgy (y_eql rfl rfl rfl) rfl rfl rfl rfl ?_
     refine ry (y_pick rfl rfl rfl) rfl rfl ?_
     refine ry (y_asg rfl rfl) rfl rfl ?_
     refine reg_nil ?_
     refine fn_next ?_
     refine cw_ret ?_
     refine fn_ret1 rfl rfl ?_
     exact ⟨by simp, H29.base⟩
    · exact absurd rfl h31
   · exact absurd rfl h30

set_option maxRecDepth 100000 in
set_option maxHeartbeats 2000000 in
theorem tileGets_any (p q : Int) (zb : List Int) (A : Option Addr) (n c : Nat) (w : World) (hb : Rd w A (vi .u8 zb)) (hl : zb.length = n) (hcap : n ≤ c) (hB : okB zb) :
    Ret Try.prog 8 [.slice A n c, .int .i64 p, .int .i64 q] w (fun v w' => v = .bool true ∧ Below w.heap.size w w') := by
 refine ret_enter Try.func8 rfl rfl rfl ?_
 have H0 := HS.start w
 refine cw_seq ?_
 refine cw_reg ?_
 refine ry (y_asg rfl rfl) rfl rfl ?_
 refine reg_nil ?_
 refine fn_next ?_
 refine cw_seq ?_
 refine cw_seq ?_
 refine cw_reg ?_
 refine reg_op (op_call (awake6 _) rfl kflaw6_4 trivial) rfl rfl ?_
 rintro _ w2 ⟨rfl, e1⟩
 have H3 := H0.ext e1
 refine ry (y_not rfl rfl) rfl rfl ?_
 refine reg_nil ?_
 refine fn_next ?_
 refine cw_condf rfl ?_
 refine cw_skip ?_
 refine fn_next ?_
 refine cw_seq ?_
 refine cw_seq ?_
 refine cw_reg ?_
 refine ry (y_mov rfl rfl) rfl rfl ?_
 refine ry (y_len rfl Try.underlying27 rfl) rfl rfl ?_
 refine ry (y_gtr rfl rfl rfl) rfl rfl ?_
 refine reg_nil ?_
 refine fn_next ?_
 refine cw_condd rfl (fun h4 => ?_) (fun h4 => ?_)
 ·skip
  refine cw_seq ?_
  refine cw_reg ?_
  refine ry (y_asg rfl rfl) rfl rfl ?_
  refine reg_nil ?_
  refine fn_next ?_
  refine cw_ret ?_
  refine fn_then_ret ?_
  refine fn_ret1 rfl rfl ?_
  exact ⟨rfl, H3.base⟩
 ·skip
  refine cw_skip ?_
  refine fn_next ?_
  refine cw_seq ?_
  refine cw_reg ?_
  refine ry (y_mov rfl rfl) rfl rfl ?_
  refine ry (y_mov rfl rfl) rfl rfl ?_
  refine ry (y_mov rfl rfl) rfl rfl ?_
  refine reg_op (op_call (tileGet p q zb A n c _ (hb.below H3.base) hl hcap hB (by omega)) rfl kflaw6_8 ⟨rfl, rfl, rfl, trivial⟩) rfl rfl ?_
  rintro _ w6 ⟨A8, c9, zs, k, e, rfl, hG, k5⟩
  have H7 := H3.call k5
  have hzl := tgF_len hB hG
  refine ry (y_mov rfl rfl) rfl rfl ?_
  refine ry (y_ext rfl rfl rfl) rfl rfl ?_
  refine ry (y_ext rfl rfl rfl) rfl rfl ?_
  refine ry (y_ext rfl rfl rfl) rfl rfl ?_
  refine ry (y_asg rfl rfl) rfl rfl ?_
  refine ry (y_asg rfl rfl) rfl rfl ?_
  refine ry (y_asg rfl rfl) rfl rfl ?_
  refine reg_nil ?_
  refine fn_next ?_
  refine cw_seq ?_
  refine cw_reg ?_
  refine ry (y_mov rfl rfl) rfl rfl ?_
  refine ry (y_mov rfl rfl) rfl rfl ?_
  refine ry (y_mov rfl rfl) rfl rfl ?_
  refine reg_op (op_call (refTGet p q zb A n c _ (hb.below H7.base) hl hcap hB (by omega)) rfl kflaw6_10 ⟨rfl, rfl, rfl, trivial⟩) rfl rfl ?_
  rintro _ w11 ⟨A13, c14, zs2, k2, e2, rfl, hG2, k10⟩
  have H12 := H7.call k10
  rw [hG] at hG2
  obtain ⟨rfl, hG3⟩ := Prod.mk.inj hG2
  obtain ⟨rfl, rfl⟩ := Prod.mk.inj hG3
  refine ry (y_mov rfl rfl) rfl rfl ?_
  refine ry (y_ext rfl rfl rfl) rfl rfl ?_
  refine ry (y_ext rfl rfl rfl) rfl rfl ?_
  refine ry (y_ext rfl rfl rfl) rfl rfl ?_
  refine ry (y_asg rfl rfl) rfl rfl ?_
  refine ry (y_asg rfl rfl) rfl rfl ?_
  refine ry (y_asg rfl rfl) rfl rfl ?_
  refine reg_nil ?_
  refine fn_next ?_
  refine cw_seq ?_
  refine cw_seq ?_
  refine cw_reg ?_
  refine ry (y_mov rfl rfl) rfl rfl ?_
  refine ry (y_mov rfl rfl) rfl rfl ?_
  refine reg_op (op_call (refSame4 _ _ _ _ _ _ zs zs _ (H12.rd (i := 1) rfl) rfl (H12.rd (i := 0) rfl) (rfl) (by omega)) rfl kflaw6_9 ⟨rfl, rfl, trivial⟩) rfl rfl ?_
  rintro _ w16 ⟨rfl, e15⟩
  have H17 := H12.ext e15
  refine ry (y_notd rfl rfl) rfl rfl ?_
  refine ry (y_mov rfl rfl) rfl rfl ?_
  refine rg_splitd (d := 40) rfl (fun h18 => ?_) (fun h18 => ?_)
  · exact absurd rfl h18
  ·skip
   refine rgy (y_mov rfl rfl) rfl rfl rfl rfl ?_
   refine rgy (y_mov rfl rfl) rfl rfl rfl rfl ?_
   refine rgy (yv (congrArg Value.bool (decide_eq_false (fun h => h rfl))) (y_neq rfl rfl rfl)) rfl rfl rfl rfl ?_
   refine ry (y_pick rfl rfl rfl) rfl rfl ?_
   refine ry (y_mov rfl rfl) rfl rfl ?_
   refine rgy (y_mov rfl rfl) rfl rfl rfl rfl ?_
   refine rgy (y_mov rfl rfl) rfl rfl rfl rfl ?_
   refine rgy (yv (congrArg Value.bool (decide_eq_false (fun h => h rfl))) (y_neq rfl rfl rfl)) rfl rfl rfl rfl ?_
   refine ry (y_pick rfl rfl rfl) rfl rfl ?_
   refine reg_nil ?_
   refine fn_next ?_
   refine cw_condf rfl ?_
   refine cw_skip ?_
   refine fn_next ?_
   refine cw_seq ?_
   refine cw_seq ?_
   refine cw_reg ?_
   refine ry (y_mov rfl rfl) rfl rfl ?_
   refine ry (y_neq rfl rfl rfl) rfl rfl ?_
   refine reg_nil ?_
   refine fn_next ?_
   refine cw_condd rfl (fun he => ?_) (fun he => ?_)
   ·skip
    refine cw_seq ?_
    refine cw_reg ?_
    refine ry (y_asg rfl rfl) rfl rfl ?_
    refine reg_nil ?_
    refine fn_next ?_
    refine cw_ret ?_
    refine fn_then_ret ?_
    refine fn_ret1 rfl rfl ?_
    exact ⟨rfl, H17.base⟩
   ·skip
    obtain rfl : e = 0 := by omega
    obtain ⟨hR, _, hc0, _⟩ := tpF_inv (tile_again hB hG) rfl
    have hzl2 := (ckF_ok hc0).1
    have hmul := tR_mul hR
    refine cw_skip ?_
    refine fn_next ?_
    refine cw_seq ?_
    refine cw_reg ?_
    refine ry (y_mov rfl rfl) rfl rfl ?_
    refine ry (y_mov rfl rfl) rfl rfl ?_
    refine ry (y_mov rfl rfl) rfl rfl ?_
    refine ry (y_mov rfl rfl) rfl rfl ?_
    refine reg_op (op_call (tilePut k p q zs _ _ _ _ (H17.rd (i := 1) rfl) rfl (H17.len (i := 1) rfl).2.1 (by omega)) rfl kflaw6_3 ⟨rfl, rfl, rfl, rfl, trivial⟩) rfl rfl ?_
    rintro _ w21 ⟨A23, c24, bs3, e3, rfl, hT, k20⟩
    have H22 := H17.call k20
    rw [tile_again hB hG] at hT
    obtain ⟨rfl, rfl⟩ := Prod.mk.inj hT
    refine ry (y_mov rfl rfl) rfl rfl ?_
    refine ry (y_ext rfl rfl rfl) rfl rfl ?_
    refine ry (y_ext rfl rfl rfl) rfl rfl ?_
    refine ry (y_asg rfl rfl) rfl rfl ?_
    refine ry (y_asg rfl rfl) rfl rfl ?_
    refine reg_nil ?_
    refine fn_next ?_
    refine cw_seq ?_
    refine cw_reg ?_
    refine ry (y_mov rfl rfl) rfl rfl ?_
    refine ry (y_eql rfl rfl rfl) rfl rfl ?_
    refine ry (y_mov rfl rfl) rfl rfl ?_
    refine rg_splitd (d := 62) rfl (fun h25 => ?_) (fun h25 => ?_)
    ·skip
     refine rgy (y_mov rfl rfl) rfl rfl rfl rfl ?_
     refine rgy (y_str rfl Try.underlying27 Try.underlying5 Try.underlying9 rfl (H22.rd (i := 0) rfl) (rfl)) rfl rfl rfl rfl ?_
     refine rgy (y_mov rfl rfl) rfl rfl rfl rfl ?_
     refine rgy (y_str rfl Try.underlying27 Try.underlying5 Try.underlying9 rfl (hb.below H22.base) (hl)) rfl rfl rfl rfl ?_
     refine rgy (y_streq rfl rfl rfl (okB_byt.1 hB) (okB_byt.1 hB)) rfl rfl rfl rfl ?_
     refine ry (y_pick rfl rfl rfl) rfl rfl ?_
     refine ry (y_asg rfl rfl) rfl rfl ?_
     refine reg_nil ?_
     refine fn_next ?_
     refine cw_ret ?_
     refine fn_ret1 rfl rfl ?_
     exact ⟨by simp, H22.base⟩
    · exact absurd rfl h25

set_option maxRecDepth 100000 in
set_option maxHeartbeats 2000000 in
theorem tileBest_any (p q : Int) (zs : List Int) (A : Option Addr) (n c : Nat) (w : World) (hz : Rd w A (vi .i64 zs)) (hl : zs.length = n) (hcap : n ≤ c) (hI : allI zs) :
    Ret Try.prog 6 [.slice A n c, .int .i64 p, .int .i64 q] w (fun v w' => v = .bool true ∧ Below w.heap.size w w') := by
 refine ret_enter Try.func6 rfl rfl rfl ?_
 have H0 := HS.start w
 refine cw_seq ?_
 refine cw_reg ?_
 refine ry (y_asg rfl rfl) rfl rfl ?_
 refine reg_nil ?_
 refine fn_next ?_
 refine cw_seq ?_
 refine cw_seq ?_
 refine cw_reg ?_
 refine reg_op (op_call (awake6 _) rfl kflaw6_4 trivial) rfl rfl ?_
 rintro _ w2 ⟨rfl, e1⟩
 have H3 := H0.ext e1
 refine ry (y_not rfl rfl) rfl rfl ?_
 refine reg_nil ?_
 refine fn_next ?_
 refine cw_condf rfl ?_
 refine cw_skip ?_
 refine fn_next ?_
 refine cw_seq ?_
 refine cw_seq ?_
 refine cw_reg ?_
 refine ry (y_mov rfl rfl) rfl rfl ?_
 refine ry (y_len rfl Try.underlying23 rfl) rfl rfl ?_
 refine ry (y_gtr rfl rfl rfl) rfl rfl ?_
 refine reg_nil ?_
 refine fn_next ?_
 refine cw_condd rfl (fun h4 => ?_) (fun h4 => ?_)
 ·skip
  refine cw_seq ?_
  refine cw_reg ?_
  refine ry (y_asg rfl rfl) rfl rfl ?_
  refine reg_nil ?_
  refine fn_next ?_
  refine cw_ret ?_
  refine fn_then_ret ?_
  refine fn_ret1 rfl rfl ?_
  exact ⟨rfl, H3.base⟩
 ·skip
  refine cw_skip ?_
  refine fn_next ?_
  refine cw_seq ?_
  refine cw_reg ?_
  refine ry (y_mov rfl rfl) rfl rfl ?_
  refine ry (y_mov rfl rfl) rfl rfl ?_
  refine ry (y_mov rfl rfl) rfl rfl ?_
  refine reg_op (op_call (tileBest p q zs A n c _ (hz.below H3.base) hl hcap (by omega)) rfl kflaw6_11 ⟨rfl, rfl, rfl, trivial⟩) rfl rfl ?_
  rintro _ w6 ⟨k, e, rfl, hQ, e5⟩
  have H7 := H3.ext e5
  refine ry (y_mov rfl rfl) rfl rfl ?_
  refine ry (y_ext rfl rfl rfl) rfl rfl ?_
  refine ry (y_ext rfl rfl rfl) rfl rfl ?_
  refine ry (y_asg rfl rfl) rfl rfl ?_
  refine ry (y_asg rfl rfl) rfl rfl ?_
  refine reg_nil ?_
  refine fn_next ?_
  refine cw_seq ?_
  refine cw_reg ?_
  refine ry (y_mov rfl rfl) rfl rfl ?_
  refine ry (y_mov rfl rfl) rfl rfl ?_
  refine ry (y_mov rfl rfl) rfl rfl ?_
  refine reg_op (op_call (refTBest p q zs A n c _ (hz.below H7.base) hl (by omega)) rfl kflaw6_12 ⟨rfl, rfl, rfl, trivial⟩) rfl rfl ?_
  rintro _ w9 ⟨k2, e2, rfl, hQ2, e8⟩
  have H10 := H7.ext e8
  obtain ⟨rfl, rfl⟩ := tbQ_fun hQ hQ2
  refine ry (y_mov rfl rfl) rfl rfl ?_
  refine ry (y_ext rfl rfl rfl) rfl rfl ?_
  refine ry (y_ext rfl rfl rfl) rfl rfl ?_
  refine ry (y_asg rfl rfl) rfl rfl ?_
  refine ry (y_asg rfl rfl) rfl rfl ?_
  refine reg_nil ?_
  refine fn_next ?_
  refine cw_seq ?_
  refine cw_seq ?_
  refine cw_reg ?_
  refine ry (y_mov rfl rfl) rfl rfl ?_
  refine ry (y_mov rfl rfl) rfl rfl ?_
  refine ry (yv (congrArg Value.bool (decide_eq_false (fun h => h rfl))) (y_neq rfl rfl rfl)) rfl rfl ?_
  refine ry (y_mov rfl rfl) rfl rfl ?_
  refine rgy (y_mov rfl rfl) rfl rfl rfl rfl ?_
  refine rgy (y_mov rfl rfl) rfl rfl rfl rfl ?_
  refine rgy (yv (congrArg Value.bool (decide_eq_false (fun h => h rfl))) (y_neq rfl rfl rfl)) rfl rfl rfl rfl ?_
  refine ry (y_pick rfl rfl rfl) rfl rfl ?_
  refine reg_nil ?_
  refine fn_next ?_
  refine cw_condf rfl ?_
  refine cw_skip ?_
  refine fn_next ?_
  refine cw_seq ?_
  refine cw_seq ?_
  refine cw_reg ?_
  refine ry (y_mov rfl rfl) rfl rfl ?_
  refine ry (y_neq rfl rfl rfl) rfl rfl ?_
  refine reg_nil ?_
  refine fn_next ?_
  refine cw_condd rfl (fun he => ?_) (fun he => ?_)
  ·skip
   refine cw_seq ?_
   refine cw_reg ?_
   refine ry (y_asg rfl rfl) rfl rfl ?_
   refine reg_nil ?_
   refine fn_next ?_
   refine cw_ret ?_
   refine fn_then_ret ?_
   refine fn_ret1 rfl rfl ?_
   exact ⟨rfl, H10.base⟩
  ·skip
   obtain rfl : e = 0 := by omega
   obtain ⟨hR, hc0, b, rfl, hb3, hin⟩ : tR p q ∧ ckF zs p q = 0 ∧ ∃ b : Nat, k = b ∧ b < 3 ∧ bInv (LT zs p) 3 b := by
     rcases hQ with ⟨_, _, h⟩ | ⟨_, h, _, h2⟩ | ⟨h, h2, _, h3⟩
     · omega
     · omega
     · exact ⟨h, h2, h3⟩
   refine cw_skip ?_
   refine fn_next ?_
   refine cw_seq ?_
   refine cw_reg ?_
   refine ry (y_mov rfl rfl) rfl rfl ?_
   refine ry (y_mov rfl rfl) rfl rfl ?_
   refine ry (y_mov rfl rfl) rfl rfl ?_
   refine ry (y_mov rfl rfl) rfl rfl ?_
   refine reg_op (op_call (tilePut (b : Int) p q zs _ _ _ _ (hz.below H10.base) (hl) (hcap) (by omega)) rfl kflaw6_3 ⟨rfl, rfl, rfl, rfl, trivial⟩) rfl rfl ?_
   rintro _ w13 ⟨A15, c16, bs0, e0, rfl, hT0, k12⟩
   have H14 := H10.call k12
   obtain rfl : e0 = 0 := Classical.byContradiction fun he => by rcases tpF_err hT0 ⟨by omega, by omega⟩ he with ⟨h, _⟩ | ⟨_, h, _⟩; exact h hR; exact h hc0
   obtain ⟨_, _, _, rfl⟩ := tpF_inv hT0 rfl
   refine ry (y_mov rfl rfl) rfl rfl ?_
   refine ry (y_ext rfl rfl rfl) rfl rfl ?_
   refine ry (y_ext rfl rfl rfl) rfl rfl ?_
   refine ry (y_asg rfl rfl) rfl rfl ?_
   refine ry (y_asg rfl rfl) rfl rfl ?_
   refine reg_nil ?_
   refine fn_next ?_
   refine cw_seq ?_
   refine cw_seq ?_
   refine cw_reg ?_
   refine ry (y_mov rfl rfl) rfl rfl ?_
   refine ry (y_neq rfl rfl rfl) rfl rfl ?_
   refine reg_nil ?_
   refine fn_next ?_
   refine cw_condd rfl (fun h17 => ?_) (fun h17 => ?_)
   · exact absurd rfl h17
   ·skip
    refine cw_skip ?_
    refine fn_next ?_
    refine cw_seq ?_
    refine cw_seq ?_
    refine cw_reg ?_
    refine ry (y_asg rfl rfl) rfl rfl ?_
    refine reg_nil ?_
    refine fn_next ?_
    refine cw_block ?_
    refine cw_loopJ [6, 13, 14, 15, 55, 56, 57, 58, 59, 60, 61, 62, 63, 64, 65, 66, 67, 68, 69, 70, 71, 72, 73, 74, 75, 76, 77, 78, 79, 80, 81, 82, 83, 84, 85, 86, 87] (fun M wl ml => ∃ (i : Nat), M = [(13, .int .i64 (i : Int))] ∧ HS w wl [] ∧ (i ≤ 3) ∧ ml = 4 - i) ⟨0, rfl, (H14.pick (m := []) [] rfl (by decide)), by omega, rfl⟩ ⟨rfl, trivial⟩ ?_
    rintro M w18 m20 ⟨i, rfl, H19, hi3, rfl⟩
    refine cw_seq ?_
    refine cw_seq ?_
    refine cw_reg ?_
    refine ry (y_mov rfl rfl) rfl rfl ?_
    refine ry (y_lss rfl rfl rfl) rfl rfl ?_
    refine reg_nil ?_
    refine fn_next ?_
    refine cw_condd rfl (fun h21 => ?_) (fun h21 => ?_)
    ·skip
     refine cw_skip ?_
     refine fn_next ?_
     refine cw_seq ?_
     refine cw_block ?_
     refine cw_seq ?_
     refine cw_reg ?_
     refine ry (y_mov rfl rfl) rfl rfl ?_
     refine ry (y_mov rfl rfl) rfl rfl ?_
     refine ry (y_mov rfl rfl) rfl rfl ?_
     refine ry (y_mov rfl rfl) rfl rfl ?_
     refine reg_op (op_call (tilePut (i : Int) p q zs _ _ _ _ (hz.below H19.base) (hl) (hcap) (by omega)) rfl kflaw6_3 ⟨rfl, rfl, rfl, rfl, trivial⟩) rfl rfl ?_
     rintro _ w23 ⟨A25, c26, bs1, e1, rfl, hT1, k22⟩
     have H24 := H19.call k22
     obtain rfl : e1 = 0 := Classical.byContradiction fun he => by rcases tpF_err hT1 ⟨by omega, by omega⟩ he with ⟨h, _⟩ | ⟨_, h, _⟩; exact h hR; exact h hc0
     obtain ⟨_, _, _, rfl⟩ := tpF_inv hT1 rfl
     have hb1 := hin i (by omega)
     have hL0 : (((b : Int) :: runsB (rn (restsL (b : Int) zs p zs.length) 0)).length : Int) = (LT zs p b : Int) + 1 := rfl
     have hL1 : (((i : Int) :: runsB (rn (restsL (i : Int) zs p zs.length) 0)).length : Int) = (LT zs p i : Int) + 1 := rfl
     refine ry (y_mov rfl rfl) rfl rfl ?_
     refine ry (y_ext rfl rfl rfl) rfl rfl ?_
     refine ry (y_ext rfl rfl rfl) rfl rfl ?_
     refine ry (y_asg rfl rfl) rfl rfl ?_
     refine ry (y_asg rfl rfl) rfl rfl ?_
     refine reg_nil ?_
     refine fn_next ?_
     refine cw_seq ?_
     refine cw_reg ?_
     refine ry (y_mov rfl rfl) rfl rfl ?_
     refine ry (yv (congrArg Value.bool (decide_eq_false (fun h => h rfl))) (y_neq rfl rfl rfl)) rfl rfl ?_
     refine ry (y_mov rfl rfl) rfl rfl ?_
     refine rgy (y_mov rfl rfl) rfl rfl rfl rfl ?_
     refine rgy (y_len rfl Try.underlying27 rfl) rfl rfl rfl rfl ?_
     refine rgy (y_mov rfl rfl) rfl rfl rfl rfl ?_
     refine rgy (y_len rfl Try.underlying27 rfl) rfl rfl rfl rfl ?_
     refine rgy (y_lss rfl rfl rfl) rfl rfl rfl rfl ?_
     refine ry (y_pick rfl rfl rfl) rfl rfl ?_
     refine ry (y_mov rfl rfl) rfl rfl ?_
     refine rg_splitd (d := 76) rfl (fun h27 => ?_) (fun h27 => ?_)
     · exfalso; omega
     ·skip
      refine rgy (y_mov rfl rfl) rfl rfl rfl rfl ?_
      refine rgy (y_len rfl Try.underlying27 rfl) rfl rfl rfl rfl ?_
      refine rgy (y_mov rfl rfl) rfl rfl rfl rfl ?_
      refine rgy (y_len rfl Try.underlying27 rfl) rfl rfl rfl rfl ?_
      refine rgy (y_eql rfl rfl rfl) rfl rfl rfl rfl ?_
      refine rgy (y_mov rfl rfl) rfl rfl rfl rfl ?_
      refine rg_splitd (d := 82) rfl (fun h28 => ?_) (fun h28 => ?_)
      ·skip
       refine rgy (y_mov rfl rfl) rfl rfl rfl rfl ?_
       refine rgy (y_mov rfl rfl) rfl rfl rfl rfl ?_
       refine rgy (y_lss rfl rfl rfl) rfl rfl rfl rfl ?_
       refine rgy (y_pick rfl rfl rfl) rfl rfl rfl rfl ?_
       refine ry (y_pick rfl rfl rfl) rfl rfl ?_
       refine reg_nil ?_
       refine fn_next ?_
       refine cw_condd rfl (fun h29 => ?_) (fun h29 => ?_)
       · exfalso; omega
       ·skip
        refine cw_skip ?_
        refine fn_block ?_
        refine fn_next ?_
        refine cw_reg ?_
        refine ry (y_mov rfl rfl) rfl rfl ?_
        refine ry (y_add rfl rfl rfl (wi (by omega))) rfl rfl ?_
        refine ry (y_asg rfl rfl) rfl rfl ?_
        refine reg_nil ?_
        refine fn_roundJ ⟨i + 1, rfl, (H24.pick (m := []) [] rfl (by decide)), by omega, rfl⟩ ⟨rfl, trivial⟩ (by omega) (by repeat (first | exact kp_refl | refine kp_app rfl rfl ?_ | refine kp_cons rfl ?_)) rfl
      ·skip
       refine rg_off rfl rfl rfl rfl rfl ?_
       refine rg_off rfl rfl rfl rfl rfl ?_
       refine rg_off rfl rfl rfl rfl rfl ?_
       refine rgy (y_pick rfl rfl rfl) rfl rfl rfl rfl ?_
       refine ry (y_pick rfl rfl rfl) rfl rfl ?_
       refine reg_nil ?_
       refine fn_next ?_
       refine cw_condf rfl ?_
       refine cw_skip ?_
       refine fn_block ?_
       refine fn_next ?_
       refine cw_reg ?_
       refine ry (y_mov rfl rfl) rfl rfl ?_
       refine ry (y_add rfl rfl rfl (wi (by omega))) rfl rfl ?_
       refine ry (y_asg rfl rfl) rfl rfl ?_
       refine reg_nil ?_
       refine fn_roundJ ⟨i + 1, rfl, (H24.pick (m := []) [] rfl (by decide)), by omega, rfl⟩ ⟨rfl, trivial⟩ (by omega) (by repeat (first | exact kp_refl | refine kp_app rfl rfl ?_ | refine kp_cons rfl ?_)) rfl
    ·skip
     refine cw_exit ?_
     refine fn_then_exit (fn_then_exit (fn_block_exit ?_))
     refine fn_next ?_
     refine cw_seq ?_
     refine cw_reg ?_
     refine ry (y_asg rfl rfl) rfl rfl ?_
     refine reg_nil ?_
     refine fn_next ?_
     refine cw_ret ?_
     refine fn_ret1 rfl rfl ?_
     exact ⟨rfl, H19.base⟩

theorem tilePuts_walk (kind : Int) (zs : List Int) (A : Option Addr) (n c : Nat) (p q : Int) (W : World) (_ : I6 kind) (hr : Ints .i64 W A n zs) (h3 : n ≤ c) (h4 : c ≤ maxLen) (hI : ∀ z ∈ zs, -9223372036854775808 ≤ z ∧ z ≤ 9223372036854775807) (_ : I6 p) (_ : I6 q) :
    Calls Try.prog 7 #[.int .i64 kind, .slice A n c, .int .i64 p, .int .i64 q] W fun e W' => e = .returned (.bool true) ∧ Below W.heap.size W W' :=
  lawOf (tilePuts_any kind p q zs A n c W (Rd.of_ints hr) hr.len h3 hI)
theorem tileGets_walk (zb : List Int) (A : Option Addr) (n c : Nat) (p q : Int) (W : World) (hb : Ints .u8 W A n zb) (h1 : n ≤ c) (h2 : c ≤ maxLen) (hB : ∀ z ∈ zb, 0 ≤ z ∧ z ≤ 255) (_ : I6 p) (_ : I6 q) :
    Calls Try.prog 8 #[.slice A n c, .int .i64 p, .int .i64 q] W fun e W' => e = .returned (.bool true) ∧ Below W.heap.size W W' :=
  lawOf (tileGets_any p q zb A n c W (Rd.of_ints hb) hb.len h1 hB)
theorem tileBest_walk (zs : List Int) (A : Option Addr) (n c : Nat) (p q : Int) (W : World) (hr : Ints .i64 W A n zs) (h3 : n ≤ c) (h4 : c ≤ maxLen) (hI : ∀ z ∈ zs, -9223372036854775808 ≤ z ∧ z ≤ 9223372036854775807) (_ : I6 p) (_ : I6 q) :
    Calls Try.prog 6 #[.slice A n c, .int .i64 p, .int .i64 q] W fun e W' => e = .returned (.bool true) ∧ Below W.heap.size W W' :=
  lawOf (tileBest_any p q zs A n c W (Rd.of_ints hr) hr.len h3 hI)

end Go.Proofs.Ytbnjbgcadkdljaa
