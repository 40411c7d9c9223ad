/- Layer 42: beside, below; what isn't there; the laws' parts. -/
import Derived.Test.YtbhmkpnihgjlnaaTurn4
set_option linter.unusedVariables false
set_option linter.unusedSimpArgs false
namespace Go.Proofs.Ytbhmkpnihgjlnaa
open Go Go.RowKit
theorem kfturn5_1 : callB Try.prog 62 = true := by kernel_rfl
theorem kfturn5_2 : (Try.prog.info? 46).bind (fun i => i.zero.map Value.cells) = some (List.toArray [(.int .i64 0), (.int .i64 0)]) := by kernel_rfl
theorem kfturn5_3 : callB Try.prog 85 = true := by kernel_rfl
theorem kfturn5_4 : aggB Try.prog 55 4 = true := by kernel_rfl
theorem kfturn5_5 : callB Try.prog 58 = true := by kernel_rfl
theorem kfturn5_6 : (Try.prog.info? 2).map (fun i => (i.size, i.zero.map Value.cells)) = some (1, some (List.toArray [(.int .i64 0)])) := by kernel_rfl
theorem kfturn5_7 : callB Try.prog 52 = true := by kernel_rfl
theorem kfturn5_8 : callB Try.prog 39 = true := by kernel_rfl
theorem kfturn5_9 : (Try.prog.info? 25).bind (fun i => i.zero.map Value.cells) = some (List.toArray [(.int .i64 0), (.int .i64 0), (.slice none 0 0)]) := by kernel_rfl
theorem kfturn5_10 : callB Try.prog 22 = true := by kernel_rfl
theorem kfturn5_11 : callB Try.prog 29 = true := by kernel_rfl
theorem kfturn5_12 : callB Try.prog 45 = true := by kernel_rfl
theorem kfturn5_13 : callB Try.prog 40 = true := by kernel_rfl
theorem kfturn5_14 : callB Try.prog 41 = true := by kernel_rfl
theorem kfturn5_15 : callB Try.prog 30 = true := by kernel_rfl
theorem kfturn5_16 : callB Try.prog 32 = true := by kernel_rfl
theorem kfturn5_17 : callB Try.prog 46 = true := by kernel_rfl
theorem kfturn5_18 : callB Try.prog 47 = true := by kernel_rfl

set_option maxRecDepth 100000 in
theorem gBeside_n (g a h : Nat) (V : List Int) (g2 a2 h2 : Nat) (V2 : List Int) (w : World) (R : GRd w g a h V) (R2 : GRd w g2 a2 h2 V2) (hn : ¬ h = h2) :
    Ret Try.prog 46 [.pointer (some ⟨g, 0, none⟩), .pointer (some ⟨g2, 0, none⟩)] w (fun z w' => z = .tuple #[.pointer none, .int .i64 (6)] ∧ Below w.heap.size w w') := by
  have hgv := R.gv; have z1 := hgv.a1; have z2 := hgv.a2; have z3 := hgv.h1; have z4 := hgv.h2
  have hgv2 := R2.gv; have y1 := hgv2.a1; have y2 := hgv2.a2; have y3 := hgv2.h1; have y4 := hgv2.h2
  refine ret_enter Try.func46 rfl rfl rfl ?_
  have H0 := HS.start w
  refine cw_seq ?_
  refine cw_reg ?_
  refine ry (y_asg rfl rfl) rfl rfl ?_
  refine ry (y_asg rfl rfl) rfl rfl ?_
  refine reg_nil ?_
  refine fn_next ?_
  refine cw_seq ?_
  refine cw_reg ?_
  refine ry (y_mov rfl rfl) rfl rfl ?_
  refine reg_op (op_call (gSize g a h (V)  _ (R.below H0.base)) rfl kfturn5_1 ⟨rfl, trivial⟩) rfl rfl ?_
  rintro _ w2 ⟨rfl, e1⟩
  have H3 := H0.ext e1
  refine ry (y_mov rfl rfl) rfl rfl ?_
  refine ry (y_ext rfl rfl rfl) rfl rfl ?_
  refine ry (y_ext rfl rfl rfl) rfl rfl ?_
  refine ry (y_asg rfl rfl) rfl rfl ?_
  refine ry (y_asg rfl rfl) rfl rfl ?_
  refine reg_nil ?_
  refine fn_next ?_
  refine cw_seq ?_
  refine cw_reg ?_
  refine ry (y_mov rfl rfl) rfl rfl ?_
  refine reg_op (op_call (gSize g2 a2 h2 (V2)  _ (R2.below H3.base)) rfl kfturn5_1 ⟨rfl, trivial⟩) rfl rfl ?_
  rintro _ w5 ⟨rfl, e4⟩
  have H6 := H3.ext e4
  refine ry (y_mov rfl rfl) rfl rfl ?_
  refine ry (y_ext rfl rfl rfl) rfl rfl ?_
  refine ry (y_ext rfl rfl rfl) rfl rfl ?_
  refine ry (y_asg rfl rfl) rfl rfl ?_
  refine ry (y_asg rfl rfl) rfl rfl ?_
  refine reg_nil ?_
  refine fn_next ?_
  refine cw_seq ?_
  refine cw_block ?_
  refine cw_seq ?_
  refine cw_reg ?_
  refine ry (y_mov rfl rfl) rfl rfl ?_
  refine ry (y_peqlnil rfl Try.underlying28 rfl rfl) rfl rfl ?_
  refine ry (y_mov rfl rfl) rfl rfl ?_
  refine rgy (y_mov rfl rfl) rfl rfl rfl rfl ?_
  refine rgy (y_peqlnil rfl Try.underlying28 rfl rfl) rfl rfl rfl rfl ?_
  refine ry (y_pick rfl rfl rfl) rfl rfl ?_
  refine ry (y_asg rfl rfl) rfl rfl ?_
  refine reg_nil ?_
  refine fn_next ?_
  refine cw_condf rfl ?_
  refine cw_seq ?_
  refine cw_reg ?_
  refine ry (y_mov rfl rfl) rfl rfl ?_
  refine ry (y_mov rfl rfl) rfl rfl ?_
  refine ry (y_neq rfl rfl rfl) rfl rfl ?_
  refine ry (y_asg rfl rfl) rfl rfl ?_
  refine reg_nil ?_
  refine fn_next ?_
  refine cw_condd rfl (fun h7 => ?_) (fun h7 => ?_)
  · skip
    refine cw_seq ?_
    refine cw_reg ?_
    refine ry (y_asg rfl rfl) rfl rfl ?_
    refine ry (y_asg rfl rfl) rfl rfl ?_
    refine reg_nil ?_
    refine fn_next ?_
    refine cw_ret ?_
    refine fn_block_ret (fn_then_ret ?_)
    refine fn_retn (vs := [_, _]) rfl ⟨rfl, rfl, trivial⟩ rfl ?_
    exact ⟨rfl, H6.base⟩
  · exfalso; omega

set_option maxRecDepth 100000 in
theorem gBeside_s (g a h : Nat) (V : List Int) (g2 a2 h2 : Nat) (V2 : List Int) (w : World) (R : GRd w g a h V) (R2 : GRd w g2 a2 h2 V2) (hn : h = h2) (hs : ¬ a + a2 ≤ 1024) :
    Ret Try.prog 46 [.pointer (some ⟨g, 0, none⟩), .pointer (some ⟨g2, 0, none⟩)] w (fun z w' => z = .tuple #[.pointer none, .int .i64 (3)] ∧ Below w.heap.size w w') := by
  have hgv := R.gv; have z1 := hgv.a1; have z2 := hgv.a2; have z3 := hgv.h1; have z4 := hgv.h2
  have hgv2 := R2.gv; have y1 := hgv2.a1; have y2 := hgv2.a2; have y3 := hgv2.h1; have y4 := hgv2.h2
  refine ret_enter Try.func46 rfl rfl rfl ?_
  have H0 := HS.start w
  refine cw_seq ?_
  refine cw_reg ?_
  refine ry (y_asg rfl rfl) rfl rfl ?_
  refine ry (y_asg rfl rfl) rfl rfl ?_
  refine reg_nil ?_
  refine fn_next ?_
  refine cw_seq ?_
  refine cw_reg ?_
  refine ry (y_mov rfl rfl) rfl rfl ?_
  refine reg_op (op_call (gSize g a h (V)  _ (R.below H0.base)) rfl kfturn5_1 ⟨rfl, trivial⟩) rfl rfl ?_
  rintro _ w2 ⟨rfl, e1⟩
  have H3 := H0.ext e1
  refine ry (y_mov rfl rfl) rfl rfl ?_
  refine ry (y_ext rfl rfl rfl) rfl rfl ?_
  refine ry (y_ext rfl rfl rfl) rfl rfl ?_
  refine ry (y_asg rfl rfl) rfl rfl ?_
  refine ry (y_asg rfl rfl) rfl rfl ?_
  refine reg_nil ?_
  refine fn_next ?_
  refine cw_seq ?_
  refine cw_reg ?_
  refine ry (y_mov rfl rfl) rfl rfl ?_
  refine reg_op (op_call (gSize g2 a2 h2 (V2)  _ (R2.below H3.base)) rfl kfturn5_1 ⟨rfl, trivial⟩) rfl rfl ?_
  rintro _ w5 ⟨rfl, e4⟩
  have H6 := H3.ext e4
  refine ry (y_mov rfl rfl) rfl rfl ?_
  refine ry (y_ext rfl rfl rfl) rfl rfl ?_
  refine ry (y_ext rfl rfl rfl) rfl rfl ?_
  refine ry (y_asg rfl rfl) rfl rfl ?_
  refine ry (y_asg rfl rfl) rfl rfl ?_
  refine reg_nil ?_
  refine fn_next ?_
  refine cw_seq ?_
  refine cw_block ?_
  refine cw_seq ?_
  refine cw_reg ?_
  refine ry (y_mov rfl rfl) rfl rfl ?_
  refine ry (y_peqlnil rfl Try.underlying28 rfl rfl) rfl rfl ?_
  refine ry (y_mov rfl rfl) rfl rfl ?_
  refine rgy (y_mov rfl rfl) rfl rfl rfl rfl ?_
  refine rgy (y_peqlnil rfl Try.underlying28 rfl rfl) rfl rfl rfl rfl ?_
  refine ry (y_pick rfl rfl rfl) rfl rfl ?_
  refine ry (y_asg rfl rfl) rfl rfl ?_
  refine reg_nil ?_
  refine fn_next ?_
  refine cw_condf rfl ?_
  refine cw_seq ?_
  refine cw_reg ?_
  refine ry (y_mov rfl rfl) rfl rfl ?_
  refine ry (y_mov rfl rfl) rfl rfl ?_
  refine ry (y_neq rfl rfl rfl) rfl rfl ?_
  refine ry (y_asg rfl rfl) rfl rfl ?_
  refine reg_nil ?_
  refine fn_next ?_
  refine cw_condd rfl (fun h7 => ?_) (fun h7 => ?_)
  · exfalso; omega
  · skip
    refine cw_skip ?_
    refine fn_block ?_
    refine fn_next ?_
    refine cw_seq ?_
    refine cw_reg ?_
    refine ry (y_mov rfl rfl) rfl rfl ?_
    refine ry (y_mov rfl rfl) rfl rfl ?_
    refine ry (y_mov rfl rfl) rfl rfl ?_
    refine ry (y_mov rfl rfl) rfl rfl ?_
    refine ry (y_add rfl rfl rfl (addN (by omega))) rfl rfl ?_
    refine ry (y_mov rfl rfl) rfl rfl ?_
    refine ry (y_mov rfl rfl) rfl rfl ?_
    refine ry (y_build (places := [(0, 1), (1, 1)]) (parts := [(0, _)]) (vs := [(0, _)]) (cs := [.int _ _, .int _ _]) rfl Try.underlying46 (by kernel_rfl) kfturn5_2 rfl ⟨rfl, trivial⟩ rfl) rfl rfl ?_
    refine reg_op (op_call (gJoined_no g g2 (((a + a2) : Nat) : Int) ((h : Nat) : Int) ((a : Nat) : Int) ((0 : Nat) : Int) _ ⟨by omega, by omega⟩ ⟨by omega, by omega⟩ (by omega)) rfl kfturn5_3 ⟨rfl, rfl, rfl, rfl, rfl, trivial⟩) rfl rfl ?_
    rintro _ w9 ⟨rfl, e8⟩
    have H10 := H6.ext e8
    refine ry (y_ext rfl rfl rfl) rfl rfl ?_
    refine ry (y_ext rfl rfl rfl) rfl rfl ?_
    refine ry (y_asg rfl rfl) rfl rfl ?_
    refine ry (y_asg rfl rfl) rfl rfl ?_
    refine reg_nil ?_
    refine fn_next ?_
    refine cw_ret ?_
    refine fn_retn (vs := [_, _]) rfl ⟨rfl, rfl, trivial⟩ rfl ?_
    exact ⟨rfl, H10.base⟩

set_option maxRecDepth 100000 in
theorem gBeside_ok (g a h : Nat) (V : List Int) (g2 a2 : Nat) (V2 : List Int) (w : World) (R : GRd w g a h V) (R2 : GRd w g2 a2 h V2) (hs : a + a2 ≤ 1024) :
    Ret Try.prog 46 [.pointer (some ⟨g, 0, none⟩), .pointer (some ⟨g2, 0, none⟩)] w (fun z w' => ∃ g' bl, z = .tuple #[.pointer (some ⟨g', 0, none⟩), .int .i64 0] ∧ HS w w' [gOb g' (a + a2) h (beV V a V2 a2 h) bl]) := by
  have hgv := R.gv; have z1 := hgv.a1; have z2 := hgv.a2; have z3 := hgv.h1; have z4 := hgv.h2
  have hgv2 := R2.gv; have y1 := hgv2.a1; have y2 := hgv2.a2; have y3 := hgv2.h1; have y4 := hgv2.h2
  refine ret_enter Try.func46 rfl rfl rfl ?_
  have H0 := HS.start w
  refine cw_seq ?_
  refine cw_reg ?_
  refine ry (y_asg rfl rfl) rfl rfl ?_
  refine ry (y_asg rfl rfl) rfl rfl ?_
  refine reg_nil ?_
  refine fn_next ?_
  refine cw_seq ?_
  refine cw_reg ?_
  refine ry (y_mov rfl rfl) rfl rfl ?_
  refine reg_op (op_call (gSize g a h (V)  _ (R.below H0.base)) rfl kfturn5_1 ⟨rfl, trivial⟩) rfl rfl ?_
  rintro _ w2 ⟨rfl, e1⟩
  have H3 := H0.ext e1
  refine ry (y_mov rfl rfl) rfl rfl ?_
  refine ry (y_ext rfl rfl rfl) rfl rfl ?_
  refine ry (y_ext rfl rfl rfl) rfl rfl ?_
  refine ry (y_asg rfl rfl) rfl rfl ?_
  refine ry (y_asg rfl rfl) rfl rfl ?_
  refine reg_nil ?_
  refine fn_next ?_
  refine cw_seq ?_
  refine cw_reg ?_
  refine ry (y_mov rfl rfl) rfl rfl ?_
  refine reg_op (op_call (gSize g2 a2 h (V2)  _ (R2.below H3.base)) rfl kfturn5_1 ⟨rfl, trivial⟩) rfl rfl ?_
  rintro _ w5 ⟨rfl, e4⟩
  have H6 := H3.ext e4
  refine ry (y_mov rfl rfl) rfl rfl ?_
  refine ry (y_ext rfl rfl rfl) rfl rfl ?_
  refine ry (y_ext rfl rfl rfl) rfl rfl ?_
  refine ry (y_asg rfl rfl) rfl rfl ?_
  refine ry (y_asg rfl rfl) rfl rfl ?_
  refine reg_nil ?_
  refine fn_next ?_
  refine cw_seq ?_
  refine cw_block ?_
  refine cw_seq ?_
  refine cw_reg ?_
  refine ry (y_mov rfl rfl) rfl rfl ?_
  refine ry (y_peqlnil rfl Try.underlying28 rfl rfl) rfl rfl ?_
  refine ry (y_mov rfl rfl) rfl rfl ?_
  refine rgy (y_mov rfl rfl) rfl rfl rfl rfl ?_
  refine rgy (y_peqlnil rfl Try.underlying28 rfl rfl) rfl rfl rfl rfl ?_
  refine ry (y_pick rfl rfl rfl) rfl rfl ?_
  refine ry (y_asg rfl rfl) rfl rfl ?_
  refine reg_nil ?_
  refine fn_next ?_
  refine cw_condf rfl ?_
  refine cw_seq ?_
  refine cw_reg ?_
  refine ry (y_mov rfl rfl) rfl rfl ?_
  refine ry (y_mov rfl rfl) rfl rfl ?_
  refine ry (y_neq rfl rfl rfl) rfl rfl ?_
  refine ry (y_asg rfl rfl) rfl rfl ?_
  refine reg_nil ?_
  refine fn_next ?_
  refine cw_condd rfl (fun h7 => ?_) (fun h7 => ?_)
  · exfalso; omega
  · skip
    refine cw_skip ?_
    refine fn_block ?_
    refine fn_next ?_
    refine cw_seq ?_
    refine cw_reg ?_
    refine ry (y_mov rfl rfl) rfl rfl ?_
    refine ry (y_mov rfl rfl) rfl rfl ?_
    refine ry (y_mov rfl rfl) rfl rfl ?_
    refine ry (y_mov rfl rfl) rfl rfl ?_
    refine ry (y_add rfl rfl rfl (addN (by omega))) rfl rfl ?_
    refine ry (y_mov rfl rfl) rfl rfl ?_
    refine ry (y_mov rfl rfl) rfl rfl ?_
    refine ry (y_build (places := [(0, 1), (1, 1)]) (parts := [(0, _)]) (vs := [(0, _)]) (cs := [.int _ _, .int _ _]) rfl Try.underlying46 (by kernel_rfl) kfturn5_2 rfl ⟨rfl, trivial⟩ rfl) rfl rfl ?_
    refine reg_op (op_call (gJoined_ok g a h V g2 a2 h V2 (a + a2) h a 0 _ (R.below H6.base) (R2.below H6.base) ⟨by omega, by omega, by omega, by omega⟩ (by omega) (by omega) (by omega) (by omega)) rfl kfturn5_3 ⟨rfl, rfl, rfl, rfl, rfl, trivial⟩) rfl rfl ?_
    rintro _ w9 ⟨g11, bl12, rfl, k8⟩
    have H10 := H6.call k8
    refine ry (y_ext rfl rfl rfl) rfl rfl ?_
    refine ry (y_ext rfl rfl rfl) rfl rfl ?_
    refine ry (y_asg rfl rfl) rfl rfl ?_
    refine ry (y_asg rfl rfl) rfl rfl ?_
    refine reg_nil ?_
    refine fn_next ?_
    refine cw_ret ?_
    refine fn_retn (vs := [_, _]) rfl ⟨rfl, rfl, trivial⟩ rfl ?_
    have Hz : HS w w9 [gOb g11 (a + a2) h (joinV V a h V2 a2 h (a + a2) h a 0) bl12] := (H10.pick (m := [_]) [0] rfl (by decide))
    rw [(beside_val hgv hgv2)] at Hz
    exact ⟨_, _, rfl, Hz⟩

set_option maxRecDepth 100000 in
theorem gBelow_n (g a h : Nat) (V : List Int) (g2 a2 h2 : Nat) (V2 : List Int) (w : World) (R : GRd w g a h V) (R2 : GRd w g2 a2 h2 V2) (hn : ¬ a = a2) :
    Ret Try.prog 47 [.pointer (some ⟨g, 0, none⟩), .pointer (some ⟨g2, 0, none⟩)] w (fun z w' => z = .tuple #[.pointer none, .int .i64 (6)] ∧ Below w.heap.size w w') := by
  have hgv := R.gv; have z1 := hgv.a1; have z2 := hgv.a2; have z3 := hgv.h1; have z4 := hgv.h2
  have hgv2 := R2.gv; have y1 := hgv2.a1; have y2 := hgv2.a2; have y3 := hgv2.h1; have y4 := hgv2.h2
  refine ret_enter Try.func47 rfl rfl rfl ?_
  have H0 := HS.start w
  refine cw_seq ?_
  refine cw_reg ?_
  refine ry (y_asg rfl rfl) rfl rfl ?_
  refine ry (y_asg rfl rfl) rfl rfl ?_
  refine reg_nil ?_
  refine fn_next ?_
  refine cw_seq ?_
  refine cw_reg ?_
  refine ry (y_mov rfl rfl) rfl rfl ?_
  refine reg_op (op_call (gSize g a h (V)  _ (R.below H0.base)) rfl kfturn5_1 ⟨rfl, trivial⟩) rfl rfl ?_
  rintro _ w2 ⟨rfl, e1⟩
  have H3 := H0.ext e1
  refine ry (y_mov rfl rfl) rfl rfl ?_
  refine ry (y_ext rfl rfl rfl) rfl rfl ?_
  refine ry (y_ext rfl rfl rfl) rfl rfl ?_
  refine ry (y_asg rfl rfl) rfl rfl ?_
  refine ry (y_asg rfl rfl) rfl rfl ?_
  refine reg_nil ?_
  refine fn_next ?_
  refine cw_seq ?_
  refine cw_reg ?_
  refine ry (y_mov rfl rfl) rfl rfl ?_
  refine reg_op (op_call (gSize g2 a2 h2 (V2)  _ (R2.below H3.base)) rfl kfturn5_1 ⟨rfl, trivial⟩) rfl rfl ?_
  rintro _ w5 ⟨rfl, e4⟩
  have H6 := H3.ext e4
  refine ry (y_mov rfl rfl) rfl rfl ?_
  refine ry (y_ext rfl rfl rfl) rfl rfl ?_
  refine ry (y_ext rfl rfl rfl) rfl rfl ?_
  refine ry (y_asg rfl rfl) rfl rfl ?_
  refine ry (y_asg rfl rfl) rfl rfl ?_
  refine reg_nil ?_
  refine fn_next ?_
  refine cw_seq ?_
  refine cw_block ?_
  refine cw_seq ?_
  refine cw_reg ?_
  refine ry (y_mov rfl rfl) rfl rfl ?_
  refine ry (y_peqlnil rfl Try.underlying28 rfl rfl) rfl rfl ?_
  refine ry (y_mov rfl rfl) rfl rfl ?_
  refine rgy (y_mov rfl rfl) rfl rfl rfl rfl ?_
  refine rgy (y_peqlnil rfl Try.underlying28 rfl rfl) rfl rfl rfl rfl ?_
  refine ry (y_pick rfl rfl rfl) rfl rfl ?_
  refine ry (y_asg rfl rfl) rfl rfl ?_
  refine reg_nil ?_
  refine fn_next ?_
  refine cw_condf rfl ?_
  refine cw_seq ?_
  refine cw_reg ?_
  refine ry (y_mov rfl rfl) rfl rfl ?_
  refine ry (y_mov rfl rfl) rfl rfl ?_
  refine ry (y_neq rfl rfl rfl) rfl rfl ?_
  refine ry (y_asg rfl rfl) rfl rfl ?_
  refine reg_nil ?_
  refine fn_next ?_
  refine cw_condd rfl (fun h7 => ?_) (fun h7 => ?_)
  · skip
    refine cw_seq ?_
    refine cw_reg ?_
    refine ry (y_asg rfl rfl) rfl rfl ?_
    refine ry (y_asg rfl rfl) rfl rfl ?_
    refine reg_nil ?_
    refine fn_next ?_
    refine cw_ret ?_
    refine fn_block_ret (fn_then_ret ?_)
    refine fn_retn (vs := [_, _]) rfl ⟨rfl, rfl, trivial⟩ rfl ?_
    exact ⟨rfl, H6.base⟩
  · exfalso; omega

set_option maxRecDepth 100000 in
theorem gBelow_s (g a h : Nat) (V : List Int) (g2 a2 h2 : Nat) (V2 : List Int) (w : World) (R : GRd w g a h V) (R2 : GRd w g2 a2 h2 V2) (hn : a = a2) (hs : ¬ h + h2 ≤ 1024) :
    Ret Try.prog 47 [.pointer (some ⟨g, 0, none⟩), .pointer (some ⟨g2, 0, none⟩)] w (fun z w' => z = .tuple #[.pointer none, .int .i64 (3)] ∧ Below w.heap.size w w') := by
  have hgv := R.gv; have z1 := hgv.a1; have z2 := hgv.a2; have z3 := hgv.h1; have z4 := hgv.h2
  have hgv2 := R2.gv; have y1 := hgv2.a1; have y2 := hgv2.a2; have y3 := hgv2.h1; have y4 := hgv2.h2
  refine ret_enter Try.func47 rfl rfl rfl ?_
  have H0 := HS.start w
  refine cw_seq ?_
  refine cw_reg ?_
  refine ry (y_asg rfl rfl) rfl rfl ?_
  refine ry (y_asg rfl rfl) rfl rfl ?_
  refine reg_nil ?_
  refine fn_next ?_
  refine cw_seq ?_
  refine cw_reg ?_
  refine ry (y_mov rfl rfl) rfl rfl ?_
  refine reg_op (op_call (gSize g a h (V)  _ (R.below H0.base)) rfl kfturn5_1 ⟨rfl, trivial⟩) rfl rfl ?_
  rintro _ w2 ⟨rfl, e1⟩
  have H3 := H0.ext e1
  refine ry (y_mov rfl rfl) rfl rfl ?_
  refine ry (y_ext rfl rfl rfl) rfl rfl ?_
  refine ry (y_ext rfl rfl rfl) rfl rfl ?_
  refine ry (y_asg rfl rfl) rfl rfl ?_
  refine ry (y_asg rfl rfl) rfl rfl ?_
  refine reg_nil ?_
  refine fn_next ?_
  refine cw_seq ?_
  refine cw_reg ?_
  refine ry (y_mov rfl rfl) rfl rfl ?_
  refine reg_op (op_call (gSize g2 a2 h2 (V2)  _ (R2.below H3.base)) rfl kfturn5_1 ⟨rfl, trivial⟩) rfl rfl ?_
  rintro _ w5 ⟨rfl, e4⟩
  have H6 := H3.ext e4
  refine ry (y_mov rfl rfl) rfl rfl ?_
  refine ry (y_ext rfl rfl rfl) rfl rfl ?_
  refine ry (y_ext rfl rfl rfl) rfl rfl ?_
  refine ry (y_asg rfl rfl) rfl rfl ?_
  refine ry (y_asg rfl rfl) rfl rfl ?_
  refine reg_nil ?_
  refine fn_next ?_
  refine cw_seq ?_
  refine cw_block ?_
  refine cw_seq ?_
  refine cw_reg ?_
  refine ry (y_mov rfl rfl) rfl rfl ?_
  refine ry (y_peqlnil rfl Try.underlying28 rfl rfl) rfl rfl ?_
  refine ry (y_mov rfl rfl) rfl rfl ?_
  refine rgy (y_mov rfl rfl) rfl rfl rfl rfl ?_
  refine rgy (y_peqlnil rfl Try.underlying28 rfl rfl) rfl rfl rfl rfl ?_
  refine ry (y_pick rfl rfl rfl) rfl rfl ?_
  refine ry (y_asg rfl rfl) rfl rfl ?_
  refine reg_nil ?_
  refine fn_next ?_
  refine cw_condf rfl ?_
  refine cw_seq ?_
  refine cw_reg ?_
  refine ry (y_mov rfl rfl) rfl rfl ?_
  refine ry (y_mov rfl rfl) rfl rfl ?_
  refine ry (y_neq rfl rfl rfl) rfl rfl ?_
  refine ry (y_asg rfl rfl) rfl rfl ?_
  refine reg_nil ?_
  refine fn_next ?_
  refine cw_condd rfl (fun h7 => ?_) (fun h7 => ?_)
  · exfalso; omega
  · skip
    refine cw_skip ?_
    refine fn_block ?_
    refine fn_next ?_
    refine cw_seq ?_
    refine cw_reg ?_
    refine ry (y_mov rfl rfl) rfl rfl ?_
    refine ry (y_mov rfl rfl) rfl rfl ?_
    refine ry (y_mov rfl rfl) rfl rfl ?_
    refine ry (y_mov rfl rfl) rfl rfl ?_
    refine ry (y_mov rfl rfl) rfl rfl ?_
    refine ry (y_add rfl rfl rfl (addN (by omega))) rfl rfl ?_
    refine ry (y_mov rfl rfl) rfl rfl ?_
    refine ry (y_build (places := [(0, 1), (1, 1)]) (parts := [(1, _)]) (vs := [(1, _)]) (cs := [.int _ _, .int _ _]) rfl Try.underlying46 (by kernel_rfl) kfturn5_2 rfl ⟨rfl, trivial⟩ rfl) rfl rfl ?_
    refine reg_op (op_call (gJoined_no g g2 ((a : Nat) : Int) (((h + h2) : Nat) : Int) ((0 : Nat) : Int) ((h : Nat) : Int) _ ⟨by omega, by omega⟩ ⟨by omega, by omega⟩ (by omega)) rfl kfturn5_3 ⟨rfl, rfl, rfl, rfl, rfl, trivial⟩) rfl rfl ?_
    rintro _ w9 ⟨rfl, e8⟩
    have H10 := H6.ext e8
    refine ry (y_ext rfl rfl rfl) rfl rfl ?_
    refine ry (y_ext rfl rfl rfl) rfl rfl ?_
    refine ry (y_asg rfl rfl) rfl rfl ?_
    refine ry (y_asg rfl rfl) rfl rfl ?_
    refine reg_nil ?_
    refine fn_next ?_
    refine cw_ret ?_
    refine fn_retn (vs := [_, _]) rfl ⟨rfl, rfl, trivial⟩ rfl ?_
    exact ⟨rfl, H10.base⟩

set_option maxRecDepth 100000 in
theorem gBelow_ok (g a h : Nat) (V : List Int) (g2 h2 : Nat) (V2 : List Int) (w : World) (R : GRd w g a h V) (R2 : GRd w g2 a h2 V2) (hs : h + h2 ≤ 1024) :
    Ret Try.prog 47 [.pointer (some ⟨g, 0, none⟩), .pointer (some ⟨g2, 0, none⟩)] w (fun z w' => ∃ g' bl, z = .tuple #[.pointer (some ⟨g', 0, none⟩), .int .i64 0] ∧ HS w w' [gOb g' a (h + h2) (V ++ V2) bl]) := by
  have hgv := R.gv; have z1 := hgv.a1; have z2 := hgv.a2; have z3 := hgv.h1; have z4 := hgv.h2
  have hgv2 := R2.gv; have y1 := hgv2.a1; have y2 := hgv2.a2; have y3 := hgv2.h1; have y4 := hgv2.h2
  refine ret_enter Try.func47 rfl rfl rfl ?_
  have H0 := HS.start w
  refine cw_seq ?_
  refine cw_reg ?_
  refine ry (y_asg rfl rfl) rfl rfl ?_
  refine ry (y_asg rfl rfl) rfl rfl ?_
  refine reg_nil ?_
  refine fn_next ?_
  refine cw_seq ?_
  refine cw_reg ?_
  refine ry (y_mov rfl rfl) rfl rfl ?_
  refine reg_op (op_call (gSize g a h (V)  _ (R.below H0.base)) rfl kfturn5_1 ⟨rfl, trivial⟩) rfl rfl ?_
  rintro _ w2 ⟨rfl, e1⟩
  have H3 := H0.ext e1
  refine ry (y_mov rfl rfl) rfl rfl ?_
  refine ry (y_ext rfl rfl rfl) rfl rfl ?_
  refine ry (y_ext rfl rfl rfl) rfl rfl ?_
  refine ry (y_asg rfl rfl) rfl rfl ?_
  refine ry (y_asg rfl rfl) rfl rfl ?_
  refine reg_nil ?_
  refine fn_next ?_
  refine cw_seq ?_
  refine cw_reg ?_
  refine ry (y_mov rfl rfl) rfl rfl ?_
  refine reg_op (op_call (gSize g2 a h2 (V2)  _ (R2.below H3.base)) rfl kfturn5_1 ⟨rfl, trivial⟩) rfl rfl ?_
  rintro _ w5 ⟨rfl, e4⟩
  have H6 := H3.ext e4
  refine ry (y_mov rfl rfl) rfl rfl ?_
  refine ry (y_ext rfl rfl rfl) rfl rfl ?_
  refine ry (y_ext rfl rfl rfl) rfl rfl ?_
  refine ry (y_asg rfl rfl) rfl rfl ?_
  refine ry (y_asg rfl rfl) rfl rfl ?_
  refine reg_nil ?_
  refine fn_next ?_
  refine cw_seq ?_
  refine cw_block ?_
  refine cw_seq ?_
  refine cw_reg ?_
  refine ry (y_mov rfl rfl) rfl rfl ?_
  refine ry (y_peqlnil rfl Try.underlying28 rfl rfl) rfl rfl ?_
  refine ry (y_mov rfl rfl) rfl rfl ?_
  refine rgy (y_mov rfl rfl) rfl rfl rfl rfl ?_
  refine rgy (y_peqlnil rfl Try.underlying28 rfl rfl) rfl rfl rfl rfl ?_
  refine ry (y_pick rfl rfl rfl) rfl rfl ?_
  refine ry (y_asg rfl rfl) rfl rfl ?_
  refine reg_nil ?_
  refine fn_next ?_
  refine cw_condf rfl ?_
  refine cw_seq ?_
  refine cw_reg ?_
  refine ry (y_mov rfl rfl) rfl rfl ?_
  refine ry (y_mov rfl rfl) rfl rfl ?_
  refine ry (y_neq rfl rfl rfl) rfl rfl ?_
  refine ry (y_asg rfl rfl) rfl rfl ?_
  refine reg_nil ?_
  refine fn_next ?_
  refine cw_condd rfl (fun h7 => ?_) (fun h7 => ?_)
  · exfalso; omega
  · skip
    refine cw_skip ?_
    refine fn_block ?_
    refine fn_next ?_
    refine cw_seq ?_
    refine cw_reg ?_
    refine ry (y_mov rfl rfl) rfl rfl ?_
    refine ry (y_mov rfl rfl) rfl rfl ?_
    refine ry (y_mov rfl rfl) rfl rfl ?_
    refine ry (y_mov rfl rfl) rfl rfl ?_
    refine ry (y_mov rfl rfl) rfl rfl ?_
    refine ry (y_add rfl rfl rfl (addN (by omega))) rfl rfl ?_
    refine ry (y_mov rfl rfl) rfl rfl ?_
    refine ry (y_build (places := [(0, 1), (1, 1)]) (parts := [(1, _)]) (vs := [(1, _)]) (cs := [.int _ _, .int _ _]) rfl Try.underlying46 (by kernel_rfl) kfturn5_2 rfl ⟨rfl, trivial⟩ rfl) rfl rfl ?_
    refine reg_op (op_call (gJoined_ok g a h V g2 a h2 V2 a (h + h2) 0 h _ (R.below H6.base) (R2.below H6.base) ⟨by omega, by omega, by omega, by omega⟩ (by omega) (by omega) (by omega) (by omega)) rfl kfturn5_3 ⟨rfl, rfl, rfl, rfl, rfl, trivial⟩) rfl rfl ?_
    rintro _ w9 ⟨g11, bl12, rfl, k8⟩
    have H10 := H6.call k8
    refine ry (y_ext rfl rfl rfl) rfl rfl ?_
    refine ry (y_ext rfl rfl rfl) rfl rfl ?_
    refine ry (y_asg rfl rfl) rfl rfl ?_
    refine ry (y_asg rfl rfl) rfl rfl ?_
    refine reg_nil ?_
    refine fn_next ?_
    refine cw_ret ?_
    refine fn_retn (vs := [_, _]) rfl ⟨rfl, rfl, trivial⟩ rfl ?_
    have Hz : HS w w9 [gOb g11 a (h + h2) (joinV V a h V2 a h2 a (h + h2) 0 h) bl12] := (H10.pick (m := [_]) [0] rfl (by decide))
    rw [(below_val hgv hgv2)] at Hz
    exact ⟨_, _, rfl, Hz⟩

set_option maxRecDepth 100000 in
theorem tNil_Quarter (n : Int) (w : World) :
    Ret Try.prog 39 [.pointer none, .int .i64 n] w (fun z w' => z = .tuple #[.pointer none, .int .i64 (1)] ∧ Below w.heap.size w w') := by
  refine ret_enter Try.func39 rfl rfl rfl ?_
  have H0 := HS.start w
  refine cw_seq ?_
  refine cw_reg ?_
  refine ry (y_asg rfl rfl) rfl rfl ?_
  refine ry (y_asg rfl rfl) rfl rfl ?_
  refine reg_nil ?_
  refine fn_next ?_
  refine cw_seq ?_
  refine cw_seq ?_
  refine cw_reg ?_
  refine ry (y_mov rfl rfl) rfl rfl ?_
  refine ry (y_peqlnil rfl Try.underlying28 rfl rfl) rfl rfl ?_
  refine reg_nil ?_
  refine fn_next ?_
  refine cw_condt rfl ?_
  refine cw_seq ?_
  refine cw_reg ?_
  refine ry (y_asg rfl rfl) rfl rfl ?_
  refine ry (y_asg rfl rfl) rfl rfl ?_
  refine reg_nil ?_
  refine fn_next ?_
  refine cw_ret ?_
  refine fn_then_ret ?_
  refine fn_retn (vs := [_, _]) rfl ⟨rfl, rfl, trivial⟩ rfl ?_
  exact ⟨rfl, H0.base⟩

set_option maxRecDepth 100000 in
theorem tNil_Mirror  (w : World) :
    Ret Try.prog 40 [.pointer none] w (fun z w' => z = .tuple #[.pointer none, .int .i64 (1)] ∧ Below w.heap.size w w') := by
  refine ret_enter Try.func40 rfl rfl rfl ?_
  have H0 := HS.start w
  refine cw_seq ?_
  refine cw_reg ?_
  refine ry (y_asg rfl rfl) rfl rfl ?_
  refine ry (y_asg rfl rfl) rfl rfl ?_
  refine reg_nil ?_
  refine fn_next ?_
  refine cw_seq ?_
  refine cw_seq ?_
  refine cw_reg ?_
  refine ry (y_mov rfl rfl) rfl rfl ?_
  refine ry (y_peqlnil rfl Try.underlying28 rfl rfl) rfl rfl ?_
  refine reg_nil ?_
  refine fn_next ?_
  refine cw_condt rfl ?_
  refine cw_seq ?_
  refine cw_reg ?_
  refine ry (y_asg rfl rfl) rfl rfl ?_
  refine ry (y_asg rfl rfl) rfl rfl ?_
  refine reg_nil ?_
  refine fn_next ?_
  refine cw_ret ?_
  refine fn_then_ret ?_
  refine fn_retn (vs := [_, _]) rfl ⟨rfl, rfl, trivial⟩ rfl ?_
  exact ⟨rfl, H0.base⟩

set_option maxRecDepth 100000 in
theorem tNil_Swap  (w : World) :
    Ret Try.prog 41 [.pointer none] w (fun z w' => z = .tuple #[.pointer none, .int .i64 (1)] ∧ Below w.heap.size w w') := by
  refine ret_enter Try.func41 rfl rfl rfl ?_
  have H0 := HS.start w
  refine cw_seq ?_
  refine cw_reg ?_
  refine ry (y_asg rfl rfl) rfl rfl ?_
  refine ry (y_asg rfl rfl) rfl rfl ?_
  refine reg_nil ?_
  refine fn_next ?_
  refine cw_seq ?_
  refine cw_seq ?_
  refine cw_reg ?_
  refine ry (y_mov rfl rfl) rfl rfl ?_
  refine ry (y_peqlnil rfl Try.underlying28 rfl rfl) rfl rfl ?_
  refine reg_nil ?_
  refine fn_next ?_
  refine cw_condt rfl ?_
  refine cw_seq ?_
  refine cw_reg ?_
  refine ry (y_asg rfl rfl) rfl rfl ?_
  refine ry (y_asg rfl rfl) rfl rfl ?_
  refine reg_nil ?_
  refine fn_next ?_
  refine cw_ret ?_
  refine fn_then_ret ?_
  refine fn_retn (vs := [_, _]) rfl ⟨rfl, rfl, trivial⟩ rfl ?_
  exact ⟨rfl, H0.base⟩

set_option maxRecDepth 100000 in
theorem tNil_Crop (x0 y0 x1 y1 : Int) (w : World) :
    Ret Try.prog 30 [.pointer none, .agg #[.int .i64 x0, .int .i64 y0, .int .i64 x1, .int .i64 y1]] w (fun z w' => z = .tuple #[.pointer none, .int .i64 (1)] ∧ Below w.heap.size w w') := by
  refine ret_enter Try.func30 rfl rfl rfl ?_
  have H0 := HS.start w
  refine cw_seq ?_
  refine cw_reg ?_
  refine reg_op (op_box (cs := [.int _ _, .int _ _, .int _ _, .int _ _]) H0 rfl rfl rfl) rfl rfl ?_
  rintro _ w2 ⟨b1, rfl, H3⟩
  refine ry (y_asg rfl rfl) rfl rfl ?_
  refine ry (y_asg rfl rfl) rfl rfl ?_
  refine reg_nil ?_
  refine fn_next ?_
  refine cw_seq ?_
  refine cw_reg ?_
  refine ry (y_mov rfl rfl) rfl rfl ?_
  refine ry (y_ldb (i := 0) (cs := [_, _, _, _]) H3 rfl rfl kfturn5_4 rfl rfl) rfl rfl ?_
  refine reg_op (op_call (gNil_Values _ _ _ _ _) rfl kfturn5_5 ⟨rfl, rfl, trivial⟩) rfl rfl ?_
  rintro _ w5 ⟨rfl, e4⟩
  have H6 := H3.ext e4
  refine ry (y_mov rfl rfl) rfl rfl ?_
  refine ry (y_ext rfl rfl rfl) rfl rfl ?_
  refine ry (y_ext rfl rfl rfl) rfl rfl ?_
  refine ry (y_asg rfl rfl) rfl rfl ?_
  refine ry (y_asg rfl rfl) rfl rfl ?_
  refine reg_nil ?_
  refine fn_next ?_
  refine cw_seq ?_
  refine cw_seq ?_
  refine cw_reg ?_
  refine ry (y_mov rfl rfl) rfl rfl ?_
  refine ry (y_neq rfl rfl rfl) rfl rfl ?_
  refine reg_nil ?_
  refine fn_next ?_
  refine cw_condt rfl ?_
  refine cw_seq ?_
  refine cw_reg ?_
  refine ry (y_mov rfl rfl) rfl rfl ?_
  refine ry (y_asg rfl rfl) rfl rfl ?_
  refine ry (y_asg rfl rfl) rfl rfl ?_
  refine reg_nil ?_
  refine fn_next ?_
  refine cw_ret ?_
  refine fn_then_ret ?_
  refine fn_retn (vs := [_, _]) rfl ⟨rfl, rfl, trivial⟩ rfl ?_
  exact ⟨rfl, H6.base⟩

set_option maxRecDepth 100000 in
theorem tNil_Scale (k : Int) (w : World) :
    Ret Try.prog 32 [.pointer none, .int .i64 k] w (fun z w' => z = .tuple #[.pointer none, .int .i64 (1)] ∧ Below w.heap.size w w') := by
  refine ret_enter Try.func32 rfl rfl rfl ?_
  have H0 := HS.start w
  refine cw_seq ?_
  refine cw_reg ?_
  refine reg_op (op_box (cs := [.int _ _]) H0 rfl rfl rfl) rfl rfl ?_
  rintro _ w2 ⟨b1, rfl, H3⟩
  refine ry (y_asg rfl rfl) rfl rfl ?_
  refine ry (y_asg rfl rfl) rfl rfl ?_
  refine reg_nil ?_
  refine fn_next ?_
  refine cw_seq ?_
  refine cw_reg ?_
  refine ry (y_mov rfl rfl) rfl rfl ?_
  refine reg_op (op_call (gNil_Size _) rfl kfturn5_1 ⟨rfl, trivial⟩) rfl rfl ?_
  rintro _ w5 ⟨rfl, e4⟩
  have H6 := H3.ext e4
  refine ry (y_mov rfl rfl) rfl rfl ?_
  refine ry (y_ext rfl rfl rfl) rfl rfl ?_
  refine ry (y_ext rfl rfl rfl) rfl rfl ?_
  refine ry (y_asg rfl rfl) rfl rfl ?_
  refine ry (y_asg rfl rfl) rfl rfl ?_
  refine reg_nil ?_
  refine fn_next ?_
  refine cw_seq ?_
  refine cw_block ?_
  refine cw_seq ?_
  refine cw_reg ?_
  refine ry (y_mov rfl rfl) rfl rfl ?_
  refine ry (y_peqlnil rfl Try.underlying28 rfl rfl) rfl rfl ?_
  refine ry (y_asg rfl rfl) rfl rfl ?_
  refine reg_nil ?_
  refine fn_next ?_
  refine cw_condt rfl ?_
  refine cw_seq ?_
  refine cw_reg ?_
  refine ry (y_asg rfl rfl) rfl rfl ?_
  refine ry (y_asg rfl rfl) rfl rfl ?_
  refine reg_nil ?_
  refine fn_next ?_
  refine cw_ret ?_
  refine fn_block_ret (fn_then_ret ?_)
  refine fn_retn (vs := [_, _]) rfl ⟨rfl, rfl, trivial⟩ rfl ?_
  exact ⟨rfl, H6.base⟩

set_option maxRecDepth 100000 in
theorem tNil_Beside (g a h : Nat) (V : List Int) (w : World) (R : GRd w g a h V) :
    Ret Try.prog 46 [.pointer none, .pointer (some ⟨g, 0, none⟩)] w (fun z w' => z = .tuple #[.pointer none, .int .i64 (1)] ∧ Below w.heap.size w w') := by
  refine ret_enter Try.func46 rfl rfl rfl ?_
  have H0 := HS.start w
  refine cw_seq ?_
  refine cw_reg ?_
  refine ry (y_asg rfl rfl) rfl rfl ?_
  refine ry (y_asg rfl rfl) rfl rfl ?_
  refine reg_nil ?_
  refine fn_next ?_
  refine cw_seq ?_
  refine cw_reg ?_
  refine ry (y_mov rfl rfl) rfl rfl ?_
  refine reg_op (op_call (gNil_Size _) rfl kfturn5_1 ⟨rfl, trivial⟩) rfl rfl ?_
  rintro _ w2 ⟨rfl, e1⟩
  have H3 := H0.ext e1
  refine ry (y_mov rfl rfl) rfl rfl ?_
  refine ry (y_ext rfl rfl rfl) rfl rfl ?_
  refine ry (y_ext rfl rfl rfl) rfl rfl ?_
  refine ry (y_asg rfl rfl) rfl rfl ?_
  refine ry (y_asg rfl rfl) rfl rfl ?_
  refine reg_nil ?_
  refine fn_next ?_
  refine cw_seq ?_
  refine cw_reg ?_
  refine ry (y_mov rfl rfl) rfl rfl ?_
  refine reg_op (op_call (gSize g a h (V)  _ (R.below H3.base)) rfl kfturn5_1 ⟨rfl, trivial⟩) rfl rfl ?_
  rintro _ w5 ⟨rfl, e4⟩
  have H6 := H3.ext e4
  refine ry (y_mov rfl rfl) rfl rfl ?_
  refine ry (y_ext rfl rfl rfl) rfl rfl ?_
  refine ry (y_ext rfl rfl rfl) rfl rfl ?_
  refine ry (y_asg rfl rfl) rfl rfl ?_
  refine ry (y_asg rfl rfl) rfl rfl ?_
  refine reg_nil ?_
  refine fn_next ?_
  refine cw_seq ?_
  refine cw_block ?_
  refine cw_seq ?_
  refine cw_reg ?_
  refine ry (y_mov rfl rfl) rfl rfl ?_
  refine ry (y_peqlnil rfl Try.underlying28 rfl rfl) rfl rfl ?_
  refine ry (y_mov rfl rfl) rfl rfl ?_
  refine rg_off rfl rfl rfl rfl rfl ?_
  refine rg_off rfl rfl rfl rfl rfl ?_
  refine ry (y_pick rfl rfl rfl) rfl rfl ?_
  refine ry (y_asg rfl rfl) rfl rfl ?_
  refine reg_nil ?_
  refine fn_next ?_
  refine cw_condt rfl ?_
  refine cw_seq ?_
  refine cw_reg ?_
  refine ry (y_asg rfl rfl) rfl rfl ?_
  refine ry (y_asg rfl rfl) rfl rfl ?_
  refine reg_nil ?_
  refine fn_next ?_
  refine cw_ret ?_
  refine fn_block_ret (fn_then_ret ?_)
  refine fn_retn (vs := [_, _]) rfl ⟨rfl, rfl, trivial⟩ rfl ?_
  exact ⟨rfl, H6.base⟩

set_option maxRecDepth 100000 in
theorem tNil_Below (g a h : Nat) (V : List Int) (w : World) (R : GRd w g a h V) :
    Ret Try.prog 47 [.pointer (some ⟨g, 0, none⟩), .pointer none] w (fun z w' => z = .tuple #[.pointer none, .int .i64 (1)] ∧ Below w.heap.size w w') := by
  refine ret_enter Try.func47 rfl rfl rfl ?_
  have H0 := HS.start w
  refine cw_seq ?_
  refine cw_reg ?_
  refine ry (y_asg rfl rfl) rfl rfl ?_
  refine ry (y_asg rfl rfl) rfl rfl ?_
  refine reg_nil ?_
  refine fn_next ?_
  refine cw_seq ?_
  refine cw_reg ?_
  refine ry (y_mov rfl rfl) rfl rfl ?_
  refine reg_op (op_call (gSize g a h (V)  _ (R.below H0.base)) rfl kfturn5_1 ⟨rfl, trivial⟩) rfl rfl ?_
  rintro _ w2 ⟨rfl, e1⟩
  have H3 := H0.ext e1
  refine ry (y_mov rfl rfl) rfl rfl ?_
  refine ry (y_ext rfl rfl rfl) rfl rfl ?_
  refine ry (y_ext rfl rfl rfl) rfl rfl ?_
  refine ry (y_asg rfl rfl) rfl rfl ?_
  refine ry (y_asg rfl rfl) rfl rfl ?_
  refine reg_nil ?_
  refine fn_next ?_
  refine cw_seq ?_
  refine cw_reg ?_
  refine ry (y_mov rfl rfl) rfl rfl ?_
  refine reg_op (op_call (gNil_Size _) rfl kfturn5_1 ⟨rfl, trivial⟩) rfl rfl ?_
  rintro _ w5 ⟨rfl, e4⟩
  have H6 := H3.ext e4
  refine ry (y_mov rfl rfl) rfl rfl ?_
  refine ry (y_ext rfl rfl rfl) rfl rfl ?_
  refine ry (y_ext rfl rfl rfl) rfl rfl ?_
  refine ry (y_asg rfl rfl) rfl rfl ?_
  refine ry (y_asg rfl rfl) rfl rfl ?_
  refine reg_nil ?_
  refine fn_next ?_
  refine cw_seq ?_
  refine cw_block ?_
  refine cw_seq ?_
  refine cw_reg ?_
  refine ry (y_mov rfl rfl) rfl rfl ?_
  refine ry (y_peqlnil rfl Try.underlying28 rfl rfl) rfl rfl ?_
  refine ry (y_mov rfl rfl) rfl rfl ?_
  refine rgy (y_mov rfl rfl) rfl rfl rfl rfl ?_
  refine rgy (y_peqlnil rfl Try.underlying28 rfl rfl) rfl rfl rfl rfl ?_
  refine ry (y_pick rfl rfl rfl) rfl rfl ?_
  refine ry (y_asg rfl rfl) rfl rfl ?_
  refine reg_nil ?_
  refine fn_next ?_
  refine cw_condt rfl ?_
  refine cw_seq ?_
  refine cw_reg ?_
  refine ry (y_asg rfl rfl) rfl rfl ?_
  refine ry (y_asg rfl rfl) rfl rfl ?_
  refine reg_nil ?_
  refine fn_next ?_
  refine cw_ret ?_
  refine fn_block_ret (fn_then_ret ?_)
  refine fn_retn (vs := [_, _]) rfl ⟨rfl, rfl, trivial⟩ rfl ?_
  exact ⟨rfl, H6.base⟩

theorem aw42 : fromC ((2 : Nat) : Int) ((1 : Nat) : Int) [1, 2] = 0 ∧ q1V [1, 2] 2 1 = [1, 2] ∧ q3V [1, 2] 2 1 = [2, 1] := by decide +kernel

set_option maxRecDepth 100000 in
theorem turnAwake  (w : World) :
    Ret Try.prog 29 [] w (fun v w' => v = .bool true ∧ Below w.heap.size w w') := by
  obtain ⟨e1, e2, e3⟩ := aw42
  refine ret_enter Try.func29 rfl rfl rfl ?_
  have H0 := HS.start w
  refine cw_seq ?_
  refine cw_reg ?_
  refine ry (y_asg rfl rfl) rfl rfl ?_
  refine reg_nil ?_
  refine fn_next ?_
  refine cw_seq ?_
  refine cw_reg ?_
  refine reg_op (op_lit (parts := [(0, _), (1, _)]) (vs := [(0, _), (1, _)]) (cs := [.int _ _, .int _ _]) H0 rfl Try.underlying22 kfturn5_6 rfl ⟨rfl, rfl, trivial⟩ rfl rfl) rfl rfl ?_
  rintro _ w2 ⟨b1, rfl, H3⟩
  have H4 := H3.asrow (m := 2) (size := 1) rfl (by decide)
  refine reg_op (op_call (gFrom_ok 2 1 [1, 2] _ 2 _ _ (H4.rd (i := 0) rfl) rfl (by decide) ⟨by decide, by decide, by decide, by decide⟩ e1) rfl kfturn5_7 ⟨rfl, rfl, rfl, trivial⟩) rfl rfl ?_
  rintro _ w6 ⟨g8, bl9, rfl, k5⟩
  have H7 := H4.call k5
  refine ry (y_mov rfl rfl) rfl rfl ?_
  refine ry (y_ext rfl rfl rfl) rfl rfl ?_
  refine ry (y_ext rfl rfl rfl) rfl rfl ?_
  refine ry (y_asg rfl rfl) rfl rfl ?_
  refine ry (y_asg rfl rfl) rfl rfl ?_
  refine reg_nil ?_
  refine fn_next ?_
  refine cw_seq ?_
  refine cw_reg ?_
  refine ry (y_mov rfl rfl) rfl rfl ?_
  refine reg_op (op_call (gQuarter1 g8 2 1 [1, 2] 1 _ (H7.rdg (i := 0) rfl) (by decide)) rfl kfturn5_8 ⟨rfl, rfl, trivial⟩) rfl rfl ?_
  rintro _ w11 ⟨g13, bl14, rfl, k10⟩
  have H12 := H7.call k10
  rw [e2] at H12
  refine ry (y_mov rfl rfl) rfl rfl ?_
  refine ry (y_ext rfl rfl rfl) rfl rfl ?_
  refine ry (y_ext rfl rfl rfl) rfl rfl ?_
  refine ry (y_asg rfl rfl) rfl rfl ?_
  refine ry (y_asg rfl rfl) rfl rfl ?_
  refine reg_nil ?_
  refine fn_next ?_
  refine cw_seq ?_
  refine cw_reg ?_
  refine ry (y_mov rfl rfl) rfl rfl ?_
  refine reg_op (op_call (gQuarter3 g8 2 1 [1, 2] 3 _ (H12.rdg (i := 1) rfl) (by decide)) rfl kfturn5_8 ⟨rfl, rfl, trivial⟩) rfl rfl ?_
  rintro _ w16 ⟨g18, bl19, rfl, k15⟩
  have H17 := H12.call k15
  rw [e3] at H17
  refine ry (y_mov rfl rfl) rfl rfl ?_
  refine ry (y_ext rfl rfl rfl) rfl rfl ?_
  refine ry (y_ext rfl rfl rfl) rfl rfl ?_
  refine ry (y_asg rfl rfl) rfl rfl ?_
  refine ry (y_asg rfl rfl) rfl rfl ?_
  refine reg_nil ?_
  refine fn_next ?_
  refine cw_seq ?_
  refine cw_reg ?_
  refine ry (y_mov rfl rfl) rfl rfl ?_
  refine ry (y_eql rfl rfl rfl) rfl rfl ?_
  refine ry (y_mov rfl rfl) rfl rfl ?_
  refine rgy (y_mov rfl rfl) rfl rfl rfl rfl ?_
  refine rgy (y_eql rfl rfl rfl) rfl rfl rfl rfl ?_
  refine ry (y_pick rfl rfl rfl) rfl rfl ?_
  refine ry (y_mov rfl rfl) rfl rfl ?_
  refine rgy (y_mov rfl rfl) rfl rfl rfl rfl ?_
  refine rgy (y_eql rfl rfl rfl) rfl rfl rfl rfl ?_
  refine ry (y_pick rfl rfl rfl) rfl rfl ?_
  refine ry (y_mov rfl rfl) rfl rfl ?_
  refine rgy (y_mov rfl rfl) rfl rfl rfl rfl ?_
  refine rg_on rfl rfl rfl (op_lit (parts := [(0, _), (1, _)]) (vs := [(0, _), (1, _)]) (cs := [.int _ _, .int _ _]) H17 rfl Try.underlying22 kfturn5_6 rfl ⟨rfl, rfl, trivial⟩ rfl rfl) rfl ?_
  rintro _ w21 ⟨b20, rfl, H22⟩
  have H23 := H22.asrow (m := 2) (size := 1) rfl (by decide)
  refine rgy (y_build (places := [(0, 1), (1, 1), (2, 1)]) (parts := [(0, _), (1, _), (2, _)]) (vs := [(0, _), (1, _), (2, _)]) (cs := [.int _ _, .int _ _, .slice _ _ _]) rfl Try.underlying25 (by kernel_rfl) kfturn5_9 rfl ⟨rfl, rfl, rfl, trivial⟩ rfl) rfl rfl rfl rfl ?_
  refine rg_on rfl rfl rfl (op_call (lIs g13 1 2 ([1, 2]) _ _ _ (H23.rdg (i := 2) rfl) (H23.rd (i := 0) rfl)) rfl kfturn5_10 ⟨rfl, rfl, trivial⟩) rfl ?_
  rintro _ w25 ⟨rfl, e24⟩
  have H26 := H23.ext e24
  refine ry (y_pick rfl rfl rfl) rfl rfl ?_
  refine ry (y_mov rfl rfl) rfl rfl ?_
  refine rgy (y_mov rfl rfl) rfl rfl rfl rfl ?_
  refine rg_on rfl rfl rfl (op_lit (parts := [(0, _), (1, _)]) (vs := [(0, _), (1, _)]) (cs := [.int _ _, .int _ _]) H26 rfl Try.underlying22 kfturn5_6 rfl ⟨rfl, rfl, trivial⟩ rfl rfl) rfl ?_
  rintro _ w28 ⟨b27, rfl, H29⟩
  have H30 := H29.asrow (m := 2) (size := 1) rfl (by decide)
  refine rgy (y_build (places := [(0, 1), (1, 1), (2, 1)]) (parts := [(0, _), (1, _), (2, _)]) (vs := [(0, _), (1, _), (2, _)]) (cs := [.int _ _, .int _ _, .slice _ _ _]) rfl Try.underlying25 (by kernel_rfl) kfturn5_9 rfl ⟨rfl, rfl, rfl, trivial⟩ rfl) rfl rfl rfl rfl ?_
  refine rg_on rfl rfl rfl (op_call (lIs g18 1 2 ([2, 1]) _ _ _ (H30.rdg (i := 2) rfl) (H30.rd (i := 0) rfl)) rfl kfturn5_10 ⟨rfl, rfl, trivial⟩) rfl ?_
  rintro _ w32 ⟨rfl, e31⟩
  have H33 := H30.ext e31
  refine ry (y_pick rfl rfl rfl) rfl rfl ?_
  refine ry (y_asg rfl rfl) rfl rfl ?_
  refine reg_nil ?_
  refine fn_next ?_
  refine cw_ret ?_
  refine fn_ret1 rfl rfl ?_
  exact ⟨rfl, H33.base⟩

set_option maxRecDepth 100000 in
theorem turnNil_all (n x0 y0 x1 y1 k : Int) (w : World) :
    Ret Try.prog 11 [.int .i64 n, .agg #[.int .i64 x0, .int .i64 y0, .int .i64 x1, .int .i64 y1], .int .i64 k] w (fun z w' => z = .bool true ∧ Below w.heap.size w w') := by
  refine ret_enter Try.func11 rfl rfl rfl ?_
  have H0 := HS.start w
  refine cw_seq ?_
  refine cw_reg ?_
  refine reg_op (op_box (cs := [.int _ _, .int _ _, .int _ _, .int _ _]) H0 rfl rfl rfl) rfl rfl ?_
  rintro _ w2 ⟨b1, rfl, H3⟩
  refine ry (y_asg rfl rfl) rfl rfl ?_
  refine reg_nil ?_
  refine fn_next ?_
  refine cw_seq ?_
  refine cw_seq ?_
  refine cw_reg ?_
  refine reg_op (op_call (turnAwake _) rfl kfturn5_11 trivial) rfl rfl ?_
  rintro _ w5 ⟨rfl, e4⟩
  have H6 := H3.ext e4
  refine ry (y_not rfl rfl) rfl rfl ?_
  refine reg_nil ?_
  refine fn_next ?_
  refine cw_condf rfl ?_
  refine cw_skip ?_
  refine fn_next ?_
  refine cw_seq ?_
  refine cw_reg ?_
  refine reg_op (op_call (gNew_ok 2 2 1 _ (⟨by decide, by decide, by decide, by decide⟩) (by decide)) rfl kfturn5_12 ⟨rfl, rfl, rfl, trivial⟩) rfl rfl ?_
  rintro _ w8 ⟨g10, bl11, rfl, k7⟩
  have H9 := H6.call k7
  refine ry (y_mov rfl rfl) rfl rfl ?_
  refine ry (y_ext rfl rfl rfl) rfl rfl ?_
  refine ry (y_ext rfl rfl rfl) rfl rfl ?_
  refine ry (y_asg rfl rfl) rfl rfl ?_
  refine ry (y_asg rfl rfl) rfl rfl ?_
  refine reg_nil ?_
  refine fn_next ?_
  refine cw_seq ?_
  refine cw_reg ?_
  refine ry (y_mov rfl rfl) rfl rfl ?_
  refine reg_op (op_call (tNil_Quarter _ _) rfl kfturn5_8 ⟨rfl, rfl, trivial⟩) rfl rfl ?_
  rintro _ w13 ⟨rfl, e12⟩
  have H14 := H9.ext e12
  refine ry (y_mov rfl rfl) rfl rfl ?_
  refine ry (y_ext rfl rfl rfl) rfl rfl ?_
  refine ry (y_ext rfl rfl rfl) rfl rfl ?_
  refine ry (y_asg rfl rfl) rfl rfl ?_
  refine ry (y_asg rfl rfl) rfl rfl ?_
  refine reg_nil ?_
  refine fn_next ?_
  refine cw_seq ?_
  refine cw_reg ?_
  refine reg_op (op_call (tNil_Mirror _) rfl kfturn5_13 ⟨rfl, trivial⟩) rfl rfl ?_
  rintro _ w16 ⟨rfl, e15⟩
  have H17 := H14.ext e15
  refine ry (y_mov rfl rfl) rfl rfl ?_
  refine ry (y_ext rfl rfl rfl) rfl rfl ?_
  refine ry (y_ext rfl rfl rfl) rfl rfl ?_
  refine ry (y_asg rfl rfl) rfl rfl ?_
  refine ry (y_asg rfl rfl) rfl rfl ?_
  refine reg_nil ?_
  refine fn_next ?_
  refine cw_seq ?_
  refine cw_reg ?_
  refine reg_op (op_call (tNil_Swap _) rfl kfturn5_14 ⟨rfl, trivial⟩) rfl rfl ?_
  rintro _ w19 ⟨rfl, e18⟩
  have H20 := H17.ext e18
  refine ry (y_mov rfl rfl) rfl rfl ?_
  refine ry (y_ext rfl rfl rfl) rfl rfl ?_
  refine ry (y_ext rfl rfl rfl) rfl rfl ?_
  refine ry (y_asg rfl rfl) rfl rfl ?_
  refine ry (y_asg rfl rfl) rfl rfl ?_
  refine reg_nil ?_
  refine fn_next ?_
  refine cw_seq ?_
  refine cw_reg ?_
  refine ry (y_ldb (i := 1) (cs := [_, _, _, _]) H20 rfl rfl kfturn5_4 rfl rfl) rfl rfl ?_
  refine reg_op (op_call (tNil_Crop _ _ _ _ _) rfl kfturn5_15 ⟨rfl, rfl, trivial⟩) rfl rfl ?_
  rintro _ w22 ⟨rfl, e21⟩
  have H23 := H20.ext e21
  refine ry (y_mov rfl rfl) rfl rfl ?_
  refine ry (y_ext rfl rfl rfl) rfl rfl ?_
  refine ry (y_ext rfl rfl rfl) rfl rfl ?_
  refine ry (y_asg rfl rfl) rfl rfl ?_
  refine ry (y_asg rfl rfl) rfl rfl ?_
  refine reg_nil ?_
  refine fn_next ?_
  refine cw_seq ?_
  refine cw_reg ?_
  refine ry (y_mov rfl rfl) rfl rfl ?_
  refine reg_op (op_call (tNil_Scale _ _) rfl kfturn5_16 ⟨rfl, rfl, trivial⟩) rfl rfl ?_
  rintro _ w25 ⟨rfl, e24⟩
  have H26 := H23.ext e24
  refine ry (y_mov rfl rfl) rfl rfl ?_
  refine ry (y_ext rfl rfl rfl) rfl rfl ?_
  refine ry (y_ext rfl rfl rfl) rfl rfl ?_
  refine ry (y_asg rfl rfl) rfl rfl ?_
  refine ry (y_asg rfl rfl) rfl rfl ?_
  refine reg_nil ?_
  refine fn_next ?_
  refine cw_seq ?_
  refine cw_reg ?_
  refine ry (y_mov rfl rfl) rfl rfl ?_
  refine reg_op (op_call (tNil_Beside g10 2 2 (List.replicate (2 * 2) 1) _ (H26.rdg (i := 0) rfl)) rfl kfturn5_17 ⟨rfl, rfl, trivial⟩) rfl rfl ?_
  rintro _ w28 ⟨rfl, e27⟩
  have H29 := H26.ext e27
  refine ry (y_mov rfl rfl) rfl rfl ?_
  refine ry (y_ext rfl rfl rfl) rfl rfl ?_
  refine ry (y_ext rfl rfl rfl) rfl rfl ?_
  refine ry (y_asg rfl rfl) rfl rfl ?_
  refine ry (y_asg rfl rfl) rfl rfl ?_
  refine reg_nil ?_
  refine fn_next ?_
  refine cw_seq ?_
  refine cw_reg ?_
  refine ry (y_mov rfl rfl) rfl rfl ?_
  refine reg_op (op_call (tNil_Below g10 2 2 (List.replicate (2 * 2) 1) _ (H29.rdg (i := 0) rfl)) rfl kfturn5_18 ⟨rfl, rfl, trivial⟩) rfl rfl ?_
  rintro _ w31 ⟨rfl, e30⟩
  have H32 := H29.ext e30
  refine ry (y_mov rfl rfl) rfl rfl ?_
  refine ry (y_ext rfl rfl rfl) rfl rfl ?_
  refine ry (y_ext rfl rfl rfl) rfl rfl ?_
  refine ry (y_asg rfl rfl) rfl rfl ?_
  refine ry (y_asg rfl rfl) rfl rfl ?_
  refine reg_nil ?_
  refine fn_next ?_
  refine cw_seq ?_
  refine cw_reg ?_
  refine ry (y_mov rfl rfl) rfl rfl ?_
  refine ry (y_peqlnil rfl Try.underlying28 rfl rfl) rfl rfl ?_
  refine ry (y_mov rfl rfl) rfl rfl ?_
  refine rgy (y_mov rfl rfl) rfl rfl rfl rfl ?_
  refine rgy (y_peqlnil rfl Try.underlying28 rfl rfl) rfl rfl rfl rfl ?_
  refine ry (y_pick rfl rfl rfl) rfl rfl ?_
  refine ry (y_mov rfl rfl) rfl rfl ?_
  refine rgy (y_mov rfl rfl) rfl rfl rfl rfl ?_
  refine rgy (y_peqlnil rfl Try.underlying28 rfl rfl) rfl rfl rfl rfl ?_
  refine ry (y_pick rfl rfl rfl) rfl rfl ?_
  refine ry (y_mov rfl rfl) rfl rfl ?_
  refine rgy (y_mov rfl rfl) rfl rfl rfl rfl ?_
  refine rgy (y_peqlnil rfl Try.underlying28 rfl rfl) rfl rfl rfl rfl ?_
  refine ry (y_pick rfl rfl rfl) rfl rfl ?_
  refine ry (y_mov rfl rfl) rfl rfl ?_
  refine rgy (y_mov rfl rfl) rfl rfl rfl rfl ?_
  refine rgy (y_peqlnil rfl Try.underlying28 rfl rfl) rfl rfl rfl rfl ?_
  refine ry (y_pick rfl rfl rfl) rfl rfl ?_
  refine ry (y_mov rfl rfl) rfl rfl ?_
  refine rgy (y_mov rfl rfl) rfl rfl rfl rfl ?_
  refine rgy (y_peqlnil rfl Try.underlying28 rfl rfl) rfl rfl rfl rfl ?_
  refine ry (y_pick rfl rfl rfl) rfl rfl ?_
  refine ry (y_mov rfl rfl) rfl rfl ?_
  refine rgy (y_mov rfl rfl) rfl rfl rfl rfl ?_
  refine rgy (y_peqlnil rfl Try.underlying28 rfl rfl) rfl rfl rfl rfl ?_
  refine ry (y_pick rfl rfl rfl) rfl rfl ?_
  refine ry (y_mov rfl rfl) rfl rfl ?_
  refine rgy (y_mov rfl rfl) rfl rfl rfl rfl ?_
  refine rgy (y_eql rfl rfl rfl) rfl rfl rfl rfl ?_
  refine ry (y_pick rfl rfl rfl) rfl rfl ?_
  refine ry (y_mov rfl rfl) rfl rfl ?_
  refine rgy (y_mov rfl rfl) rfl rfl rfl rfl ?_
  refine rgy (y_eql rfl rfl rfl) rfl rfl rfl rfl ?_
  refine ry (y_pick rfl rfl rfl) rfl rfl ?_
  refine ry (y_mov rfl rfl) rfl rfl ?_
  refine rgy (y_mov rfl rfl) rfl rfl rfl rfl ?_
  refine rgy (y_eql rfl rfl rfl) rfl rfl rfl rfl ?_
  refine ry (y_pick rfl rfl rfl) rfl rfl ?_
  refine ry (y_mov rfl rfl) rfl rfl ?_
  refine rgy (y_mov rfl rfl) rfl rfl rfl rfl ?_
  refine rgy (y_eql rfl rfl rfl) rfl rfl rfl rfl ?_
  refine ry (y_pick rfl rfl rfl) rfl rfl ?_
  refine ry (y_mov rfl rfl) rfl rfl ?_
  refine rgy (y_mov rfl rfl) rfl rfl rfl rfl ?_
  refine rgy (y_eql rfl rfl rfl) rfl rfl rfl rfl ?_
  refine ry (y_pick rfl rfl rfl) rfl rfl ?_
  refine ry (y_mov rfl rfl) rfl rfl ?_
  refine rgy (y_mov rfl rfl) rfl rfl rfl rfl ?_
  refine rgy (y_eql rfl rfl rfl) rfl rfl rfl rfl ?_
  refine ry (y_pick rfl rfl rfl) rfl rfl ?_
  refine ry (y_mov rfl rfl) rfl rfl ?_
  refine rgy (y_mov rfl rfl) rfl rfl rfl rfl ?_
  refine rgy (y_eql rfl rfl rfl) rfl rfl rfl rfl ?_
  refine ry (y_pick rfl rfl rfl) rfl rfl ?_
  refine ry (y_asg rfl rfl) rfl rfl ?_
  refine reg_nil ?_
  refine fn_next ?_
  refine cw_ret ?_
  refine fn_ret1 rfl rfl ?_
  exact ⟨rfl, H32.base⟩

theorem turnNil_law (n : Int) (rx0 ry0 rx1 ry1 : Int) (k : Int) (W : World) (bn : I6 n) (brx0 : I6 rx0) (bry0 : I6 ry0) (brx1 : I6 rx1) (bry1 : I6 ry1) (bk : I6 k) :
    Calls Try.prog 11 #[.int .i64 n, .agg #[.int .i64 rx0, .int .i64 ry0, .int .i64 rx1, .int .i64 ry1], .int .i64 k] W fun e w' => e = .returned (.bool true) ∧ Below W.heap.size W w' := lawOf (turnNil_all n rx0 ry0 rx1 ry1 k W)

end Go.Proofs.Ytbhmkpnihgjlnaa
