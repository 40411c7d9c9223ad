/- Layer 47: the merge of three grids; the reference. -/
import Derived.Test.YtbhmkpnihgjlnaaMerge1
import Derived.Test.YtbhmkpnihgjlnaaDist2
set_option linter.unusedVariables false
set_option linter.unusedSimpArgs false
namespace Go.Proofs.Ytbhmkpnihgjlnaa
open Go Go.RowKit
theorem kfmerge2_1 : (Try.prog.info? 28).map (fun i => (i.size, i.zero.map Value.cells)) = some (1, some (List.toArray [(.pointer none)])) := by kernel_rfl
theorem kfmerge2_2 : callB Try.prog 98 = true := by kernel_rfl
theorem kfmerge2_3 : callB Try.prog 62 = true := by kernel_rfl
theorem kfmerge2_4 : elB Try.prog 140 1 = true := by kernel_rfl
theorem kfmerge2_5 : oneB Try.prog 22 = true := by kernel_rfl
theorem kfmerge2_6 : elB Try.prog 22 1 = true := by kernel_rfl
theorem kfmerge2_7 : oneB Try.prog 2 = true := by kernel_rfl
theorem kfmerge2_8 : callB Try.prog 99 = true := by kernel_rfl
theorem kfmerge2_9 : (Try.prog.info? 46).bind (fun i => i.zero.map Value.cells) = some (List.toArray [(.int .i64 0), (.int .i64 0)]) := by kernel_rfl
theorem kfmerge2_10 : (Try.prog.info? 46).map (fun i => (i.size, i.zero.map Value.cells)) = some (2, some (List.toArray [(.int .i64 0), (.int .i64 0)])) := by kernel_rfl
theorem kfmerge2_11 : (Try.prog.info? 46).map (fun i => (i.zero.map (·.cells.toList), i.size, i.bytes)) = some (some [(.int .i64 0), (.int .i64 0)], 2, 16) := by kernel_rfl
theorem kfmerge2_12 : szB Try.prog 2 1 = true := by kernel_rfl
theorem kfmerge2_13 : callB Try.prog 52 = true := by kernel_rfl
theorem kfmerge2_14 : callB Try.prog 61 = true := by kernel_rfl
theorem kfmerge2_15 : callB Try.prog 60 = true := by kernel_rfl
theorem kfmerge2_16 : (Try.prog.info? 25).bind (fun i => i.zero.map Value.cells) = some (List.toArray [(.int .i64 0), (.int .i64 0), (.slice none 0 0)]) := by kernel_rfl
theorem kfmerge2_17 : fldB Try.prog 25 0 0 = true := by kernel_rfl
theorem kfmerge2_18 : fldB Try.prog 25 1 1 = true := by kernel_rfl
theorem kfmerge2_19 : szB Try.prog 25 3 = true := by kernel_rfl
theorem kfmerge2_20 : fldB Try.prog 25 2 2 = true := by kernel_rfl
theorem kfmerge2_21 : callB Try.prog 63 = true := by kernel_rfl
theorem kfmerge2_22 : (Try.prog.info? 2).map (fun i => (i.size, i.zero.map Value.cells)) = some (1, some (List.toArray [(.int .i64 0)])) := by kernel_rfl
theorem kfmerge2_23 : (Try.prog.info? 2).map (fun i => (i.zero.map (·.cells.toList), i.size, i.bytes)) = some (some [(.int .i64 0)], 1, 8) := by kernel_rfl
theorem kfmerge2_24 : szB Try.prog 22 1 = true := by kernel_rfl
theorem kfmerge2_25 : aggB Try.prog 25 3 = true := by kernel_rfl

set_option maxRecDepth 100000 in
theorem merged_arg (a h : Nat) (g0 : Nat) (V U T : List Int) (g1 g2 : Nat) (w : World) (R0 : GRd w g0 a h V) (R1 : GRd w g1 a h U) (R2 : GRd w g2 a h T) :
    Ret Try.prog 60 [.pointer (some ⟨g0, 0, none⟩), .pointer (some ⟨g1, 0, none⟩), .pointer (some ⟨g2, 0, none⟩), .nilFunc] w (fun z w' => z = .tuple #[.pointer none, .slice none 0 0, .int .i64 11] ∧ Below w.heap.size w w') := by
 have hgv := R0.gv
 have ha : 1 ≤ a := hgv.a1
 have hm := hgv.sz.mul
 have hlV : V.length = a * h := hgv.len
 have hlU : U.length = a * h := R1.gv.len
 have hlT : T.length = a * h := R2.gv.len
 refine ret_enter Try.func60 rfl rfl rfl ?_
 have H0 := HS.start w
 refine cw_seq ?_
 refine cw_reg ?_
 refine ry (y_asg rfl rfl) rfl rfl ?_
 refine ry (y_asg rfl rfl) rfl rfl ?_
 refine ry (y_asg rfl rfl) rfl rfl ?_
 refine reg_nil ?_
 refine fn_next ?_
 refine cw_seq ?_
 refine cw_reg ?_
 refine ry (y_mov rfl rfl) rfl rfl ?_
 refine ry (y_mov rfl rfl) rfl rfl ?_
 refine ry (y_mov rfl rfl) rfl rfl ?_
 refine reg_op (op_lit (parts := [(0, _), (1, _), (2, _)]) (vs := [(0, _), (1, _), (2, _)]) (cs := [.pointer _, .pointer _, .pointer _]) H0 rfl Try.underlying169 kfmerge2_1 rfl ⟨rfl, rfl, rfl, trivial⟩ rfl rfl) rfl rfl ?_
 rintro _ w2 ⟨b1, rfl, H3⟩
 have H4 := H3.asrow (m := 3) (size := 1) rfl (by decide)
 refine reg_op (op_call (three_ok a h g0 V g1 U g2 T _ _ _ (R0.below H4.base) (R1.below H4.base) (R2.below H4.base) (H4.rd (i := 0) rfl)) rfl kfmerge2_2 ⟨rfl, trivial⟩) rfl rfl ?_
 rintro _ w6 ⟨A8, c9, B10, d11, E12, e13, G14, f15, rfl, k5⟩
 have H7 := H4.call k5
 refine ry (y_mov rfl rfl) rfl rfl ?_
 refine ry (y_ext rfl rfl rfl) rfl rfl ?_
 refine ry (y_ext rfl rfl rfl) rfl rfl ?_
 refine ry (y_asg rfl rfl) rfl rfl ?_
 refine ry (y_asg rfl rfl) rfl rfl ?_
 refine reg_nil ?_
 refine fn_next ?_
 refine cw_seq ?_
 refine cw_seq ?_
 refine cw_reg ?_
 refine ry (y_mov rfl rfl) rfl rfl ?_
 refine ry (y_eql rfl rfl rfl) rfl rfl ?_
 refine ry (y_mov rfl rfl) rfl rfl ?_
 refine rgy (y_mov rfl rfl) rfl rfl rfl rfl ?_
 refine rgy (y_feqln rfl Try.underlying101 rfl rfl) rfl rfl rfl rfl ?_
 refine ry (y_pick rfl rfl rfl) rfl rfl ?_
 refine reg_nil ?_
 refine fn_next ?_
 refine cw_condt rfl ?_
 refine cw_reg ?_
 refine ry (y_asg rfl rfl) rfl rfl ?_
 refine reg_nil ?_
 refine fn_next ?_
 refine cw_seq ?_
 refine cw_seq ?_
 refine cw_reg ?_
 refine ry (y_mov rfl rfl) rfl rfl ?_
 refine ry (y_neq rfl rfl rfl) rfl rfl ?_
 refine reg_nil ?_
 refine fn_next ?_
 refine cw_condt rfl ?_
 refine cw_seq ?_
 refine cw_reg ?_
 refine ry (y_mov rfl rfl) rfl rfl ?_
 refine ry (y_asg rfl rfl) rfl rfl ?_
 refine ry (y_asg rfl rfl) rfl rfl ?_
 refine ry (y_asg rfl rfl) rfl rfl ?_
 refine reg_nil ?_
 refine fn_next ?_
 refine cw_ret ?_
 refine fn_then_ret ?_
 refine fn_retn (vs := [_, _, _]) rfl ⟨rfl, rfl, rfl, trivial⟩ rfl ?_
 exact ⟨rfl, H7.base⟩

set_option maxRecDepth 100000 in
theorem merged_s2 (a a2 h h2 : Nat) (g0 : Nat) (V U T : List Int) (g1 g2 : Nat) (fv : Value) (w : World) (R0 : GRd w g0 a h V) (R1 : GRd w g1 a2 h2 U) (R2 : GRd w g2 a h T) (hne : ¬ (a2 = a ∧ h2 = h)) :
    Ret Try.prog 60 [.pointer (some ⟨g0, 0, none⟩), .pointer (some ⟨g1, 0, none⟩), .pointer (some ⟨g2, 0, none⟩), fv] w (fun z w' => z = .tuple #[.pointer none, .slice none 0 0, .int .i64 3] ∧ Below w.heap.size w w') := by
 refine ret_enter Try.func60 rfl rfl rfl ?_
 have H0 := HS.start w
 refine cw_seq ?_
 refine cw_reg ?_
 refine ry (y_asg rfl rfl) rfl rfl ?_
 refine ry (y_asg rfl rfl) rfl rfl ?_
 refine ry (y_asg rfl rfl) rfl rfl ?_
 refine reg_nil ?_
 refine fn_next ?_
 refine cw_seq ?_
 refine cw_reg ?_
 refine ry (y_mov rfl rfl) rfl rfl ?_
 refine ry (y_mov rfl rfl) rfl rfl ?_
 refine ry (y_mov rfl rfl) rfl rfl ?_
 refine reg_op (op_lit (parts := [(0, _), (1, _), (2, _)]) (vs := [(0, _), (1, _), (2, _)]) (cs := [.pointer _, .pointer _, .pointer _]) H0 rfl Try.underlying169 kfmerge2_1 rfl ⟨rfl, rfl, rfl, trivial⟩ rfl rfl) rfl rfl ?_
 rintro _ w2 ⟨b1, rfl, H3⟩
 have H4 := H3.asrow (m := 3) (size := 1) rfl (by decide)
 refine reg_op (op_call (three_s2 a a2 h h2 g0 V g1 U g2 T _ _ _ (R0.below H4.base) (R1.below H4.base) (R2.below H4.base) (H4.rd (i := 0) rfl) hne) rfl kfmerge2_2 ⟨rfl, trivial⟩) rfl rfl ?_
 rintro _ w6 ⟨rfl, e5⟩
 have H7 := H4.ext e5
 refine ry (y_mov rfl rfl) rfl rfl ?_
 refine ry (y_ext rfl rfl rfl) rfl rfl ?_
 refine ry (y_ext rfl rfl rfl) rfl rfl ?_
 refine ry (y_asg rfl rfl) rfl rfl ?_
 refine ry (y_asg rfl rfl) rfl rfl ?_
 refine reg_nil ?_
 refine fn_next ?_
 refine cw_seq ?_
 refine cw_seq ?_
 refine cw_reg ?_
 refine ry (y_mov rfl rfl) rfl rfl ?_
 refine ry (y_eql rfl rfl rfl) rfl rfl ?_
 refine ry (y_mov rfl rfl) rfl rfl ?_
 refine rg_off rfl rfl rfl rfl rfl ?_
 refine rg_off rfl rfl rfl rfl rfl ?_
 refine ry (y_pick rfl rfl rfl) rfl rfl ?_
 refine reg_nil ?_
 refine fn_next ?_
 refine cw_condf rfl ?_
 refine cw_skip ?_
 refine fn_next ?_
 refine cw_seq ?_
 refine cw_seq ?_
 refine cw_reg ?_
 refine ry (y_mov rfl rfl) rfl rfl ?_
 refine ry (y_neq rfl rfl rfl) rfl rfl ?_
 refine reg_nil ?_
 refine fn_next ?_
 refine cw_condt rfl ?_
 refine cw_seq ?_
 refine cw_reg ?_
 refine ry (y_mov rfl rfl) rfl rfl ?_
 refine ry (y_asg rfl rfl) rfl rfl ?_
 refine ry (y_asg rfl rfl) rfl rfl ?_
 refine ry (y_asg rfl rfl) rfl rfl ?_
 refine reg_nil ?_
 refine fn_next ?_
 refine cw_ret ?_
 refine fn_then_ret ?_
 refine fn_retn (vs := [_, _, _]) rfl ⟨rfl, rfl, rfl, trivial⟩ rfl ?_
 exact ⟨rfl, H7.base⟩

set_option maxRecDepth 100000 in
theorem merged_s3 (a a2 h h2 : Nat) (g0 : Nat) (V U T : List Int) (g1 g2 : Nat) (fv : Value) (w : World) (R0 : GRd w g0 a h V) (R1 : GRd w g1 a h U) (R2 : GRd w g2 a2 h2 T) (hne : ¬ (a2 = a ∧ h2 = h)) :
    Ret Try.prog 60 [.pointer (some ⟨g0, 0, none⟩), .pointer (some ⟨g1, 0, none⟩), .pointer (some ⟨g2, 0, none⟩), fv] w (fun z w' => z = .tuple #[.pointer none, .slice none 0 0, .int .i64 3] ∧ Below w.heap.size w w') := by
 refine ret_enter Try.func60 rfl rfl rfl ?_
 have H0 := HS.start w
 refine cw_seq ?_
 refine cw_reg ?_
 refine ry (y_asg rfl rfl) rfl rfl ?_
 refine ry (y_asg rfl rfl) rfl rfl ?_
 refine ry (y_asg rfl rfl) rfl rfl ?_
 refine reg_nil ?_
 refine fn_next ?_
 refine cw_seq ?_
 refine cw_reg ?_
 refine ry (y_mov rfl rfl) rfl rfl ?_
 refine ry (y_mov rfl rfl) rfl rfl ?_
 refine ry (y_mov rfl rfl) rfl rfl ?_
 refine reg_op (op_lit (parts := [(0, _), (1, _), (2, _)]) (vs := [(0, _), (1, _), (2, _)]) (cs := [.pointer _, .pointer _, .pointer _]) H0 rfl Try.underlying169 kfmerge2_1 rfl ⟨rfl, rfl, rfl, trivial⟩ rfl rfl) rfl rfl ?_
 rintro _ w2 ⟨b1, rfl, H3⟩
 have H4 := H3.asrow (m := 3) (size := 1) rfl (by decide)
 refine reg_op (op_call (three_s3 a a2 h h2 g0 V g1 U g2 T _ _ _ (R0.below H4.base) (R1.below H4.base) (R2.below H4.base) (H4.rd (i := 0) rfl) hne) rfl kfmerge2_2 ⟨rfl, trivial⟩) rfl rfl ?_
 rintro _ w6 ⟨rfl, e5⟩
 have H7 := H4.ext e5
 refine ry (y_mov rfl rfl) rfl rfl ?_
 refine ry (y_ext rfl rfl rfl) rfl rfl ?_
 refine ry (y_ext rfl rfl rfl) rfl rfl ?_
 refine ry (y_asg rfl rfl) rfl rfl ?_
 refine ry (y_asg rfl rfl) rfl rfl ?_
 refine reg_nil ?_
 refine fn_next ?_
 refine cw_seq ?_
 refine cw_seq ?_
 refine cw_reg ?_
 refine ry (y_mov rfl rfl) rfl rfl ?_
 refine ry (y_eql rfl rfl rfl) rfl rfl ?_
 refine ry (y_mov rfl rfl) rfl rfl ?_
 refine rg_off rfl rfl rfl rfl rfl ?_
 refine rg_off rfl rfl rfl rfl rfl ?_
 refine ry (y_pick rfl rfl rfl) rfl rfl ?_
 refine reg_nil ?_
 refine fn_next ?_
 refine cw_condf rfl ?_
 refine cw_skip ?_
 refine fn_next ?_
 refine cw_seq ?_
 refine cw_seq ?_
 refine cw_reg ?_
 refine ry (y_mov rfl rfl) rfl rfl ?_
 refine ry (y_neq rfl rfl rfl) rfl rfl ?_
 refine reg_nil ?_
 refine fn_next ?_
 refine cw_condt rfl ?_
 refine cw_seq ?_
 refine cw_reg ?_
 refine ry (y_mov rfl rfl) rfl rfl ?_
 refine ry (y_asg rfl rfl) rfl rfl ?_
 refine ry (y_asg rfl rfl) rfl rfl ?_
 refine ry (y_asg rfl rfl) rfl rfl ?_
 refine reg_nil ?_
 refine fn_next ?_
 refine cw_ret ?_
 refine fn_then_ret ?_
 refine fn_retn (vs := [_, _, _]) rfl ⟨rfl, rfl, rfl, trivial⟩ rfl ?_
 exact ⟨rfl, H7.base⟩

set_option maxRecDepth 100000 in
theorem merged_n0 (a1 a2 h1 h2 : Nat) (g1 : Nat) (U : List Int) (g2 : Nat) (T : List Int) (fv : Value) (w : World) (R1 : GRd w g1 a1 h1 U) (R2 : GRd w g2 a2 h2 T) :
    Ret Try.prog 60 [.pointer none, .pointer (some ⟨g1, 0, none⟩), .pointer (some ⟨g2, 0, none⟩), fv] w (fun z w' => z = .tuple #[.pointer none, .slice none 0 0, .int .i64 1] ∧ Below w.heap.size w w') := by
 refine ret_enter Try.func60 rfl rfl rfl ?_
 have H0 := HS.start w
 refine cw_seq ?_
 refine cw_reg ?_
 refine ry (y_asg rfl rfl) rfl rfl ?_
 refine ry (y_asg rfl rfl) rfl rfl ?_
 refine ry (y_asg rfl rfl) rfl rfl ?_
 refine reg_nil ?_
 refine fn_next ?_
 refine cw_seq ?_
 refine cw_reg ?_
 refine ry (y_mov rfl rfl) rfl rfl ?_
 refine ry (y_mov rfl rfl) rfl rfl ?_
 refine ry (y_mov rfl rfl) rfl rfl ?_
 refine reg_op (op_lit (parts := [(0, _), (1, _), (2, _)]) (vs := [(0, _), (1, _), (2, _)]) (cs := [.pointer _, .pointer _, .pointer _]) H0 rfl Try.underlying169 kfmerge2_1 rfl ⟨rfl, rfl, rfl, trivial⟩ rfl rfl) rfl rfl ?_
 rintro _ w2 ⟨b1, rfl, H3⟩
 have H4 := H3.asrow (m := 3) (size := 1) rfl (by decide)
 refine reg_op (op_call (three_n0 a1 a2 h1 h2 g1 U g2 T _ _ _ (R1.below H4.base) (R2.below H4.base) (H4.rd (i := 0) rfl)) rfl kfmerge2_2 ⟨rfl, trivial⟩) rfl rfl ?_
 rintro _ w6 ⟨rfl, e5⟩
 have H7 := H4.ext e5
 refine ry (y_mov rfl rfl) rfl rfl ?_
 refine ry (y_ext rfl rfl rfl) rfl rfl ?_
 refine ry (y_ext rfl rfl rfl) rfl rfl ?_
 refine ry (y_asg rfl rfl) rfl rfl ?_
 refine ry (y_asg rfl rfl) rfl rfl ?_
 refine reg_nil ?_
 refine fn_next ?_
 refine cw_seq ?_
 refine cw_seq ?_
 refine cw_reg ?_
 refine ry (y_mov rfl rfl) rfl rfl ?_
 refine ry (y_eql rfl rfl rfl) rfl rfl ?_
 refine ry (y_mov rfl rfl) rfl rfl ?_
 refine rg_off rfl rfl rfl rfl rfl ?_
 refine rg_off rfl rfl rfl rfl rfl ?_
 refine ry (y_pick rfl rfl rfl) rfl rfl ?_
 refine reg_nil ?_
 refine fn_next ?_
 refine cw_condf rfl ?_
 refine cw_skip ?_
 refine fn_next ?_
 refine cw_seq ?_
 refine cw_seq ?_
 refine cw_reg ?_
 refine ry (y_mov rfl rfl) rfl rfl ?_
 refine ry (y_neq rfl rfl rfl) rfl rfl ?_
 refine reg_nil ?_
 refine fn_next ?_
 refine cw_condt rfl ?_
 refine cw_seq ?_
 refine cw_reg ?_
 refine ry (y_mov rfl rfl) rfl rfl ?_
 refine ry (y_asg rfl rfl) rfl rfl ?_
 refine ry (y_asg rfl rfl) rfl rfl ?_
 refine ry (y_asg rfl rfl) rfl rfl ?_
 refine reg_nil ?_
 refine fn_next ?_
 refine cw_ret ?_
 refine fn_then_ret ?_
 refine fn_retn (vs := [_, _, _]) rfl ⟨rfl, rfl, rfl, trivial⟩ rfl ?_
 exact ⟨rfl, H7.base⟩

set_option maxRecDepth 100000 in
theorem merged_n1 (a a2 h h2 : Nat) (g1 : Nat) (U : List Int) (g2 : Nat) (T : List Int) (fv : Value) (w : World) (R1 : GRd w g1 a h U) (R2 : GRd w g2 a2 h2 T) :
    Ret Try.prog 60 [.pointer (some ⟨g1, 0, none⟩), .pointer none, .pointer (some ⟨g2, 0, none⟩), fv] w (fun z w' => z = .tuple #[.pointer none, .slice none 0 0, .int .i64 1] ∧ Below w.heap.size w w') := by
 refine ret_enter Try.func60 rfl rfl rfl ?_
 have H0 := HS.start w
 refine cw_seq ?_
 refine cw_reg ?_
 refine ry (y_asg rfl rfl) rfl rfl ?_
 refine ry (y_asg rfl rfl) rfl rfl ?_
 refine ry (y_asg rfl rfl) rfl rfl ?_
 refine reg_nil ?_
 refine fn_next ?_
 refine cw_seq ?_
 refine cw_reg ?_
 refine ry (y_mov rfl rfl) rfl rfl ?_
 refine ry (y_mov rfl rfl) rfl rfl ?_
 refine ry (y_mov rfl rfl) rfl rfl ?_
 refine reg_op (op_lit (parts := [(0, _), (1, _), (2, _)]) (vs := [(0, _), (1, _), (2, _)]) (cs := [.pointer _, .pointer _, .pointer _]) H0 rfl Try.underlying169 kfmerge2_1 rfl ⟨rfl, rfl, rfl, trivial⟩ rfl rfl) rfl rfl ?_
 rintro _ w2 ⟨b1, rfl, H3⟩
 have H4 := H3.asrow (m := 3) (size := 1) rfl (by decide)
 refine reg_op (op_call (three_n1 a a2 h h2 g1 U g2 T _ _ _ (R1.below H4.base) (R2.below H4.base) (H4.rd (i := 0) rfl)) rfl kfmerge2_2 ⟨rfl, trivial⟩) rfl rfl ?_
 rintro _ w6 ⟨rfl, e5⟩
 have H7 := H4.ext e5
 refine ry (y_mov rfl rfl) rfl rfl ?_
 refine ry (y_ext rfl rfl rfl) rfl rfl ?_
 refine ry (y_ext rfl rfl rfl) rfl rfl ?_
 refine ry (y_asg rfl rfl) rfl rfl ?_
 refine ry (y_asg rfl rfl) rfl rfl ?_
 refine reg_nil ?_
 refine fn_next ?_
 refine cw_seq ?_
 refine cw_seq ?_
 refine cw_reg ?_
 refine ry (y_mov rfl rfl) rfl rfl ?_
 refine ry (y_eql rfl rfl rfl) rfl rfl ?_
 refine ry (y_mov rfl rfl) rfl rfl ?_
 refine rg_off rfl rfl rfl rfl rfl ?_
 refine rg_off rfl rfl rfl rfl rfl ?_
 refine ry (y_pick rfl rfl rfl) rfl rfl ?_
 refine reg_nil ?_
 refine fn_next ?_
 refine cw_condf rfl ?_
 refine cw_skip ?_
 refine fn_next ?_
 refine cw_seq ?_
 refine cw_seq ?_
 refine cw_reg ?_
 refine ry (y_mov rfl rfl) rfl rfl ?_
 refine ry (y_neq rfl rfl rfl) rfl rfl ?_
 refine reg_nil ?_
 refine fn_next ?_
 refine cw_condt rfl ?_
 refine cw_seq ?_
 refine cw_reg ?_
 refine ry (y_mov rfl rfl) rfl rfl ?_
 refine ry (y_asg rfl rfl) rfl rfl ?_
 refine ry (y_asg rfl rfl) rfl rfl ?_
 refine ry (y_asg rfl rfl) rfl rfl ?_
 refine reg_nil ?_
 refine fn_next ?_
 refine cw_ret ?_
 refine fn_then_ret ?_
 refine fn_retn (vs := [_, _, _]) rfl ⟨rfl, rfl, rfl, trivial⟩ rfl ?_
 exact ⟨rfl, H7.base⟩

set_option maxRecDepth 100000 in
theorem merged_n2 (a a1 h h1 : Nat) (g1 : Nat) (U : List Int) (g2 : Nat) (T : List Int) (fv : Value) (w : World) (R1 : GRd w g1 a h U) (R2 : GRd w g2 a1 h1 T) :
    Ret Try.prog 60 [.pointer (some ⟨g1, 0, none⟩), .pointer (some ⟨g2, 0, none⟩), .pointer none, fv] w (fun z w' => z = .tuple #[.pointer none, .slice none 0 0, .int .i64 1] ∧ Below w.heap.size w w') := by
 refine ret_enter Try.func60 rfl rfl rfl ?_
 have H0 := HS.start w
 refine cw_seq ?_
 refine cw_reg ?_
 refine ry (y_asg rfl rfl) rfl rfl ?_
 refine ry (y_asg rfl rfl) rfl rfl ?_
 refine ry (y_asg rfl rfl) rfl rfl ?_
 refine reg_nil ?_
 refine fn_next ?_
 refine cw_seq ?_
 refine cw_reg ?_
 refine ry (y_mov rfl rfl) rfl rfl ?_
 refine ry (y_mov rfl rfl) rfl rfl ?_
 refine ry (y_mov rfl rfl) rfl rfl ?_
 refine reg_op (op_lit (parts := [(0, _), (1, _), (2, _)]) (vs := [(0, _), (1, _), (2, _)]) (cs := [.pointer _, .pointer _, .pointer _]) H0 rfl Try.underlying169 kfmerge2_1 rfl ⟨rfl, rfl, rfl, trivial⟩ rfl rfl) rfl rfl ?_
 rintro _ w2 ⟨b1, rfl, H3⟩
 have H4 := H3.asrow (m := 3) (size := 1) rfl (by decide)
 refine reg_op (op_call (three_n2 a a1 h h1 g1 U g2 T _ _ _ (R1.below H4.base) (R2.below H4.base) (H4.rd (i := 0) rfl)) rfl kfmerge2_2 ⟨rfl, trivial⟩) rfl rfl ?_
 rintro _ w6 ⟨rfl, e5⟩
 have H7 := H4.ext e5
 refine ry (y_mov rfl rfl) rfl rfl ?_
 refine ry (y_ext rfl rfl rfl) rfl rfl ?_
 refine ry (y_ext rfl rfl rfl) rfl rfl ?_
 refine ry (y_asg rfl rfl) rfl rfl ?_
 refine ry (y_asg rfl rfl) rfl rfl ?_
 refine reg_nil ?_
 refine fn_next ?_
 refine cw_seq ?_
 refine cw_seq ?_
 refine cw_reg ?_
 refine ry (y_mov rfl rfl) rfl rfl ?_
 refine ry (y_eql rfl rfl rfl) rfl rfl ?_
 refine ry (y_mov rfl rfl) rfl rfl ?_
 refine rg_off rfl rfl rfl rfl rfl ?_
 refine rg_off rfl rfl rfl rfl rfl ?_
 refine ry (y_pick rfl rfl rfl) rfl rfl ?_
 refine reg_nil ?_
 refine fn_next ?_
 refine cw_condf rfl ?_
 refine cw_skip ?_
 refine fn_next ?_
 refine cw_seq ?_
 refine cw_seq ?_
 refine cw_reg ?_
 refine ry (y_mov rfl rfl) rfl rfl ?_
 refine ry (y_neq rfl rfl rfl) rfl rfl ?_
 refine reg_nil ?_
 refine fn_next ?_
 refine cw_condt rfl ?_
 refine cw_seq ?_
 refine cw_reg ?_
 refine ry (y_mov rfl rfl) rfl rfl ?_
 refine ry (y_asg rfl rfl) rfl rfl ?_
 refine ry (y_asg rfl rfl) rfl rfl ?_
 refine ry (y_asg rfl rfl) rfl rfl ?_
 refine reg_nil ?_
 refine fn_next ?_
 refine cw_ret ?_
 refine fn_then_ret ?_
 refine fn_retn (vs := [_, _, _]) rfl ⟨rfl, rfl, rfl, trivial⟩ rfl ?_
 exact ⟨rfl, H7.base⟩

set_option maxRecDepth 100000 in
theorem merged_ok (a h : Nat) (g0 : Nat) (V U T : List Int) (g1 g2 : Nat) (F : FuncId) (o : Int → Int → Int) (w : World) (R0 : GRd w g0 a h V) (R1 : GRd w g1 a h U) (R2 : GRd w g2 a h T) (ho : Takes o) (hF : callB Try.prog F = true) (hf : ∀ (x y : Int) (W : World), Ret Try.prog F [.int .i64 x, .int .i64 y] W (fun z w' => z = .int .i64 (o x y) ∧ Below W.heap.size W w')) :
    Ret Try.prog 60 [.pointer (some ⟨g0, 0, none⟩), .pointer (some ⟨g1, 0, none⟩), .pointer (some ⟨g2, 0, none⟩), .func (.func F) #[] #[]] w (fun z w' => ∃ g bl A cap, z = .tuple #[.pointer (some ⟨g, 0, none⟩), .slice A (selN (oddP V U T) (a * h)) cap, .int .i64 0] ∧ HS w w' [gOb g a h (mgL o V U T (a * h)) bl, .row A (selN (oddP V U T) (a * h)) cap (vi .i64 (selC a (oddP V U T) (a * h))) 46 2]) := by
 have hgv := R0.gv
 have ha : 1 ≤ a := hgv.a1
 have hm := hgv.sz.mul
 have hlV : V.length = a * h := hgv.len
 have hlU : U.length = a * h := R1.gv.len
 have hlT : T.length = a * h := R2.gv.len
 refine ret_enter Try.func60 rfl rfl rfl ?_
 have H0 := HS.start w
 refine cw_seq ?_
 refine cw_reg ?_
 refine ry (y_asg rfl rfl) rfl rfl ?_
 refine ry (y_asg rfl rfl) rfl rfl ?_
 refine ry (y_asg rfl rfl) rfl rfl ?_
 refine reg_nil ?_
 refine fn_next ?_
 refine cw_seq ?_
 refine cw_reg ?_
 refine ry (y_mov rfl rfl) rfl rfl ?_
 refine ry (y_mov rfl rfl) rfl rfl ?_
 refine ry (y_mov rfl rfl) rfl rfl ?_
 refine reg_op (op_lit (parts := [(0, _), (1, _), (2, _)]) (vs := [(0, _), (1, _), (2, _)]) (cs := [.pointer _, .pointer _, .pointer _]) H0 rfl Try.underlying169 kfmerge2_1 rfl ⟨rfl, rfl, rfl, trivial⟩ rfl rfl) rfl rfl ?_
 rintro _ w2 ⟨b1, rfl, H3⟩
 have H4 := H3.asrow (m := 3) (size := 1) rfl (by decide)
 refine reg_op (op_call (three_ok a h g0 V g1 U g2 T _ _ _ (R0.below H4.base) (R1.below H4.base) (R2.below H4.base) (H4.rd (i := 0) rfl)) rfl kfmerge2_2 ⟨rfl, trivial⟩) rfl rfl ?_
 rintro _ w6 ⟨A8, c9, B10, d11, E12, e13, G14, f15, rfl, k5⟩
 have H7 := H4.call k5
 refine ry (y_mov rfl rfl) rfl rfl ?_
 refine ry (y_ext rfl rfl rfl) rfl rfl ?_
 refine ry (y_ext rfl rfl rfl) rfl rfl ?_
 refine ry (y_asg rfl rfl) rfl rfl ?_
 refine ry (y_asg rfl rfl) rfl rfl ?_
 refine reg_nil ?_
 refine fn_next ?_
 refine cw_seq ?_
 refine cw_seq ?_
 refine cw_reg ?_
 refine ry (y_mov rfl rfl) rfl rfl ?_
 refine ry (y_eql rfl rfl rfl) rfl rfl ?_
 refine ry (y_mov rfl rfl) rfl rfl ?_
 refine rgy (y_mov rfl rfl) rfl rfl rfl rfl ?_
 refine rgy (y_feql rfl Try.underlying101 rfl rfl) rfl rfl rfl rfl ?_
 refine ry (y_pick rfl rfl rfl) rfl rfl ?_
 refine reg_nil ?_
 refine fn_next ?_
 refine cw_condf rfl ?_
 refine cw_skip ?_
 refine fn_next ?_
 refine cw_seq ?_
 refine cw_seq ?_
 refine cw_reg ?_
 refine ry (y_mov rfl rfl) rfl rfl ?_
 refine ry (y_neq rfl rfl rfl) rfl rfl ?_
 refine reg_nil ?_
 refine fn_next ?_
 refine cw_condf rfl ?_
 refine cw_skip ?_
 refine fn_next ?_
 refine cw_seq ?_
 refine cw_reg ?_
 refine ry (y_mov rfl rfl) rfl rfl ?_
 refine reg_op (op_call (gSize g0 a h (V)  _ (R0.below H7.base)) rfl kfmerge2_3 ⟨rfl, trivial⟩) rfl rfl ?_
 rintro _ w17 ⟨rfl, e16⟩
 have H18 := H7.ext e16
 refine ry (y_mov rfl rfl) rfl rfl ?_
 refine ry (y_ext rfl rfl rfl) rfl rfl ?_
 refine ry (y_ext rfl rfl rfl) rfl rfl ?_
 refine ry (y_asg rfl rfl) rfl rfl ?_
 refine ry (y_asg rfl rfl) rfl rfl ?_
 refine reg_nil ?_
 refine fn_next ?_
 refine cw_seq ?_
 refine cw_reg ?_
 refine ry (y_asg rfl rfl) rfl rfl ?_
 refine reg_nil ?_
 refine fn_next ?_
 refine cw_seq ?_
 refine cw_seq ?_
 refine cw_reg ?_
 refine ry (y_mov rfl rfl) rfl rfl ?_
 refine ry (y_iar (i := 0) (H18.rd (i := 0) rfl) rfl rfl rfl kfmerge2_4 (rfl) (by omega) (Nat.mul_one _) (rfl)) rfl rfl ?_
 refine ry (y_ldr (H18.rd (i := 0) rfl) rfl rfl kfmerge2_5 (rfl)) rfl rfl ?_
 refine ry (y_len rfl Try.underlying22 rfl) rfl rfl ?_
 refine ry (y_mov rfl rfl) rfl rfl ?_
 refine reg_nil ?_
 refine fn_next ?_
 refine cw_block ?_
 have H19 := H18.nilrow 46 2
 rw [mgP_zero (o := o) (V := V) (U := U) (T := T)] at H19
 refine cw_loopJ [15, 16, 17, 18, 46, 47, 48, 49, 50, 51, 52, 53, 54, 55, 56, 57, 58, 59, 60, 61, 62, 63, 64, 65, 66, 67, 68, 69, 70, 71, 72, 73, 74, 75, 76, 77, 78, 79, 80, 81, 82, 83, 84, 85, 86, 87, 88, 89] (fun M wl ml => ∃ (i : Nat) (A' : Option Addr) (cap' : Nat), M = [(46, .int .i64 (i : Int)), (15, .slice A' (selN (oddP V U T) (i)) cap')] ∧ HS w wl [Ob.row A' (selN (oddP V U T) (i)) cap' (vi .i64 (selC a (oddP V U T) (i))) 46 2, Ob.row B10 (a * h) d11 (vi .i64 (mgP o V U T i)) 2 1, Ob.row A8 3 c9 [.slice B10 (a * h) d11, .slice E12 (a * h) e13, .slice G14 (a * h) f15] 22 1, Ob.row E12 (a * h) e13 (vi .i64 (U)) 2 1, Ob.row G14 (a * h) f15 (vi .i64 (T)) 2 1] ∧ (i ≤ a * h) ∧ ml = a * h - i) ⟨0, _, _, rfl, (H19.pick (m := [_, _, _, _, _]) [0, 2, 1, 3, 4] rfl (by decide)), Nat.zero_le _, rfl⟩ ⟨rfl, rfl, trivial⟩ ?_
 rintro M w20 m22 ⟨i, A', cap', rfl, H21, hp0, rfl⟩
 refine cw_seq ?_
 refine cw_reg ?_
 refine ry (y_lss rfl rfl rfl) rfl rfl ?_
 refine reg_nil ?_
 refine fn_next ?_
 refine cw_seq ?_
 refine cw_condd rfl (fun h23 => ?_) (fun h23 => ?_)
 ·skip
  have hi : i < a * h := by omega
  have hiV : i < V.length := by omega
  have g0i : (vi .i64 (mgP o V U T i))[i]? = some (.int .i64 (nth V i)) := (vi_get (by rw [mgP_len]; exact hiV)).trans (by rw [mgP_own hiV])
  have g1i := vi_get (k := .i64) (zs := U) (i := i) (by omega)
  have g2i := vi_get (k := .i64) (zs := T) (i := i) (by omega)
  refine cw_skip ?_
  refine fn_next ?_
  refine cw_seq ?_
  refine cw_block ?_
  refine cw_seq ?_
  refine cw_reg ?_
  refine ry (y_mov rfl rfl) rfl rfl ?_
  refine ry (y_asg rfl rfl) rfl rfl ?_
  refine reg_nil ?_
  refine fn_next ?_
  refine cw_seq ?_
  refine cw_draw H21 [0, 1, 2, 3, 4, 5, 6, 7, 8, 9, 10, 11, 12, 13, 14, 15, 16, 17, 18, 19, 20, 21, 22, 23, 24] [] (fun X HX => HX) (by kernel_rfl) (by kernel_rfl) (by rfl) ?_
  simp only [pick, List.getElem?_cons_succ, List.getElem?_cons_zero]
  refine hk_y (fun Y HY => y_mov rfl rfl) rfl rfl ?_
  refine hk_y (fun Y HY => y_mov rfl rfl) rfl rfl ?_
  refine hk_y (fun Y HY => y_iar (i := 0) (HY.rd (i := 2) rfl) rfl rfl rfl kfmerge2_4 (rfl) (by omega) (Nat.mul_one _) (rfl)) rfl rfl ?_
  refine hk_y (fun Y HY => y_ldr (HY.rd (i := 2) rfl) rfl rfl kfmerge2_5 (rfl)) rfl rfl ?_
  refine hk_y (fun Y HY => y_mov rfl rfl) rfl rfl ?_
  refine hk_y (fun Y HY => y_iar (HY.rd (i := 1) rfl) rfl rfl rfl kfmerge2_6 (rfl) (by omega) (Nat.mul_one _) (g0i)) rfl rfl ?_
  refine hk_y (fun Y HY => y_ldr (HY.rd (i := 1) rfl) rfl rfl kfmerge2_7 (g0i)) rfl rfl ?_
  refine hk_y (fun Y HY => y_mov rfl rfl) rfl rfl ?_
  refine hk_y (fun Y HY => y_iar (i := 1) (HY.rd (i := 2) rfl) rfl rfl rfl kfmerge2_4 (rfl) (by omega) (Nat.mul_one _) (rfl)) rfl rfl ?_
  refine hk_y (fun Y HY => y_ldr (HY.rd (i := 2) rfl) rfl rfl kfmerge2_5 (rfl)) rfl rfl ?_
  refine hk_y (fun Y HY => y_mov rfl rfl) rfl rfl ?_
  refine hk_y (fun Y HY => y_iar (HY.rd (i := 3) rfl) rfl rfl rfl kfmerge2_6 (rfl) (by omega) (Nat.mul_one _) (g1i)) rfl rfl ?_
  refine hk_y (fun Y HY => y_ldr (HY.rd (i := 3) rfl) rfl rfl kfmerge2_7 (g1i)) rfl rfl ?_
  refine hk_y (fun Y HY => y_mov rfl rfl) rfl rfl ?_
  refine hk_y (fun Y HY => y_iar (i := 2) (HY.rd (i := 2) rfl) rfl rfl rfl kfmerge2_4 (rfl) (by omega) (Nat.mul_one _) (rfl)) rfl rfl ?_
  refine hk_y (fun Y HY => y_ldr (HY.rd (i := 2) rfl) rfl rfl kfmerge2_5 (rfl)) rfl rfl ?_
  refine hk_y (fun Y HY => y_mov rfl rfl) rfl rfl ?_
  refine hk_y (fun Y HY => y_iar (HY.rd (i := 4) rfl) rfl rfl rfl kfmerge2_6 (rfl) (by omega) (Nat.mul_one _) (g2i)) rfl rfl ?_
  refine hk_y (fun Y HY => y_ldr (HY.rd (i := 4) rfl) rfl rfl kfmerge2_7 (g2i)) rfl rfl ?_
  refine hk_q (qy_call (fun Y HY => mgBoth F o (nth V i) (nth U i) (nth T i) _ hF hf) rfl kfmerge2_8 ⟨rfl, rfl, rfl, rfl, trivial⟩) rfl rfl ?_
  refine hk_y (fun Y HY => y_mov rfl rfl) rfl rfl ?_
  refine hk_y (fun Y HY => y_ext rfl rfl rfl) rfl rfl ?_
  refine hk_y (fun Y HY => y_ext rfl rfl rfl) rfl rfl ?_
  refine hk_y (fun Y HY => y_asg rfl rfl) rfl rfl ?_
  refine hk_y (fun Y HY => y_asg rfl rfl) rfl rfl ?_
  refine hk_nil ?_
  intro w24 H25
  refine tv_nil ?_
  refine fn_next ?_
  refine cw_seq ?_
  refine cw_seq ?_
  refine cw_reg ?_
  refine ry (y_mov rfl rfl) rfl rfl ?_
  refine reg_nil ?_
  refine fn_next ?_
  refine cw_condd rfl (fun h26 => ?_) (fun h26 => ?_)
  ·skip
   have hp : (oddP V U T) i = true := decide_eq_true h26
   refine cw_draw H25 [0, 1, 2, 3, 4, 5, 6, 7] [8, 9, 10] (fun X HX => (HX.pick (m := [_, _, _, _]) [1, 2, 3, 4] rfl (by decide))) (by kernel_rfl) (by kernel_rfl) (by rfl) ?_
   simp only [pick, List.getElem?_cons_succ, List.getElem?_cons_zero]
   refine hk_y (fun Y HY => y_mov rfl rfl) rfl rfl ?_
   refine hk_y (fun Y HY => y_mov rfl rfl) rfl rfl ?_
   refine hk_y (fun Y HY => y_mov rfl rfl) rfl rfl ?_
   refine hk_y (fun Y HY => y_rem rfl rfl rfl (by omega) (remN)) rfl rfl ?_
   refine hk_y (fun Y HY => y_mov rfl rfl) rfl rfl ?_
   refine hk_y (fun Y HY => y_mov rfl rfl) rfl rfl ?_
   refine hk_y (fun Y HY => y_quo rfl rfl rfl (by omega) (quoN (by omega))) rfl rfl ?_
   refine hk_y (fun Y HY => y_build (places := [(0, 1), (1, 1)]) (parts := [(0, _), (1, _)]) (vs := [(0, _), (1, _)]) (cs := [.int _ _, .int _ _]) rfl Try.underlying46 (by kernel_rfl) kfmerge2_9 rfl ⟨rfl, rfl, trivial⟩ rfl) rfl rfl ?_
   refine hk_nil ?_
   intro w27 H28
   refine tv_op (op_lit (parts := [(0, _)]) (vs := [(0, _)]) (cs := [.int _ _, .int _ _]) H28 rfl Try.underlying35 kfmerge2_10 rfl ⟨rfl, trivial⟩ rfl rfl) rfl rfl ?_
   rintro _ w30 ⟨b29, rfl, H31⟩
   have H32 := H31.asrow (m := 1) (size := 2) rfl (by decide)
   refine ⟨(H32.pick (m := [_, _, _, _]) [2, 3, 4, 5] rfl (by decide)), fun w33 e35 => ?_⟩
   have H34 := H32.ext e35
   refine tv_op (op_app (i := 1) H34 rfl rfl rfl rfl (H34.rd (i := 0) rfl) (rfl) (rfl) Try.underlying35 kfmerge2_11 rfl rfl (by have := selN_le (p := (oddP V U T)) i; unfold maxLen; omega) (by have := selN_le (p := (oddP V U T)) i; omega)) rfl rfl ?_
   rintro _ w38 ⟨A36, c37, rfl, H39⟩
   refine ⟨(H39.pick (m := [_, _, _, _]) [2, 3, 4, 5] rfl (by decide)), fun w40 e42 => ?_⟩
   have H41 := H39.ext e42
   refine tv_op (Yd.op (y_asg rfl rfl)) rfl rfl ?_
   rintro _ _ ⟨rfl, rfl⟩
   refine ⟨(H41.pick (m := [_, _, _, _]) [2, 3, 4, 5] rfl (by decide)), fun w43 e45 => ?_⟩
   have H44 := H41.ext e45
   refine tv_nil ?_
   refine fn_next ?_
   refine cw_reg ?_
   refine ry (y_mov rfl rfl) rfl rfl ?_
   refine ry (y_iar (i := 0) (H44.rd (i := 3) rfl) rfl rfl rfl kfmerge2_4 (rfl) (by omega) (Nat.mul_one _) (rfl)) rfl rfl ?_
   refine ry (y_ldr (H44.rd (i := 3) rfl) rfl rfl kfmerge2_5 (rfl)) rfl rfl ?_
   refine ry (y_mov rfl rfl) rfl rfl ?_
   refine ry (y_mov rfl rfl) rfl rfl ?_
   refine ry (y_iar (H44.rd (i := 2) rfl) rfl rfl rfl kfmerge2_6 (rfl) (by omega) (Nat.mul_one _) (g0i)) rfl rfl ?_
   refine reg_op (op_ste (i := 2) (vs := [.int _ _]) H44 rfl rfl rfl rfl rfl kfmerge2_12 rfl (by rw [vi_len, mgP_len, hlV]; show i + 1 ≤ a * h; omega) rfl rfl) rfl rfl ?_
   rintro _ w46 H47
   refine reg_nil ?_
   refine fn_block ?_
   refine fn_next ?_
   refine cw_reg ?_
   refine ry (y_add rfl rfl rfl (wi (by omega))) rfl rfl ?_
   refine ry (y_mov rfl rfl) rfl rfl ?_
   refine reg_nil ?_
   first | rw [vi_two, selC_t hp, selN_t hp, vi_set, mgP_set (v := mgv o (nth V i) (nth U i) (nth T i)) hiV rfl] at H47 | rw [selC_f hp, selN_f hp, vi_set, mgP_set (v := mgv o (nth V i) (nth U i) (nth T i)) hiV rfl] at H47
   refine fn_roundJ ⟨i + 1, _, _, rfl, (H47.pick (m := [_, _, _, _, _]) [1, 2, 3, 4, 5] rfl (by decide)), by omega, rfl⟩ ⟨rfl, by first | rfl | (rw [← selN_t hp]; rfl) | (rw [← selN_f hp]; rfl), trivial⟩ (by omega) (by repeat (first | exact kp_refl | refine kp_app rfl rfl ?_ | refine kp_cons rfl ?_)) rfl
  ·skip
   have hp : ¬ (oddP V U T) i = true := fun q => h26 (of_decide_eq_true q)
   refine cw_skip ?_
   refine fn_next ?_
   refine cw_reg ?_
   refine ry (y_mov rfl rfl) rfl rfl ?_
   refine ry (y_iar (i := 0) (H25.rd (i := 2) rfl) rfl rfl rfl kfmerge2_4 (rfl) (by omega) (Nat.mul_one _) (rfl)) rfl rfl ?_
   refine ry (y_ldr (H25.rd (i := 2) rfl) rfl rfl kfmerge2_5 (rfl)) rfl rfl ?_
   refine ry (y_mov rfl rfl) rfl rfl ?_
   refine ry (y_mov rfl rfl) rfl rfl ?_
   refine ry (y_iar (H25.rd (i := 1) rfl) rfl rfl rfl kfmerge2_6 (rfl) (by omega) (Nat.mul_one _) (g0i)) rfl rfl ?_
   refine reg_op (op_ste (i := 1) (vs := [.int _ _]) H25 rfl rfl rfl rfl rfl kfmerge2_12 rfl (by rw [vi_len, mgP_len, hlV]; show i + 1 ≤ a * h; omega) rfl rfl) rfl rfl ?_
   rintro _ w48 H49
   refine reg_nil ?_
   refine fn_block ?_
   refine fn_next ?_
   refine cw_reg ?_
   refine ry (y_add rfl rfl rfl (wi (by omega))) rfl rfl ?_
   refine ry (y_mov rfl rfl) rfl rfl ?_
   refine reg_nil ?_
   first | rw [vi_two, selC_t hp, selN_t hp, vi_set, mgP_set (v := mgv o (nth V i) (nth U i) (nth T i)) hiV rfl] at H49 | rw [selC_f hp, selN_f hp, vi_set, mgP_set (v := mgv o (nth V i) (nth U i) (nth T i)) hiV rfl] at H49
   refine fn_roundJ ⟨i + 1, _, _, rfl, H49, by omega, rfl⟩ ⟨rfl, by first | rfl | (rw [← selN_t hp]; rfl) | (rw [← selN_f hp]; rfl), trivial⟩ (by omega) (by repeat (first | exact kp_refl | refine kp_app rfl rfl ?_ | refine kp_cons rfl ?_)) rfl
 ·skip
  have hie : i = a * h := by omega
  subst hie
  rw [mgP_all hlV] at H21
  refine cw_exit ?_
  refine fn_then_exit (fn_then_exit (fn_block_exit ?_))
  refine fn_next ?_
  refine cw_seq ?_
  refine cw_reg ?_
  refine ry (y_mov rfl rfl) rfl rfl ?_
  refine ry (y_mov rfl rfl) rfl rfl ?_
  refine ry (y_mov rfl rfl) rfl rfl ?_
  refine ry (y_iar (i := 0) (H21.rd (i := 2) rfl) rfl rfl rfl kfmerge2_4 (rfl) (by omega) (Nat.mul_one _) (rfl)) rfl rfl ?_
  refine ry (y_ldr (H21.rd (i := 2) rfl) rfl rfl kfmerge2_5 (rfl)) rfl rfl ?_
  refine reg_op (op_call (gFrom_ok a h (mgL o V U T (a * h)) _ (a * h) _ _ (H21.rd (i := 1) rfl) mgL_len (by omega) hgv.sz (fromC_ok hgv.sz mgL_len (AllB_mgL ho R1.gv.bd R2.gv.bd hlU hlT))) rfl kfmerge2_13 ⟨rfl, rfl, rfl, trivial⟩) rfl rfl ?_
  rintro _ w51 ⟨g53, bl54, rfl, k50⟩
  have H52 := H21.call k50
  refine ry (y_mov rfl rfl) rfl rfl ?_
  refine ry (y_ext rfl rfl rfl) rfl rfl ?_
  refine ry (y_ext rfl rfl rfl) rfl rfl ?_
  refine ry (y_asg rfl rfl) rfl rfl ?_
  refine ry (y_asg rfl rfl) rfl rfl ?_
  refine reg_nil ?_
  refine fn_next ?_
  refine cw_seq ?_
  refine cw_reg ?_
  refine ry (y_mov rfl rfl) rfl rfl ?_
  refine ry (y_mov rfl rfl) rfl rfl ?_
  refine ry (y_mov rfl rfl) rfl rfl ?_
  refine ry (y_asg rfl rfl) rfl rfl ?_
  refine ry (y_asg rfl rfl) rfl rfl ?_
  refine ry (y_asg rfl rfl) rfl rfl ?_
  refine reg_nil ?_
  refine fn_next ?_
  refine cw_ret ?_
  refine fn_retn (vs := [_, _, _]) rfl ⟨rfl, rfl, rfl, trivial⟩ rfl ?_
  exact ⟨_, _, _, _, rfl, (H52.pick (m := [_, _]) [0, 1] rfl (by decide))⟩

theorem o0_takes : Takes o0 := fun _ _ => .inl rfl
theorem o1_takes : Takes o1 := fun _ _ => .inr rfl
theorem o2_takes : Takes o2 := fun x y => by show min x y = x ∨ min x y = y; omega
theorem o3_takes : Takes o3 := fun x y => by show max x y = x ∨ max x y = y; omega

set_option maxRecDepth 100000 in
theorem mThree (a h : Nat) (g0 : Nat) (V U T : List Int) (g1 g2 : Nat) (w : World) (R0 : GRd w g0 a h V) (R1 : GRd w g1 a h U) (R2 : GRd w g2 a h T) :
    Ret Try.prog 20 [.pointer (some ⟨g0, 0, none⟩), .pointer (some ⟨g1, 0, none⟩), .pointer (some ⟨g2, 0, none⟩)] w (fun z w' => ∃ g bl A cap, z = .tuple #[.pointer (some ⟨g, 0, none⟩), .slice A (selN (oddP V U T) (a * h)) cap, .int .i64 0] ∧ HS w w' [gOb g a h (mgL o0 V U T (a * h)) bl, .row A (selN (oddP V U T) (a * h)) cap (vi .i64 (selC a (oddP V U T) (a * h))) 46 2]) := by
 refine ret_enter Try.func20 rfl rfl rfl ?_
 have H0 := HS.start w
 refine cw_seq ?_
 refine cw_reg ?_
 refine ry (y_asg rfl rfl) rfl rfl ?_
 refine ry (y_asg rfl rfl) rfl rfl ?_
 refine ry (y_asg rfl rfl) rfl rfl ?_
 refine reg_nil ?_
 refine fn_next ?_
 refine cw_seq ?_
 refine cw_reg ?_
 refine ry (y_mov rfl rfl) rfl rfl ?_
 refine ry (y_mov rfl rfl) rfl rfl ?_
 refine ry (y_mov rfl rfl) rfl rfl ?_
 refine reg_op (op_call (mgPrefer0 _) rfl kfmerge2_14 ⟨rfl, trivial⟩) rfl rfl ?_
 rintro _ w2 ⟨rfl, e1⟩
 have H3 := H0.ext e1
 refine reg_op (op_call (merged_ok a h g0 V U T g1 g2 100 o0 _ (R0.below H3.base) (R1.below H3.base) (R2.below H3.base) o0_takes mgC0 (fun x y W => mgF0 x y W)) rfl kfmerge2_15 ⟨rfl, rfl, rfl, rfl, trivial⟩) rfl rfl ?_
 rintro _ w5 ⟨g7, bl8, A9, c10, rfl, k4⟩
 have H6 := H3.call k4
 refine ry (y_ext rfl rfl rfl) rfl rfl ?_
 refine ry (y_ext rfl rfl rfl) rfl rfl ?_
 refine ry (y_ext rfl rfl rfl) rfl rfl ?_
 refine ry (y_asg rfl rfl) rfl rfl ?_
 refine ry (y_asg rfl rfl) rfl rfl ?_
 refine ry (y_asg rfl rfl) rfl rfl ?_
 refine reg_nil ?_
 refine fn_next ?_
 refine cw_ret ?_
 refine fn_retn (vs := [_, _, _]) rfl ⟨rfl, rfl, rfl, trivial⟩ rfl ?_
 exact ⟨_, _, _, _, rfl, (H6.pick (m := [_, _]) [0, 1] rfl (by decide))⟩

set_option maxRecDepth 100000 in
theorem mPrefer0 (a h : Nat) (g0 : Nat) (V U T : List Int) (g1 g2 : Nat) (w : World) (R0 : GRd w g0 a h V) (R1 : GRd w g1 a h U) (R2 : GRd w g2 a h T) :
    Ret Try.prog 21 [.pointer (some ⟨g0, 0, none⟩), .pointer (some ⟨g1, 0, none⟩), .pointer (some ⟨g2, 0, none⟩), .int .i64 0] w (fun z w' => ∃ g bl, z = .tuple #[.pointer (some ⟨g, 0, none⟩), .int .i64 0] ∧ HS w w' [gOb g a h (mgL o0 V U T (a * h)) bl]) := by
 refine ret_enter Try.func21 rfl rfl rfl ?_
 have H0 := HS.start w
 refine cw_seq ?_
 refine cw_reg ?_
 refine ry (y_asg rfl rfl) rfl rfl ?_
 refine ry (y_asg rfl rfl) rfl rfl ?_
 refine reg_nil ?_
 refine fn_next ?_
 refine cw_seq ?_
 refine cw_reg ?_
 refine ry (y_mov rfl rfl) rfl rfl ?_
 refine ry (y_mov rfl rfl) rfl rfl ?_
 refine ry (y_mov rfl rfl) rfl rfl ?_
 refine ry (y_mov rfl rfl) rfl rfl ?_
 refine reg_op (op_call (mgPrefer0 _) rfl kfmerge2_14 ⟨rfl, trivial⟩) rfl rfl ?_
 rintro _ w2 ⟨rfl, e1⟩
 have H3 := H0.ext e1
 refine reg_op (op_call (merged_ok a h g0 V U T g1 g2 100 o0 _ (R0.below H3.base) (R1.below H3.base) (R2.below H3.base) o0_takes mgC0 (fun x y W => mgF0 x y W)) rfl kfmerge2_15 ⟨rfl, rfl, rfl, rfl, trivial⟩) rfl rfl ?_
 rintro _ w5 ⟨g7, bl8, A9, c10, rfl, k4⟩
 have H6 := H3.call k4
 refine ry (y_mov rfl rfl) rfl rfl ?_
 refine ry (y_ext rfl rfl rfl) rfl rfl ?_
 refine ry (y_ext rfl rfl rfl) rfl rfl ?_
 refine ry (y_ext rfl rfl rfl) rfl rfl ?_
 refine ry (y_asg rfl rfl) rfl rfl ?_
 refine ry (y_asg rfl rfl) rfl rfl ?_
 refine ry (y_asg rfl rfl) rfl rfl ?_
 refine reg_nil ?_
 refine fn_next ?_
 refine cw_seq ?_
 refine cw_reg ?_
 refine ry (y_mov rfl rfl) rfl rfl ?_
 refine ry (y_mov rfl rfl) rfl rfl ?_
 refine ry (y_asg rfl rfl) rfl rfl ?_
 refine ry (y_asg rfl rfl) rfl rfl ?_
 refine reg_nil ?_
 refine fn_next ?_
 refine cw_ret ?_
 refine fn_retn (vs := [_, _]) rfl ⟨rfl, rfl, trivial⟩ rfl ?_
 exact ⟨_, _, rfl, (H6.pick (m := [_]) [0] rfl (by decide))⟩

set_option maxRecDepth 100000 in
theorem mPrefer1 (a h : Nat) (g0 : Nat) (V U T : List Int) (g1 g2 : Nat) (w : World) (R0 : GRd w g0 a h V) (R1 : GRd w g1 a h U) (R2 : GRd w g2 a h T) :
    Ret Try.prog 21 [.pointer (some ⟨g0, 0, none⟩), .pointer (some ⟨g1, 0, none⟩), .pointer (some ⟨g2, 0, none⟩), .int .i64 1] w (fun z w' => ∃ g bl, z = .tuple #[.pointer (some ⟨g, 0, none⟩), .int .i64 0] ∧ HS w w' [gOb g a h (mgL o1 V U T (a * h)) bl]) := by
 refine ret_enter Try.func21 rfl rfl rfl ?_
 have H0 := HS.start w
 refine cw_seq ?_
 refine cw_reg ?_
 refine ry (y_asg rfl rfl) rfl rfl ?_
 refine ry (y_asg rfl rfl) rfl rfl ?_
 refine reg_nil ?_
 refine fn_next ?_
 refine cw_seq ?_
 refine cw_reg ?_
 refine ry (y_mov rfl rfl) rfl rfl ?_
 refine ry (y_mov rfl rfl) rfl rfl ?_
 refine ry (y_mov rfl rfl) rfl rfl ?_
 refine ry (y_mov rfl rfl) rfl rfl ?_
 refine reg_op (op_call (mgPrefer1 _) rfl kfmerge2_14 ⟨rfl, trivial⟩) rfl rfl ?_
 rintro _ w2 ⟨rfl, e1⟩
 have H3 := H0.ext e1
 refine reg_op (op_call (merged_ok a h g0 V U T g1 g2 101 o1 _ (R0.below H3.base) (R1.below H3.base) (R2.below H3.base) o1_takes mgC1 (fun x y W => mgF1 x y W)) rfl kfmerge2_15 ⟨rfl, rfl, rfl, rfl, trivial⟩) rfl rfl ?_
 rintro _ w5 ⟨g7, bl8, A9, c10, rfl, k4⟩
 have H6 := H3.call k4
 refine ry (y_mov rfl rfl) rfl rfl ?_
 refine ry (y_ext rfl rfl rfl) rfl rfl ?_
 refine ry (y_ext rfl rfl rfl) rfl rfl ?_
 refine ry (y_ext rfl rfl rfl) rfl rfl ?_
 refine ry (y_asg rfl rfl) rfl rfl ?_
 refine ry (y_asg rfl rfl) rfl rfl ?_
 refine ry (y_asg rfl rfl) rfl rfl ?_
 refine reg_nil ?_
 refine fn_next ?_
 refine cw_seq ?_
 refine cw_reg ?_
 refine ry (y_mov rfl rfl) rfl rfl ?_
 refine ry (y_mov rfl rfl) rfl rfl ?_
 refine ry (y_asg rfl rfl) rfl rfl ?_
 refine ry (y_asg rfl rfl) rfl rfl ?_
 refine reg_nil ?_
 refine fn_next ?_
 refine cw_ret ?_
 refine fn_retn (vs := [_, _]) rfl ⟨rfl, rfl, trivial⟩ rfl ?_
 exact ⟨_, _, rfl, (H6.pick (m := [_]) [0] rfl (by decide))⟩

set_option maxRecDepth 100000 in
theorem mPrefer2 (a h : Nat) (g0 : Nat) (V U T : List Int) (g1 g2 : Nat) (w : World) (R0 : GRd w g0 a h V) (R1 : GRd w g1 a h U) (R2 : GRd w g2 a h T) :
    Ret Try.prog 21 [.pointer (some ⟨g0, 0, none⟩), .pointer (some ⟨g1, 0, none⟩), .pointer (some ⟨g2, 0, none⟩), .int .i64 2] w (fun z w' => ∃ g bl, z = .tuple #[.pointer (some ⟨g, 0, none⟩), .int .i64 0] ∧ HS w w' [gOb g a h (mgL o2 V U T (a * h)) bl]) := by
 refine ret_enter Try.func21 rfl rfl rfl ?_
 have H0 := HS.start w
 refine cw_seq ?_
 refine cw_reg ?_
 refine ry (y_asg rfl rfl) rfl rfl ?_
 refine ry (y_asg rfl rfl) rfl rfl ?_
 refine reg_nil ?_
 refine fn_next ?_
 refine cw_seq ?_
 refine cw_reg ?_
 refine ry (y_mov rfl rfl) rfl rfl ?_
 refine ry (y_mov rfl rfl) rfl rfl ?_
 refine ry (y_mov rfl rfl) rfl rfl ?_
 refine ry (y_mov rfl rfl) rfl rfl ?_
 refine reg_op (op_call (mgPrefer2 _) rfl kfmerge2_14 ⟨rfl, trivial⟩) rfl rfl ?_
 rintro _ w2 ⟨rfl, e1⟩
 have H3 := H0.ext e1
 refine reg_op (op_call (merged_ok a h g0 V U T g1 g2 102 o2 _ (R0.below H3.base) (R1.below H3.base) (R2.below H3.base) o2_takes mgC2 (fun x y W => mgF2 x y W)) rfl kfmerge2_15 ⟨rfl, rfl, rfl, rfl, trivial⟩) rfl rfl ?_
 rintro _ w5 ⟨g7, bl8, A9, c10, rfl, k4⟩
 have H6 := H3.call k4
 refine ry (y_mov rfl rfl) rfl rfl ?_
 refine ry (y_ext rfl rfl rfl) rfl rfl ?_
 refine ry (y_ext rfl rfl rfl) rfl rfl ?_
 refine ry (y_ext rfl rfl rfl) rfl rfl ?_
 refine ry (y_asg rfl rfl) rfl rfl ?_
 refine ry (y_asg rfl rfl) rfl rfl ?_
 refine ry (y_asg rfl rfl) rfl rfl ?_
 refine reg_nil ?_
 refine fn_next ?_
 refine cw_seq ?_
 refine cw_reg ?_
 refine ry (y_mov rfl rfl) rfl rfl ?_
 refine ry (y_mov rfl rfl) rfl rfl ?_
 refine ry (y_asg rfl rfl) rfl rfl ?_
 refine ry (y_asg rfl rfl) rfl rfl ?_
 refine reg_nil ?_
 refine fn_next ?_
 refine cw_ret ?_
 refine fn_retn (vs := [_, _]) rfl ⟨rfl, rfl, trivial⟩ rfl ?_
 exact ⟨_, _, rfl, (H6.pick (m := [_]) [0] rfl (by decide))⟩

set_option maxRecDepth 100000 in
theorem mPrefer3 (a h : Nat) (g0 : Nat) (V U T : List Int) (g1 g2 : Nat) (w : World) (R0 : GRd w g0 a h V) (R1 : GRd w g1 a h U) (R2 : GRd w g2 a h T) :
    Ret Try.prog 21 [.pointer (some ⟨g0, 0, none⟩), .pointer (some ⟨g1, 0, none⟩), .pointer (some ⟨g2, 0, none⟩), .int .i64 3] w (fun z w' => ∃ g bl, z = .tuple #[.pointer (some ⟨g, 0, none⟩), .int .i64 0] ∧ HS w w' [gOb g a h (mgL o3 V U T (a * h)) bl]) := by
 refine ret_enter Try.func21 rfl rfl rfl ?_
 have H0 := HS.start w
 refine cw_seq ?_
 refine cw_reg ?_
 refine ry (y_asg rfl rfl) rfl rfl ?_
 refine ry (y_asg rfl rfl) rfl rfl ?_
 refine reg_nil ?_
 refine fn_next ?_
 refine cw_seq ?_
 refine cw_reg ?_
 refine ry (y_mov rfl rfl) rfl rfl ?_
 refine ry (y_mov rfl rfl) rfl rfl ?_
 refine ry (y_mov rfl rfl) rfl rfl ?_
 refine ry (y_mov rfl rfl) rfl rfl ?_
 refine reg_op (op_call (mgPrefer3 _) rfl kfmerge2_14 ⟨rfl, trivial⟩) rfl rfl ?_
 rintro _ w2 ⟨rfl, e1⟩
 have H3 := H0.ext e1
 refine reg_op (op_call (merged_ok a h g0 V U T g1 g2 103 o3 _ (R0.below H3.base) (R1.below H3.base) (R2.below H3.base) o3_takes mgC3 (fun x y W => mgF3 x y W)) rfl kfmerge2_15 ⟨rfl, rfl, rfl, rfl, trivial⟩) rfl rfl ?_
 rintro _ w5 ⟨g7, bl8, A9, c10, rfl, k4⟩
 have H6 := H3.call k4
 refine ry (y_mov rfl rfl) rfl rfl ?_
 refine ry (y_ext rfl rfl rfl) rfl rfl ?_
 refine ry (y_ext rfl rfl rfl) rfl rfl ?_
 refine ry (y_ext rfl rfl rfl) rfl rfl ?_
 refine ry (y_asg rfl rfl) rfl rfl ?_
 refine ry (y_asg rfl rfl) rfl rfl ?_
 refine ry (y_asg rfl rfl) rfl rfl ?_
 refine reg_nil ?_
 refine fn_next ?_
 refine cw_seq ?_
 refine cw_reg ?_
 refine ry (y_mov rfl rfl) rfl rfl ?_
 refine ry (y_mov rfl rfl) rfl rfl ?_
 refine ry (y_asg rfl rfl) rfl rfl ?_
 refine ry (y_asg rfl rfl) rfl rfl ?_
 refine reg_nil ?_
 refine fn_next ?_
 refine cw_ret ?_
 refine fn_retn (vs := [_, _]) rfl ⟨rfl, rfl, trivial⟩ rfl ?_
 exact ⟨_, _, rfl, (H6.pick (m := [_]) [0] rfl (by decide))⟩

theorem mPrefer_ok (a h : Nat) (g0 : Nat) (V U T : List Int) (g1 g2 : Nat) (q : Int) (w : World) (R0 : GRd w g0 a h V) (R1 : GRd w g1 a h U) (R2 : GRd w g2 a h T) (hq : 0 ≤ q ∧ q ≤ 3) : Ret Try.prog 21 [.pointer (some ⟨g0, 0, none⟩), .pointer (some ⟨g1, 0, none⟩), .pointer (some ⟨g2, 0, none⟩), .int .i64 q] w (fun z w' => ∃ g bl, z = .tuple #[.pointer (some ⟨g, 0, none⟩), .int .i64 0] ∧ HS w w' [gOb g a h (mgL (oW q) V U T (a * h)) bl]) := by
  have h4 : q = 0 ∨ q = 1 ∨ q = 2 ∨ q = 3 := by omega
  rcases h4 with rfl | rfl | rfl | rfl
  · exact mPrefer0 a h g0 V U T g1 g2 w R0 R1 R2
  · exact mPrefer1 a h g0 V U T g1 g2 w R0 R1 R2
  · exact mPrefer2 a h g0 V U T g1 g2 w R0 R1 R2
  · exact mPrefer3 a h g0 V U T g1 g2 w R0 R1 R2

set_option maxRecDepth 100000 in
theorem mPrefer_arg (a h : Nat) (g0 : Nat) (V U T : List Int) (g1 g2 : Nat) (q : Int) (w : World) (R0 : GRd w g0 a h V) (R1 : GRd w g1 a h U) (R2 : GRd w g2 a h T) (hq : q < 0 ∨ q > 3) :
    Ret Try.prog 21 [.pointer (some ⟨g0, 0, none⟩), .pointer (some ⟨g1, 0, none⟩), .pointer (some ⟨g2, 0, none⟩), .int .i64 q] w (fun z w' => z = .tuple #[.pointer none, .int .i64 11] ∧ Below w.heap.size w w') := by
 refine ret_enter Try.func21 rfl rfl rfl ?_
 have H0 := HS.start w
 refine cw_seq ?_
 refine cw_reg ?_
 refine ry (y_asg rfl rfl) rfl rfl ?_
 refine ry (y_asg rfl rfl) rfl rfl ?_
 refine reg_nil ?_
 refine fn_next ?_
 refine cw_seq ?_
 refine cw_reg ?_
 refine ry (y_mov rfl rfl) rfl rfl ?_
 refine ry (y_mov rfl rfl) rfl rfl ?_
 refine ry (y_mov rfl rfl) rfl rfl ?_
 refine ry (y_mov rfl rfl) rfl rfl ?_
 refine reg_op (op_call (mgPreferN q _ hq) rfl kfmerge2_14 ⟨rfl, trivial⟩) rfl rfl ?_
 rintro _ w2 ⟨rfl, e1⟩
 have H3 := H0.ext e1
 refine reg_op (op_call (merged_arg a h g0 V U T g1 g2 _ (R0.below H3.base) (R1.below H3.base) (R2.below H3.base)) rfl kfmerge2_15 ⟨rfl, rfl, rfl, rfl, trivial⟩) rfl rfl ?_
 rintro _ w5 ⟨rfl, e4⟩
 have H6 := H3.ext e4
 refine ry (y_mov rfl rfl) rfl rfl ?_
 refine ry (y_ext rfl rfl rfl) rfl rfl ?_
 refine ry (y_ext rfl rfl rfl) rfl rfl ?_
 refine ry (y_ext rfl rfl rfl) rfl rfl ?_
 refine ry (y_asg rfl rfl) rfl rfl ?_
 refine ry (y_asg rfl rfl) rfl rfl ?_
 refine ry (y_asg rfl rfl) rfl rfl ?_
 refine reg_nil ?_
 refine fn_next ?_
 refine cw_seq ?_
 refine cw_reg ?_
 refine ry (y_mov rfl rfl) rfl rfl ?_
 refine ry (y_mov rfl rfl) rfl rfl ?_
 refine ry (y_asg rfl rfl) rfl rfl ?_
 refine ry (y_asg rfl rfl) rfl rfl ?_
 refine reg_nil ?_
 refine fn_next ?_
 refine cw_ret ?_
 refine fn_retn (vs := [_, _]) rfl ⟨rfl, rfl, trivial⟩ rfl ?_
 exact ⟨rfl, H6.base⟩

theorem mPreferAny (q : Int) (w : World) : Ret Try.prog 61 [.int .i64 q] w (fun z w' => z = (if q = 0 then .func (.func 100) #[] #[] else if q = 1 then .func (.func 101) #[] #[] else if q = 2 then .func (.func 102) #[] #[] else if q = 3 then .func (.func 103) #[] #[] else .nilFunc) ∧ Below w.heap.size w w') := by
  by_cases h0 : q = 0
  · subst h0; exact mgPrefer0 w
  · rw [if_neg h0]
    by_cases h1 : q = 1
    · subst h1; exact mgPrefer1 w
    · rw [if_neg h1]
      by_cases h2 : q = 2
      · subst h2; exact mgPrefer2 w
      · rw [if_neg h2]
        by_cases h3 : q = 3
        · subst h3; exact mgPrefer3 w
        · rw [if_neg h3]; exact mgPreferN q w (by omega)

set_option maxRecDepth 100000 in
theorem mThree_s3 (a a2 h h2 : Nat) (g0 : Nat) (V U T : List Int) (g1 g2 : Nat) (w : World) (R0 : GRd w g0 a h V) (R1 : GRd w g1 a h U) (R2 : GRd w g2 a2 h2 T) (hne : ¬ (a2 = a ∧ h2 = h)) :
    Ret Try.prog 20 [.pointer (some ⟨g0, 0, none⟩), .pointer (some ⟨g1, 0, none⟩), .pointer (some ⟨g2, 0, none⟩)] w (fun z w' => z = .tuple #[.pointer none, .slice none 0 0, .int .i64 3] ∧ Below w.heap.size w w') := by
 refine ret_enter Try.func20 rfl rfl rfl ?_
 have H0 := HS.start w
 refine cw_seq ?_
 refine cw_reg ?_
 refine ry (y_asg rfl rfl) rfl rfl ?_
 refine ry (y_asg rfl rfl) rfl rfl ?_
 refine ry (y_asg rfl rfl) rfl rfl ?_
 refine reg_nil ?_
 refine fn_next ?_
 refine cw_seq ?_
 refine cw_reg ?_
 refine ry (y_mov rfl rfl) rfl rfl ?_
 refine ry (y_mov rfl rfl) rfl rfl ?_
 refine ry (y_mov rfl rfl) rfl rfl ?_
 refine reg_op (op_call (mgPrefer0 _) rfl kfmerge2_14 ⟨rfl, trivial⟩) rfl rfl ?_
 rintro _ w2 ⟨rfl, e1⟩
 have H3 := H0.ext e1
 refine reg_op (op_call (merged_s3 a a2 h h2 g0 V U T g1 g2 _ _ (R0.below H3.base) (R1.below H3.base) (R2.below H3.base) hne) rfl kfmerge2_15 ⟨rfl, rfl, rfl, rfl, trivial⟩) rfl rfl ?_
 rintro _ w5 ⟨rfl, e4⟩
 have H6 := H3.ext e4
 refine ry (y_ext rfl rfl rfl) rfl rfl ?_
 refine ry (y_ext rfl rfl rfl) rfl rfl ?_
 refine ry (y_ext rfl rfl rfl) rfl rfl ?_
 refine ry (y_asg rfl rfl) rfl rfl ?_
 refine ry (y_asg rfl rfl) rfl rfl ?_
 refine ry (y_asg rfl rfl) rfl rfl ?_
 refine reg_nil ?_
 refine fn_next ?_
 refine cw_ret ?_
 refine fn_retn (vs := [_, _, _]) rfl ⟨rfl, rfl, rfl, trivial⟩ rfl ?_
 exact ⟨rfl, H6.base⟩

set_option maxRecDepth 100000 in
theorem mThree_n0 (a1 a2 h1 h2 : Nat) (g1 : Nat) (U : List Int) (g2 : Nat) (T : List Int) (w : World) (R1 : GRd w g1 a1 h1 U) (R2 : GRd w g2 a2 h2 T) :
    Ret Try.prog 20 [.pointer none, .pointer (some ⟨g1, 0, none⟩), .pointer (some ⟨g2, 0, none⟩)] w (fun z w' => z = .tuple #[.pointer none, .slice none 0 0, .int .i64 1] ∧ Below w.heap.size w w') := by
 refine ret_enter Try.func20 rfl rfl rfl ?_
 have H0 := HS.start w
 refine cw_seq ?_
 refine cw_reg ?_
 refine ry (y_asg rfl rfl) rfl rfl ?_
 refine ry (y_asg rfl rfl) rfl rfl ?_
 refine ry (y_asg rfl rfl) rfl rfl ?_
 refine reg_nil ?_
 refine fn_next ?_
 refine cw_seq ?_
 refine cw_reg ?_
 refine ry (y_mov rfl rfl) rfl rfl ?_
 refine ry (y_mov rfl rfl) rfl rfl ?_
 refine ry (y_mov rfl rfl) rfl rfl ?_
 refine reg_op (op_call (mgPrefer0 _) rfl kfmerge2_14 ⟨rfl, trivial⟩) rfl rfl ?_
 rintro _ w2 ⟨rfl, e1⟩
 have H3 := H0.ext e1
 refine reg_op (op_call (merged_n0 a1 a2 h1 h2 g1 U g2 T _ _ (R1.below H3.base) (R2.below H3.base)) rfl kfmerge2_15 ⟨rfl, rfl, rfl, rfl, trivial⟩) rfl rfl ?_
 rintro _ w5 ⟨rfl, e4⟩
 have H6 := H3.ext e4
 refine ry (y_ext rfl rfl rfl) rfl rfl ?_
 refine ry (y_ext rfl rfl rfl) rfl rfl ?_
 refine ry (y_ext rfl rfl rfl) rfl rfl ?_
 refine ry (y_asg rfl rfl) rfl rfl ?_
 refine ry (y_asg rfl rfl) rfl rfl ?_
 refine ry (y_asg rfl rfl) rfl rfl ?_
 refine reg_nil ?_
 refine fn_next ?_
 refine cw_ret ?_
 refine fn_retn (vs := [_, _, _]) rfl ⟨rfl, rfl, rfl, trivial⟩ rfl ?_
 exact ⟨rfl, H6.base⟩

set_option maxRecDepth 100000 in
theorem mPrefer_s2 (a a2 h h2 : Nat) (g0 : Nat) (V U T : List Int) (g1 g2 : Nat) (q : Int) (w : World) (R0 : GRd w g0 a h V) (R1 : GRd w g1 a2 h2 U) (R2 : GRd w g2 a h T) (hne : ¬ (a2 = a ∧ h2 = h)) :
    Ret Try.prog 21 [.pointer (some ⟨g0, 0, none⟩), .pointer (some ⟨g1, 0, none⟩), .pointer (some ⟨g2, 0, none⟩), .int .i64 q] w (fun z w' => z = .tuple #[.pointer none, .int .i64 3] ∧ Below w.heap.size w w') := by
 refine ret_enter Try.func21 rfl rfl rfl ?_
 have H0 := HS.start w
 refine cw_seq ?_
 refine cw_reg ?_
 refine ry (y_asg rfl rfl) rfl rfl ?_
 refine ry (y_asg rfl rfl) rfl rfl ?_
 refine reg_nil ?_
 refine fn_next ?_
 refine cw_seq ?_
 refine cw_reg ?_
 refine ry (y_mov rfl rfl) rfl rfl ?_
 refine ry (y_mov rfl rfl) rfl rfl ?_
 refine ry (y_mov rfl rfl) rfl rfl ?_
 refine ry (y_mov rfl rfl) rfl rfl ?_
 refine reg_op (op_call (mPreferAny q _) rfl kfmerge2_14 ⟨rfl, trivial⟩) rfl rfl ?_
 rintro _ w2 ⟨rfl, e1⟩
 have H3 := H0.ext e1
 refine reg_op (op_call (merged_s2 a a2 h h2 g0 V U T g1 g2 _ _ (R0.below H3.base) (R1.below H3.base) (R2.below H3.base) hne) rfl kfmerge2_15 ⟨rfl, rfl, rfl, rfl, trivial⟩) rfl rfl ?_
 rintro _ w5 ⟨rfl, e4⟩
 have H6 := H3.ext e4
 refine ry (y_mov rfl rfl) rfl rfl ?_
 refine ry (y_ext rfl rfl rfl) rfl rfl ?_
 refine ry (y_ext rfl rfl rfl) rfl rfl ?_
 refine ry (y_ext rfl rfl rfl) rfl rfl ?_
 refine ry (y_asg rfl rfl) rfl rfl ?_
 refine ry (y_asg rfl rfl) rfl rfl ?_
 refine ry (y_asg rfl rfl) rfl rfl ?_
 refine reg_nil ?_
 refine fn_next ?_
 refine cw_seq ?_
 refine cw_reg ?_
 refine ry (y_mov rfl rfl) rfl rfl ?_
 refine ry (y_mov rfl rfl) rfl rfl ?_
 refine ry (y_asg rfl rfl) rfl rfl ?_
 refine ry (y_asg rfl rfl) rfl rfl ?_
 refine reg_nil ?_
 refine fn_next ?_
 refine cw_ret ?_
 refine fn_retn (vs := [_, _]) rfl ⟨rfl, rfl, trivial⟩ rfl ?_
 exact ⟨rfl, H6.base⟩

set_option maxRecDepth 100000 in
theorem mPrefer_n1 (a a2 h h2 : Nat) (g1 : Nat) (U : List Int) (g2 : Nat) (T : List Int) (q : Int) (w : World) (R1 : GRd w g1 a h U) (R2 : GRd w g2 a2 h2 T) :
    Ret Try.prog 21 [.pointer (some ⟨g1, 0, none⟩), .pointer none, .pointer (some ⟨g2, 0, none⟩), .int .i64 q] w (fun z w' => z = .tuple #[.pointer none, .int .i64 1] ∧ Below w.heap.size w w') := by
 refine ret_enter Try.func21 rfl rfl rfl ?_
 have H0 := HS.start w
 refine cw_seq ?_
 refine cw_reg ?_
 refine ry (y_asg rfl rfl) rfl rfl ?_
 refine ry (y_asg rfl rfl) rfl rfl ?_
 refine reg_nil ?_
 refine fn_next ?_
 refine cw_seq ?_
 refine cw_reg ?_
 refine ry (y_mov rfl rfl) rfl rfl ?_
 refine ry (y_mov rfl rfl) rfl rfl ?_
 refine ry (y_mov rfl rfl) rfl rfl ?_
 refine ry (y_mov rfl rfl) rfl rfl ?_
 refine reg_op (op_call (mPreferAny q _) rfl kfmerge2_14 ⟨rfl, trivial⟩) rfl rfl ?_
 rintro _ w2 ⟨rfl, e1⟩
 have H3 := H0.ext e1
 refine reg_op (op_call (merged_n1 a a2 h h2 g1 U g2 T _ _ (R1.below H3.base) (R2.below H3.base)) rfl kfmerge2_15 ⟨rfl, rfl, rfl, rfl, trivial⟩) rfl rfl ?_
 rintro _ w5 ⟨rfl, e4⟩
 have H6 := H3.ext e4
 refine ry (y_mov rfl rfl) rfl rfl ?_
 refine ry (y_ext rfl rfl rfl) rfl rfl ?_
 refine ry (y_ext rfl rfl rfl) rfl rfl ?_
 refine ry (y_ext rfl rfl rfl) rfl rfl ?_
 refine ry (y_asg rfl rfl) rfl rfl ?_
 refine ry (y_asg rfl rfl) rfl rfl ?_
 refine ry (y_asg rfl rfl) rfl rfl ?_
 refine reg_nil ?_
 refine fn_next ?_
 refine cw_seq ?_
 refine cw_reg ?_
 refine ry (y_mov rfl rfl) rfl rfl ?_
 refine ry (y_mov rfl rfl) rfl rfl ?_
 refine ry (y_asg rfl rfl) rfl rfl ?_
 refine ry (y_asg rfl rfl) rfl rfl ?_
 refine reg_nil ?_
 refine fn_next ?_
 refine cw_ret ?_
 refine fn_retn (vs := [_, _]) rfl ⟨rfl, rfl, trivial⟩ rfl ?_
 exact ⟨rfl, H6.base⟩

set_option maxRecDepth 100000 in
theorem mPrefer_n2 (a a1 h h1 : Nat) (g1 : Nat) (U : List Int) (g2 : Nat) (T : List Int) (q : Int) (w : World) (R1 : GRd w g1 a h U) (R2 : GRd w g2 a1 h1 T) :
    Ret Try.prog 21 [.pointer (some ⟨g1, 0, none⟩), .pointer (some ⟨g2, 0, none⟩), .pointer none, .int .i64 q] w (fun z w' => z = .tuple #[.pointer none, .int .i64 1] ∧ Below w.heap.size w w') := by
 refine ret_enter Try.func21 rfl rfl rfl ?_
 have H0 := HS.start w
 refine cw_seq ?_
 refine cw_reg ?_
 refine ry (y_asg rfl rfl) rfl rfl ?_
 refine ry (y_asg rfl rfl) rfl rfl ?_
 refine reg_nil ?_
 refine fn_next ?_
 refine cw_seq ?_
 refine cw_reg ?_
 refine ry (y_mov rfl rfl) rfl rfl ?_
 refine ry (y_mov rfl rfl) rfl rfl ?_
 refine ry (y_mov rfl rfl) rfl rfl ?_
 refine ry (y_mov rfl rfl) rfl rfl ?_
 refine reg_op (op_call (mPreferAny q _) rfl kfmerge2_14 ⟨rfl, trivial⟩) rfl rfl ?_
 rintro _ w2 ⟨rfl, e1⟩
 have H3 := H0.ext e1
 refine reg_op (op_call (merged_n2 a a1 h h1 g1 U g2 T _ _ (R1.below H3.base) (R2.below H3.base)) rfl kfmerge2_15 ⟨rfl, rfl, rfl, rfl, trivial⟩) rfl rfl ?_
 rintro _ w5 ⟨rfl, e4⟩
 have H6 := H3.ext e4
 refine ry (y_mov rfl rfl) rfl rfl ?_
 refine ry (y_ext rfl rfl rfl) rfl rfl ?_
 refine ry (y_ext rfl rfl rfl) rfl rfl ?_
 refine ry (y_ext rfl rfl rfl) rfl rfl ?_
 refine ry (y_asg rfl rfl) rfl rfl ?_
 refine ry (y_asg rfl rfl) rfl rfl ?_
 refine ry (y_asg rfl rfl) rfl rfl ?_
 refine reg_nil ?_
 refine fn_next ?_
 refine cw_seq ?_
 refine cw_reg ?_
 refine ry (y_mov rfl rfl) rfl rfl ?_
 refine ry (y_mov rfl rfl) rfl rfl ?_
 refine ry (y_asg rfl rfl) rfl rfl ?_
 refine ry (y_asg rfl rfl) rfl rfl ?_
 refine reg_nil ?_
 refine fn_next ?_
 refine cw_ret ?_
 refine fn_retn (vs := [_, _]) rfl ⟨rfl, rfl, trivial⟩ rfl ?_
 exact ⟨rfl, H6.base⟩

set_option maxRecDepth 100000 in
theorem mOdds (v u t : Int) (w : World) :
    Ret Try.prog 63 [.int .i64 v, .int .i64 u, .int .i64 t] w (fun z w' => z = .bool (decide (odd3 v u t)) ∧ Below w.heap.size w w') := by
 refine ret_enter Try.func63 rfl rfl rfl ?_
 have H0 := HS.start w
 refine cw_seq ?_
 refine cw_reg ?_
 refine ry (y_asg rfl rfl) rfl rfl ?_
 refine reg_nil ?_
 refine fn_next ?_
 refine cw_seq ?_
 refine cw_reg ?_
 refine ry (y_mov rfl rfl) rfl rfl ?_
 refine ry (y_mov rfl rfl) rfl rfl ?_
 refine ry (y_neq rfl rfl rfl) rfl rfl ?_
 refine ry (y_mov rfl rfl) rfl rfl ?_
 refine rg_splitd (d := 10) rfl (fun h1 => ?_) (fun h1 => ?_)
 ·skip
  have c10 := h1
  refine rgy (y_mov rfl rfl) rfl rfl rfl rfl ?_
  refine rgy (y_mov rfl rfl) rfl rfl rfl rfl ?_
  refine rgy (y_neq rfl rfl rfl) rfl rfl rfl rfl ?_
  refine ry (y_pick rfl rfl rfl) rfl rfl ?_
  refine ry (y_mov rfl rfl) rfl rfl ?_
  refine rg_splitd (d := 15) rfl (fun h2 => ?_) (fun h2 => ?_)
  ·skip
   have c15 := h2
   refine rgy (y_mov rfl rfl) rfl rfl rfl rfl ?_
   refine rgy (y_mov rfl rfl) rfl rfl rfl rfl ?_
   refine rgy (y_neq rfl rfl rfl) rfl rfl rfl rfl ?_
   refine ry (y_pick rfl rfl rfl) rfl rfl ?_
   refine ry (y_asg rfl rfl) rfl rfl ?_
   refine reg_nil ?_
   refine fn_next ?_
   refine cw_ret ?_
   refine fn_ret1 rfl rfl ?_
   refine ⟨?_, H0.base⟩
   first | exact (congrArg Value.bool (decide_eq_false (fun q => by unfold odd3 at q; omega))).symm | exact congrArg Value.bool (decide_eq_decide.2 (by unfold odd3; omega))
  ·skip
   have c15 := h2
   refine rg_off rfl rfl rfl rfl rfl ?_
   refine rg_off rfl rfl rfl rfl rfl ?_
   refine rg_off rfl rfl rfl rfl rfl ?_
   refine ry (y_pick rfl rfl rfl) rfl rfl ?_
   refine ry (y_asg rfl rfl) rfl rfl ?_
   refine reg_nil ?_
   refine fn_next ?_
   refine cw_ret ?_
   refine fn_ret1 rfl rfl ?_
   refine ⟨?_, H0.base⟩
   first | exact (congrArg Value.bool (decide_eq_false (fun q => by unfold odd3 at q; omega))).symm | exact congrArg Value.bool (decide_eq_decide.2 (by unfold odd3; omega))
 ·skip
  have c10 := h1
  refine rg_off rfl rfl rfl rfl rfl ?_
  refine rg_off rfl rfl rfl rfl rfl ?_
  refine rg_off rfl rfl rfl rfl rfl ?_
  refine ry (y_pick rfl rfl rfl) rfl rfl ?_
  refine ry (y_mov rfl rfl) rfl rfl ?_
  refine rg_off rfl rfl rfl rfl rfl ?_
  refine rg_off rfl rfl rfl rfl rfl ?_
  refine rg_off rfl rfl rfl rfl rfl ?_
  refine ry (y_pick rfl rfl rfl) rfl rfl ?_
  refine ry (y_asg rfl rfl) rfl rfl ?_
  refine reg_nil ?_
  refine fn_next ?_
  refine cw_ret ?_
  refine fn_ret1 rfl rfl ?_
  refine ⟨?_, H0.base⟩
  first | exact (congrArg Value.bool (decide_eq_false (fun q => by unfold odd3 at q; omega))).symm | exact congrArg Value.bool (decide_eq_decide.2 (by unfold odd3; omega))

set_option maxRecDepth 100000 in
theorem mmPrefer (a h : Nat) (A0 : Option Addr) (c0 : Nat) (A1 : Option Addr) (c1 : Nat) (A2 : Option Addr) (c2 : Nat) (V U T : List Int) (q : Int) (w : World) (s : SzG a h) (r0 : Rd w A0 (vi .i64 V)) (hlV : V.length = a * h) (r1 : Rd w A1 (vi .i64 U)) (hlU : U.length = a * h) (r2 : Rd w A2 (vi .i64 T)) (hlT : T.length = a * h) :
    Ret Try.prog 23 [.agg #[.int .i64 (a : Int), .int .i64 (h : Int), .slice A0 (a * h) c0], .agg #[.int .i64 (a : Int), .int .i64 (h : Int), .slice A1 (a * h) c1], .agg #[.int .i64 (a : Int), .int .i64 (h : Int), .slice A2 (a * h) c2], .int .i64 q] w (fun z w' => ∃ A' cap', z = .agg #[.int .i64 (a : Int), .int .i64 (h : Int), .slice A' (a * h) cap'] ∧ HS w w' [.row A' (a * h) cap' (vi .i64 (mgL (oW q) V U T (a * h))) 2 1]) := by
 have hm := s.mul
 refine ret_enter Try.func23 rfl rfl rfl ?_
 have H0 := HS.start w
 refine cw_seq ?_
 refine cw_reg ?_
 refine reg_op (op_box (cs := [.int _ _, .int _ _, .slice _ _ _]) H0 rfl rfl rfl) rfl rfl ?_
 rintro _ w2 ⟨b1, rfl, H3⟩
 refine reg_op (op_box (cs := [.int _ _, .int _ _, .slice _ _ _]) H3 rfl rfl rfl) rfl rfl ?_
 rintro _ w5 ⟨b4, rfl, H6⟩
 refine reg_op (op_box (cs := [.int _ _, .int _ _, .slice _ _ _]) H6 rfl rfl rfl) rfl rfl ?_
 rintro _ w8 ⟨b7, rfl, H9⟩
 refine reg_op (op_alloc H9 rfl kfmerge2_16) rfl rfl ?_
 rintro _ w11 ⟨b10, rfl, H12⟩
 refine reg_nil ?_
 refine fn_next ?_
 refine cw_seq ?_
 refine cw_reg ?_
 refine ry (y_fa rfl rfl kfmerge2_17 rfl) rfl rfl ?_
 refine ry (y_ld rfl rfl kfmerge2_7 (H12.cell (i := 3) rfl rfl)) rfl rfl ?_
 refine ry (y_fa rfl rfl kfmerge2_18 rfl) rfl rfl ?_
 refine ry (y_ld rfl rfl kfmerge2_7 (H12.cell (i := 3) rfl rfl)) rfl rfl ?_
 refine ry (y_build (places := [(0, 1), (1, 1), (2, 1)]) (parts := [(0, _), (1, _)]) (vs := [(0, _), (1, _)]) (cs := [.int _ _, .int _ _, .slice _ _ _]) rfl Try.underlying25 (by kernel_rfl) kfmerge2_16 rfl ⟨rfl, rfl, trivial⟩ rfl) rfl rfl ?_
 refine reg_op (op_alloc H12 rfl kfmerge2_16) rfl rfl ?_
 rintro _ w14 ⟨b13, rfl, H15⟩
 refine reg_op (op_st (i := 0) (vs := [.int _ _, .int _ _, .slice _ _ _]) H15 rfl rfl rfl rfl rfl kfmerge2_19 rfl rfl rfl) rfl rfl ?_
 rintro _ w16 H17
 refine reg_nil ?_
 refine fn_next ?_
 refine cw_seq ?_
 refine cw_seq ?_
 refine cw_reg ?_
 refine ry (y_asg rfl rfl) rfl rfl ?_
 refine reg_nil ?_
 refine fn_next ?_
 refine cw_block ?_
 have H18 := H17.nilrow 2 1
 refine cw_loopJ [10, 11, 12, 18, 19, 20, 21, 22, 23, 24, 25, 26, 27, 28, 29, 30, 31, 32, 33, 34, 35, 36, 37, 38, 39, 40, 41, 42, 43, 44, 45, 46, 47, 48, 49, 50, 51, 52, 53, 54, 55, 56, 57, 58, 59, 60, 61, 62, 63, 64, 65, 66, 67, 68, 69, 70, 71, 72, 73, 74, 75, 76, 77, 78, 79, 80, 81, 82, 83, 84] (fun M wl ml => ∃ (i : Nat) (A' : Option Addr) (cap' : Nat), M = [(10, .int .i64 (i : Int))] ∧ HS w wl [Ob.row A' i cap' (vi .i64 (mgL (oW q) V U T i)) 2 1, Ob.blk b13 [.int .i64 (a : Int), .int .i64 (h : Int), .slice A' i cap'] 25, Ob.blk b10 [.int .i64 0, .int .i64 0, .slice none 0 0] 25, Ob.blk b1 [.int .i64 (a : Int), .int .i64 (h : Int), .slice A0 (a * h) c0] 25, Ob.blk b4 [.int .i64 (a : Int), .int .i64 (h : Int), .slice A1 (a * h) c1] 25, Ob.blk b7 [.int .i64 (a : Int), .int .i64 (h : Int), .slice A2 (a * h) c2] 25] ∧ (i ≤ a * h) ∧ ml = a * h - i) ⟨0, _, _, rfl, (H18.pick (m := [_, _, _, _, _, _]) [0, 1, 2, 5, 4, 3] rfl (by decide)), Nat.zero_le _, rfl⟩ ⟨rfl, trivial⟩ ?_
 rintro M w19 m21 ⟨i, A', cap', rfl, H20, hp0, rfl⟩
 refine cw_seq ?_
 refine cw_seq ?_
 refine cw_reg ?_
 refine ry (y_mov rfl rfl) rfl rfl ?_
 refine ry (y_fa rfl rfl kfmerge2_20 rfl) rfl rfl ?_
 refine ry (y_ld rfl rfl kfmerge2_5 (H20.cell (i := 3) rfl rfl)) rfl rfl ?_
 refine ry (y_len rfl Try.underlying22 rfl) rfl rfl ?_
 refine ry (y_lss rfl rfl rfl) rfl rfl ?_
 refine reg_nil ?_
 refine fn_next ?_
 refine cw_condd rfl (fun h22 => ?_) (fun h22 => ?_)
 ·skip
  have hi : i < a * h := by omega
  have g0i := vi_get (k := .i64) (zs := V) (i := i) (by omega)
  have g1i := vi_get (k := .i64) (zs := U) (i := i) (by omega)
  have g2i := vi_get (k := .i64) (zs := T) (i := i) (by omega)
  refine cw_skip ?_
  refine fn_next ?_
  refine cw_seq ?_
  refine cw_block ?_
  refine cw_seq ?_
  refine cw_draw H20 [0, 1, 2, 3, 4, 5, 6, 7, 8, 9, 10, 11] [] (fun X HX => HX) (by kernel_rfl) (by kernel_rfl) (by rfl) ?_
  simp only [pick, List.getElem?_cons_succ, List.getElem?_cons_zero]
  refine hk_y (fun Y HY => y_fa rfl rfl kfmerge2_20 rfl) rfl rfl ?_
  refine hk_y (fun Y HY => y_ld rfl rfl kfmerge2_5 (HY.cell (i := 4) rfl rfl)) rfl rfl ?_
  refine hk_y (fun Y HY => y_mov rfl rfl) rfl rfl ?_
  refine hk_y (fun Y HY => y_iar (r1.below HY.base) rfl rfl rfl kfmerge2_6 (rfl) (by omega) (Nat.mul_one _) (g1i)) rfl rfl ?_
  refine hk_y (fun Y HY => y_ldr (r1.below HY.base) rfl rfl kfmerge2_7 (g1i)) rfl rfl ?_
  refine hk_y (fun Y HY => y_fa rfl rfl kfmerge2_20 rfl) rfl rfl ?_
  refine hk_y (fun Y HY => y_ld rfl rfl kfmerge2_5 (HY.cell (i := 5) rfl rfl)) rfl rfl ?_
  refine hk_y (fun Y HY => y_mov rfl rfl) rfl rfl ?_
  refine hk_y (fun Y HY => y_iar (r2.below HY.base) rfl rfl rfl kfmerge2_6 (rfl) (by omega) (Nat.mul_one _) (g2i)) rfl rfl ?_
  refine hk_y (fun Y HY => y_ldr (r2.below HY.base) rfl rfl kfmerge2_7 (g2i)) rfl rfl ?_
  refine hk_y (fun Y HY => y_asg rfl rfl) rfl rfl ?_
  refine hk_y (fun Y HY => y_asg rfl rfl) rfl rfl ?_
  refine hk_nil ?_
  intro w23 H24
  refine tv_nil ?_
  refine fn_next ?_
  refine cw_seq ?_
  refine cw_seq ?_
  refine cw_reg ?_
  refine ry (y_fa rfl rfl kfmerge2_20 rfl) rfl rfl ?_
  refine ry (y_ld rfl rfl kfmerge2_5 (H24.cell (i := 3) rfl rfl)) rfl rfl ?_
  refine ry (y_mov rfl rfl) rfl rfl ?_
  refine ry (y_iar (r0.below H24.base) rfl rfl rfl kfmerge2_6 (rfl) (by omega) (Nat.mul_one _) (g0i)) rfl rfl ?_
  refine ry (y_ldr (r0.below H24.base) rfl rfl kfmerge2_7 (g0i)) rfl rfl ?_
  refine ry (y_mov rfl rfl) rfl rfl ?_
  refine ry (y_mov rfl rfl) rfl rfl ?_
  refine reg_op (op_call (mOdds (nth V i) (nth U i) (nth T i) _) rfl kfmerge2_21 ⟨rfl, rfl, rfl, trivial⟩) rfl rfl ?_
  rintro _ w26 ⟨rfl, e25⟩
  have H27 := H24.ext e25
  refine ry (y_notd rfl rfl) rfl rfl ?_
  refine reg_nil ?_
  refine fn_next ?_
  refine cw_condd rfl (fun h28 => ?_) (fun h28 => ?_)
  ·skip
   have hod := h28
   refine cw_seq ?_
   refine cw_seq ?_
   refine cw_reg ?_
   refine ry (y_mov rfl rfl) rfl rfl ?_
   refine ry (y_fa rfl rfl kfmerge2_20 rfl) rfl rfl ?_
   refine ry (y_ld rfl rfl kfmerge2_5 (H27.cell (i := 3) rfl rfl)) rfl rfl ?_
   refine ry (y_mov rfl rfl) rfl rfl ?_
   refine ry (y_iar (r0.below H27.base) rfl rfl rfl kfmerge2_6 (rfl) (by omega) (Nat.mul_one _) (g0i)) rfl rfl ?_
   refine ry (y_ldr (r0.below H27.base) rfl rfl kfmerge2_7 (g0i)) rfl rfl ?_
   refine ry (y_eql rfl rfl rfl) rfl rfl ?_
   refine reg_nil ?_
   refine fn_next ?_
   refine cw_condd rfl (fun hx => ?_) (fun hx => ?_)
   ·skip
    refine cw_reg ?_
    refine ry (y_mov rfl rfl) rfl rfl ?_
    refine ry (y_asg rfl rfl) rfl rfl ?_
    refine reg_nil ?_
    refine fn_next ?_
    refine cw_seq ?_
    refine cw_reg ?_
    refine ry (y_fa rfl rfl kfmerge2_20 rfl) rfl rfl ?_
    refine ry (y_ld rfl rfl kfmerge2_5 (H27.cell (i := 1) rfl rfl)) rfl rfl ?_
    refine ry (y_mov rfl rfl) rfl rfl ?_
    refine reg_op (op_lit (parts := [(0, _)]) (vs := [(0, _)]) (cs := [.int _ _]) H27 rfl Try.underlying22 kfmerge2_22 rfl ⟨rfl, trivial⟩ rfl rfl) rfl rfl ?_
    rintro _ w31 ⟨b30, rfl, H32⟩
    have H33 := H32.asrow (m := 1) (size := 1) rfl (by decide)
    refine reg_op (op_app (i := 1) H33 rfl rfl rfl rfl (H33.rd (i := 0) rfl) (rfl) (rfl) Try.underlying22 kfmerge2_23 rfl rfl (by unfold maxLen; omega) (by omega)) rfl rfl ?_
    rintro _ w36 ⟨A34, c35, rfl, H37⟩
    refine ry (y_fa rfl rfl kfmerge2_20 rfl) rfl rfl ?_
    refine reg_op (op_st (i := 2) (vs := [.slice _ _ _]) H37 rfl rfl rfl rfl rfl kfmerge2_24 rfl rfl rfl) rfl rfl ?_
    rintro _ w38 H39
    refine reg_nil ?_
    refine fn_next ?_
    refine cw_exit ?_
    refine fn_then_exit (fn_block_exit ?_)
    refine fn_next ?_
    refine cw_reg ?_
    refine ry (y_mov rfl rfl) rfl rfl ?_
    refine ry (y_add rfl rfl rfl (wi (by omega))) rfl rfl ?_
    refine ry (y_asg rfl rfl) rfl rfl ?_
    refine reg_nil ?_
    first | rw [vi_snoc, show nth U i = mgf (oW q) V U T i from (by unfold mgf; first | (rw [mgv_ref hod]; split <;> omega) | (rw [mgv_odd hod, oW_ref]; split <;> omega)), mgL_succ] at H39 | rw [vi_snoc, show nth T i = mgf (oW q) V U T i from (by unfold mgf; first | (rw [mgv_ref hod]; split <;> omega) | (rw [mgv_odd hod, oW_ref]; split <;> omega)), mgL_succ] at H39
    refine fn_roundJ ⟨i + 1, _, _, rfl, (H39.pick (m := [_, _, _, _, _, _]) [1, 2, 3, 4, 5, 6] rfl (by decide)), by omega, rfl⟩ ⟨rfl, trivial⟩ (by omega) (by repeat (first | exact kp_refl | refine kp_app rfl rfl ?_ | refine kp_cons rfl ?_)) rfl
   ·skip
    refine cw_skip ?_
    refine fn_next ?_
    refine cw_seq ?_
    refine cw_reg ?_
    refine ry (y_fa rfl rfl kfmerge2_20 rfl) rfl rfl ?_
    refine ry (y_ld rfl rfl kfmerge2_5 (H27.cell (i := 1) rfl rfl)) rfl rfl ?_
    refine ry (y_mov rfl rfl) rfl rfl ?_
    refine reg_op (op_lit (parts := [(0, _)]) (vs := [(0, _)]) (cs := [.int _ _]) H27 rfl Try.underlying22 kfmerge2_22 rfl ⟨rfl, trivial⟩ rfl rfl) rfl rfl ?_
    rintro _ w41 ⟨b40, rfl, H42⟩
    have H43 := H42.asrow (m := 1) (size := 1) rfl (by decide)
    refine reg_op (op_app (i := 1) H43 rfl rfl rfl rfl (H43.rd (i := 0) rfl) (rfl) (rfl) Try.underlying22 kfmerge2_23 rfl rfl (by unfold maxLen; omega) (by omega)) rfl rfl ?_
    rintro _ w46 ⟨A44, c45, rfl, H47⟩
    refine ry (y_fa rfl rfl kfmerge2_20 rfl) rfl rfl ?_
    refine reg_op (op_st (i := 2) (vs := [.slice _ _ _]) H47 rfl rfl rfl rfl rfl kfmerge2_24 rfl rfl rfl) rfl rfl ?_
    rintro _ w48 H49
    refine reg_nil ?_
    refine fn_next ?_
    refine cw_exit ?_
    refine fn_then_exit (fn_block_exit ?_)
    refine fn_next ?_
    refine cw_reg ?_
    refine ry (y_mov rfl rfl) rfl rfl ?_
    refine ry (y_add rfl rfl rfl (wi (by omega))) rfl rfl ?_
    refine ry (y_asg rfl rfl) rfl rfl ?_
    refine reg_nil ?_
    first | rw [vi_snoc, show nth U i = mgf (oW q) V U T i from (by unfold mgf; first | (rw [mgv_ref hod]; split <;> omega) | (rw [mgv_odd hod, oW_ref]; split <;> omega)), mgL_succ] at H49 | rw [vi_snoc, show nth T i = mgf (oW q) V U T i from (by unfold mgf; first | (rw [mgv_ref hod]; split <;> omega) | (rw [mgv_odd hod, oW_ref]; split <;> omega)), mgL_succ] at H49
    refine fn_roundJ ⟨i + 1, _, _, rfl, (H49.pick (m := [_, _, _, _, _, _]) [1, 2, 3, 4, 5, 6] rfl (by decide)), by omega, rfl⟩ ⟨rfl, trivial⟩ (by omega) (by repeat (first | exact kp_refl | refine kp_app rfl rfl ?_ | refine kp_cons rfl ?_)) rfl
  ·skip
   have hod := Classical.not_not.1 h28
   refine cw_skip ?_
   refine fn_next ?_
   refine cw_seq ?_
   refine cw_seq ?_
   refine cw_reg ?_
   refine ry (y_mov rfl rfl) rfl rfl ?_
   refine ry (y_eql rfl rfl rfl) rfl rfl ?_
   refine ry (y_mov rfl rfl) rfl rfl ?_
   refine rg_splitd (d := 60) rfl (fun h50 => ?_) (fun h50 => ?_)
   ·skip
    have c60 := h50
    refine rg_off rfl rfl rfl rfl rfl ?_
    refine rg_off rfl rfl rfl rfl rfl ?_
    refine rg_off rfl rfl rfl rfl rfl ?_
    refine rg_offu rfl rfl rfl rfl ?_
    refine rg_offu rfl rfl rfl rfl ?_
    refine rg_offu rfl rfl rfl rfl ?_
    refine rg_off rfl rfl rfl rfl rfl ?_
    refine ry (y_pick rfl rfl rfl) rfl rfl ?_
    refine ry (y_mov rfl rfl) rfl rfl ?_
    refine rg_off rfl rfl rfl rfl rfl ?_
    refine rg_off rfl rfl rfl rfl rfl ?_
    refine rg_off rfl rfl rfl rfl rfl ?_
    refine rg_offu rfl rfl rfl rfl ?_
    refine rg_offu rfl rfl rfl rfl ?_
    refine rg_offu rfl rfl rfl rfl ?_
    refine rg_off rfl rfl rfl rfl rfl ?_
    refine ry (y_pick rfl rfl rfl) rfl rfl ?_
    refine reg_nil ?_
    refine fn_next ?_
    refine cw_condt rfl ?_
    refine cw_reg ?_
    refine ry (y_mov rfl rfl) rfl rfl ?_
    refine ry (y_asg rfl rfl) rfl rfl ?_
    refine reg_nil ?_
    refine fn_next ?_
    refine cw_reg ?_
    refine ry (y_fa rfl rfl kfmerge2_20 rfl) rfl rfl ?_
    refine ry (y_ld rfl rfl kfmerge2_5 (H27.cell (i := 1) rfl rfl)) rfl rfl ?_
    refine ry (y_mov rfl rfl) rfl rfl ?_
    refine reg_op (op_lit (parts := [(0, _)]) (vs := [(0, _)]) (cs := [.int _ _]) H27 rfl Try.underlying22 kfmerge2_22 rfl ⟨rfl, trivial⟩ rfl rfl) rfl rfl ?_
    rintro _ w52 ⟨b51, rfl, H53⟩
    have H54 := H53.asrow (m := 1) (size := 1) rfl (by decide)
    refine reg_op (op_app (i := 1) H54 rfl rfl rfl rfl (H54.rd (i := 0) rfl) (rfl) (rfl) Try.underlying22 kfmerge2_23 rfl rfl (by unfold maxLen; omega) (by omega)) rfl rfl ?_
    rintro _ w57 ⟨A55, c56, rfl, H58⟩
    refine ry (y_fa rfl rfl kfmerge2_20 rfl) rfl rfl ?_
    refine reg_op (op_st (i := 2) (vs := [.slice _ _ _]) H58 rfl rfl rfl rfl rfl kfmerge2_24 rfl rfl rfl) rfl rfl ?_
    rintro _ w59 H60
    refine reg_nil ?_
    refine fn_block ?_
    refine fn_next ?_
    refine cw_reg ?_
    refine ry (y_mov rfl rfl) rfl rfl ?_
    refine ry (y_add rfl rfl rfl (wi (by omega))) rfl rfl ?_
    refine ry (y_asg rfl rfl) rfl rfl ?_
    refine reg_nil ?_
    first | rw [vi_snoc, show nth U i = mgf (oW q) V U T i from (by unfold mgf; first | (rw [mgv_ref hod]; split <;> omega) | (rw [mgv_odd hod, oW_ref]; split <;> omega)), mgL_succ] at H60 | rw [vi_snoc, show nth T i = mgf (oW q) V U T i from (by unfold mgf; first | (rw [mgv_ref hod]; split <;> omega) | (rw [mgv_odd hod, oW_ref]; split <;> omega)), mgL_succ] at H60
    refine fn_roundJ ⟨i + 1, _, _, rfl, (H60.pick (m := [_, _, _, _, _, _]) [1, 2, 3, 4, 5, 6] rfl (by decide)), by omega, rfl⟩ ⟨rfl, trivial⟩ (by omega) (by repeat (first | exact kp_refl | refine kp_app rfl rfl ?_ | refine kp_cons rfl ?_)) rfl
   ·skip
    have c60 := h50
    refine rgy (y_mov rfl rfl) rfl rfl rfl rfl ?_
    refine rgy (y_eql rfl rfl rfl) rfl rfl rfl rfl ?_
    refine rgy (y_mov rfl rfl) rfl rfl rfl rfl ?_
    refine rg_splitd (d := 63) rfl (fun h61 => ?_) (fun h61 => ?_)
    ·skip
     have c63 := h61
     refine rgy (y_mov rfl rfl) rfl rfl rfl rfl ?_
     refine rgy (y_mov rfl rfl) rfl rfl rfl rfl ?_
     refine rgy (y_lss rfl rfl rfl) rfl rfl rfl rfl ?_
     refine rgy (y_pick rfl rfl rfl) rfl rfl rfl rfl ?_
     refine ry (y_pick rfl rfl rfl) rfl rfl ?_
     refine ry (y_mov rfl rfl) rfl rfl ?_
     refine rg_splitd (d := 69) rfl (fun h62 => ?_) (fun h62 => ?_)
     ·skip
      have c69 := h62
      refine rg_off rfl rfl rfl rfl rfl ?_
      refine rg_off rfl rfl rfl rfl rfl ?_
      refine rg_off rfl rfl rfl rfl rfl ?_
      refine rg_offu rfl rfl rfl rfl ?_
      refine rg_offu rfl rfl rfl rfl ?_
      refine rg_offu rfl rfl rfl rfl ?_
      refine rg_off rfl rfl rfl rfl rfl ?_
      refine ry (y_pick rfl rfl rfl) rfl rfl ?_
      refine reg_nil ?_
      refine fn_next ?_
      refine cw_condt rfl ?_
      refine cw_reg ?_
      refine ry (y_mov rfl rfl) rfl rfl ?_
      refine ry (y_asg rfl rfl) rfl rfl ?_
      refine reg_nil ?_
      refine fn_next ?_
      refine cw_reg ?_
      refine ry (y_fa rfl rfl kfmerge2_20 rfl) rfl rfl ?_
      refine ry (y_ld rfl rfl kfmerge2_5 (H27.cell (i := 1) rfl rfl)) rfl rfl ?_
      refine ry (y_mov rfl rfl) rfl rfl ?_
      refine reg_op (op_lit (parts := [(0, _)]) (vs := [(0, _)]) (cs := [.int _ _]) H27 rfl Try.underlying22 kfmerge2_22 rfl ⟨rfl, trivial⟩ rfl rfl) rfl rfl ?_
      rintro _ w64 ⟨b63, rfl, H65⟩
      have H66 := H65.asrow (m := 1) (size := 1) rfl (by decide)
      refine reg_op (op_app (i := 1) H66 rfl rfl rfl rfl (H66.rd (i := 0) rfl) (rfl) (rfl) Try.underlying22 kfmerge2_23 rfl rfl (by unfold maxLen; omega) (by omega)) rfl rfl ?_
      rintro _ w69 ⟨A67, c68, rfl, H70⟩
      refine ry (y_fa rfl rfl kfmerge2_20 rfl) rfl rfl ?_
      refine reg_op (op_st (i := 2) (vs := [.slice _ _ _]) H70 rfl rfl rfl rfl rfl kfmerge2_24 rfl rfl rfl) rfl rfl ?_
      rintro _ w71 H72
      refine reg_nil ?_
      refine fn_block ?_
      refine fn_next ?_
      refine cw_reg ?_
      refine ry (y_mov rfl rfl) rfl rfl ?_
      refine ry (y_add rfl rfl rfl (wi (by omega))) rfl rfl ?_
      refine ry (y_asg rfl rfl) rfl rfl ?_
      refine reg_nil ?_
      first | rw [vi_snoc, show nth U i = mgf (oW q) V U T i from (by unfold mgf; first | (rw [mgv_ref hod]; split <;> omega) | (rw [mgv_odd hod, oW_ref]; split <;> omega)), mgL_succ] at H72 | rw [vi_snoc, show nth T i = mgf (oW q) V U T i from (by unfold mgf; first | (rw [mgv_ref hod]; split <;> omega) | (rw [mgv_odd hod, oW_ref]; split <;> omega)), mgL_succ] at H72
      refine fn_roundJ ⟨i + 1, _, _, rfl, (H72.pick (m := [_, _, _, _, _, _]) [1, 2, 3, 4, 5, 6] rfl (by decide)), by omega, rfl⟩ ⟨rfl, trivial⟩ (by omega) (by repeat (first | exact kp_refl | refine kp_app rfl rfl ?_ | refine kp_cons rfl ?_)) rfl
     ·skip
      have c69 := h62
      refine rgy (y_mov rfl rfl) rfl rfl rfl rfl ?_
      refine rgy (y_eql rfl rfl rfl) rfl rfl rfl rfl ?_
      refine rgy (y_mov rfl rfl) rfl rfl rfl rfl ?_
      refine rg_splitd (d := 72) rfl (fun h73 => ?_) (fun h73 => ?_)
      ·skip
       have c72 := h73
       refine rgy (y_mov rfl rfl) rfl rfl rfl rfl ?_
       refine rgy (y_mov rfl rfl) rfl rfl rfl rfl ?_
       refine rgy (y_gtr rfl rfl rfl) rfl rfl rfl rfl ?_
       refine rgy (y_pick rfl rfl rfl) rfl rfl rfl rfl ?_
       refine ry (y_pick rfl rfl rfl) rfl rfl ?_
       refine reg_nil ?_
       refine fn_next ?_
       refine cw_condd rfl (fun hy => ?_) (fun hy => ?_)
       ·skip
        refine cw_reg ?_
        refine ry (y_mov rfl rfl) rfl rfl ?_
        refine ry (y_asg rfl rfl) rfl rfl ?_
        refine reg_nil ?_
        refine fn_next ?_
        refine cw_reg ?_
        refine ry (y_fa rfl rfl kfmerge2_20 rfl) rfl rfl ?_
        refine ry (y_ld rfl rfl kfmerge2_5 (H27.cell (i := 1) rfl rfl)) rfl rfl ?_
        refine ry (y_mov rfl rfl) rfl rfl ?_
        refine reg_op (op_lit (parts := [(0, _)]) (vs := [(0, _)]) (cs := [.int _ _]) H27 rfl Try.underlying22 kfmerge2_22 rfl ⟨rfl, trivial⟩ rfl rfl) rfl rfl ?_
        rintro _ w76 ⟨b75, rfl, H77⟩
        have H78 := H77.asrow (m := 1) (size := 1) rfl (by decide)
        refine reg_op (op_app (i := 1) H78 rfl rfl rfl rfl (H78.rd (i := 0) rfl) (rfl) (rfl) Try.underlying22 kfmerge2_23 rfl rfl (by unfold maxLen; omega) (by omega)) rfl rfl ?_
        rintro _ w81 ⟨A79, c80, rfl, H82⟩
        refine ry (y_fa rfl rfl kfmerge2_20 rfl) rfl rfl ?_
        refine reg_op (op_st (i := 2) (vs := [.slice _ _ _]) H82 rfl rfl rfl rfl rfl kfmerge2_24 rfl rfl rfl) rfl rfl ?_
        rintro _ w83 H84
        refine reg_nil ?_
        refine fn_block ?_
        refine fn_next ?_
        refine cw_reg ?_
        refine ry (y_mov rfl rfl) rfl rfl ?_
        refine ry (y_add rfl rfl rfl (wi (by omega))) rfl rfl ?_
        refine ry (y_asg rfl rfl) rfl rfl ?_
        refine reg_nil ?_
        first | rw [vi_snoc, show nth U i = mgf (oW q) V U T i from (by unfold mgf; first | (rw [mgv_ref hod]; split <;> omega) | (rw [mgv_odd hod, oW_ref]; split <;> omega)), mgL_succ] at H84 | rw [vi_snoc, show nth T i = mgf (oW q) V U T i from (by unfold mgf; first | (rw [mgv_ref hod]; split <;> omega) | (rw [mgv_odd hod, oW_ref]; split <;> omega)), mgL_succ] at H84
        refine fn_roundJ ⟨i + 1, _, _, rfl, (H84.pick (m := [_, _, _, _, _, _]) [1, 2, 3, 4, 5, 6] rfl (by decide)), by omega, rfl⟩ ⟨rfl, trivial⟩ (by omega) (by repeat (first | exact kp_refl | refine kp_app rfl rfl ?_ | refine kp_cons rfl ?_)) rfl
       ·skip
        refine cw_skip ?_
        refine fn_next ?_
        refine cw_reg ?_
        refine ry (y_fa rfl rfl kfmerge2_20 rfl) rfl rfl ?_
        refine ry (y_ld rfl rfl kfmerge2_5 (H27.cell (i := 1) rfl rfl)) rfl rfl ?_
        refine ry (y_mov rfl rfl) rfl rfl ?_
        refine reg_op (op_lit (parts := [(0, _)]) (vs := [(0, _)]) (cs := [.int _ _]) H27 rfl Try.underlying22 kfmerge2_22 rfl ⟨rfl, trivial⟩ rfl rfl) rfl rfl ?_
        rintro _ w86 ⟨b85, rfl, H87⟩
        have H88 := H87.asrow (m := 1) (size := 1) rfl (by decide)
        refine reg_op (op_app (i := 1) H88 rfl rfl rfl rfl (H88.rd (i := 0) rfl) (rfl) (rfl) Try.underlying22 kfmerge2_23 rfl rfl (by unfold maxLen; omega) (by omega)) rfl rfl ?_
        rintro _ w91 ⟨A89, c90, rfl, H92⟩
        refine ry (y_fa rfl rfl kfmerge2_20 rfl) rfl rfl ?_
        refine reg_op (op_st (i := 2) (vs := [.slice _ _ _]) H92 rfl rfl rfl rfl rfl kfmerge2_24 rfl rfl rfl) rfl rfl ?_
        rintro _ w93 H94
        refine reg_nil ?_
        refine fn_block ?_
        refine fn_next ?_
        refine cw_reg ?_
        refine ry (y_mov rfl rfl) rfl rfl ?_
        refine ry (y_add rfl rfl rfl (wi (by omega))) rfl rfl ?_
        refine ry (y_asg rfl rfl) rfl rfl ?_
        refine reg_nil ?_
        first | rw [vi_snoc, show nth U i = mgf (oW q) V U T i from (by unfold mgf; first | (rw [mgv_ref hod]; split <;> omega) | (rw [mgv_odd hod, oW_ref]; split <;> omega)), mgL_succ] at H94 | rw [vi_snoc, show nth T i = mgf (oW q) V U T i from (by unfold mgf; first | (rw [mgv_ref hod]; split <;> omega) | (rw [mgv_odd hod, oW_ref]; split <;> omega)), mgL_succ] at H94
        refine fn_roundJ ⟨i + 1, _, _, rfl, (H94.pick (m := [_, _, _, _, _, _]) [1, 2, 3, 4, 5, 6] rfl (by decide)), by omega, rfl⟩ ⟨rfl, trivial⟩ (by omega) (by repeat (first | exact kp_refl | refine kp_app rfl rfl ?_ | refine kp_cons rfl ?_)) rfl
      ·skip
       have c72 := h73
       refine rg_off rfl rfl rfl rfl rfl ?_
       refine rg_off rfl rfl rfl rfl rfl ?_
       refine rg_off rfl rfl rfl rfl rfl ?_
       refine rgy (y_pick rfl rfl rfl) rfl rfl rfl rfl ?_
       refine ry (y_pick rfl rfl rfl) rfl rfl ?_
       refine reg_nil ?_
       refine fn_next ?_
       refine cw_condf rfl ?_
       refine cw_skip ?_
       refine fn_next ?_
       refine cw_reg ?_
       refine ry (y_fa rfl rfl kfmerge2_20 rfl) rfl rfl ?_
       refine ry (y_ld rfl rfl kfmerge2_5 (H27.cell (i := 1) rfl rfl)) rfl rfl ?_
       refine ry (y_mov rfl rfl) rfl rfl ?_
       refine reg_op (op_lit (parts := [(0, _)]) (vs := [(0, _)]) (cs := [.int _ _]) H27 rfl Try.underlying22 kfmerge2_22 rfl ⟨rfl, trivial⟩ rfl rfl) rfl rfl ?_
       rintro _ w96 ⟨b95, rfl, H97⟩
       have H98 := H97.asrow (m := 1) (size := 1) rfl (by decide)
       refine reg_op (op_app (i := 1) H98 rfl rfl rfl rfl (H98.rd (i := 0) rfl) (rfl) (rfl) Try.underlying22 kfmerge2_23 rfl rfl (by unfold maxLen; omega) (by omega)) rfl rfl ?_
       rintro _ w101 ⟨A99, c100, rfl, H102⟩
       refine ry (y_fa rfl rfl kfmerge2_20 rfl) rfl rfl ?_
       refine reg_op (op_st (i := 2) (vs := [.slice _ _ _]) H102 rfl rfl rfl rfl rfl kfmerge2_24 rfl rfl rfl) rfl rfl ?_
       rintro _ w103 H104
       refine reg_nil ?_
       refine fn_block ?_
       refine fn_next ?_
       refine cw_reg ?_
       refine ry (y_mov rfl rfl) rfl rfl ?_
       refine ry (y_add rfl rfl rfl (wi (by omega))) rfl rfl ?_
       refine ry (y_asg rfl rfl) rfl rfl ?_
       refine reg_nil ?_
       first | rw [vi_snoc, show nth U i = mgf (oW q) V U T i from (by unfold mgf; first | (rw [mgv_ref hod]; split <;> omega) | (rw [mgv_odd hod, oW_ref]; split <;> omega)), mgL_succ] at H104 | rw [vi_snoc, show nth T i = mgf (oW q) V U T i from (by unfold mgf; first | (rw [mgv_ref hod]; split <;> omega) | (rw [mgv_odd hod, oW_ref]; split <;> omega)), mgL_succ] at H104
       refine fn_roundJ ⟨i + 1, _, _, rfl, (H104.pick (m := [_, _, _, _, _, _]) [1, 2, 3, 4, 5, 6] rfl (by decide)), by omega, rfl⟩ ⟨rfl, trivial⟩ (by omega) (by repeat (first | exact kp_refl | refine kp_app rfl rfl ?_ | refine kp_cons rfl ?_)) rfl
    ·skip
     have c63 := h61
     refine rg_off rfl rfl rfl rfl rfl ?_
     refine rg_off rfl rfl rfl rfl rfl ?_
     refine rg_off rfl rfl rfl rfl rfl ?_
     refine rgy (y_pick rfl rfl rfl) rfl rfl rfl rfl ?_
     refine ry (y_pick rfl rfl rfl) rfl rfl ?_
     refine ry (y_mov rfl rfl) rfl rfl ?_
     refine rgy (y_mov rfl rfl) rfl rfl rfl rfl ?_
     refine rgy (y_eql rfl rfl rfl) rfl rfl rfl rfl ?_
     refine rgy (y_mov rfl rfl) rfl rfl rfl rfl ?_
     refine rg_splitd (d := 72) rfl (fun h105 => ?_) (fun h105 => ?_)
     ·skip
      have c72 := h105
      refine rgy (y_mov rfl rfl) rfl rfl rfl rfl ?_
      refine rgy (y_mov rfl rfl) rfl rfl rfl rfl ?_
      refine rgy (y_gtr rfl rfl rfl) rfl rfl rfl rfl ?_
      refine rgy (y_pick rfl rfl rfl) rfl rfl rfl rfl ?_
      refine ry (y_pick rfl rfl rfl) rfl rfl ?_
      refine reg_nil ?_
      refine fn_next ?_
      refine cw_condd rfl (fun hy => ?_) (fun hy => ?_)
      ·skip
       refine cw_reg ?_
       refine ry (y_mov rfl rfl) rfl rfl ?_
       refine ry (y_asg rfl rfl) rfl rfl ?_
       refine reg_nil ?_
       refine fn_next ?_
       refine cw_reg ?_
       refine ry (y_fa rfl rfl kfmerge2_20 rfl) rfl rfl ?_
       refine ry (y_ld rfl rfl kfmerge2_5 (H27.cell (i := 1) rfl rfl)) rfl rfl ?_
       refine ry (y_mov rfl rfl) rfl rfl ?_
       refine reg_op (op_lit (parts := [(0, _)]) (vs := [(0, _)]) (cs := [.int _ _]) H27 rfl Try.underlying22 kfmerge2_22 rfl ⟨rfl, trivial⟩ rfl rfl) rfl rfl ?_
       rintro _ w108 ⟨b107, rfl, H109⟩
       have H110 := H109.asrow (m := 1) (size := 1) rfl (by decide)
       refine reg_op (op_app (i := 1) H110 rfl rfl rfl rfl (H110.rd (i := 0) rfl) (rfl) (rfl) Try.underlying22 kfmerge2_23 rfl rfl (by unfold maxLen; omega) (by omega)) rfl rfl ?_
       rintro _ w113 ⟨A111, c112, rfl, H114⟩
       refine ry (y_fa rfl rfl kfmerge2_20 rfl) rfl rfl ?_
       refine reg_op (op_st (i := 2) (vs := [.slice _ _ _]) H114 rfl rfl rfl rfl rfl kfmerge2_24 rfl rfl rfl) rfl rfl ?_
       rintro _ w115 H116
       refine reg_nil ?_
       refine fn_block ?_
       refine fn_next ?_
       refine cw_reg ?_
       refine ry (y_mov rfl rfl) rfl rfl ?_
       refine ry (y_add rfl rfl rfl (wi (by omega))) rfl rfl ?_
       refine ry (y_asg rfl rfl) rfl rfl ?_
       refine reg_nil ?_
       first | rw [vi_snoc, show nth U i = mgf (oW q) V U T i from (by unfold mgf; first | (rw [mgv_ref hod]; split <;> omega) | (rw [mgv_odd hod, oW_ref]; split <;> omega)), mgL_succ] at H116 | rw [vi_snoc, show nth T i = mgf (oW q) V U T i from (by unfold mgf; first | (rw [mgv_ref hod]; split <;> omega) | (rw [mgv_odd hod, oW_ref]; split <;> omega)), mgL_succ] at H116
       refine fn_roundJ ⟨i + 1, _, _, rfl, (H116.pick (m := [_, _, _, _, _, _]) [1, 2, 3, 4, 5, 6] rfl (by decide)), by omega, rfl⟩ ⟨rfl, trivial⟩ (by omega) (by repeat (first | exact kp_refl | refine kp_app rfl rfl ?_ | refine kp_cons rfl ?_)) rfl
      ·skip
       refine cw_skip ?_
       refine fn_next ?_
       refine cw_reg ?_
       refine ry (y_fa rfl rfl kfmerge2_20 rfl) rfl rfl ?_
       refine ry (y_ld rfl rfl kfmerge2_5 (H27.cell (i := 1) rfl rfl)) rfl rfl ?_
       refine ry (y_mov rfl rfl) rfl rfl ?_
       refine reg_op (op_lit (parts := [(0, _)]) (vs := [(0, _)]) (cs := [.int _ _]) H27 rfl Try.underlying22 kfmerge2_22 rfl ⟨rfl, trivial⟩ rfl rfl) rfl rfl ?_
       rintro _ w118 ⟨b117, rfl, H119⟩
       have H120 := H119.asrow (m := 1) (size := 1) rfl (by decide)
       refine reg_op (op_app (i := 1) H120 rfl rfl rfl rfl (H120.rd (i := 0) rfl) (rfl) (rfl) Try.underlying22 kfmerge2_23 rfl rfl (by unfold maxLen; omega) (by omega)) rfl rfl ?_
       rintro _ w123 ⟨A121, c122, rfl, H124⟩
       refine ry (y_fa rfl rfl kfmerge2_20 rfl) rfl rfl ?_
       refine reg_op (op_st (i := 2) (vs := [.slice _ _ _]) H124 rfl rfl rfl rfl rfl kfmerge2_24 rfl rfl rfl) rfl rfl ?_
       rintro _ w125 H126
       refine reg_nil ?_
       refine fn_block ?_
       refine fn_next ?_
       refine cw_reg ?_
       refine ry (y_mov rfl rfl) rfl rfl ?_
       refine ry (y_add rfl rfl rfl (wi (by omega))) rfl rfl ?_
       refine ry (y_asg rfl rfl) rfl rfl ?_
       refine reg_nil ?_
       first | rw [vi_snoc, show nth U i = mgf (oW q) V U T i from (by unfold mgf; first | (rw [mgv_ref hod]; split <;> omega) | (rw [mgv_odd hod, oW_ref]; split <;> omega)), mgL_succ] at H126 | rw [vi_snoc, show nth T i = mgf (oW q) V U T i from (by unfold mgf; first | (rw [mgv_ref hod]; split <;> omega) | (rw [mgv_odd hod, oW_ref]; split <;> omega)), mgL_succ] at H126
       refine fn_roundJ ⟨i + 1, _, _, rfl, (H126.pick (m := [_, _, _, _, _, _]) [1, 2, 3, 4, 5, 6] rfl (by decide)), by omega, rfl⟩ ⟨rfl, trivial⟩ (by omega) (by repeat (first | exact kp_refl | refine kp_app rfl rfl ?_ | refine kp_cons rfl ?_)) rfl
     ·skip
      have c72 := h105
      refine rg_off rfl rfl rfl rfl rfl ?_
      refine rg_off rfl rfl rfl rfl rfl ?_
      refine rg_off rfl rfl rfl rfl rfl ?_
      refine rgy (y_pick rfl rfl rfl) rfl rfl rfl rfl ?_
      refine ry (y_pick rfl rfl rfl) rfl rfl ?_
      refine reg_nil ?_
      refine fn_next ?_
      refine cw_condf rfl ?_
      refine cw_skip ?_
      refine fn_next ?_
      refine cw_reg ?_
      refine ry (y_fa rfl rfl kfmerge2_20 rfl) rfl rfl ?_
      refine ry (y_ld rfl rfl kfmerge2_5 (H27.cell (i := 1) rfl rfl)) rfl rfl ?_
      refine ry (y_mov rfl rfl) rfl rfl ?_
      refine reg_op (op_lit (parts := [(0, _)]) (vs := [(0, _)]) (cs := [.int _ _]) H27 rfl Try.underlying22 kfmerge2_22 rfl ⟨rfl, trivial⟩ rfl rfl) rfl rfl ?_
      rintro _ w128 ⟨b127, rfl, H129⟩
      have H130 := H129.asrow (m := 1) (size := 1) rfl (by decide)
      refine reg_op (op_app (i := 1) H130 rfl rfl rfl rfl (H130.rd (i := 0) rfl) (rfl) (rfl) Try.underlying22 kfmerge2_23 rfl rfl (by unfold maxLen; omega) (by omega)) rfl rfl ?_
      rintro _ w133 ⟨A131, c132, rfl, H134⟩
      refine ry (y_fa rfl rfl kfmerge2_20 rfl) rfl rfl ?_
      refine reg_op (op_st (i := 2) (vs := [.slice _ _ _]) H134 rfl rfl rfl rfl rfl kfmerge2_24 rfl rfl rfl) rfl rfl ?_
      rintro _ w135 H136
      refine reg_nil ?_
      refine fn_block ?_
      refine fn_next ?_
      refine cw_reg ?_
      refine ry (y_mov rfl rfl) rfl rfl ?_
      refine ry (y_add rfl rfl rfl (wi (by omega))) rfl rfl ?_
      refine ry (y_asg rfl rfl) rfl rfl ?_
      refine reg_nil ?_
      first | rw [vi_snoc, show nth U i = mgf (oW q) V U T i from (by unfold mgf; first | (rw [mgv_ref hod]; split <;> omega) | (rw [mgv_odd hod, oW_ref]; split <;> omega)), mgL_succ] at H136 | rw [vi_snoc, show nth T i = mgf (oW q) V U T i from (by unfold mgf; first | (rw [mgv_ref hod]; split <;> omega) | (rw [mgv_odd hod, oW_ref]; split <;> omega)), mgL_succ] at H136
      refine fn_roundJ ⟨i + 1, _, _, rfl, (H136.pick (m := [_, _, _, _, _, _]) [1, 2, 3, 4, 5, 6] rfl (by decide)), by omega, rfl⟩ ⟨rfl, trivial⟩ (by omega) (by repeat (first | exact kp_refl | refine kp_app rfl rfl ?_ | refine kp_cons rfl ?_)) rfl
 ·skip
  have hie : i = a * h := by omega
  subst hie
  refine cw_exit ?_
  refine fn_then_exit (fn_then_exit (fn_block_exit ?_))
  refine fn_next ?_
  refine cw_seq ?_
  refine cw_reg ?_
  refine ry (y_ldb (i := 1) (cs := [_, _, _]) H20 rfl rfl kfmerge2_25 rfl rfl) rfl rfl ?_
  refine reg_op (op_st (i := 2) (vs := [.int _ _, .int _ _, .slice _ _ _]) H20 rfl rfl rfl rfl rfl kfmerge2_19 rfl rfl rfl) rfl rfl ?_
  rintro _ w137 H138
  refine reg_nil ?_
  refine fn_next ?_
  refine cw_ret ?_
  refine fn_ret1 rfl (⟨_, rfl, load_agg (cs := [_, _, _]) kfmerge2_25 rfl fun j v hv => by rw [Nat.zero_add]; exact H138.cell (i := 2) rfl hv⟩) ?_
  exact ⟨_, _, rfl, (H138.pick (m := [_]) [0] rfl (by decide))⟩

set_option maxRecDepth 100000 in
theorem mmAt (a h : Nat) (A0 : Option Addr) (c0 : Nat) (A1 : Option Addr) (c1 : Nat) (A2 : Option Addr) (c2 : Nat) (V U T : List Int) (w : World) (s : SzG a h) (r0 : Rd w A0 (vi .i64 V)) (hlV : V.length = a * h) (r1 : Rd w A1 (vi .i64 U)) (hlU : U.length = a * h) (r2 : Rd w A2 (vi .i64 T)) (hlT : T.length = a * h) :
    Ret Try.prog 25 [.agg #[.int .i64 (a : Int), .int .i64 (h : Int), .slice A0 (a * h) c0], .agg #[.int .i64 (a : Int), .int .i64 (h : Int), .slice A1 (a * h) c1], .agg #[.int .i64 (a : Int), .int .i64 (h : Int), .slice A2 (a * h) c2]] w (fun z w' => ∃ A' cap', z = .slice A' (selN (oddP V U T) (a * h)) cap' ∧ HS w w' [.row A' (selN (oddP V U T) (a * h)) cap' (vi .i64 (selC a (oddP V U T) (a * h))) 46 2]) := by
 have hm := s.mul
 have ha := s.1
 refine ret_enter Try.func25 rfl rfl rfl ?_
 have H0 := HS.start w
 refine cw_seq ?_
 refine cw_reg ?_
 refine reg_op (op_box (cs := [.int _ _, .int _ _, .slice _ _ _]) H0 rfl rfl rfl) rfl rfl ?_
 rintro _ w2 ⟨b1, rfl, H3⟩
 refine reg_op (op_box (cs := [.int _ _, .int _ _, .slice _ _ _]) H3 rfl rfl rfl) rfl rfl ?_
 rintro _ w5 ⟨b4, rfl, H6⟩
 refine reg_op (op_box (cs := [.int _ _, .int _ _, .slice _ _ _]) H6 rfl rfl rfl) rfl rfl ?_
 rintro _ w8 ⟨b7, rfl, H9⟩
 refine ry (y_asg rfl rfl) rfl rfl ?_
 refine reg_nil ?_
 refine fn_next ?_
 refine cw_seq ?_
 refine cw_reg ?_
 refine reg_op (op_lit (parts := []) (vs := []) (cs := []) H9 rfl Try.underlying35 kfmerge2_10 rfl trivial rfl rfl) rfl rfl ?_
 rintro _ w11 ⟨b10, rfl, H12⟩
 have H13 := H12.asrow (m := 0) (size := 2) rfl (by decide)
 refine ry (y_asg rfl rfl) rfl rfl ?_
 refine reg_nil ?_
 refine fn_next ?_
 refine cw_seq ?_
 refine cw_seq ?_
 refine cw_reg ?_
 refine ry (y_asg rfl rfl) rfl rfl ?_
 refine reg_nil ?_
 refine fn_next ?_
 refine cw_block ?_
 refine cw_loopJ [7, 8, 10, 11, 12, 13, 14, 15, 16, 17, 18, 19, 20, 21, 22, 23, 24, 25, 26, 27, 28, 29, 30, 31, 32, 33, 34, 35, 36, 37, 38, 39, 40, 41, 42, 43, 44] (fun M wl ml => ∃ (i : Nat) (A' : Option Addr) (cap' : Nat), M = [(8, .int .i64 (i : Int)), (7, .slice A' (selN (oddP V U T) (i)) cap')] ∧ HS w wl [Ob.row A' (selN (oddP V U T) (i)) cap' (vi .i64 (selC a (oddP V U T) (i))) 46 2, Ob.blk b1 [.int .i64 (a : Int), .int .i64 (h : Int), .slice A0 (a * h) c0] 25, Ob.blk b4 [.int .i64 (a : Int), .int .i64 (h : Int), .slice A1 (a * h) c1] 25, Ob.blk b7 [.int .i64 (a : Int), .int .i64 (h : Int), .slice A2 (a * h) c2] 25] ∧ (i ≤ a * h) ∧ ml = a * h - i) ⟨0, _, _, rfl, (H13.pick (m := [_, _, _, _]) [0, 3, 2, 1] rfl (by decide)), Nat.zero_le _, rfl⟩ ⟨rfl, rfl, trivial⟩ ?_
 rintro M w14 m16 ⟨i, A', cap', rfl, H15, hp0, rfl⟩
 refine cw_seq ?_
 refine cw_seq ?_
 refine cw_reg ?_
 refine ry (y_mov rfl rfl) rfl rfl ?_
 refine ry (y_fa rfl rfl kfmerge2_20 rfl) rfl rfl ?_
 refine ry (y_ld rfl rfl kfmerge2_5 (H15.cell (i := 1) rfl rfl)) rfl rfl ?_
 refine ry (y_len rfl Try.underlying22 rfl) rfl rfl ?_
 refine ry (y_lss rfl rfl rfl) rfl rfl ?_
 refine reg_nil ?_
 refine fn_next ?_
 refine cw_condd rfl (fun h17 => ?_) (fun h17 => ?_)
 ·skip
  have hi : i < a * h := by omega
  have g0i := vi_get (k := .i64) (zs := V) (i := i) (by omega)
  have g1i := vi_get (k := .i64) (zs := U) (i := i) (by omega)
  have g2i := vi_get (k := .i64) (zs := T) (i := i) (by omega)
  refine cw_skip ?_
  refine fn_next ?_
  refine cw_seq ?_
  refine cw_block ?_
  refine cw_seq ?_
  refine cw_draw H15 [0, 1, 2, 3, 4, 5, 6, 7, 8, 9, 10, 11, 12, 13, 14, 15] [] (fun X HX => HX) (by kernel_rfl) (by kernel_rfl) (by rfl) ?_
  simp only [pick, List.getElem?_cons_succ, List.getElem?_cons_zero]
  refine hk_y (fun Y HY => y_fa rfl rfl kfmerge2_20 rfl) rfl rfl ?_
  refine hk_y (fun Y HY => y_ld rfl rfl kfmerge2_5 (HY.cell (i := 1) rfl rfl)) rfl rfl ?_
  refine hk_y (fun Y HY => y_mov rfl rfl) rfl rfl ?_
  refine hk_y (fun Y HY => y_iar (r0.below HY.base) rfl rfl rfl kfmerge2_6 (rfl) (by omega) (Nat.mul_one _) (g0i)) rfl rfl ?_
  refine hk_y (fun Y HY => y_ldr (r0.below HY.base) rfl rfl kfmerge2_7 (g0i)) rfl rfl ?_
  refine hk_y (fun Y HY => y_fa rfl rfl kfmerge2_20 rfl) rfl rfl ?_
  refine hk_y (fun Y HY => y_ld rfl rfl kfmerge2_5 (HY.cell (i := 2) rfl rfl)) rfl rfl ?_
  refine hk_y (fun Y HY => y_mov rfl rfl) rfl rfl ?_
  refine hk_y (fun Y HY => y_iar (r1.below HY.base) rfl rfl rfl kfmerge2_6 (rfl) (by omega) (Nat.mul_one _) (g1i)) rfl rfl ?_
  refine hk_y (fun Y HY => y_ldr (r1.below HY.base) rfl rfl kfmerge2_7 (g1i)) rfl rfl ?_
  refine hk_y (fun Y HY => y_fa rfl rfl kfmerge2_20 rfl) rfl rfl ?_
  refine hk_y (fun Y HY => y_ld rfl rfl kfmerge2_5 (HY.cell (i := 3) rfl rfl)) rfl rfl ?_
  refine hk_y (fun Y HY => y_mov rfl rfl) rfl rfl ?_
  refine hk_y (fun Y HY => y_iar (r2.below HY.base) rfl rfl rfl kfmerge2_6 (rfl) (by omega) (Nat.mul_one _) (g2i)) rfl rfl ?_
  refine hk_y (fun Y HY => y_ldr (r2.below HY.base) rfl rfl kfmerge2_7 (g2i)) rfl rfl ?_
  refine hk_q (qy_call (fun Y HY => mOdds (nth V i) (nth U i) (nth T i) _) rfl kfmerge2_21 ⟨rfl, rfl, rfl, trivial⟩) rfl rfl ?_
  refine hk_nil ?_
  intro w18 H19
  refine tv_nil ?_
  refine fn_next ?_
  refine cw_condd rfl (fun h20 => ?_) (fun h20 => ?_)
  ·skip
   have hp : (oddP V U T) i = true := decide_eq_true h20
   refine cw_draw H19 [0, 1, 2, 3, 4, 5, 6, 7, 8, 9] [10, 11, 12] (fun X HX => (HX.pick (m := [_, _, _]) [1, 2, 3] rfl (by decide))) (by kernel_rfl) (by kernel_rfl) (by rfl) ?_
   simp only [pick, List.getElem?_cons_succ, List.getElem?_cons_zero]
   refine hk_y (fun Y HY => y_mov rfl rfl) rfl rfl ?_
   refine hk_y (fun Y HY => y_mov rfl rfl) rfl rfl ?_
   refine hk_y (fun Y HY => y_fa rfl rfl kfmerge2_17 rfl) rfl rfl ?_
   refine hk_y (fun Y HY => y_ld rfl rfl kfmerge2_7 (HY.cell (i := 0) rfl rfl)) rfl rfl ?_
   refine hk_y (fun Y HY => y_rem rfl rfl rfl (by omega) (remN)) rfl rfl ?_
   refine hk_y (fun Y HY => y_mov rfl rfl) rfl rfl ?_
   refine hk_y (fun Y HY => y_fa rfl rfl kfmerge2_17 rfl) rfl rfl ?_
   refine hk_y (fun Y HY => y_ld rfl rfl kfmerge2_7 (HY.cell (i := 0) rfl rfl)) rfl rfl ?_
   refine hk_y (fun Y HY => y_quo rfl rfl rfl (by omega) (quoN (by omega))) rfl rfl ?_
   refine hk_y (fun Y HY => y_build (places := [(0, 1), (1, 1)]) (parts := [(0, _), (1, _)]) (vs := [(0, _), (1, _)]) (cs := [.int _ _, .int _ _]) rfl Try.underlying46 (by kernel_rfl) kfmerge2_9 rfl ⟨rfl, rfl, trivial⟩ rfl) rfl rfl ?_
   refine hk_nil ?_
   intro w21 H22
   refine tv_op (op_lit (parts := [(0, _)]) (vs := [(0, _)]) (cs := [.int _ _, .int _ _]) H22 rfl Try.underlying35 kfmerge2_10 rfl ⟨rfl, trivial⟩ rfl rfl) rfl rfl ?_
   rintro _ w24 ⟨b23, rfl, H25⟩
   have H26 := H25.asrow (m := 1) (size := 2) rfl (by decide)
   refine ⟨(H26.pick (m := [_, _, _]) [2, 3, 4] rfl (by decide)), fun w27 e29 => ?_⟩
   have H28 := H26.ext e29
   refine tv_op (op_app (i := 1) H28 rfl rfl rfl rfl (H28.rd (i := 0) rfl) (rfl) (rfl) Try.underlying35 kfmerge2_11 rfl rfl (by have := selN_le (p := (oddP V U T)) i; unfold maxLen; omega) (by have := selN_le (p := (oddP V U T)) i; omega)) rfl rfl ?_
   rintro _ w32 ⟨A30, c31, rfl, H33⟩
   refine ⟨(H33.pick (m := [_, _, _]) [2, 3, 4] rfl (by decide)), fun w34 e36 => ?_⟩
   have H35 := H33.ext e36
   refine tv_op (Yd.op (y_asg rfl rfl)) rfl rfl ?_
   rintro _ _ ⟨rfl, rfl⟩
   refine ⟨(H35.pick (m := [_, _, _]) [2, 3, 4] rfl (by decide)), fun w37 e39 => ?_⟩
   have H38 := H35.ext e39
   refine tv_nil ?_
   refine fn_block ?_
   refine fn_next ?_
   refine cw_reg ?_
   refine ry (y_mov rfl rfl) rfl rfl ?_
   refine ry (y_add rfl rfl rfl (wi (by omega))) rfl rfl ?_
   refine ry (y_asg rfl rfl) rfl rfl ?_
   refine reg_nil ?_
   first | rw [vi_two, selC_t hp, selN_t hp] at H38 | rw [selC_f hp, selN_f hp] at H38
   refine fn_roundJ ⟨i + 1, _, _, rfl, (H38.pick (m := [_, _, _, _]) [1, 2, 3, 4] rfl (by decide)), by omega, rfl⟩ ⟨rfl, by first | rfl | (rw [← selN_t hp]; rfl) | (rw [← selN_f hp]; rfl), trivial⟩ (by omega) (by repeat (first | exact kp_refl | refine kp_app rfl rfl ?_ | refine kp_cons rfl ?_)) rfl
  ·skip
   have hp : ¬ (oddP V U T) i = true := fun q => h20 (of_decide_eq_true q)
   refine cw_skip ?_
   refine fn_block ?_
   refine fn_next ?_
   refine cw_reg ?_
   refine ry (y_mov rfl rfl) rfl rfl ?_
   refine ry (y_add rfl rfl rfl (wi (by omega))) rfl rfl ?_
   refine ry (y_asg rfl rfl) rfl rfl ?_
   refine reg_nil ?_
   first | rw [vi_two, selC_t hp, selN_t hp] at H19 | rw [selC_f hp, selN_f hp] at H19
   refine fn_roundJ ⟨i + 1, _, _, rfl, H19, by omega, rfl⟩ ⟨rfl, by first | rfl | (rw [← selN_t hp]; rfl) | (rw [← selN_f hp]; rfl), trivial⟩ (by omega) (by repeat (first | exact kp_refl | refine kp_app rfl rfl ?_ | refine kp_cons rfl ?_)) rfl
 ·skip
  have hie : i = a * h := by omega
  subst hie
  refine cw_exit ?_
  refine fn_then_exit (fn_then_exit (fn_block_exit ?_))
  refine fn_next ?_
  refine cw_seq ?_
  refine cw_reg ?_
  refine ry (y_mov rfl rfl) rfl rfl ?_
  refine ry (y_asg rfl rfl) rfl rfl ?_
  refine reg_nil ?_
  refine fn_next ?_
  refine cw_ret ?_
  refine fn_ret1 rfl rfl ?_
  exact ⟨_, _, rfl, (H15.pick (m := [_]) [0] rfl (by decide))⟩

end Go.Proofs.Ytbhmkpnihgjlnaa
