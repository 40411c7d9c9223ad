/- Layer 48: in all directions. -/
import Derived.Test.YtgkkbeomhkggjaaDoorLaw48b
set_option linter.unusedVariables false
set_option linter.unusedSimpArgs false
namespace Go.Proofs.YtgkkbeomhkggjaaDoor
open Go Go.RowKit
theorem kflaw48c_1 : aggB Tryd.prog 24 2 = true := by kernel_rfl
theorem kflaw48c_2 : callB Tryd.prog 29 = true := by kernel_rfl
theorem kflaw48c_3 : (Tryd.prog.info? 34).map (fun i => (i.zero.map (·.cells.toList), i.size, i.bytes)) = some (some [(.int .i64 0), (.int .i64 0)], 2, 16) := by kernel_rfl
theorem kflaw48c_4 : callB Tryd.prog 11 = true := by kernel_rfl
theorem kflaw48c_5 : elB Tryd.prog 43 2 = true := by kernel_rfl
theorem kflaw48c_6 : szB Tryd.prog 34 2 = true := by kernel_rfl
theorem kflaw48c_7 : callB Tryd.prog 14 = true := by kernel_rfl
theorem kflaw48c_8 : aggB Tryd.prog 34 2 = true := by kernel_rfl
theorem kflaw48c_9 : (Tryd.prog.info? 34).bind (fun i => i.zero.map Value.cells) = some (List.toArray [(.int .i64 0), (.int .i64 0)]) := by kernel_rfl
theorem kflaw48c_10 : fldB Tryd.prog 34 0 0 = true := by kernel_rfl
theorem kflaw48c_11 : oneB Tryd.prog 2 = true := by kernel_rfl
theorem kflaw48c_12 : callB Tryd.prog 8 = true := by kernel_rfl
theorem kflaw48c_13 : callB Tryd.prog 9 = true := by kernel_rfl
theorem kflaw48c_14 : (Tryd.prog.info? 27).bind (fun i => i.zero.map Value.cells) = some (List.toArray [(.int .i64 0), (.int .i64 0), (.slice none 0 0)]) := by kernel_rfl
theorem kflaw48c_15 : szB Tryd.prog 27 3 = true := by kernel_rfl
theorem kflaw48c_16 : callB Tryd.prog 10 = true := by kernel_rfl
theorem kflaw48c_17 : callB Tryd.prog 15 = true := by kernel_rfl
theorem kflaw48c_18 : aggB Tryd.prog 27 3 = true := by kernel_rfl
theorem kflaw48c_19 : callB Tryd.prog 12 = true := by kernel_rfl
theorem kflaw48c_20 : callB Tryd.prog 13 = true := by kernel_rfl
theorem kflaw48c_21 : (Tryd.prog.info? 40).bind (fun i => i.zero.map Value.cells) = some (List.toArray [(.int .i64 0), (.int .i64 0), (.int .i64 0), (.int .i64 0)]) := by kernel_rfl
theorem kflaw48c_22 : szB Tryd.prog 40 4 = true := by kernel_rfl
theorem kflaw48c_23 : fldB Tryd.prog 40 0 0 = true := by kernel_rfl
theorem kflaw48c_24 : fldB Tryd.prog 40 1 1 = true := by kernel_rfl
theorem kflaw48c_25 : seqB Tryd.prog 34 2 = true := by kernel_rfl
theorem made_two (n : Nat) : (madeCells #[.int .i64 0, .int .i64 0] n).toList = List.replicate n (.int .i64 0) := by
  apply List.ext_getElem
  · simp [madeCells]
  · intro i h1 h2
    rcases Nat.mod_two_eq_zero_or_one i with e | e <;> simp [madeCells, e]
def cntN (f : Nat → Int) : Nat → Nat
  | 0 => 0
  | k + 1 => if f k ≤ 0 then cntN f k + 1 else cntN f k
theorem cntN_t {f : Nat → Int} {k : Nat} (h : f k ≤ 0) : cntN f (k + 1) = cntN f k + 1 := by rw [cntN, if_pos h]
theorem cntN_f {f : Nat → Int} {k : Nat} (h : ¬ f k ≤ 0) : cntN f (k + 1) = cntN f k := by rw [cntN, if_neg h]
theorem cntN_le (f : Nat → Int) : ∀ k, cntN f k ≤ k
  | 0 => Nat.le_refl _
  | k + 1 => by rw [cntN]; have := cntN_le f k; split <;> omega
theorem hS_on0 {V : List Int} {a h : Nat} {cx cy high : Int} {d : Nat} (q : (hS V a h cx cy high d).2.1 = 0) : (hS V a h cx cy high d).1 = 0 := by
  unfold hS at q ⊢
  simp only at q ⊢
  by_cases e : ms a h cx cy (dX d) (dY d) = 0
  · rw [if_pos e]
  · rw [if_neg e] at q
    exact absurd q (by show ¬ ((_ : Nat) : Int) + 1 = 0; omega)

set_option maxRecDepth 100000 in
theorem hArd_no (g a h : Nat) (V : List Int) (cx cy high : Int) (w : World) (R : GRd w g a h V) (hc : ¬ hC a h cx cy high = 0) :
    Ret Tryd.prog 14 [.pointer (some ⟨g, 0, none⟩), .agg #[.int .i64 cx, .int .i64 cy], .int .i64 high] w (fun z w' => z = .tuple #[.slice none 0 0, .int .i64 (hC a h cx cy high)] ∧ Below w.heap.size w w') := by
 refine ret_enter Tryd.func14 rfl rfl rfl ?_
 have H0 := HS.start w
 refine cw_seq ?_
 refine cw_reg ?_
 refine reg_op (op_box (cs := [.int _ _, .int _ _]) H0 rfl rfl rfl) rfl rfl ?_
 rintro _ w2 ⟨b1, rfl, H3⟩
 refine ry (y_asg rfl rfl) rfl rfl ?_
 refine ry (y_asg rfl rfl) rfl rfl ?_
 refine reg_nil ?_
 refine fn_next ?_
 refine cw_seq ?_
 refine cw_seq ?_
 refine cw_reg ?_
 refine ry (y_mov rfl rfl) rfl rfl ?_
 refine ry (y_ldb (i := 0) (cs := [_, _]) H3 rfl rfl kflaw48c_1 rfl rfl) rfl rfl ?_
 refine ry (y_mov rfl rfl) rfl rfl ?_
 refine reg_op (op_call (hChk_no g a h (V) cx cy high _ (R.below H3.base) hc) rfl kflaw48c_2 ⟨rfl, rfl, rfl, trivial⟩) rfl rfl ?_
 rintro _ w5 ⟨rfl, e4⟩
 have H6 := H3.ext e4
 refine ry (y_mov rfl rfl) rfl rfl ?_
 refine ry (y_ext rfl rfl rfl) rfl rfl ?_
 refine ry (y_ext rfl rfl rfl) rfl rfl ?_
 refine ry (y_asg rfl rfl) rfl rfl ?_
 refine ry (y_asg rfl rfl) rfl rfl ?_
 refine reg_nil ?_
 refine fn_next ?_
 refine cw_seq ?_
 refine cw_reg ?_
 refine ry (y_mov rfl rfl) rfl rfl ?_
 refine ry (y_neq rfl rfl rfl) rfl rfl ?_
 refine reg_nil ?_
 refine fn_next ?_
 refine cw_condd rfl (fun h7 => ?_) (fun h7 => ?_)
 ·skip
  refine cw_seq ?_
  refine cw_reg ?_
  refine ry (y_mov rfl rfl) rfl rfl ?_
  refine ry (y_asg rfl rfl) rfl rfl ?_
  refine ry (y_asg rfl rfl) rfl rfl ?_
  refine reg_nil ?_
  refine fn_next ?_
  refine cw_ret ?_
  refine fn_then_ret ?_
  refine fn_retn (vs := [_, _]) rfl ⟨rfl, rfl, trivial⟩ rfl ?_
  exact ⟨rfl, H6.base⟩
 · exact absurd (Classical.not_not.1 h7) hc

set_option maxRecDepth 100000 in
set_option maxHeartbeats 2000000 in
theorem hArd_ok (g a h : Nat) (V : List Int) (cx cy high : Int) (w : World) (R : GRd w g a h V) (hG : Rd w (some ⟨0, 0, none⟩) (vi .i64 (pr dX dY 8))) (hc : hC a h cx cy high = 0) :
    Ret Tryd.prog 14 [.pointer (some ⟨g, 0, none⟩), .agg #[.int .i64 cx, .int .i64 cy], .int .i64 high] w (fun z w' => ∃ A c, z = .tuple #[.slice A 8 c, .int .i64 0] ∧ HS w w' [.row A 8 c (vi .i64 (pr (fun d => (hS V a h cx cy high d).1) (fun d => (hS V a h cx cy high d).2.1) 8)) 34 2]) := by
 refine ret_enter Tryd.func14 rfl rfl rfl ?_
 have H0 := HS.start w
 refine cw_seq ?_
 refine cw_reg ?_
 refine reg_op (op_box (cs := [.int _ _, .int _ _]) H0 rfl rfl rfl) rfl rfl ?_
 rintro _ w2 ⟨b1, rfl, H3⟩
 refine ry (y_asg rfl rfl) rfl rfl ?_
 refine ry (y_asg rfl rfl) rfl rfl ?_
 refine reg_nil ?_
 refine fn_next ?_
 refine cw_seq ?_
 refine cw_seq ?_
 refine cw_reg ?_
 refine ry (y_mov rfl rfl) rfl rfl ?_
 refine ry (y_ldb (i := 0) (cs := [_, _]) H3 rfl rfl kflaw48c_1 rfl rfl) rfl rfl ?_
 refine ry (y_mov rfl rfl) rfl rfl ?_
 refine reg_op (op_call (hChk_ok g a h (V) cx cy high _ (R.below H3.base) hc) rfl kflaw48c_2 ⟨rfl, rfl, rfl, trivial⟩) rfl rfl ?_
 rintro _ w5 ⟨rfl, e4⟩
 have H6 := H3.ext e4
 refine ry (y_mov rfl rfl) rfl rfl ?_
 refine ry (y_ext rfl rfl rfl) rfl rfl ?_
 refine ry (y_ext rfl rfl rfl) rfl rfl ?_
 refine ry (y_asg rfl rfl) rfl rfl ?_
 refine ry (y_asg rfl rfl) rfl rfl ?_
 refine reg_nil ?_
 refine fn_next ?_
 refine cw_seq ?_
 refine cw_reg ?_
 refine ry (y_mov rfl rfl) rfl rfl ?_
 refine ry (y_neq rfl rfl rfl) rfl rfl ?_
 refine reg_nil ?_
 refine fn_next ?_
 refine cw_condf rfl ?_
 refine cw_skip ?_
 refine fn_next ?_
 refine cw_seq ?_
 refine cw_reg ?_
 refine reg_op (op_make (m := 8) H6 rfl rfl rfl (rfl) (rfl) Tryd.underlying43 kflaw48c_3 (by omega) (by unfold maxLen; omega)) rfl rfl ?_
 rintro _ w8 ⟨b7, rfl, H9⟩
 refine ry (y_asg rfl rfl) rfl rfl ?_
 refine reg_nil ?_
 refine fn_next ?_
 refine cw_seq ?_
 refine cw_seq ?_
 refine cw_reg ?_
 refine ry (y_mov rfl rfl) rfl rfl ?_
 refine ry (y_len rfl Tryd.underlying43 rfl) rfl rfl ?_
 refine ry (y_mov rfl rfl) rfl rfl ?_
 refine reg_nil ?_
 refine fn_next ?_
 refine cw_block ?_
 refine cw_loopR 8 ?_
 rw [made_two] at H9
 refine cw_seq ?_
 refine cw_reg ?_
 refine ry (y_lss rfl rfl rfl) rfl rfl ?_
 refine reg_nil ?_
 refine fn_next ?_
 refine cw_seq ?_
 refine cw_condd rfl (fun h10 => ?_) (fun h10 => ?_)
 ·skip
  refine cw_skip ?_
  refine fn_next ?_
  refine cw_seq ?_
  refine cw_block ?_
  refine cw_seq ?_
  refine cw_reg ?_
  refine ry (y_mov rfl rfl) rfl rfl ?_
  refine ry (y_asg rfl rfl) rfl rfl ?_
  refine reg_nil ?_
  refine fn_next ?_
  refine cw_reg ?_
  refine ry (y_mov rfl rfl) rfl rfl ?_
  refine ry (y_mov rfl rfl) rfl rfl ?_
  refine ry (y_mov rfl rfl) rfl rfl ?_
  refine ry (y_ldb (i := 1) (cs := [_, _]) H9 rfl rfl kflaw48c_1 rfl rfl) rfl rfl ?_
  refine ry (y_mov rfl rfl) rfl rfl ?_
  refine ry (y_mov rfl rfl) rfl rfl ?_
  refine reg_op (op_call (hSteep g a h (V) cx cy high 0 _ (R.below H9.base) (hG.below H9.base) hc (by decide)) rfl kflaw48c_4 ⟨rfl, rfl, rfl, rfl, trivial⟩) rfl rfl ?_
  rintro _ w12 ⟨rfl, e11⟩
  have H13 := H9.ext e11
  refine ry (y_mov rfl rfl) rfl rfl ?_
  refine ry (y_ext rfl rfl rfl) rfl rfl ?_
  refine ry (y_ext rfl rfl rfl) rfl rfl ?_
  refine ry (y_ext rfl rfl rfl) rfl rfl ?_
  refine ry (y_ext rfl rfl rfl) rfl rfl ?_
  refine ry (y_iar (i := 0) (H13.rd (i := 0) rfl) rfl rfl rfl kflaw48c_5 (rfl) (by omega) (rfl) (rfl)) rfl rfl ?_
  refine reg_op (op_ste (i := 0) (vs := [.int _ _, .int _ _]) H13 rfl rfl rfl rfl rfl kflaw48c_6 rfl (Nat.le_of_ble_eq_true rfl) rfl rfl) rfl rfl ?_
  rintro _ w14 H15
  refine reg_nil ?_
  refine fn_block ?_
  refine fn_next ?_
  refine cw_reg ?_
  refine ry (y_add rfl rfl rfl (show _ = ((1 : Nat) : Int) from by decide)) rfl rfl ?_
  refine ry (y_mov rfl rfl) rfl rfl ?_
  refine reg_nil ?_
  refine fn_roundR ?_
  refine cw_seq ?_
  refine cw_reg ?_
  refine ry (y_lss rfl rfl rfl) rfl rfl ?_
  refine reg_nil ?_
  refine fn_next ?_
  refine cw_seq ?_
  refine cw_condd rfl (fun h16 => ?_) (fun h16 => ?_)
  ·skip
   refine cw_skip ?_
   refine fn_next ?_
   refine cw_seq ?_
   refine cw_block ?_
   refine cw_seq ?_
   refine cw_reg ?_
   refine ry (y_mov rfl rfl) rfl rfl ?_
   refine ry (y_asg rfl rfl) rfl rfl ?_
   refine reg_nil ?_
   refine fn_next ?_
   refine cw_reg ?_
   refine ry (y_mov rfl rfl) rfl rfl ?_
   refine ry (y_mov rfl rfl) rfl rfl ?_
   refine ry (y_mov rfl rfl) rfl rfl ?_
   refine ry (y_ldb (i := 1) (cs := [_, _]) H15 rfl rfl kflaw48c_1 rfl rfl) rfl rfl ?_
   refine ry (y_mov rfl rfl) rfl rfl ?_
   refine ry (y_mov rfl rfl) rfl rfl ?_
   refine reg_op (op_call (hSteep g a h (V) cx cy high 1 _ (R.below H15.base) (hG.below H15.base) hc (by decide)) rfl kflaw48c_4 ⟨rfl, rfl, rfl, rfl, trivial⟩) rfl rfl ?_
   rintro _ w18 ⟨rfl, e17⟩
   have H19 := H15.ext e17
   refine ry (y_mov rfl rfl) rfl rfl ?_
   refine ry (y_ext rfl rfl rfl) rfl rfl ?_
   refine ry (y_ext rfl rfl rfl) rfl rfl ?_
   refine ry (y_ext rfl rfl rfl) rfl rfl ?_
   refine ry (y_ext rfl rfl rfl) rfl rfl ?_
   refine ry (y_iar (i := 1) (H19.rd (i := 0) rfl) rfl rfl rfl kflaw48c_5 (rfl) (by omega) (rfl) (rfl)) rfl rfl ?_
   refine reg_op (op_ste (i := 0) (vs := [.int _ _, .int _ _]) H19 rfl rfl rfl rfl rfl kflaw48c_6 rfl (Nat.le_of_ble_eq_true rfl) rfl rfl) rfl rfl ?_
   rintro _ w20 H21
   refine reg_nil ?_
   refine fn_block ?_
   refine fn_next ?_
   refine cw_reg ?_
   refine ry (y_add rfl rfl rfl (show _ = ((2 : Nat) : Int) from by decide)) rfl rfl ?_
   refine ry (y_mov rfl rfl) rfl rfl ?_
   refine reg_nil ?_
   refine fn_roundR ?_
   refine cw_seq ?_
   refine cw_reg ?_
   refine ry (y_lss rfl rfl rfl) rfl rfl ?_
   refine reg_nil ?_
   refine fn_next ?_
   refine cw_seq ?_
   refine cw_condd rfl (fun h22 => ?_) (fun h22 => ?_)
   ·skip
    refine cw_skip ?_
    refine fn_next ?_
    refine cw_seq ?_
    refine cw_block ?_
    refine cw_seq ?_
    refine cw_reg ?_
    refine ry (y_mov rfl rfl) rfl rfl ?_
    refine ry (y_asg rfl rfl) rfl rfl ?_
    refine reg_nil ?_
    refine fn_next ?_
    refine cw_reg ?_
    refine ry (y_mov rfl rfl) rfl rfl ?_
    refine ry (y_mov rfl rfl) rfl rfl ?_
    refine ry (y_mov rfl rfl) rfl rfl ?_
    refine ry (y_ldb (i := 1) (cs := [_, _]) H21 rfl rfl kflaw48c_1 rfl rfl) rfl rfl ?_
    refine ry (y_mov rfl rfl) rfl rfl ?_
    refine ry (y_mov rfl rfl) rfl rfl ?_
    refine reg_op (op_call (hSteep g a h (V) cx cy high 2 _ (R.below H21.base) (hG.below H21.base) hc (by decide)) rfl kflaw48c_4 ⟨rfl, rfl, rfl, rfl, trivial⟩) rfl rfl ?_
    rintro _ w24 ⟨rfl, e23⟩
    have H25 := H21.ext e23
    refine ry (y_mov rfl rfl) rfl rfl ?_
    refine ry (y_ext rfl rfl rfl) rfl rfl ?_
    refine ry (y_ext rfl rfl rfl) rfl rfl ?_
    refine ry (y_ext rfl rfl rfl) rfl rfl ?_
    refine ry (y_ext rfl rfl rfl) rfl rfl ?_
    refine ry (y_iar (i := 2) (H25.rd (i := 0) rfl) rfl rfl rfl kflaw48c_5 (rfl) (by omega) (rfl) (rfl)) rfl rfl ?_
    refine reg_op (op_ste (i := 0) (vs := [.int _ _, .int _ _]) H25 rfl rfl rfl rfl rfl kflaw48c_6 rfl (Nat.le_of_ble_eq_true rfl) rfl rfl) rfl rfl ?_
    rintro _ w26 H27
    refine reg_nil ?_
    refine fn_block ?_
    refine fn_next ?_
    refine cw_reg ?_
    refine ry (y_add rfl rfl rfl (show _ = ((3 : Nat) : Int) from by decide)) rfl rfl ?_
    refine ry (y_mov rfl rfl) rfl rfl ?_
    refine reg_nil ?_
    refine fn_roundR ?_
    refine cw_seq ?_
    refine cw_reg ?_
    refine ry (y_lss rfl rfl rfl) rfl rfl ?_
    refine reg_nil ?_
    refine fn_next ?_
    refine cw_seq ?_
    refine cw_condd rfl (fun h28 => ?_) (fun h28 => ?_)
    ·skip
     refine cw_skip ?_
     refine fn_next ?_
     refine cw_seq ?_
     refine cw_block ?_
     refine cw_seq ?_
     refine cw_reg ?_
     refine ry (y_mov rfl rfl) rfl rfl ?_
     refine ry (y_asg rfl rfl) rfl rfl ?_
     refine reg_nil ?_
     refine fn_next ?_
     refine cw_reg ?_
     refine ry (y_mov rfl rfl) rfl rfl ?_
     refine ry (y_mov rfl rfl) rfl rfl ?_
     refine ry (y_mov rfl rfl) rfl rfl ?_
     refine ry (y_ldb (i := 1) (cs := [_, _]) H27 rfl rfl kflaw48c_1 rfl rfl) rfl rfl ?_
     refine ry (y_mov rfl rfl) rfl rfl ?_
     refine ry (y_mov rfl rfl) rfl rfl ?_
     refine reg_op (op_call (hSteep g a h (V) cx cy high 3 _ (R.below H27.base) (hG.below H27.base) hc (by decide)) rfl kflaw48c_4 ⟨rfl, rfl, rfl, rfl, trivial⟩) rfl rfl ?_
     rintro _ w30 ⟨rfl, e29⟩
     have H31 := H27.ext e29
     refine ry (y_mov rfl rfl) rfl rfl ?_
     refine ry (y_ext rfl rfl rfl) rfl rfl ?_
     refine ry (y_ext rfl rfl rfl) rfl rfl ?_
     refine ry (y_ext rfl rfl rfl) rfl rfl ?_
     refine ry (y_ext rfl rfl rfl) rfl rfl ?_
     refine ry (y_iar (i := 3) (H31.rd (i := 0) rfl) rfl rfl rfl kflaw48c_5 (rfl) (by omega) (rfl) (rfl)) rfl rfl ?_
     refine reg_op (op_ste (i := 0) (vs := [.int _ _, .int _ _]) H31 rfl rfl rfl rfl rfl kflaw48c_6 rfl (Nat.le_of_ble_eq_true rfl) rfl rfl) rfl rfl ?_
     rintro _ w32 H33
     refine reg_nil ?_
     refine fn_block ?_
     refine fn_next ?_
     refine cw_reg ?_
     refine ry (y_add rfl rfl rfl (show _ = ((4 : Nat) : Int) from by decide)) rfl rfl ?_
     refine ry (y_mov rfl rfl) rfl rfl ?_
     refine reg_nil ?_
     refine fn_roundR ?_
     refine cw_seq ?_
     refine cw_reg ?_
     refine ry (y_lss rfl rfl rfl) rfl rfl ?_
     refine reg_nil ?_
     refine fn_next ?_
     refine cw_seq ?_
     refine cw_condd rfl (fun h34 => ?_) (fun h34 => ?_)
     ·skip
      refine cw_skip ?_
      refine fn_next ?_
      refine cw_seq ?_
      refine cw_block ?_
      refine cw_seq ?_
      refine cw_reg ?_
      refine ry (y_mov rfl rfl) rfl rfl ?_
      refine ry (y_asg rfl rfl) rfl rfl ?_
      refine reg_nil ?_
      refine fn_next ?_
      refine cw_reg ?_
      refine ry (y_mov rfl rfl) rfl rfl ?_
      refine ry (y_mov rfl rfl) rfl rfl ?_
      refine ry (y_mov rfl rfl) rfl rfl ?_
      refine ry (y_ldb (i := 1) (cs := [_, _]) H33 rfl rfl kflaw48c_1 rfl rfl) rfl rfl ?_
      refine ry (y_mov rfl rfl) rfl rfl ?_
      refine ry (y_mov rfl rfl) rfl rfl ?_
      refine reg_op (op_call (hSteep g a h (V) cx cy high 4 _ (R.below H33.base) (hG.below H33.base) hc (by decide)) rfl kflaw48c_4 ⟨rfl, rfl, rfl, rfl, trivial⟩) rfl rfl ?_
      rintro _ w36 ⟨rfl, e35⟩
      have H37 := H33.ext e35
      refine ry (y_mov rfl rfl) rfl rfl ?_
      refine ry (y_ext rfl rfl rfl) rfl rfl ?_
      refine ry (y_ext rfl rfl rfl) rfl rfl ?_
      refine ry (y_ext rfl rfl rfl) rfl rfl ?_
      refine ry (y_ext rfl rfl rfl) rfl rfl ?_
      refine ry (y_iar (i := 4) (H37.rd (i := 0) rfl) rfl rfl rfl kflaw48c_5 (rfl) (by omega) (rfl) (rfl)) rfl rfl ?_
      refine reg_op (op_ste (i := 0) (vs := [.int _ _, .int _ _]) H37 rfl rfl rfl rfl rfl kflaw48c_6 rfl (Nat.le_of_ble_eq_true rfl) rfl rfl) rfl rfl ?_
      rintro _ w38 H39
      refine reg_nil ?_
      refine fn_block ?_
      refine fn_next ?_
      refine cw_reg ?_
      refine ry (y_add rfl rfl rfl (show _ = ((5 : Nat) : Int) from by decide)) rfl rfl ?_
      refine ry (y_mov rfl rfl) rfl rfl ?_
      refine reg_nil ?_
      refine fn_roundR ?_
      refine cw_seq ?_
      refine cw_reg ?_
      refine ry (y_lss rfl rfl rfl) rfl rfl ?_
      refine reg_nil ?_
      refine fn_next ?_
      refine cw_seq ?_
      refine cw_condd rfl (fun h40 => ?_) (fun h40 => ?_)
      ·skip
       refine cw_skip ?_
       refine fn_next ?_
       refine cw_seq ?_
       refine cw_block ?_
       refine cw_seq ?_
       refine cw_reg ?_
       refine ry (y_mov rfl rfl) rfl rfl ?_
       refine ry (y_asg rfl rfl) rfl rfl ?_
       refine reg_nil ?_
       refine fn_next ?_
       refine cw_reg ?_
       refine ry (y_mov rfl rfl) rfl rfl ?_
       refine ry (y_mov rfl rfl) rfl rfl ?_
       refine ry (y_mov rfl rfl) rfl rfl ?_
       refine ry (y_ldb (i := 1) (cs := [_, _]) H39 rfl rfl kflaw48c_1 rfl rfl) rfl rfl ?_
       refine ry (y_mov rfl rfl) rfl rfl ?_
       refine ry (y_mov rfl rfl) rfl rfl ?_
       refine reg_op (op_call (hSteep g a h (V) cx cy high 5 _ (R.below H39.base) (hG.below H39.base) hc (by decide)) rfl kflaw48c_4 ⟨rfl, rfl, rfl, rfl, trivial⟩) rfl rfl ?_
       rintro _ w42 ⟨rfl, e41⟩
       have H43 := H39.ext e41
       refine ry (y_mov rfl rfl) rfl rfl ?_
       refine ry (y_ext rfl rfl rfl) rfl rfl ?_
       refine ry (y_ext rfl rfl rfl) rfl rfl ?_
       refine ry (y_ext rfl rfl rfl) rfl rfl ?_
       refine ry (y_ext rfl rfl rfl) rfl rfl ?_
       refine ry (y_iar (i := 5) (H43.rd (i := 0) rfl) rfl rfl rfl kflaw48c_5 (rfl) (by omega) (rfl) (rfl)) rfl rfl ?_
       refine reg_op (op_ste (i := 0) (vs := [.int _ _, .int _ _]) H43 rfl rfl rfl rfl rfl kflaw48c_6 rfl (Nat.le_of_ble_eq_true rfl) rfl rfl) rfl rfl ?_
       rintro _ w44 H45
       refine reg_nil ?_
       refine fn_block ?_
       refine fn_next ?_
       refine cw_reg ?_
       refine ry (y_add rfl rfl rfl (show _ = ((6 : Nat) : Int) from by decide)) rfl rfl ?_
       refine ry (y_mov rfl rfl) rfl rfl ?_
       refine reg_nil ?_
       refine fn_roundR ?_
       refine cw_seq ?_
       refine cw_reg ?_
       refine ry (y_lss rfl rfl rfl) rfl rfl ?_
       refine reg_nil ?_
       refine fn_next ?_
       refine cw_seq ?_
       refine cw_condd rfl (fun h46 => ?_) (fun h46 => ?_)
       ·skip
        refine cw_skip ?_
        refine fn_next ?_
        refine cw_seq ?_
        refine cw_block ?_
        refine cw_seq ?_
        refine cw_reg ?_
        refine ry (y_mov rfl rfl) rfl rfl ?_
        refine ry (y_asg rfl rfl) rfl rfl ?_
        refine reg_nil ?_
        refine fn_next ?_
        refine cw_reg ?_
        refine ry (y_mov rfl rfl) rfl rfl ?_
        refine ry (y_mov rfl rfl) rfl rfl ?_
        refine ry (y_mov rfl rfl) rfl rfl ?_
        refine ry (y_ldb (i := 1) (cs := [_, _]) H45 rfl rfl kflaw48c_1 rfl rfl) rfl rfl ?_
        refine ry (y_mov rfl rfl) rfl rfl ?_
        refine ry (y_mov rfl rfl) rfl rfl ?_
        refine reg_op (op_call (hSteep g a h (V) cx cy high 6 _ (R.below H45.base) (hG.below H45.base) hc (by decide)) rfl kflaw48c_4 ⟨rfl, rfl, rfl, rfl, trivial⟩) rfl rfl ?_
        rintro _ w48 ⟨rfl, e47⟩
        have H49 := H45.ext e47
        refine ry (y_mov rfl rfl) rfl rfl ?_
        refine ry (y_ext rfl rfl rfl) rfl rfl ?_
        refine ry (y_ext rfl rfl rfl) rfl rfl ?_
        refine ry (y_ext rfl rfl rfl) rfl rfl ?_
        refine ry (y_ext rfl rfl rfl) rfl rfl ?_
        refine ry (y_iar (i := 6) (H49.rd (i := 0) rfl) rfl rfl rfl kflaw48c_5 (rfl) (by omega) (rfl) (rfl)) rfl rfl ?_
        refine reg_op (op_ste (i := 0) (vs := [.int _ _, .int _ _]) H49 rfl rfl rfl rfl rfl kflaw48c_6 rfl (Nat.le_of_ble_eq_true rfl) rfl rfl) rfl rfl ?_
        rintro _ w50 H51
        refine reg_nil ?_
        refine fn_block ?_
        refine fn_next ?_
        refine cw_reg ?_
        refine ry (y_add rfl rfl rfl (show _ = ((7 : Nat) : Int) from by decide)) rfl rfl ?_
        refine ry (y_mov rfl rfl) rfl rfl ?_
        refine reg_nil ?_
        refine fn_roundR ?_
        refine cw_seq ?_
        refine cw_reg ?_
        refine ry (y_lss rfl rfl rfl) rfl rfl ?_
        refine reg_nil ?_
        refine fn_next ?_
        refine cw_seq ?_
        refine cw_condd rfl (fun h52 => ?_) (fun h52 => ?_)
        ·skip
         refine cw_skip ?_
         refine fn_next ?_
         refine cw_seq ?_
         refine cw_block ?_
         refine cw_seq ?_
         refine cw_reg ?_
         refine ry (y_mov rfl rfl) rfl rfl ?_
         refine ry (y_asg rfl rfl) rfl rfl ?_
         refine reg_nil ?_
         refine fn_next ?_
         refine cw_reg ?_
         refine ry (y_mov rfl rfl) rfl rfl ?_
         refine ry (y_mov rfl rfl) rfl rfl ?_
         refine ry (y_mov rfl rfl) rfl rfl ?_
         refine ry (y_ldb (i := 1) (cs := [_, _]) H51 rfl rfl kflaw48c_1 rfl rfl) rfl rfl ?_
         refine ry (y_mov rfl rfl) rfl rfl ?_
         refine ry (y_mov rfl rfl) rfl rfl ?_
         refine reg_op (op_call (hSteep g a h (V) cx cy high 7 _ (R.below H51.base) (hG.below H51.base) hc (by decide)) rfl kflaw48c_4 ⟨rfl, rfl, rfl, rfl, trivial⟩) rfl rfl ?_
         rintro _ w54 ⟨rfl, e53⟩
         have H55 := H51.ext e53
         refine ry (y_mov rfl rfl) rfl rfl ?_
         refine ry (y_ext rfl rfl rfl) rfl rfl ?_
         refine ry (y_ext rfl rfl rfl) rfl rfl ?_
         refine ry (y_ext rfl rfl rfl) rfl rfl ?_
         refine ry (y_ext rfl rfl rfl) rfl rfl ?_
         refine ry (y_iar (i := 7) (H55.rd (i := 0) rfl) rfl rfl rfl kflaw48c_5 (rfl) (by omega) (rfl) (rfl)) rfl rfl ?_
         refine reg_op (op_ste (i := 0) (vs := [.int _ _, .int _ _]) H55 rfl rfl rfl rfl rfl kflaw48c_6 rfl (Nat.le_of_ble_eq_true rfl) rfl rfl) rfl rfl ?_
         rintro _ w56 H57
         refine reg_nil ?_
         refine fn_block ?_
         refine fn_next ?_
         refine cw_reg ?_
         refine ry (y_add rfl rfl rfl (show _ = ((8 : Nat) : Int) from by decide)) rfl rfl ?_
         refine ry (y_mov rfl rfl) rfl rfl ?_
         refine reg_nil ?_
         refine fn_roundR ?_
         refine cw_seq ?_
         refine cw_reg ?_
         refine ry (y_lss rfl rfl rfl) rfl rfl ?_
         refine reg_nil ?_
         refine fn_next ?_
         refine cw_seq ?_
         refine cw_condd rfl (fun h58 => ?_) (fun h58 => ?_)
         · exact absurd h58 (by decide)
         ·skip
          refine cw_exit ?_
          refine fn_then_exit (fn_then_exit (fn_block_exit ?_))
          refine fn_next ?_
          refine cw_seq ?_
          refine cw_reg ?_
          refine ry (y_mov rfl rfl) rfl rfl ?_
          refine ry (y_asg rfl rfl) rfl rfl ?_
          refine ry (y_asg rfl rfl) rfl rfl ?_
          refine reg_nil ?_
          refine fn_next ?_
          refine cw_ret ?_
          refine fn_retn (vs := [_, _]) rfl ⟨rfl, rfl, trivial⟩ rfl ?_
          exact ⟨_, _, rfl, (H57.pick (m := [_]) [0] rfl (by decide))⟩
        · exact absurd (by decide) h52
       · exact absurd (by decide) h46
      · exact absurd (by decide) h40
     · exact absurd (by decide) h34
    · exact absurd (by decide) h28
   · exact absurd (by decide) h22
  · exact absurd (by decide) h16
 · exact absurd (by decide) h10

set_option maxRecDepth 100000 in
theorem hOpn_no (g a h : Nat) (V : List Int) (cx cy high : Int) (w : World) (R : GRd w g a h V) (hc : ¬ hC a h cx cy high = 0) :
    Ret Tryd.prog 15 [.pointer (some ⟨g, 0, none⟩), .agg #[.int .i64 cx, .int .i64 cy], .int .i64 high] w (fun z w' => z = .tuple #[.int .i64 0, .int .i64 (hC a h cx cy high)] ∧ Below w.heap.size w w') := by
 refine ret_enter Tryd.func15 rfl rfl rfl ?_
 have H0 := HS.start w
 refine cw_seq ?_
 refine cw_reg ?_
 refine reg_op (op_box (cs := [.int _ _, .int _ _]) H0 rfl rfl rfl) rfl rfl ?_
 rintro _ w2 ⟨b1, rfl, H3⟩
 refine ry (y_asg rfl rfl) rfl rfl ?_
 refine ry (y_asg rfl rfl) rfl rfl ?_
 refine reg_nil ?_
 refine fn_next ?_
 refine cw_seq ?_
 refine cw_reg ?_
 refine ry (y_mov rfl rfl) rfl rfl ?_
 refine ry (y_ldb (i := 0) (cs := [_, _]) H3 rfl rfl kflaw48c_1 rfl rfl) rfl rfl ?_
 refine ry (y_mov rfl rfl) rfl rfl ?_
 refine reg_op (op_call (hArd_no g a h (V) cx cy high _ (R.below H3.base) hc) rfl kflaw48c_7 ⟨rfl, rfl, rfl, trivial⟩) rfl rfl ?_
 rintro _ w5 ⟨rfl, e4⟩
 have H6 := H3.ext e4
 refine ry (y_mov rfl rfl) rfl rfl ?_
 refine ry (y_ext rfl rfl rfl) rfl rfl ?_
 refine ry (y_ext rfl rfl rfl) rfl rfl ?_
 refine ry (y_asg rfl rfl) rfl rfl ?_
 refine ry (y_asg rfl rfl) rfl rfl ?_
 refine reg_nil ?_
 refine fn_next ?_
 refine cw_seq ?_
 refine cw_reg ?_
 refine ry (y_asg rfl rfl) rfl rfl ?_
 refine reg_nil ?_
 refine fn_next ?_
 refine cw_seq ?_
 refine cw_seq ?_
 refine cw_reg ?_
 refine ry (y_mov rfl rfl) rfl rfl ?_
 refine ry (y_len rfl Tryd.underlying43 rfl) rfl rfl ?_
 refine ry (y_mov rfl rfl) rfl rfl ?_
 refine reg_nil ?_
 refine fn_next ?_
 refine cw_block ?_
 refine cw_loopR 1 ?_
 refine cw_seq ?_
 refine cw_reg ?_
 refine ry (y_lss rfl rfl rfl) rfl rfl ?_
 refine reg_nil ?_
 refine fn_next ?_
 refine cw_seq ?_
 refine cw_condf rfl ?_
 refine cw_exit ?_
 refine fn_then_exit (fn_then_exit (fn_block_exit ?_))
 refine fn_next ?_
 refine cw_seq ?_
 refine cw_reg ?_
 refine ry (y_mov rfl rfl) rfl rfl ?_
 refine ry (y_mov rfl rfl) rfl rfl ?_
 refine ry (y_asg rfl rfl) rfl rfl ?_
 refine ry (y_asg rfl rfl) rfl rfl ?_
 refine reg_nil ?_
 refine fn_next ?_
 refine cw_ret ?_
 refine fn_retn (vs := [_, _]) rfl ⟨rfl, rfl, trivial⟩ rfl ?_
 exact ⟨rfl, H6.base⟩

set_option maxRecDepth 100000 in
set_option maxHeartbeats 1000000 in
theorem hOpn_ok (g a h : Nat) (V : List Int) (cx cy high : Int) (w : World) (R : GRd w g a h V) (hG : Rd w (some ⟨0, 0, none⟩) (vi .i64 (pr dX dY 8))) (hc : hC a h cx cy high = 0) :
    Ret Tryd.prog 15 [.pointer (some ⟨g, 0, none⟩), .agg #[.int .i64 cx, .int .i64 cy], .int .i64 high] w (fun z w' => z = .tuple #[.int .i64 ((cntN (fun d => (hS V a h cx cy high d).1) 8 : Nat) : Int), .int .i64 0] ∧ Below w.heap.size w w') := by
 refine ret_enter Tryd.func15 rfl rfl rfl ?_
 have H0 := HS.start w
 refine cw_seq ?_
 refine cw_reg ?_
 refine reg_op (op_box (cs := [.int _ _, .int _ _]) H0 rfl rfl rfl) rfl rfl ?_
 rintro _ w2 ⟨b1, rfl, H3⟩
 refine ry (y_asg rfl rfl) rfl rfl ?_
 refine ry (y_asg rfl rfl) rfl rfl ?_
 refine reg_nil ?_
 refine fn_next ?_
 refine cw_seq ?_
 refine cw_reg ?_
 refine ry (y_mov rfl rfl) rfl rfl ?_
 refine ry (y_ldb (i := 0) (cs := [_, _]) H3 rfl rfl kflaw48c_1 rfl rfl) rfl rfl ?_
 refine ry (y_mov rfl rfl) rfl rfl ?_
 refine reg_op (op_call (hArd_ok g a h (V) cx cy high _ (R.below H3.base) (hG.below H3.base) hc) rfl kflaw48c_7 ⟨rfl, rfl, rfl, trivial⟩) rfl rfl ?_
 rintro _ w5 ⟨A7, c8, rfl, k4⟩
 have H6 := H3.call k4
 refine ry (y_mov rfl rfl) rfl rfl ?_
 refine ry (y_ext rfl rfl rfl) rfl rfl ?_
 refine ry (y_ext rfl rfl rfl) rfl rfl ?_
 refine ry (y_asg rfl rfl) rfl rfl ?_
 refine ry (y_asg rfl rfl) rfl rfl ?_
 refine reg_nil ?_
 refine fn_next ?_
 refine cw_seq ?_
 refine cw_reg ?_
 refine ry (y_asg rfl rfl) rfl rfl ?_
 refine reg_nil ?_
 refine fn_next ?_
 refine cw_seq ?_
 refine cw_seq ?_
 refine cw_reg ?_
 refine ry (y_mov rfl rfl) rfl rfl ?_
 refine ry (y_len rfl Tryd.underlying43 rfl) rfl rfl ?_
 refine ry (y_mov rfl rfl) rfl rfl ?_
 refine reg_nil ?_
 refine fn_next ?_
 refine cw_block ?_
 refine cw_loopJ [10, 12, 22, 23, 24, 25, 26, 27, 28, 29, 30, 31] (fun M wl ml => ∃ (i : Nat), M = [(22, .int .i64 (i : Int)), (10, .int .i64 ((cntN (fun d => (hS V a h cx cy high d).1) i : Nat) : Int))] ∧ HS w wl [Ob.row A7 8 c8 (vi .i64 (pr (fun d => (hS (V) a h cx cy high d).1) (fun d => (hS (V) a h cx cy high d).2.1) 8)) 34 2] ∧ (i ≤ 8) ∧ ml = 8 - i) ⟨0, rfl, (H6.pick (m := [_]) [0] rfl (by decide)), Nat.zero_le _, rfl⟩ ⟨rfl, rfl, trivial⟩ ?_
 rintro M w9 m11 ⟨i, rfl, H10, hp0, rfl⟩
 refine cw_seq ?_
 refine cw_reg ?_
 refine ry (y_lss rfl rfl rfl) rfl rfl ?_
 refine reg_nil ?_
 refine fn_next ?_
 refine cw_seq ?_
 refine cw_condd rfl (fun h12 => ?_) (fun h12 => ?_)
 ·skip
  have hi8 : i < 8 := by omega
  have g0 := pr_at0 (f := (fun d => (hS V a h cx cy high d).1)) (g := (fun d => (hS V a h cx cy high d).2.1)) hi8
  have g1 := pr_at (f := (fun d => (hS V a h cx cy high d).1)) (g := (fun d => (hS V a h cx cy high d).2.1)) hi8
  have hcl := cntN_le (fun d => (hS V a h cx cy high d).1) i
  refine cw_skip ?_
  refine fn_next ?_
  refine cw_seq ?_
  refine cw_block ?_
  refine cw_seq ?_
  refine cw_reg ?_
  refine ry (y_iar (H10.rd (i := 0) rfl) rfl rfl rfl kflaw48c_5 (rfl) (by omega) (rfl) (g0)) rfl rfl ?_
  refine ry (y_ldra (cs := [_, _]) (H10.rd (i := 0) rfl) rfl rfl kflaw48c_8 rfl (by decide) (g1)) rfl rfl ?_
  refine reg_op (op_alloc H10 rfl kflaw48c_9) rfl rfl ?_
  rintro _ w14 ⟨b13, rfl, H15⟩
  refine reg_op (op_st (i := 0) (vs := [.int _ _, .int _ _]) H15 rfl rfl rfl rfl rfl kflaw48c_6 rfl rfl rfl) rfl rfl ?_
  rintro _ w16 H17
  refine reg_nil ?_
  refine fn_next ?_
  refine cw_seq ?_
  refine cw_reg ?_
  refine ry (y_fa rfl rfl kflaw48c_10 rfl) rfl rfl ?_
  refine ry (y_ld rfl rfl kflaw48c_11 (H17.cell (i := 0) rfl rfl)) rfl rfl ?_
  refine ry (y_leq rfl rfl rfl) rfl rfl ?_
  refine reg_nil ?_
  refine fn_next ?_
  refine cw_condd rfl (fun hup => ?_) (fun hup => ?_)
  ·skip
   refine cw_reg ?_
   refine ry (y_mov rfl rfl) rfl rfl ?_
   refine ry (y_add rfl rfl rfl (wi (by omega))) rfl rfl ?_
   refine ry (y_asg rfl rfl) rfl rfl ?_
   refine reg_nil ?_
   refine fn_block ?_
   refine fn_next ?_
   refine cw_reg ?_
   refine ry (y_add rfl rfl rfl (wi (by omega))) rfl rfl ?_
   refine ry (y_mov rfl rfl) rfl rfl ?_
   refine reg_nil ?_
   refine fn_roundJ ⟨i + 1, rfl, (H17.pick (m := [_]) [1] rfl (by decide)), by omega, rfl⟩ ⟨rfl, by first | (rw [cntN, if_pos hup]; rfl) | (rw [cntN, if_neg hup]; rfl), trivial⟩ (by omega) (by repeat (first | exact kp_refl | refine kp_app rfl rfl ?_ | refine kp_cons rfl ?_)) rfl
  ·skip
   refine cw_skip ?_
   refine fn_block ?_
   refine fn_next ?_
   refine cw_reg ?_
   refine ry (y_add rfl rfl rfl (wi (by omega))) rfl rfl ?_
   refine ry (y_mov rfl rfl) rfl rfl ?_
   refine reg_nil ?_
   refine fn_roundJ ⟨i + 1, rfl, (H17.pick (m := [_]) [1] rfl (by decide)), by omega, rfl⟩ ⟨rfl, by first | (rw [cntN, if_pos hup]; rfl) | (rw [cntN, if_neg hup]; rfl), trivial⟩ (by omega) (by repeat (first | exact kp_refl | refine kp_app rfl rfl ?_ | refine kp_cons rfl ?_)) rfl
 ·skip
  have hie : i = 8 := by omega
  subst hie
  refine cw_exit ?_
  refine fn_then_exit (fn_then_exit (fn_block_exit ?_))
  refine fn_next ?_
  refine cw_seq ?_
  refine cw_reg ?_
  refine ry (y_mov rfl rfl) rfl rfl ?_
  refine ry (y_mov rfl rfl) rfl rfl ?_
  refine ry (y_asg rfl rfl) rfl rfl ?_
  refine ry (y_asg rfl rfl) rfl rfl ?_
  refine reg_nil ?_
  refine fn_next ?_
  refine cw_ret ?_
  refine fn_retn (vs := [_, _]) rfl ⟨rfl, rfl, trivial⟩ rfl ?_
  exact ⟨rfl, H10.base⟩

set_option maxRecDepth 100000 in
theorem horAround_no (a h : Int) (L : List Int) (A : Option Addr) (n cap : Nat) (cx cy high : Int) (w : World) (ha : I6 a) (hh : I6 h) (hr : Rd w A (vi .i64 L)) (hl : L.length = n) (hG : Rd w (some ⟨0, 0, none⟩) (vi .i64 (pr dX dY 8))) (hp : ¬ LandP a h (1000 : Nat) L) :
    Ret Tryd.prog 5 [.int .i64 a, .int .i64 h, .slice A n cap, .agg #[.int .i64 cx, .int .i64 cy], .int .i64 high] w (fun z w' => z = .bool true ∧ Below w.heap.size w w') := by
 refine ret_enter Tryd.func5 rfl rfl rfl ?_
 have H0 := HS.start w
 refine cw_seq ?_
 refine cw_reg ?_
 refine reg_op (op_box (cs := [.int _ _, .int _ _]) H0 rfl rfl rfl) rfl rfl ?_
 rintro _ w2 ⟨b1, rfl, H3⟩
 refine ry (y_asg rfl rfl) rfl rfl ?_
 refine reg_nil ?_
 refine fn_next ?_
 refine cw_seq ?_
 refine cw_seq ?_
 refine cw_reg ?_
 refine reg_op (op_call (horAwake _ (hG.below H3.base)) rfl kflaw48c_12 trivial) rfl rfl ?_
 rintro _ w5 ⟨rfl, e4⟩
 have H6 := H3.ext e4
 refine ry (y_not rfl rfl) rfl rfl ?_
 refine reg_nil ?_
 refine fn_next ?_
 refine cw_condf rfl ?_
 refine cw_skip ?_
 refine fn_next ?_
 refine cw_seq ?_
 refine cw_reg ?_
 refine ry (y_mov rfl rfl) rfl rfl ?_
 refine ry (y_mov rfl rfl) rfl rfl ?_
 refine ry (y_mov rfl rfl) rfl rfl ?_
 refine reg_op (op_call (land_any a h 1000 L A n cap _ ha hh (by decide) (hr.below H6.base) hl) rfl kflaw48c_13 ⟨rfl, rfl, rfl, rfl, trivial⟩) rfl rfl ?_
 rintro _ w8 ⟨rfl, e7⟩
 have H9 := H6.ext e7
 refine ry (y_mov rfl rfl) rfl rfl ?_
 refine ry (y_ext rfl rfl rfl) rfl rfl ?_
 refine ry (y_ext rfl rfl rfl) rfl rfl ?_
 refine reg_op (op_alloc H9 rfl kflaw48c_14) rfl rfl ?_
 rintro _ w11 ⟨b10, rfl, H12⟩
 refine reg_op (op_st (i := 0) (vs := [.int _ _, .int _ _, .slice _ _ _]) H12 rfl rfl rfl rfl rfl kflaw48c_15 rfl rfl rfl) rfl rfl ?_
 rintro _ w13 H14
 refine ry (y_asg rfl rfl) rfl rfl ?_
 refine reg_nil ?_
 refine fn_next ?_
 refine cw_seq ?_
 refine cw_seq ?_
 refine cw_reg ?_
 refine ry (y_mov rfl rfl) rfl rfl ?_
 refine ry (y_notd rfl rfl) rfl rfl ?_
 refine reg_nil ?_
 refine fn_next ?_
 refine cw_condd rfl (fun h15 => ?_) (fun h15 => ?_)
 ·skip
  refine cw_seq ?_
  refine cw_reg ?_
  refine ry (y_asg rfl rfl) rfl rfl ?_
  refine reg_nil ?_
  refine fn_next ?_
  refine cw_ret ?_
  refine fn_then_ret ?_
  refine fn_ret1 rfl rfl ?_
  exact ⟨rfl, H14.base⟩
 · exact absurd (Classical.not_not.1 h15) hp

set_option maxRecDepth 100000 in
theorem horAround_n0 (a h : Nat) (L : List Int) (A : Option Addr) (cap : Nat) (cx cy high : Int) (w : World) (h1 : 1 ≤ a) (h2 : a ≤ 1000) (h3 : 1 ≤ h) (h4 : h ≤ 1000) (h5 : a * h ≤ 1000) (hr : Rd w A (vi .i64 L)) (hl : L.length = a * h) (hb : AllB L) (hG : Rd w (some ⟨0, 0, none⟩) (vi .i64 (pr dX dY 8))) (hc : ¬ hC a h cx cy high = 0) :
    Ret Tryd.prog 5 [.int .i64 (a : Int), .int .i64 (h : Int), .slice A (a * h) cap, .agg #[.int .i64 cx, .int .i64 cy], .int .i64 high] w (fun z w' => z = .bool true ∧ Below w.heap.size w w') := by
 have s : SzG a h := ⟨h1, by omega, h3, by omega⟩
 refine ret_enter Tryd.func5 rfl rfl rfl ?_
 have H0 := HS.start w
 refine cw_seq ?_
 refine cw_reg ?_
 refine reg_op (op_box (cs := [.int _ _, .int _ _]) H0 rfl rfl rfl) rfl rfl ?_
 rintro _ w2 ⟨b1, rfl, H3⟩
 refine ry (y_asg rfl rfl) rfl rfl ?_
 refine reg_nil ?_
 refine fn_next ?_
 refine cw_seq ?_
 refine cw_seq ?_
 refine cw_reg ?_
 refine reg_op (op_call (horAwake _ (hG.below H3.base)) rfl kflaw48c_12 trivial) rfl rfl ?_
 rintro _ w5 ⟨rfl, e4⟩
 have H6 := H3.ext e4
 refine ry (y_not rfl rfl) rfl rfl ?_
 refine reg_nil ?_
 refine fn_next ?_
 refine cw_condf rfl ?_
 refine cw_skip ?_
 refine fn_next ?_
 refine cw_seq ?_
 refine cw_reg ?_
 refine ry (y_mov rfl rfl) rfl rfl ?_
 refine ry (y_mov rfl rfl) rfl rfl ?_
 refine ry (y_mov rfl rfl) rfl rfl ?_
 refine reg_op (op_call (land_ok a h 1000 L A (a * h) cap _ h1 h2 h3 h4 h5 rfl hl hb (by decide) (hr.below H6.base)) rfl kflaw48c_13 ⟨rfl, rfl, rfl, rfl, trivial⟩) rfl rfl ?_
 rintro _ w8 ⟨rfl, e7⟩
 have H9 := H6.ext e7
 refine ry (y_mov rfl rfl) rfl rfl ?_
 refine ry (y_ext rfl rfl rfl) rfl rfl ?_
 refine ry (y_ext rfl rfl rfl) rfl rfl ?_
 refine reg_op (op_alloc H9 rfl kflaw48c_14) rfl rfl ?_
 rintro _ w11 ⟨b10, rfl, H12⟩
 refine reg_op (op_st (i := 0) (vs := [.int _ _, .int _ _, .slice _ _ _]) H12 rfl rfl rfl rfl rfl kflaw48c_15 rfl rfl rfl) rfl rfl ?_
 rintro _ w13 H14
 refine ry (y_asg rfl rfl) rfl rfl ?_
 refine reg_nil ?_
 refine fn_next ?_
 refine cw_seq ?_
 refine cw_seq ?_
 refine cw_reg ?_
 refine ry (y_mov rfl rfl) rfl rfl ?_
 refine ry (y_not rfl rfl) rfl rfl ?_
 refine reg_nil ?_
 refine fn_next ?_
 refine cw_condf rfl ?_
 refine cw_skip ?_
 refine fn_next ?_
 refine cw_seq ?_
 refine cw_reg ?_
 refine ry (y_mov rfl rfl) rfl rfl ?_
 refine ry (y_mov rfl rfl) rfl rfl ?_
 refine ry (y_mov rfl rfl) rfl rfl ?_
 refine reg_op (op_call (made_ok a h L A (a * h) cap _ s hl rfl hb (hr.below H14.base)) rfl kflaw48c_16 ⟨rfl, rfl, rfl, trivial⟩) rfl rfl ?_
 rintro _ w16 ⟨g18, bl19, rfl, k15⟩
 have H17 := H14.call k15
 refine ry (y_mov rfl rfl) rfl rfl ?_
 refine ry (y_ext rfl rfl rfl) rfl rfl ?_
 refine ry (y_ext rfl rfl rfl) rfl rfl ?_
 refine ry (y_asg rfl rfl) rfl rfl ?_
 refine ry (y_asg rfl rfl) rfl rfl ?_
 refine reg_nil ?_
 refine fn_next ?_
 refine cw_seq ?_
 refine cw_seq ?_
 refine cw_reg ?_
 refine ry (y_mov rfl rfl) rfl rfl ?_
 refine ry (y_not rfl rfl) rfl rfl ?_
 refine reg_nil ?_
 refine fn_next ?_
 refine cw_condf rfl ?_
 refine cw_skip ?_
 refine fn_next ?_
 refine cw_seq ?_
 refine cw_reg ?_
 refine ry (y_mov rfl rfl) rfl rfl ?_
 refine ry (y_ldb (i := 2) (cs := [_, _]) H17 rfl rfl kflaw48c_1 rfl rfl) rfl rfl ?_
 refine ry (y_mov rfl rfl) rfl rfl ?_
 refine reg_op (op_call (hArd_no g18 a h L cx cy high _ (H17.rdg (i := 0) rfl) hc) rfl kflaw48c_7 ⟨rfl, rfl, rfl, trivial⟩) rfl rfl ?_
 rintro _ w21 ⟨rfl, e20⟩
 have H22 := H17.ext e20
 refine ry (y_mov rfl rfl) rfl rfl ?_
 refine ry (y_ext rfl rfl rfl) rfl rfl ?_
 refine ry (y_ext rfl rfl rfl) rfl rfl ?_
 refine ry (y_asg rfl rfl) rfl rfl ?_
 refine ry (y_asg rfl rfl) rfl rfl ?_
 refine reg_nil ?_
 refine fn_next ?_
 refine cw_seq ?_
 refine cw_reg ?_
 refine ry (y_mov rfl rfl) rfl rfl ?_
 refine ry (y_ldb (i := 2) (cs := [_, _]) H22 rfl rfl kflaw48c_1 rfl rfl) rfl rfl ?_
 refine ry (y_mov rfl rfl) rfl rfl ?_
 refine reg_op (op_call (hOpn_no g18 a h L cx cy high _ (H22.rdg (i := 0) rfl) hc) rfl kflaw48c_17 ⟨rfl, rfl, rfl, trivial⟩) rfl rfl ?_
 rintro _ w24 ⟨rfl, e23⟩
 have H25 := H22.ext e23
 refine ry (y_mov rfl rfl) rfl rfl ?_
 refine ry (y_ext rfl rfl rfl) rfl rfl ?_
 refine ry (y_ext rfl rfl rfl) rfl rfl ?_
 refine ry (y_asg rfl rfl) rfl rfl ?_
 refine ry (y_asg rfl rfl) rfl rfl ?_
 refine reg_nil ?_
 refine fn_next ?_
 refine cw_seq ?_
 refine cw_reg ?_
 refine ry (y_ldb (i := 1) (cs := [_, _, _]) H25 rfl rfl kflaw48c_18 rfl rfl) rfl rfl ?_
 refine ry (y_ldb (i := 2) (cs := [_, _]) H25 rfl rfl kflaw48c_1 rfl rfl) rfl rfl ?_
 refine ry (y_mov rfl rfl) rfl rfl ?_
 refine ry (y_ldb (i := 2) (cs := [_, _]) H25 rfl rfl kflaw48c_1 rfl rfl) rfl rfl ?_
 refine reg_op (op_call (refMay a h A cap L cx cy high _ s (hr.below H25.base) hl) rfl kflaw48c_19 ⟨rfl, rfl, rfl, rfl, rfl, trivial⟩) rfl rfl ?_
 rintro _ w27 ⟨rfl, e26⟩
 have H28 := H25.ext e26
 refine ry (y_asg rfl rfl) rfl rfl ?_
 refine reg_nil ?_
 refine fn_next ?_
 refine cw_seq ?_
 refine cw_seq ?_
 refine cw_reg ?_
 refine ry (y_mov rfl rfl) rfl rfl ?_
 refine ry (y_neq rfl rfl rfl) rfl rfl ?_
 refine reg_nil ?_
 refine fn_next ?_
 refine cw_condd rfl (fun h29 => ?_) (fun h29 => ?_)
 ·skip
  refine cw_seq ?_
  refine cw_reg ?_
  refine ry (y_mov rfl rfl) rfl rfl ?_
  refine ry (y_len rfl Tryd.underlying43 rfl) rfl rfl ?_
  refine ry (y_eql rfl rfl rfl) rfl rfl ?_
  refine ry (y_mov rfl rfl) rfl rfl ?_
  refine rgy (y_mov rfl rfl) rfl rfl rfl rfl ?_
  refine rgy (y_eql rfl rfl rfl) rfl rfl rfl rfl ?_
  refine ry (y_pick rfl rfl rfl) rfl rfl ?_
  refine ry (y_mov rfl rfl) rfl rfl ?_
  refine rgy (y_mov rfl rfl) rfl rfl rfl rfl ?_
  refine rgy (y_mov rfl rfl) rfl rfl rfl rfl ?_
  refine rgy (yv (congrArg Value.bool (decide_eq_true (rfl))) (y_eql rfl rfl rfl)) rfl rfl rfl rfl ?_
  refine ry (y_pick rfl rfl rfl) rfl rfl ?_
  refine ry (y_mov rfl rfl) rfl rfl ?_
  refine rgy (y_mov rfl rfl) rfl rfl rfl rfl ?_
  refine rgy (y_mov rfl rfl) rfl rfl rfl rfl ?_
  refine rgy (yv (congrArg Value.bool (decide_eq_true (rfl))) (y_eql rfl rfl rfl)) rfl rfl rfl rfl ?_
  refine ry (y_pick rfl rfl rfl) rfl rfl ?_
  refine ry (y_asg rfl rfl) rfl rfl ?_
  refine reg_nil ?_
  refine fn_next ?_
  refine cw_ret ?_
  refine fn_then_ret ?_
  refine fn_ret1 rfl rfl ?_
  exact ⟨rfl, H28.base⟩
 · exact absurd (Classical.not_not.1 h29) hc

set_option maxRecDepth 100000 in
set_option maxHeartbeats 1000000 in
theorem horAround_ok (a h : Nat) (L : List Int) (A : Option Addr) (cap : Nat) (cx cy high : Int) (w : World) (h1 : 1 ≤ a) (h2 : a ≤ 1000) (h3 : 1 ≤ h) (h4 : h ≤ 1000) (h5 : a * h ≤ 1000) (hr : Rd w A (vi .i64 L)) (hl : L.length = a * h) (hb : AllB L) (hG : Rd w (some ⟨0, 0, none⟩) (vi .i64 (pr dX dY 8))) (hc : hC a h cx cy high = 0) :
    Ret Tryd.prog 5 [.int .i64 (a : Int), .int .i64 (h : Int), .slice A (a * h) cap, .agg #[.int .i64 cx, .int .i64 cy], .int .i64 high] w (fun z w' => z = .bool true ∧ Below w.heap.size w w') := by
 have s : SzG a h := ⟨h1, by omega, h3, by omega⟩
 refine ret_enter Tryd.func5 rfl rfl rfl ?_
 have H0 := HS.start w
 refine cw_seq ?_
 refine cw_reg ?_
 refine reg_op (op_box (cs := [.int _ _, .int _ _]) H0 rfl rfl rfl) rfl rfl ?_
 rintro _ w2 ⟨b1, rfl, H3⟩
 refine ry (y_asg rfl rfl) rfl rfl ?_
 refine reg_nil ?_
 refine fn_next ?_
 refine cw_seq ?_
 refine cw_seq ?_
 refine cw_reg ?_
 refine reg_op (op_call (horAwake _ (hG.below H3.base)) rfl kflaw48c_12 trivial) rfl rfl ?_
 rintro _ w5 ⟨rfl, e4⟩
 have H6 := H3.ext e4
 refine ry (y_not rfl rfl) rfl rfl ?_
 refine reg_nil ?_
 refine fn_next ?_
 refine cw_condf rfl ?_
 refine cw_skip ?_
 refine fn_next ?_
 refine cw_seq ?_
 refine cw_reg ?_
 refine ry (y_mov rfl rfl) rfl rfl ?_
 refine ry (y_mov rfl rfl) rfl rfl ?_
 refine ry (y_mov rfl rfl) rfl rfl ?_
 refine reg_op (op_call (land_ok a h 1000 L A (a * h) cap _ h1 h2 h3 h4 h5 rfl hl hb (by decide) (hr.below H6.base)) rfl kflaw48c_13 ⟨rfl, rfl, rfl, rfl, trivial⟩) rfl rfl ?_
 rintro _ w8 ⟨rfl, e7⟩
 have H9 := H6.ext e7
 refine ry (y_mov rfl rfl) rfl rfl ?_
 refine ry (y_ext rfl rfl rfl) rfl rfl ?_
 refine ry (y_ext rfl rfl rfl) rfl rfl ?_
 refine reg_op (op_alloc H9 rfl kflaw48c_14) rfl rfl ?_
 rintro _ w11 ⟨b10, rfl, H12⟩
 refine reg_op (op_st (i := 0) (vs := [.int _ _, .int _ _, .slice _ _ _]) H12 rfl rfl rfl rfl rfl kflaw48c_15 rfl rfl rfl) rfl rfl ?_
 rintro _ w13 H14
 refine ry (y_asg rfl rfl) rfl rfl ?_
 refine reg_nil ?_
 refine fn_next ?_
 refine cw_seq ?_
 refine cw_seq ?_
 refine cw_reg ?_
 refine ry (y_mov rfl rfl) rfl rfl ?_
 refine ry (y_not rfl rfl) rfl rfl ?_
 refine reg_nil ?_
 refine fn_next ?_
 refine cw_condf rfl ?_
 refine cw_skip ?_
 refine fn_next ?_
 refine cw_seq ?_
 refine cw_reg ?_
 refine ry (y_mov rfl rfl) rfl rfl ?_
 refine ry (y_mov rfl rfl) rfl rfl ?_
 refine ry (y_mov rfl rfl) rfl rfl ?_
 refine reg_op (op_call (made_ok a h L A (a * h) cap _ s hl rfl hb (hr.below H14.base)) rfl kflaw48c_16 ⟨rfl, rfl, rfl, trivial⟩) rfl rfl ?_
 rintro _ w16 ⟨g18, bl19, rfl, k15⟩
 have H17 := H14.call k15
 refine ry (y_mov rfl rfl) rfl rfl ?_
 refine ry (y_ext rfl rfl rfl) rfl rfl ?_
 refine ry (y_ext rfl rfl rfl) rfl rfl ?_
 refine ry (y_asg rfl rfl) rfl rfl ?_
 refine ry (y_asg rfl rfl) rfl rfl ?_
 refine reg_nil ?_
 refine fn_next ?_
 refine cw_seq ?_
 refine cw_seq ?_
 refine cw_reg ?_
 refine ry (y_mov rfl rfl) rfl rfl ?_
 refine ry (y_not rfl rfl) rfl rfl ?_
 refine reg_nil ?_
 refine fn_next ?_
 refine cw_condf rfl ?_
 refine cw_skip ?_
 refine fn_next ?_
 refine cw_seq ?_
 refine cw_reg ?_
 refine ry (y_mov rfl rfl) rfl rfl ?_
 refine ry (y_ldb (i := 2) (cs := [_, _]) H17 rfl rfl kflaw48c_1 rfl rfl) rfl rfl ?_
 refine ry (y_mov rfl rfl) rfl rfl ?_
 refine reg_op (op_call (hArd_ok g18 a h (L) cx cy high _ (H17.rdg (i := 0) rfl) (hG.below H17.base) hc) rfl kflaw48c_7 ⟨rfl, rfl, rfl, trivial⟩) rfl rfl ?_
 rintro _ w21 ⟨A23, c24, rfl, k20⟩
 have H22 := H17.call k20
 refine ry (y_mov rfl rfl) rfl rfl ?_
 refine ry (y_ext rfl rfl rfl) rfl rfl ?_
 refine ry (y_ext rfl rfl rfl) rfl rfl ?_
 refine ry (y_asg rfl rfl) rfl rfl ?_
 refine ry (y_asg rfl rfl) rfl rfl ?_
 refine reg_nil ?_
 refine fn_next ?_
 refine cw_seq ?_
 refine cw_reg ?_
 refine ry (y_mov rfl rfl) rfl rfl ?_
 refine ry (y_ldb (i := 3) (cs := [_, _]) H22 rfl rfl kflaw48c_1 rfl rfl) rfl rfl ?_
 refine ry (y_mov rfl rfl) rfl rfl ?_
 refine reg_op (op_call (hOpn_ok g18 a h L cx cy high _ (H22.rdg (i := 1) rfl) (hG.below H22.base) hc) rfl kflaw48c_17 ⟨rfl, rfl, rfl, trivial⟩) rfl rfl ?_
 rintro _ w26 ⟨rfl, e25⟩
 have H27 := H22.ext e25
 refine ry (y_mov rfl rfl) rfl rfl ?_
 refine ry (y_ext rfl rfl rfl) rfl rfl ?_
 refine ry (y_ext rfl rfl rfl) rfl rfl ?_
 refine ry (y_asg rfl rfl) rfl rfl ?_
 refine ry (y_asg rfl rfl) rfl rfl ?_
 refine reg_nil ?_
 refine fn_next ?_
 refine cw_seq ?_
 refine cw_reg ?_
 refine ry (y_ldb (i := 2) (cs := [_, _, _]) H27 rfl rfl kflaw48c_18 rfl rfl) rfl rfl ?_
 refine ry (y_ldb (i := 3) (cs := [_, _]) H27 rfl rfl kflaw48c_1 rfl rfl) rfl rfl ?_
 refine ry (y_mov rfl rfl) rfl rfl ?_
 refine ry (y_ldb (i := 3) (cs := [_, _]) H27 rfl rfl kflaw48c_1 rfl rfl) rfl rfl ?_
 refine reg_op (op_call (ret_v (v := .int .i64 0) (refMay a h A cap L cx cy high _ s (hr.below H27.base) hl) (by rw [hc])) rfl kflaw48c_19 ⟨rfl, rfl, rfl, rfl, rfl, trivial⟩) rfl rfl ?_
 rintro _ w29 ⟨rfl, e28⟩
 have H30 := H27.ext e28
 refine ry (y_asg rfl rfl) rfl rfl ?_
 refine reg_nil ?_
 refine fn_next ?_
 refine cw_seq ?_
 refine cw_seq ?_
 refine cw_reg ?_
 refine ry (y_mov rfl rfl) rfl rfl ?_
 refine ry (y_neq rfl rfl rfl) rfl rfl ?_
 refine reg_nil ?_
 refine fn_next ?_
 refine cw_condf rfl ?_
 refine cw_skip ?_
 refine fn_next ?_
 refine cw_seq ?_
 refine cw_seq ?_
 refine cw_reg ?_
 refine ry (y_mov rfl rfl) rfl rfl ?_
 refine ry (y_neq rfl rfl rfl) rfl rfl ?_
 refine ry (y_mov rfl rfl) rfl rfl ?_
 refine rgy (y_mov rfl rfl) rfl rfl rfl rfl ?_
 refine rgy (y_neq rfl rfl rfl) rfl rfl rfl rfl ?_
 refine ry (y_pick rfl rfl rfl) rfl rfl ?_
 refine ry (y_mov rfl rfl) rfl rfl ?_
 refine rgy (y_mov rfl rfl) rfl rfl rfl rfl ?_
 refine rgy (y_len rfl Tryd.underlying43 rfl) rfl rfl rfl rfl ?_
 refine rgy (y_neq rfl rfl rfl) rfl rfl rfl rfl ?_
 refine ry (y_pick rfl rfl rfl) rfl rfl ?_
 refine reg_nil ?_
 refine fn_next ?_
 refine cw_condd rfl (fun h31 => ?_) (fun h31 => ?_)
 · exact absurd rfl h31
 ·skip
  refine cw_skip ?_
  refine fn_next ?_
  refine cw_seq ?_
  refine cw_reg ?_
  refine ry (y_asg rfl rfl) rfl rfl ?_
  refine reg_nil ?_
  refine fn_next ?_
  refine cw_seq ?_
  refine cw_seq ?_
  refine cw_reg ?_
  refine ry (y_asg rfl rfl) rfl rfl ?_
  refine reg_nil ?_
  refine fn_next ?_
  refine cw_block ?_
  refine cw_loopJ [10, 19, 20, 21, 91, 92, 93, 94, 95, 96, 97, 98, 99, 100, 101, 102, 103, 104, 105, 106, 107, 108, 109, 110, 111, 112, 113, 114, 115, 116, 117, 118, 119] (fun M wl ml => ∃ (i : Nat), M = [(20, .int .i64 (i : Int)), (19, .int .i64 ((cntN (fun d => (hS L a h cx cy high d).1) i : Nat) : Int))] ∧ HS w wl [Ob.row A23 8 c24 (vi .i64 (pr (fun d => (hS (L) a h cx cy high d).1) (fun d => (hS (L) a h cx cy high d).2.1) 8)) 34 2, Ob.blk b10 [.int .i64 (a : Int), .int .i64 (h : Int), .slice A (a * h) cap] 27, Ob.blk b1 [.int .i64 cx, .int .i64 cy] 24] ∧ (i ≤ 8) ∧ ml = 8 - i) ⟨0, rfl, (H30.pick (m := [_, _, _]) [0, 2, 3] rfl (by decide)), Nat.zero_le _, rfl⟩ ⟨rfl, rfl, trivial⟩ ?_
  rintro M w32 m34 ⟨i, rfl, H33, hp0, rfl⟩
  refine cw_seq ?_
  refine cw_seq ?_
  refine cw_reg ?_
  refine ry (y_mov rfl rfl) rfl rfl ?_
  refine ry (y_lss rfl rfl rfl) rfl rfl ?_
  refine reg_nil ?_
  refine fn_next ?_
  refine cw_condd rfl (fun h35 => ?_) (fun h35 => ?_)
  ·skip
   have hi8 : i < 8 := by omega
   have g0 := pr_at0 (f := (fun d => (hS L a h cx cy high d).1)) (g := (fun d => (hS L a h cx cy high d).2.1)) hi8
   have g1 := pr_at (f := (fun d => (hS L a h cx cy high d).1)) (g := (fun d => (hS L a h cx cy high d).2.1)) hi8
   have hcl := cntN_le (fun d => (hS L a h cx cy high d).1) i
   refine cw_skip ?_
   refine fn_next ?_
   refine cw_seq ?_
   refine cw_block ?_
   refine cw_seq ?_
   refine cw_reg ?_
   refine ry (y_ldb (i := 1) (cs := [_, _, _]) H33 rfl rfl kflaw48c_18 rfl rfl) rfl rfl ?_
   refine ry (y_ldb (i := 2) (cs := [_, _]) H33 rfl rfl kflaw48c_1 rfl rfl) rfl rfl ?_
   refine ry (y_mov rfl rfl) rfl rfl ?_
   refine ry (y_mov rfl rfl) rfl rfl ?_
   refine reg_op (op_call (mSteep a h A cap L cx cy high i _ s (hr.below H33.base) hl hb hc hi8) rfl kflaw48c_20 ⟨rfl, rfl, rfl, rfl, trivial⟩) rfl rfl ?_
   rintro _ w37 ⟨rfl, e36⟩
   have H38 := H33.ext e36
   refine reg_op (op_alloc H38 rfl kflaw48c_21) rfl rfl ?_
   rintro _ w40 ⟨b39, rfl, H41⟩
   refine reg_op (op_st (i := 0) (vs := [.int _ _, .int _ _, .int _ _, .int _ _]) H41 rfl rfl rfl rfl rfl kflaw48c_22 rfl rfl rfl) rfl rfl ?_
   rintro _ w42 H43
   refine reg_nil ?_
   refine fn_next ?_
   refine cw_seq ?_
   refine cw_seq ?_
   refine cw_draw H43 [0, 1, 2, 3, 4, 5, 6, 7, 8, 9] [] (fun X HX => HX) (by kernel_rfl) (by kernel_rfl) (by rfl) ?_
   simp only [pick, List.getElem?_cons_succ, List.getElem?_cons_zero]
   refine hk_y (fun Y HY => y_mov rfl rfl) rfl rfl ?_
   refine hk_y (fun Y HY => y_mov rfl rfl) rfl rfl ?_
   refine hk_y (fun Y HY => y_iar (HY.rd (i := 1) rfl) rfl rfl rfl kflaw48c_5 (rfl) (by omega) (rfl) (g0)) rfl rfl ?_
   refine hk_y (fun Y HY => y_ldra (cs := [_, _]) (HY.rd (i := 1) rfl) rfl rfl kflaw48c_8 rfl (by decide) (g1)) rfl rfl ?_
   refine hk_y (fun Y HY => y_fa rfl rfl kflaw48c_23 rfl) rfl rfl ?_
   refine hk_y (fun Y HY => y_ld rfl rfl kflaw48c_11 (HY.cell (i := 0) rfl rfl)) rfl rfl ?_
   refine hk_y (fun Y HY => y_fa rfl rfl kflaw48c_24 rfl) rfl rfl ?_
   refine hk_y (fun Y HY => y_ld rfl rfl kflaw48c_11 (HY.cell (i := 0) rfl rfl)) rfl rfl ?_
   refine hk_y (fun Y HY => y_build (places := [(0, 1), (1, 1)]) (parts := [(0, _), (1, _)]) (vs := [(0, _), (1, _)]) (cs := [.int _ _, .int _ _]) rfl Tryd.underlying34 (by kernel_rfl) kflaw48c_9 rfl ⟨rfl, rfl, trivial⟩ rfl) rfl rfl ?_
   refine hk_y (fun Y HY => yv (congrArg Value.bool (decide_eq_false (by simp))) (y_seq (ks := [.i64, .i64]) (a := [(hS L a h cx cy high i).1, (hS L a h cx cy high i).2.1]) (b := [(hS L a h cx cy high i).1, (hS L a h cx cy high i).2.1]) rfl (.inr ⟨rfl, rfl⟩) kflaw48c_25 rfl rfl rfl rfl rfl rfl rfl)) rfl rfl ?_
   refine hk_nil ?_
   intro w44 H45
   refine tv_nil ?_
   refine fn_next ?_
   refine cw_condf rfl ?_
   refine cw_skip ?_
   refine fn_next ?_
   refine cw_seq ?_
   refine cw_reg ?_
   refine ry (y_fa rfl rfl kflaw48c_24 rfl) rfl rfl ?_
   refine ry (y_ld rfl rfl kflaw48c_11 (H45.cell (i := 0) rfl rfl)) rfl rfl ?_
   refine ry (y_eql rfl rfl rfl) rfl rfl ?_
   refine ry (y_mov rfl rfl) rfl rfl ?_
   refine rg_splitd (d := 113) rfl (fun h46 => ?_) (fun h46 => ?_)
   ·skip
    have hup : (hS L a h cx cy high i).1 ≤ 0 := by rw [hS_on0 h46]; exact Int.le_refl _
    refine rg_off rfl rfl rfl rfl rfl ?_
    refine rg_off rfl rfl rfl rfl rfl ?_
    refine rg_off rfl rfl rfl rfl rfl ?_
    refine ry (y_pick rfl rfl rfl) rfl rfl ?_
    refine reg_nil ?_
    refine fn_next ?_
    refine cw_condt rfl ?_
    refine cw_reg ?_
    refine ry (y_mov rfl rfl) rfl rfl ?_
    refine ry (y_add rfl rfl rfl (wi (by omega))) rfl rfl ?_
    refine ry (y_asg rfl rfl) rfl rfl ?_
    refine reg_nil ?_
    refine fn_block ?_
    refine fn_next ?_
    refine cw_reg ?_
    refine ry (y_mov rfl rfl) rfl rfl ?_
    refine ry (y_add rfl rfl rfl (wi (by omega))) rfl rfl ?_
    refine ry (y_asg rfl rfl) rfl rfl ?_
    refine reg_nil ?_
    refine fn_roundJ ⟨i + 1, rfl, (H45.pick (m := [_, _, _]) [1, 2, 3] rfl (by decide)), by omega, rfl⟩ ⟨rfl, by first | (rw [cntN_t (f := (fun d => (hS L a h cx cy high d).1)) (k := i) hup]; rfl) | (rw [cntN_f (f := (fun d => (hS L a h cx cy high d).1)) (k := i) hup]; rfl), trivial⟩ (by omega) (by repeat (first | exact kp_refl | refine kp_app rfl rfl ?_ | refine kp_cons rfl ?_)) rfl
   ·skip
    refine rgy (y_fa rfl rfl kflaw48c_23 rfl) rfl rfl rfl rfl ?_
    refine rgy (y_ld rfl rfl kflaw48c_11 (H45.cell (i := 0) rfl rfl)) rfl rfl rfl rfl ?_
    refine rgy (y_leq rfl rfl rfl) rfl rfl rfl rfl ?_
    refine ry (y_pick rfl rfl rfl) rfl rfl ?_
    refine reg_nil ?_
    refine fn_next ?_
    refine cw_condd rfl (fun hup => ?_) (fun hup => ?_)
    ·skip
     refine cw_reg ?_
     refine ry (y_mov rfl rfl) rfl rfl ?_
     refine ry (y_add rfl rfl rfl (wi (by omega))) rfl rfl ?_
     refine ry (y_asg rfl rfl) rfl rfl ?_
     refine reg_nil ?_
     refine fn_block ?_
     refine fn_next ?_
     refine cw_reg ?_
     refine ry (y_mov rfl rfl) rfl rfl ?_
     refine ry (y_add rfl rfl rfl (wi (by omega))) rfl rfl ?_
     refine ry (y_asg rfl rfl) rfl rfl ?_
     refine reg_nil ?_
     refine fn_roundJ ⟨i + 1, rfl, (H45.pick (m := [_, _, _]) [1, 2, 3] rfl (by decide)), by omega, rfl⟩ ⟨rfl, by first | (rw [cntN_t (f := (fun d => (hS L a h cx cy high d).1)) (k := i) hup]; rfl) | (rw [cntN_f (f := (fun d => (hS L a h cx cy high d).1)) (k := i) hup]; rfl), trivial⟩ (by omega) (by repeat (first | exact kp_refl | refine kp_app rfl rfl ?_ | refine kp_cons rfl ?_)) rfl
    ·skip
     refine cw_skip ?_
     refine fn_block ?_
     refine fn_next ?_
     refine cw_reg ?_
     refine ry (y_mov rfl rfl) rfl rfl ?_
     refine ry (y_add rfl rfl rfl (wi (by omega))) rfl rfl ?_
     refine ry (y_asg rfl rfl) rfl rfl ?_
     refine reg_nil ?_
     refine fn_roundJ ⟨i + 1, rfl, (H45.pick (m := [_, _, _]) [1, 2, 3] rfl (by decide)), by omega, rfl⟩ ⟨rfl, by first | (rw [cntN_t (f := (fun d => (hS L a h cx cy high d).1)) (k := i) hup]; rfl) | (rw [cntN_f (f := (fun d => (hS L a h cx cy high d).1)) (k := i) hup]; rfl), trivial⟩ (by omega) (by repeat (first | exact kp_refl | refine kp_app rfl rfl ?_ | refine kp_cons rfl ?_)) rfl
  ·skip
   have hie : i = 8 := by omega
   subst hie
   refine cw_exit ?_
   refine fn_then_exit (fn_then_exit (fn_block_exit ?_))
   refine fn_next ?_
   refine cw_seq ?_
   refine cw_reg ?_
   refine ry (y_mov rfl rfl) rfl rfl ?_
   refine ry (y_mov rfl rfl) rfl rfl ?_
   refine ry (yv (congrArg Value.bool (decide_eq_true (rfl))) (y_eql rfl rfl rfl)) rfl rfl ?_
   refine ry (y_asg rfl rfl) rfl rfl ?_
   refine reg_nil ?_
   refine fn_next ?_
   refine cw_ret ?_
   refine fn_ret1 rfl rfl ?_
   exact ⟨rfl, H33.base⟩

theorem horAround_all (a h : Int) (L : List Int) (A : Option Addr) (n cap : Nat) (cx cy high : Int) (w : World) (ha : I6 a) (hh : I6 h) (hr : Rd w A (vi .i64 L)) (hl : L.length = n) (hG : Rd w (some ⟨0, 0, none⟩) (vi .i64 (pr dX dY 8))) : Ret Tryd.prog 5 [.int .i64 a, .int .i64 h, .slice A n cap, .agg #[.int .i64 cx, .int .i64 cy], .int .i64 high] w (fun z w' => z = .bool true ∧ Below w.heap.size w w') := by
  by_cases hp : LandP a h (1000 : Nat) L
  · obtain ⟨a, h, rfl, rfl, h1, h2, h3, h4, h5, h6, h7⟩ := LandP.nat hp
    obtain rfl : n = a * h := by omega
    have s : SzG a h := ⟨h1, by omega, h3, by omega⟩
    by_cases hc : hC a h cx cy high = 0
    · exact horAround_ok a h L A cap cx cy high w h1 h2 h3 h4 h5 hr hl h7 hG hc
    · exact horAround_n0 a h L A cap cx cy high w h1 h2 h3 h4 h5 hr hl h7 hG hc
  · exact horAround_no a h L A n cap cx cy high w ha hh hr hl hG hp

theorem horAround_law (a : Int) (h : Int) (zs : List Int) (A2 : Option Addr) (n2 c2 : Nat) (cx cy : Int) (high : Int) (W : World) (hG : Rd W (some ⟨0, 0, none⟩) (vi .i64 (pr dX dY 8))) (ba : I6 a) (bh : I6 h) (hzs : Ints .i64 W A2 n2 zs) (le2 : n2 ≤ c2) (mx2 : c2 ≤ maxLen) (wzs : ∀ z ∈ zs, I6 z) (bcx : I6 cx) (bcy : I6 cy) (bhigh : I6 high) :
    Calls Tryd.prog 5 #[.int .i64 a, .int .i64 h, .slice A2 n2 c2, .agg #[.int .i64 cx, .int .i64 cy], .int .i64 high] W fun e w' => e = .returned (.bool true) ∧ Below W.heap.size W w' := lawOf (horAround_all a h zs A2 n2 c2 cx cy high W ba bh (Rd.of_ints hzs) hzs.len hG)

end Go.Proofs.YtgkkbeomhkggjaaDoor
