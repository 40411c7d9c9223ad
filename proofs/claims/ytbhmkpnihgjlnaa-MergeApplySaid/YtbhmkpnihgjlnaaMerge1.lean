/- Layer 47: what comes of three values, of three grids. -/
import Derived.Test.YtbhmkpnihgjlnaaPlain47
import Derived.Test.YtbhmkpnihgjlnaaLand
import Derived.Test.YtbhmkpnihgjlnaaK13
set_option linter.unusedVariables false
set_option linter.unusedSimpArgs false
namespace Go.Proofs.Ytbhmkpnihgjlnaa
open Go Go.RowKit
theorem kfmerge1_1 : elB Try.prog 169 1 = true := by kernel_rfl
theorem kfmerge1_2 : oneB Try.prog 28 = true := by kernel_rfl
theorem kfmerge1_3 : callB Try.prog 59 = true := by kernel_rfl
theorem kfmerge1_4 : callB Try.prog 58 = true := by kernel_rfl
theorem kfmerge1_5 : (Try.prog.info? 22).map (fun i => (i.size, i.zero.map Value.cells)) = some (1, some (List.toArray [(.slice none 0 0)])) := by kernel_rfl
theorem kfmerge1_6 : (Try.prog.info? 22).map (fun i => (i.zero.map (·.cells.toList), i.size, i.bytes)) = some (some [(.slice none 0 0)], 1, 24) := by kernel_rfl
theorem kfmerge1_7 : seqB Try.prog 55 4 = true := by kernel_rfl

set_option maxRecDepth 100000 in
theorem mgF0 (x y : Int) (w : World) :
    Ret Try.prog 100 [.int .i64 x, .int .i64 y] w (fun z w' => z = .int .i64 (o0 x y) ∧ Below w.heap.size w w') := by
 refine ret_enter Try.func100 rfl rfl rfl ?_
 have H0 := HS.start w
 refine cw_seq ?_
 refine cw_reg ?_
 refine ry (y_asg rfl rfl) rfl rfl ?_
 refine reg_nil ?_
 refine fn_next ?_
 refine cw_seq ?_
 refine cw_reg ?_
 refine ry (y_mov rfl rfl) rfl rfl ?_
 refine ry (y_asg rfl rfl) rfl rfl ?_
 refine reg_nil ?_
 refine fn_next ?_
 refine cw_ret ?_
 refine fn_ret1 rfl rfl ?_
 exact ⟨rfl, H0.base⟩

theorem mgC0 : callB Try.prog 100 = true := by kernel_rfl

set_option maxRecDepth 100000 in
theorem mgF1 (x y : Int) (w : World) :
    Ret Try.prog 101 [.int .i64 x, .int .i64 y] w (fun z w' => z = .int .i64 (o1 x y) ∧ Below w.heap.size w w') := by
 refine ret_enter Try.func101 rfl rfl rfl ?_
 have H0 := HS.start w
 refine cw_seq ?_
 refine cw_reg ?_
 refine ry (y_asg rfl rfl) rfl rfl ?_
 refine reg_nil ?_
 refine fn_next ?_
 refine cw_seq ?_
 refine cw_reg ?_
 refine ry (y_mov rfl rfl) rfl rfl ?_
 refine ry (y_asg rfl rfl) rfl rfl ?_
 refine reg_nil ?_
 refine fn_next ?_
 refine cw_ret ?_
 refine fn_ret1 rfl rfl ?_
 exact ⟨rfl, H0.base⟩

theorem mgC1 : callB Try.prog 101 = true := by kernel_rfl

set_option maxRecDepth 100000 in
theorem mgF2 (x y : Int) (w : World) :
    Ret Try.prog 102 [.int .i64 x, .int .i64 y] w (fun z w' => z = .int .i64 (o2 x y) ∧ Below w.heap.size w w') := by
 refine ret_enter Try.func102 rfl rfl rfl ?_
 have H0 := HS.start w
 refine cw_seq ?_
 refine cw_reg ?_
 refine ry (y_asg rfl rfl) rfl rfl ?_
 refine reg_nil ?_
 refine fn_next ?_
 refine cw_seq ?_
 refine cw_reg ?_
 refine ry (y_mov rfl rfl) rfl rfl ?_
 refine ry (y_mov rfl rfl) rfl rfl ?_
 refine ry (y_min rfl rfl rfl) rfl rfl ?_
 refine ry (y_asg rfl rfl) rfl rfl ?_
 refine reg_nil ?_
 refine fn_next ?_
 refine cw_ret ?_
 refine fn_ret1 rfl rfl ?_
 exact ⟨rfl, H0.base⟩

theorem mgC2 : callB Try.prog 102 = true := by kernel_rfl

set_option maxRecDepth 100000 in
theorem mgF3 (x y : Int) (w : World) :
    Ret Try.prog 103 [.int .i64 x, .int .i64 y] w (fun z w' => z = .int .i64 (o3 x y) ∧ Below w.heap.size w w') := by
 refine ret_enter Try.func103 rfl rfl rfl ?_
 have H0 := HS.start w
 refine cw_seq ?_
 refine cw_reg ?_
 refine ry (y_asg rfl rfl) rfl rfl ?_
 refine reg_nil ?_
 refine fn_next ?_
 refine cw_seq ?_
 refine cw_reg ?_
 refine ry (y_mov rfl rfl) rfl rfl ?_
 refine ry (y_mov rfl rfl) rfl rfl ?_
 refine ry (y_max rfl rfl rfl) rfl rfl ?_
 refine ry (y_asg rfl rfl) rfl rfl ?_
 refine reg_nil ?_
 refine fn_next ?_
 refine cw_ret ?_
 refine fn_ret1 rfl rfl ?_
 exact ⟨rfl, H0.base⟩

theorem mgC3 : callB Try.prog 103 = true := by kernel_rfl

set_option maxRecDepth 100000 in
theorem mgPrefer0  (w : World) :
    Ret Try.prog 61 [.int .i64 0] w (fun z w' => z = .func (.func 100) #[] #[] ∧ Below w.heap.size w w') := by
 refine ret_enter Try.func61 rfl rfl rfl ?_
 have H0 := HS.start w
 refine cw_seq ?_
 refine cw_reg ?_
 refine ry (y_asg rfl rfl) rfl rfl ?_
 refine reg_nil ?_
 refine fn_next ?_
 refine cw_seq ?_
 refine cw_seq ?_
 refine cw_reg ?_
 refine ry (y_mov rfl rfl) rfl rfl ?_
 refine reg_nil ?_
 refine fn_next ?_
 refine cw_block ?_
 refine cw_seq ?_
 refine cw_reg ?_
 refine ry (y_eql rfl rfl rfl) rfl rfl ?_
 refine ry (y_asg rfl rfl) rfl rfl ?_
 refine reg_nil ?_
 refine fn_next ?_
 refine cw_condt rfl ?_
 refine cw_seq ?_
 refine cw_reg ?_
 refine ry (y_asg rfl rfl) rfl rfl ?_
 refine reg_nil ?_
 refine fn_next ?_
 refine cw_ret ?_
 refine fn_block_ret (fn_then_ret ?_)
 refine fn_ret1 rfl rfl ?_
 exact ⟨rfl, H0.base⟩

set_option maxRecDepth 100000 in
theorem mgPrefer1  (w : World) :
    Ret Try.prog 61 [.int .i64 1] w (fun z w' => z = .func (.func 101) #[] #[] ∧ Below w.heap.size w w') := by
 refine ret_enter Try.func61 rfl rfl rfl ?_
 have H0 := HS.start w
 refine cw_seq ?_
 refine cw_reg ?_
 refine ry (y_asg rfl rfl) rfl rfl ?_
 refine reg_nil ?_
 refine fn_next ?_
 refine cw_seq ?_
 refine cw_seq ?_
 refine cw_reg ?_
 refine ry (y_mov rfl rfl) rfl rfl ?_
 refine reg_nil ?_
 refine fn_next ?_
 refine cw_block ?_
 refine cw_seq ?_
 refine cw_reg ?_
 refine ry (y_eql rfl rfl rfl) rfl rfl ?_
 refine ry (y_asg rfl rfl) rfl rfl ?_
 refine reg_nil ?_
 refine fn_next ?_
 refine cw_condf rfl ?_
 refine cw_seq ?_
 refine cw_reg ?_
 refine ry (y_eql rfl rfl rfl) rfl rfl ?_
 refine ry (y_asg rfl rfl) rfl rfl ?_
 refine reg_nil ?_
 refine fn_next ?_
 refine cw_condt rfl ?_
 refine cw_seq ?_
 refine cw_reg ?_
 refine ry (y_asg rfl rfl) rfl rfl ?_
 refine reg_nil ?_
 refine fn_next ?_
 refine cw_ret ?_
 refine fn_block_ret (fn_then_ret ?_)
 refine fn_ret1 rfl rfl ?_
 exact ⟨rfl, H0.base⟩

set_option maxRecDepth 100000 in
theorem mgPrefer2  (w : World) :
    Ret Try.prog 61 [.int .i64 2] w (fun z w' => z = .func (.func 102) #[] #[] ∧ Below w.heap.size w w') := by
 refine ret_enter Try.func61 rfl rfl rfl ?_
 have H0 := HS.start w
 refine cw_seq ?_
 refine cw_reg ?_
 refine ry (y_asg rfl rfl) rfl rfl ?_
 refine reg_nil ?_
 refine fn_next ?_
 refine cw_seq ?_
 refine cw_seq ?_
 refine cw_reg ?_
 refine ry (y_mov rfl rfl) rfl rfl ?_
 refine reg_nil ?_
 refine fn_next ?_
 refine cw_block ?_
 refine cw_seq ?_
 refine cw_reg ?_
 refine ry (y_eql rfl rfl rfl) rfl rfl ?_
 refine ry (y_asg rfl rfl) rfl rfl ?_
 refine reg_nil ?_
 refine fn_next ?_
 refine cw_condf rfl ?_
 refine cw_seq ?_
 refine cw_reg ?_
 refine ry (y_eql rfl rfl rfl) rfl rfl ?_
 refine ry (y_asg rfl rfl) rfl rfl ?_
 refine reg_nil ?_
 refine fn_next ?_
 refine cw_condf rfl ?_
 refine cw_seq ?_
 refine cw_reg ?_
 refine ry (y_eql rfl rfl rfl) rfl rfl ?_
 refine ry (y_asg rfl rfl) rfl rfl ?_
 refine reg_nil ?_
 refine fn_next ?_
 refine cw_condt rfl ?_
 refine cw_seq ?_
 refine cw_reg ?_
 refine ry (y_asg rfl rfl) rfl rfl ?_
 refine reg_nil ?_
 refine fn_next ?_
 refine cw_ret ?_
 refine fn_block_ret (fn_then_ret ?_)
 refine fn_ret1 rfl rfl ?_
 exact ⟨rfl, H0.base⟩

set_option maxRecDepth 100000 in
theorem mgPrefer3  (w : World) :
    Ret Try.prog 61 [.int .i64 3] w (fun z w' => z = .func (.func 103) #[] #[] ∧ Below w.heap.size w w') := by
 refine ret_enter Try.func61 rfl rfl rfl ?_
 have H0 := HS.start w
 refine cw_seq ?_
 refine cw_reg ?_
 refine ry (y_asg rfl rfl) rfl rfl ?_
 refine reg_nil ?_
 refine fn_next ?_
 refine cw_seq ?_
 refine cw_seq ?_
 refine cw_reg ?_
 refine ry (y_mov rfl rfl) rfl rfl ?_
 refine reg_nil ?_
 refine fn_next ?_
 refine cw_block ?_
 refine cw_seq ?_
 refine cw_reg ?_
 refine ry (y_eql rfl rfl rfl) rfl rfl ?_
 refine ry (y_asg rfl rfl) rfl rfl ?_
 refine reg_nil ?_
 refine fn_next ?_
 refine cw_condf rfl ?_
 refine cw_seq ?_
 refine cw_reg ?_
 refine ry (y_eql rfl rfl rfl) rfl rfl ?_
 refine ry (y_asg rfl rfl) rfl rfl ?_
 refine reg_nil ?_
 refine fn_next ?_
 refine cw_condf rfl ?_
 refine cw_seq ?_
 refine cw_reg ?_
 refine ry (y_eql rfl rfl rfl) rfl rfl ?_
 refine ry (y_asg rfl rfl) rfl rfl ?_
 refine reg_nil ?_
 refine fn_next ?_
 refine cw_condf rfl ?_
 refine cw_seq ?_
 refine cw_reg ?_
 refine ry (y_eql rfl rfl rfl) rfl rfl ?_
 refine ry (y_asg rfl rfl) rfl rfl ?_
 refine reg_nil ?_
 refine fn_next ?_
 refine cw_condt rfl ?_
 refine cw_seq ?_
 refine cw_reg ?_
 refine ry (y_asg rfl rfl) rfl rfl ?_
 refine reg_nil ?_
 refine fn_next ?_
 refine cw_ret ?_
 refine fn_block_ret (fn_then_ret ?_)
 refine fn_ret1 rfl rfl ?_
 exact ⟨rfl, H0.base⟩

set_option maxRecDepth 100000 in
theorem mgPreferN (q : Int) (w : World) (hq : q < 0 ∨ q > 3) :
    Ret Try.prog 61 [.int .i64 q] w (fun z w' => z = .nilFunc ∧ Below w.heap.size w w') := by
 refine ret_enter Try.func61 rfl rfl rfl ?_
 have H0 := HS.start w
 refine cw_seq ?_
 refine cw_reg ?_
 refine ry (y_asg rfl rfl) rfl rfl ?_
 refine reg_nil ?_
 refine fn_next ?_
 refine cw_seq ?_
 refine cw_seq ?_
 refine cw_reg ?_
 refine ry (y_mov rfl rfl) rfl rfl ?_
 refine reg_nil ?_
 refine fn_next ?_
 refine cw_block ?_
 refine cw_seq ?_
 refine cw_reg ?_
 refine ry (y_eql rfl rfl rfl) rfl rfl ?_
 refine ry (y_asg rfl rfl) rfl rfl ?_
 refine reg_nil ?_
 refine fn_next ?_
 refine cw_condd rfl (fun h1 => ?_) (fun h1 => ?_)
 · exfalso; omega
 ·skip
  refine cw_seq ?_
  refine cw_reg ?_
  refine ry (y_eql rfl rfl rfl) rfl rfl ?_
  refine ry (y_asg rfl rfl) rfl rfl ?_
  refine reg_nil ?_
  refine fn_next ?_
  refine cw_condd rfl (fun h2 => ?_) (fun h2 => ?_)
  · exfalso; omega
  ·skip
   refine cw_seq ?_
   refine cw_reg ?_
   refine ry (y_eql rfl rfl rfl) rfl rfl ?_
   refine ry (y_asg rfl rfl) rfl rfl ?_
   refine reg_nil ?_
   refine fn_next ?_
   refine cw_condd rfl (fun h3 => ?_) (fun h3 => ?_)
   · exfalso; omega
   ·skip
    refine cw_seq ?_
    refine cw_reg ?_
    refine ry (y_eql rfl rfl rfl) rfl rfl ?_
    refine ry (y_asg rfl rfl) rfl rfl ?_
    refine reg_nil ?_
    refine fn_next ?_
    refine cw_condd rfl (fun h4 => ?_) (fun h4 => ?_)
    · exfalso; omega
    ·skip
     refine cw_skip ?_
     refine fn_block ?_
     refine fn_next ?_
     refine cw_seq ?_
     refine cw_reg ?_
     refine ry (y_asg rfl rfl) rfl rfl ?_
     refine reg_nil ?_
     refine fn_next ?_
     refine cw_ret ?_
     refine fn_ret1 rfl rfl ?_
     exact ⟨rfl, H0.base⟩

theorem mgv_a {o : Int → Int → Int} {v u t : Int} (h : u = t) : mgv o v u t = u ∧ ¬ odd3 v u t := ⟨by unfold mgv; rw [if_pos (.inl h)], fun q => q.1 h⟩
theorem mgv_b {o : Int → Int → Int} {v u t : Int} (h : t = v) : mgv o v u t = u ∧ ¬ odd3 v u t := ⟨by unfold mgv; rw [if_pos (.inr h)], fun q => q.2.2 h⟩
theorem mgv_c {o : Int → Int → Int} {v u t : Int} (h1 : ¬ u = t) (h2 : ¬ t = v) (h : u = v) : mgv o v u t = t ∧ ¬ odd3 v u t := ⟨by unfold mgv; rw [if_neg (by omega), if_pos h], fun q => q.2.1 h⟩
theorem mgv_d {o : Int → Int → Int} {v u t : Int} (h1 : ¬ u = t) (h2 : ¬ t = v) (h : ¬ u = v) : mgv o v u t = o u t ∧ odd3 v u t := ⟨by unfold mgv; rw [if_neg (by omega), if_neg h], h1, h, h2⟩

set_option maxRecDepth 100000 in
theorem mgBoth (F : FuncId) (o : Int → Int → Int) (v u t : Int) (w : World) (hF : callB Try.prog F = true) (hf : ∀ (x y : Int) (W : World), Ret Try.prog F [.int .i64 x, .int .i64 y] W (fun z w' => z = .int .i64 (o x y) ∧ Below W.heap.size W w')) :
    Ret Try.prog 99 [.func (.func F) #[] #[], .int .i64 v, .int .i64 u, .int .i64 t] w (fun z w' => z = .tuple #[.int .i64 (mgv o v u t), .bool (decide (odd3 v u t))] ∧ Below w.heap.size w w') := by
 refine ret_enter Try.func99 rfl rfl rfl ?_
 have H0 := HS.start w
 refine cw_seq ?_
 refine cw_reg ?_
 refine ry (y_asg rfl rfl) rfl rfl ?_
 refine ry (y_asg rfl rfl) rfl rfl ?_
 refine reg_nil ?_
 refine fn_next ?_
 refine cw_seq ?_
 refine cw_block ?_
 refine cw_seq ?_
 refine cw_reg ?_
 refine ry (y_mov rfl rfl) rfl rfl ?_
 refine ry (y_mov rfl rfl) rfl rfl ?_
 refine ry (y_eql rfl rfl rfl) rfl rfl ?_
 refine ry (y_mov rfl rfl) rfl rfl ?_
 refine rg_splitd (d := 14) rfl (fun h1 => ?_) (fun h1 => ?_)
 ·skip
  obtain ⟨e1, e2⟩ := mgv_a (o := o) (v := v) h1
  refine rg_off rfl rfl rfl rfl rfl ?_
  refine rg_off rfl rfl rfl rfl rfl ?_
  refine rg_off rfl rfl rfl rfl rfl ?_
  refine ry (y_pick rfl rfl rfl) rfl rfl ?_
  refine ry (y_asg rfl rfl) rfl rfl ?_
  refine reg_nil ?_
  refine fn_next ?_
  refine cw_condt rfl ?_
  refine cw_seq ?_
  refine cw_reg ?_
  refine ry (y_mov rfl rfl) rfl rfl ?_
  refine ry (y_asg rfl rfl) rfl rfl ?_
  refine ry (y_asg rfl rfl) rfl rfl ?_
  refine reg_nil ?_
  refine fn_next ?_
  refine cw_ret ?_
  refine fn_block_ret (fn_then_ret ?_)
  refine fn_retn (vs := [_, _]) rfl ⟨rfl, rfl, trivial⟩ rfl ?_
  rw [e1]
  first | rw [decide_eq_false e2] | rw [decide_eq_true e2]
  exact ⟨rfl, H0.base⟩
 ·skip
  have n1 := h1
  refine rgy (y_mov rfl rfl) rfl rfl rfl rfl ?_
  refine rgy (y_mov rfl rfl) rfl rfl rfl rfl ?_
  refine rgy (y_eql rfl rfl rfl) rfl rfl rfl rfl ?_
  refine ry (y_pick rfl rfl rfl) rfl rfl ?_
  refine ry (y_asg rfl rfl) rfl rfl ?_
  refine reg_nil ?_
  refine fn_next ?_
  refine cw_condd rfl (fun n2 => ?_) (fun n2 => ?_)
  ·skip
   obtain ⟨e1, e2⟩ := mgv_b (o := o) (u := u) n2
   refine cw_seq ?_
   refine cw_reg ?_
   refine ry (y_mov rfl rfl) rfl rfl ?_
   refine ry (y_asg rfl rfl) rfl rfl ?_
   refine ry (y_asg rfl rfl) rfl rfl ?_
   refine reg_nil ?_
   refine fn_next ?_
   refine cw_ret ?_
   refine fn_block_ret (fn_then_ret ?_)
   refine fn_retn (vs := [_, _]) rfl ⟨rfl, rfl, trivial⟩ rfl ?_
   rw [e1]
   first | rw [decide_eq_false e2] | rw [decide_eq_true e2]
   exact ⟨rfl, H0.base⟩
  ·skip
   refine cw_seq ?_
   refine cw_reg ?_
   refine ry (y_mov rfl rfl) rfl rfl ?_
   refine ry (y_mov rfl rfl) rfl rfl ?_
   refine ry (y_eql rfl rfl rfl) rfl rfl ?_
   refine ry (y_asg rfl rfl) rfl rfl ?_
   refine reg_nil ?_
   refine fn_next ?_
   refine cw_condd rfl (fun n3 => ?_) (fun n3 => ?_)
   ·skip
    obtain ⟨e1, e2⟩ := mgv_c (o := o) n1 n2 n3
    refine cw_seq ?_
    refine cw_reg ?_
    refine ry (y_mov rfl rfl) rfl rfl ?_
    refine ry (y_asg rfl rfl) rfl rfl ?_
    refine ry (y_asg rfl rfl) rfl rfl ?_
    refine reg_nil ?_
    refine fn_next ?_
    refine cw_ret ?_
    refine fn_block_ret (fn_then_ret ?_)
    refine fn_retn (vs := [_, _]) rfl ⟨rfl, rfl, trivial⟩ rfl ?_
    rw [e1]
    first | rw [decide_eq_false e2] | rw [decide_eq_true e2]
    exact ⟨rfl, H0.base⟩
   ·skip
    obtain ⟨e1, e2⟩ := mgv_d (o := o) n1 n2 n3
    refine cw_skip ?_
    refine fn_block ?_
    refine fn_next ?_
    refine cw_seq ?_
    refine cw_reg ?_
    refine ry (y_mov rfl rfl) rfl rfl ?_
    refine ry (y_mov rfl rfl) rfl rfl ?_
    refine ry (y_mov rfl rfl) rfl rfl ?_
    refine reg_op (op_callv (fs := []) (vs := [_, _]) (cs := []) (hf u t _) rfl hF rfl ⟨rfl, rfl, trivial⟩) rfl rfl ?_
    rintro _ w5 ⟨rfl, e4⟩
    have H6 := H0.ext e4
    refine ry (y_asg rfl rfl) rfl rfl ?_
    refine ry (y_asg rfl rfl) rfl rfl ?_
    refine reg_nil ?_
    refine fn_next ?_
    refine cw_ret ?_
    refine fn_retn (vs := [_, _]) rfl ⟨rfl, rfl, trivial⟩ rfl ?_
    rw [e1]
    first | rw [decide_eq_false e2] | rw [decide_eq_true e2]
    exact ⟨rfl, H6.base⟩

set_option maxRecDepth 100000 in
theorem three_ok (a h : Nat) (g0 : Nat) (V0 : List Int) (g1 : Nat) (V1 : List Int) (g2 : Nat) (V2 : List Int) (A : Option Addr) (cap : Nat) (w : World) (R0 : GRd w g0 a h V0) (R1 : GRd w g1 a h V1) (R2 : GRd w g2 a h V2) (hr : Rd w A [.pointer (some ⟨g0, 0, none⟩), .pointer (some ⟨g1, 0, none⟩), .pointer (some ⟨g2, 0, none⟩)]) :
    Ret Try.prog 98 [.slice A 3 cap] w (fun z w' => ∃ A cap A0 c0 A1 c1 A2 c2, z = .tuple #[.slice A 3 cap, .int .i64 0] ∧ HS w w' [.row A 3 cap [.slice A0 (a * h) c0, .slice A1 (a * h) c1, .slice A2 (a * h) c2] 22 1, .row A0 (a * h) c0 (vi .i64 V0) 2 1, .row A1 (a * h) c1 (vi .i64 V1) 2 1, .row A2 (a * h) c2 (vi .i64 V2) 2 1]) := by
 refine ret_enter Try.func98 rfl rfl rfl ?_
 have H0 := HS.start w
 refine cw_seq ?_
 refine cw_reg ?_
 refine ry (y_asg rfl rfl) rfl rfl ?_
 refine ry (y_asg rfl rfl) rfl rfl ?_
 refine reg_nil ?_
 refine fn_next ?_
 refine cw_seq ?_
 refine cw_reg ?_
 refine ry (y_asg rfl rfl) rfl rfl ?_
 refine reg_nil ?_
 refine fn_next ?_
 refine cw_seq ?_
 refine cw_seq ?_
 refine cw_reg ?_
 refine ry (y_mov rfl rfl) rfl rfl ?_
 refine ry (y_len rfl Try.underlying169 rfl) rfl rfl ?_
 refine ry (y_mov rfl rfl) rfl rfl ?_
 refine reg_nil ?_
 refine fn_next ?_
 refine cw_block ?_
 refine cw_loopR 3 ?_
 refine cw_seq ?_
 refine cw_reg ?_
 refine ry (y_lss rfl rfl rfl) rfl rfl ?_
 refine reg_nil ?_
 refine fn_next ?_
 refine cw_seq ?_
 refine cw_condt rfl ?_
 refine cw_skip ?_
 refine fn_next ?_
 refine cw_seq ?_
 refine cw_block ?_
 refine cw_seq ?_
 refine cw_reg ?_
 refine ry (y_iar (i := 0) (hr.below H0.base) rfl rfl rfl kfmerge1_1 (rfl) (by omega) (Nat.mul_one _) ((rfl : ([.pointer (some ⟨g0, 0, none⟩), .pointer (some ⟨g1, 0, none⟩), .pointer (some ⟨g2, 0, none⟩)] : List Value)[0]? = some _))) rfl rfl ?_
 refine ry (y_ldr (hr.below H0.base) rfl rfl kfmerge1_2 ((rfl : ([.pointer (some ⟨g0, 0, none⟩), .pointer (some ⟨g1, 0, none⟩), .pointer (some ⟨g2, 0, none⟩)] : List Value)[0]? = some _))) rfl rfl ?_
 refine ry (y_asg rfl rfl) rfl rfl ?_
 refine reg_nil ?_
 refine fn_next ?_
 refine cw_seq ?_
 refine cw_seq ?_
 refine cw_reg ?_
 refine ry (y_mov rfl rfl) rfl rfl ?_
 refine ry (y_peqlnil rfl Try.underlying28 rfl rfl) rfl rfl ?_
 refine reg_nil ?_
 refine fn_next ?_
 refine cw_condf rfl ?_
 refine cw_skip ?_
 refine fn_next ?_
 refine cw_seq ?_
 refine cw_reg ?_
 refine ry (y_mov rfl rfl) rfl rfl ?_
 refine ry (y_mov rfl rfl) rfl rfl ?_
 refine reg_op (op_call (gAll g0 a h (V0)  _ (R0.below H0.base)) rfl kfmerge1_3 ⟨rfl, trivial⟩) rfl rfl ?_
 rintro _ w2 ⟨rfl, e1⟩
 have H3 := H0.ext e1
 refine reg_op (op_call (gValuesAll g0 a h (V0) _ (R0.below H3.base)) rfl kfmerge1_4 ⟨rfl, rfl, trivial⟩) rfl rfl ?_
 rintro _ w5 ⟨A7, c8, rfl, k4⟩
 have H6 := H3.call k4
 refine ry (y_mov rfl rfl) rfl rfl ?_
 refine ry (y_ext rfl rfl rfl) rfl rfl ?_
 refine ry (y_ext rfl rfl rfl) rfl rfl ?_
 refine ry (y_asg rfl rfl) rfl rfl ?_
 refine ry (y_asg rfl rfl) rfl rfl ?_
 refine reg_nil ?_
 refine fn_next ?_
 refine cw_reg ?_
 refine ry (y_mov rfl rfl) rfl rfl ?_
 refine ry (y_mov rfl rfl) rfl rfl ?_
 refine reg_op (op_lit (parts := [(0, _)]) (vs := [(0, _)]) (cs := [.slice _ _ _]) H6 rfl Try.underlying140 kfmerge1_5 rfl ⟨rfl, trivial⟩ rfl rfl) rfl rfl ?_
 rintro _ w10 ⟨b9, rfl, H11⟩
 have H12 := H11.asrow (m := 1) (size := 1) rfl (by decide)
 have H13 := H12.nilrow 22 1
 refine reg_op (op_app (i := 0) H13 rfl rfl rfl rfl (H13.rd (i := 1) rfl) (rfl) (rfl) Try.underlying140 kfmerge1_6 rfl rfl (by unfold maxLen; omega) (by omega)) rfl rfl ?_
 rintro _ w16 ⟨A14, c15, rfl, H17⟩
 refine ry (y_asg rfl rfl) rfl rfl ?_
 refine reg_nil ?_
 refine fn_block ?_
 refine fn_next ?_
 refine cw_reg ?_
 refine ry (y_add rfl rfl rfl (wi (by omega))) rfl rfl ?_
 refine ry (y_mov rfl rfl) rfl rfl ?_
 refine reg_nil ?_
 refine fn_roundR ?_
 refine cw_seq ?_
 refine cw_reg ?_
 refine ry (y_lss rfl rfl rfl) rfl rfl ?_
 refine reg_nil ?_
 refine fn_next ?_
 refine cw_seq ?_
 refine cw_condt rfl ?_
 refine cw_skip ?_
 refine fn_next ?_
 refine cw_seq ?_
 refine cw_block ?_
 refine cw_seq ?_
 refine cw_reg ?_
 refine ry (y_iar (i := 1) (hr.below H17.base) rfl rfl rfl kfmerge1_1 (rfl) (by omega) (Nat.mul_one _) ((rfl : ([.pointer (some ⟨g0, 0, none⟩), .pointer (some ⟨g1, 0, none⟩), .pointer (some ⟨g2, 0, none⟩)] : List Value)[1]? = some _))) rfl rfl ?_
 refine ry (y_ldr (hr.below H17.base) rfl rfl kfmerge1_2 ((rfl : ([.pointer (some ⟨g0, 0, none⟩), .pointer (some ⟨g1, 0, none⟩), .pointer (some ⟨g2, 0, none⟩)] : List Value)[1]? = some _))) rfl rfl ?_
 refine ry (y_asg rfl rfl) rfl rfl ?_
 refine reg_nil ?_
 refine fn_next ?_
 refine cw_seq ?_
 refine cw_seq ?_
 refine cw_reg ?_
 refine ry (y_mov rfl rfl) rfl rfl ?_
 refine ry (y_peqlnil rfl Try.underlying28 rfl rfl) rfl rfl ?_
 refine reg_nil ?_
 refine fn_next ?_
 refine cw_condf rfl ?_
 refine cw_skip ?_
 refine fn_next ?_
 refine cw_seq ?_
 refine cw_reg ?_
 refine ry (y_mov rfl rfl) rfl rfl ?_
 refine ry (y_mov rfl rfl) rfl rfl ?_
 refine reg_op (op_call (gAll g1 a h (V1)  _ (R1.below H17.base)) rfl kfmerge1_3 ⟨rfl, trivial⟩) rfl rfl ?_
 rintro _ w19 ⟨rfl, e18⟩
 have H20 := H17.ext e18
 refine reg_op (op_call (gValuesAll g1 a h (V1) _ (R1.below H20.base)) rfl kfmerge1_4 ⟨rfl, rfl, trivial⟩) rfl rfl ?_
 rintro _ w22 ⟨A24, c25, rfl, k21⟩
 have H23 := H20.call k21
 refine ry (y_mov rfl rfl) rfl rfl ?_
 refine ry (y_ext rfl rfl rfl) rfl rfl ?_
 refine ry (y_ext rfl rfl rfl) rfl rfl ?_
 refine ry (y_asg rfl rfl) rfl rfl ?_
 refine ry (y_asg rfl rfl) rfl rfl ?_
 refine reg_nil ?_
 refine fn_next ?_
 refine cw_reg ?_
 refine ry (y_mov rfl rfl) rfl rfl ?_
 refine ry (y_mov rfl rfl) rfl rfl ?_
 refine reg_op (op_lit (parts := [(0, _)]) (vs := [(0, _)]) (cs := [.slice _ _ _]) H23 rfl Try.underlying140 kfmerge1_5 rfl ⟨rfl, trivial⟩ rfl rfl) rfl rfl ?_
 rintro _ w27 ⟨b26, rfl, H28⟩
 have H29 := H28.asrow (m := 1) (size := 1) rfl (by decide)
 refine reg_op (op_app (i := 2) H29 rfl rfl rfl rfl (H29.rd (i := 0) rfl) (rfl) (rfl) Try.underlying140 kfmerge1_6 rfl rfl (by unfold maxLen; omega) (by omega)) rfl rfl ?_
 rintro _ w32 ⟨A30, c31, rfl, H33⟩
 refine ry (y_asg rfl rfl) rfl rfl ?_
 refine reg_nil ?_
 refine fn_block ?_
 refine fn_next ?_
 refine cw_reg ?_
 refine ry (y_add rfl rfl rfl (wi (by omega))) rfl rfl ?_
 refine ry (y_mov rfl rfl) rfl rfl ?_
 refine reg_nil ?_
 refine fn_roundR ?_
 refine cw_seq ?_
 refine cw_reg ?_
 refine ry (y_lss rfl rfl rfl) rfl rfl ?_
 refine reg_nil ?_
 refine fn_next ?_
 refine cw_seq ?_
 refine cw_condt rfl ?_
 refine cw_skip ?_
 refine fn_next ?_
 refine cw_seq ?_
 refine cw_block ?_
 refine cw_seq ?_
 refine cw_reg ?_
 refine ry (y_iar (i := 2) (hr.below H33.base) rfl rfl rfl kfmerge1_1 (rfl) (by omega) (Nat.mul_one _) ((rfl : ([.pointer (some ⟨g0, 0, none⟩), .pointer (some ⟨g1, 0, none⟩), .pointer (some ⟨g2, 0, none⟩)] : List Value)[2]? = some _))) rfl rfl ?_
 refine ry (y_ldr (hr.below H33.base) rfl rfl kfmerge1_2 ((rfl : ([.pointer (some ⟨g0, 0, none⟩), .pointer (some ⟨g1, 0, none⟩), .pointer (some ⟨g2, 0, none⟩)] : List Value)[2]? = some _))) rfl rfl ?_
 refine ry (y_asg rfl rfl) rfl rfl ?_
 refine reg_nil ?_
 refine fn_next ?_
 refine cw_seq ?_
 refine cw_seq ?_
 refine cw_reg ?_
 refine ry (y_mov rfl rfl) rfl rfl ?_
 refine ry (y_peqlnil rfl Try.underlying28 rfl rfl) rfl rfl ?_
 refine reg_nil ?_
 refine fn_next ?_
 refine cw_condf rfl ?_
 refine cw_skip ?_
 refine fn_next ?_
 refine cw_seq ?_
 refine cw_reg ?_
 refine ry (y_mov rfl rfl) rfl rfl ?_
 refine ry (y_mov rfl rfl) rfl rfl ?_
 refine reg_op (op_call (gAll g2 a h (V2)  _ (R2.below H33.base)) rfl kfmerge1_3 ⟨rfl, trivial⟩) rfl rfl ?_
 rintro _ w35 ⟨rfl, e34⟩
 have H36 := H33.ext e34
 refine reg_op (op_call (gValuesAll g2 a h (V2) _ (R2.below H36.base)) rfl kfmerge1_4 ⟨rfl, rfl, trivial⟩) rfl rfl ?_
 rintro _ w38 ⟨A40, c41, rfl, k37⟩
 have H39 := H36.call k37
 refine ry (y_mov rfl rfl) rfl rfl ?_
 refine ry (y_ext rfl rfl rfl) rfl rfl ?_
 refine ry (y_ext rfl rfl rfl) rfl rfl ?_
 refine ry (y_asg rfl rfl) rfl rfl ?_
 refine ry (y_asg rfl rfl) rfl rfl ?_
 refine reg_nil ?_
 refine fn_next ?_
 refine cw_reg ?_
 refine ry (y_mov rfl rfl) rfl rfl ?_
 refine ry (y_mov rfl rfl) rfl rfl ?_
 refine reg_op (op_lit (parts := [(0, _)]) (vs := [(0, _)]) (cs := [.slice _ _ _]) H39 rfl Try.underlying140 kfmerge1_5 rfl ⟨rfl, trivial⟩ rfl rfl) rfl rfl ?_
 rintro _ w43 ⟨b42, rfl, H44⟩
 have H45 := H44.asrow (m := 1) (size := 1) rfl (by decide)
 refine reg_op (op_app (i := 4) H45 rfl rfl rfl rfl (H45.rd (i := 0) rfl) (rfl) (rfl) Try.underlying140 kfmerge1_6 rfl rfl (by unfold maxLen; omega) (by omega)) rfl rfl ?_
 rintro _ w48 ⟨A46, c47, rfl, H49⟩
 refine ry (y_asg rfl rfl) rfl rfl ?_
 refine reg_nil ?_
 refine fn_block ?_
 refine fn_next ?_
 refine cw_reg ?_
 refine ry (y_add rfl rfl rfl (wi (by omega))) rfl rfl ?_
 refine ry (y_mov rfl rfl) rfl rfl ?_
 refine reg_nil ?_
 refine fn_roundR ?_
 refine cw_seq ?_
 refine cw_reg ?_
 refine ry (y_lss rfl rfl rfl) rfl rfl ?_
 refine reg_nil ?_
 refine fn_next ?_
 refine cw_seq ?_
 refine cw_condf rfl ?_
 refine cw_exit ?_
 refine fn_then_exit (fn_then_exit (fn_block_exit ?_))
 refine fn_next ?_
 refine cw_seq ?_
 refine cw_seq ?_
 refine cw_reg ?_
 refine ry (y_mov rfl rfl) rfl rfl ?_
 refine ry (y_len rfl Try.underlying169 rfl) rfl rfl ?_
 refine ry (y_mov rfl rfl) rfl rfl ?_
 refine reg_nil ?_
 refine fn_next ?_
 refine cw_block ?_
 refine cw_loopR 3 ?_
 refine cw_seq ?_
 refine cw_reg ?_
 refine ry (y_lss rfl rfl rfl) rfl rfl ?_
 refine reg_nil ?_
 refine fn_next ?_
 refine cw_seq ?_
 refine cw_condt rfl ?_
 refine cw_skip ?_
 refine fn_next ?_
 refine cw_seq ?_
 refine cw_block ?_
 refine cw_seq ?_
 refine cw_reg ?_
 refine ry (y_iar (i := 0) (hr.below H49.base) rfl rfl rfl kfmerge1_1 (rfl) (by omega) (Nat.mul_one _) ((rfl : ([.pointer (some ⟨g0, 0, none⟩), .pointer (some ⟨g1, 0, none⟩), .pointer (some ⟨g2, 0, none⟩)] : List Value)[0]? = some _))) rfl rfl ?_
 refine ry (y_ldr (hr.below H49.base) rfl rfl kfmerge1_2 ((rfl : ([.pointer (some ⟨g0, 0, none⟩), .pointer (some ⟨g1, 0, none⟩), .pointer (some ⟨g2, 0, none⟩)] : List Value)[0]? = some _))) rfl rfl ?_
 refine ry (y_asg rfl rfl) rfl rfl ?_
 refine reg_nil ?_
 refine fn_next ?_
 refine cw_seq ?_
 refine cw_draw H49 [0, 1, 2, 3, 4, 5, 6] [] (fun X HX => HX) (by kernel_rfl) (by kernel_rfl) (by rfl) ?_
 simp only [pick, List.getElem?_cons_succ, List.getElem?_cons_zero]
 refine hk_y (fun Y HY => y_mov rfl rfl) rfl rfl ?_
 refine hk_q (qy_call (fun Y HY => gAll g0 a h (V0)  _ (R0.below HY.base)) rfl kfmerge1_3 ⟨rfl, trivial⟩) rfl rfl ?_
 refine hk_y (fun Y HY => y_mov rfl rfl) rfl rfl ?_
 refine hk_y (fun Y HY => y_iar (i := 0) (hr.below HY.base) rfl rfl rfl kfmerge1_1 (rfl) (by omega) (Nat.mul_one _) ((rfl : ([.pointer (some ⟨g0, 0, none⟩), .pointer (some ⟨g1, 0, none⟩), .pointer (some ⟨g2, 0, none⟩)] : List Value)[0]? = some _))) rfl rfl ?_
 refine hk_y (fun Y HY => y_ldr (hr.below HY.base) rfl rfl kfmerge1_2 ((rfl : ([.pointer (some ⟨g0, 0, none⟩), .pointer (some ⟨g1, 0, none⟩), .pointer (some ⟨g2, 0, none⟩)] : List Value)[0]? = some _))) rfl rfl ?_
 refine hk_q (qy_call (fun Y HY => gAll g0 a h (V0)  _ (R0.below HY.base)) rfl kfmerge1_3 ⟨rfl, trivial⟩) rfl rfl ?_
 refine hk_y (fun Y HY => yv (congrArg Value.bool (decide_eq_false (fun q => q rfl))) (y_seq (ks := [.i64, .i64, .i64, .i64]) (a := [0, 0, (a : Int) - 1, (h : Int) - 1]) (b := [0, 0, (a : Int) - 1, (h : Int) - 1]) rfl (.inr ⟨rfl, rfl⟩) kfmerge1_7 rfl rfl rfl rfl rfl rfl rfl)) rfl rfl ?_
 refine hk_nil ?_
 intro w50 H51
 refine tv_nil ?_
 refine fn_next ?_
 refine cw_condf rfl ?_
 refine cw_skip ?_
 refine fn_block ?_
 refine fn_next ?_
 refine cw_reg ?_
 refine ry (y_add rfl rfl rfl (wi (by omega))) rfl rfl ?_
 refine ry (y_mov rfl rfl) rfl rfl ?_
 refine reg_nil ?_
 refine fn_roundR ?_
 refine cw_seq ?_
 refine cw_reg ?_
 refine ry (y_lss rfl rfl rfl) rfl rfl ?_
 refine reg_nil ?_
 refine fn_next ?_
 refine cw_seq ?_
 refine cw_condt rfl ?_
 refine cw_skip ?_
 refine fn_next ?_
 refine cw_seq ?_
 refine cw_block ?_
 refine cw_seq ?_
 refine cw_reg ?_
 refine ry (y_iar (i := 1) (hr.below H51.base) rfl rfl rfl kfmerge1_1 (rfl) (by omega) (Nat.mul_one _) ((rfl : ([.pointer (some ⟨g0, 0, none⟩), .pointer (some ⟨g1, 0, none⟩), .pointer (some ⟨g2, 0, none⟩)] : List Value)[1]? = some _))) rfl rfl ?_
 refine ry (y_ldr (hr.below H51.base) rfl rfl kfmerge1_2 ((rfl : ([.pointer (some ⟨g0, 0, none⟩), .pointer (some ⟨g1, 0, none⟩), .pointer (some ⟨g2, 0, none⟩)] : List Value)[1]? = some _))) rfl rfl ?_
 refine ry (y_asg rfl rfl) rfl rfl ?_
 refine reg_nil ?_
 refine fn_next ?_
 refine cw_seq ?_
 refine cw_draw H51 [0, 1, 2, 3, 4, 5, 6] [] (fun X HX => HX) (by kernel_rfl) (by kernel_rfl) (by rfl) ?_
 simp only [pick, List.getElem?_cons_succ, List.getElem?_cons_zero]
 refine hk_y (fun Y HY => y_mov rfl rfl) rfl rfl ?_
 refine hk_q (qy_call (fun Y HY => gAll g1 a h (V1)  _ (R1.below HY.base)) rfl kfmerge1_3 ⟨rfl, trivial⟩) rfl rfl ?_
 refine hk_y (fun Y HY => y_mov rfl rfl) rfl rfl ?_
 refine hk_y (fun Y HY => y_iar (i := 0) (hr.below HY.base) rfl rfl rfl kfmerge1_1 (rfl) (by omega) (Nat.mul_one _) ((rfl : ([.pointer (some ⟨g0, 0, none⟩), .pointer (some ⟨g1, 0, none⟩), .pointer (some ⟨g2, 0, none⟩)] : List Value)[0]? = some _))) rfl rfl ?_
 refine hk_y (fun Y HY => y_ldr (hr.below HY.base) rfl rfl kfmerge1_2 ((rfl : ([.pointer (some ⟨g0, 0, none⟩), .pointer (some ⟨g1, 0, none⟩), .pointer (some ⟨g2, 0, none⟩)] : List Value)[0]? = some _))) rfl rfl ?_
 refine hk_q (qy_call (fun Y HY => gAll g0 a h (V0)  _ (R0.below HY.base)) rfl kfmerge1_3 ⟨rfl, trivial⟩) rfl rfl ?_
 refine hk_y (fun Y HY => yv (congrArg Value.bool (decide_eq_false (fun q => q rfl))) (y_seq (ks := [.i64, .i64, .i64, .i64]) (a := [0, 0, (a : Int) - 1, (h : Int) - 1]) (b := [0, 0, (a : Int) - 1, (h : Int) - 1]) rfl (.inr ⟨rfl, rfl⟩) kfmerge1_7 rfl rfl rfl rfl rfl rfl rfl)) rfl rfl ?_
 refine hk_nil ?_
 intro w52 H53
 refine tv_nil ?_
 refine fn_next ?_
 refine cw_condf rfl ?_
 refine cw_skip ?_
 refine fn_block ?_
 refine fn_next ?_
 refine cw_reg ?_
 refine ry (y_add rfl rfl rfl (wi (by omega))) rfl rfl ?_
 refine ry (y_mov rfl rfl) rfl rfl ?_
 refine reg_nil ?_
 refine fn_roundR ?_
 refine cw_seq ?_
 refine cw_reg ?_
 refine ry (y_lss rfl rfl rfl) rfl rfl ?_
 refine reg_nil ?_
 refine fn_next ?_
 refine cw_seq ?_
 refine cw_condt rfl ?_
 refine cw_skip ?_
 refine fn_next ?_
 refine cw_seq ?_
 refine cw_block ?_
 refine cw_seq ?_
 refine cw_reg ?_
 refine ry (y_iar (i := 2) (hr.below H53.base) rfl rfl rfl kfmerge1_1 (rfl) (by omega) (Nat.mul_one _) ((rfl : ([.pointer (some ⟨g0, 0, none⟩), .pointer (some ⟨g1, 0, none⟩), .pointer (some ⟨g2, 0, none⟩)] : List Value)[2]? = some _))) rfl rfl ?_
 refine ry (y_ldr (hr.below H53.base) rfl rfl kfmerge1_2 ((rfl : ([.pointer (some ⟨g0, 0, none⟩), .pointer (some ⟨g1, 0, none⟩), .pointer (some ⟨g2, 0, none⟩)] : List Value)[2]? = some _))) rfl rfl ?_
 refine ry (y_asg rfl rfl) rfl rfl ?_
 refine reg_nil ?_
 refine fn_next ?_
 refine cw_seq ?_
 refine cw_draw H53 [0, 1, 2, 3, 4, 5, 6] [] (fun X HX => HX) (by kernel_rfl) (by kernel_rfl) (by rfl) ?_
 simp only [pick, List.getElem?_cons_succ, List.getElem?_cons_zero]
 refine hk_y (fun Y HY => y_mov rfl rfl) rfl rfl ?_
 refine hk_q (qy_call (fun Y HY => gAll g2 a h (V2)  _ (R2.below HY.base)) rfl kfmerge1_3 ⟨rfl, trivial⟩) rfl rfl ?_
 refine hk_y (fun Y HY => y_mov rfl rfl) rfl rfl ?_
 refine hk_y (fun Y HY => y_iar (i := 0) (hr.below HY.base) rfl rfl rfl kfmerge1_1 (rfl) (by omega) (Nat.mul_one _) ((rfl : ([.pointer (some ⟨g0, 0, none⟩), .pointer (some ⟨g1, 0, none⟩), .pointer (some ⟨g2, 0, none⟩)] : List Value)[0]? = some _))) rfl rfl ?_
 refine hk_y (fun Y HY => y_ldr (hr.below HY.base) rfl rfl kfmerge1_2 ((rfl : ([.pointer (some ⟨g0, 0, none⟩), .pointer (some ⟨g1, 0, none⟩), .pointer (some ⟨g2, 0, none⟩)] : List Value)[0]? = some _))) rfl rfl ?_
 refine hk_q (qy_call (fun Y HY => gAll g0 a h (V0)  _ (R0.below HY.base)) rfl kfmerge1_3 ⟨rfl, trivial⟩) rfl rfl ?_
 refine hk_y (fun Y HY => yv (congrArg Value.bool (decide_eq_false (fun q => q rfl))) (y_seq (ks := [.i64, .i64, .i64, .i64]) (a := [0, 0, (a : Int) - 1, (h : Int) - 1]) (b := [0, 0, (a : Int) - 1, (h : Int) - 1]) rfl (.inr ⟨rfl, rfl⟩) kfmerge1_7 rfl rfl rfl rfl rfl rfl rfl)) rfl rfl ?_
 refine hk_nil ?_
 intro w54 H55
 refine tv_nil ?_
 refine fn_next ?_
 refine cw_condf rfl ?_
 refine cw_skip ?_
 refine fn_block ?_
 refine fn_next ?_
 refine cw_reg ?_
 refine ry (y_add rfl rfl rfl (wi (by omega))) rfl rfl ?_
 refine ry (y_mov rfl rfl) rfl rfl ?_
 refine reg_nil ?_
 refine fn_roundR ?_
 refine cw_seq ?_
 refine cw_reg ?_
 refine ry (y_lss rfl rfl rfl) rfl rfl ?_
 refine reg_nil ?_
 refine fn_next ?_
 refine cw_seq ?_
 refine cw_condf rfl ?_
 refine cw_exit ?_
 refine fn_then_exit (fn_then_exit (fn_block_exit ?_))
 refine fn_next ?_
 refine cw_seq ?_
 refine cw_reg ?_
 refine ry (y_mov rfl rfl) rfl rfl ?_
 refine ry (y_asg rfl rfl) rfl rfl ?_
 refine ry (y_asg rfl rfl) rfl rfl ?_
 refine reg_nil ?_
 refine fn_next ?_
 refine cw_ret ?_
 refine fn_retn (vs := [_, _]) rfl ⟨rfl, rfl, trivial⟩ rfl ?_
 exact ⟨_, _, _, _, _, _, _, _, rfl, (H55.pick (m := [_, _, _, _]) [4, 6, 3, 1] rfl (by decide))⟩

set_option maxRecDepth 100000 in
theorem three_s2 (a a2 h h2 : Nat) (g0 : Nat) (V0 : List Int) (g1 : Nat) (V1 : List Int) (g2 : Nat) (V2 : List Int) (A : Option Addr) (cap : Nat) (w : World) (R0 : GRd w g0 a h V0) (R1 : GRd w g1 a2 h2 V1) (R2 : GRd w g2 a h V2) (hr : Rd w A [.pointer (some ⟨g0, 0, none⟩), .pointer (some ⟨g1, 0, none⟩), .pointer (some ⟨g2, 0, none⟩)]) (hne : ¬ (a2 = a ∧ h2 = h)) :
    Ret Try.prog 98 [.slice A 3 cap] w (fun z w' => z = .tuple #[.slice none 0 0, .int .i64 3] ∧ Below w.heap.size w w') := by
 refine ret_enter Try.func98 rfl rfl rfl ?_
 have H0 := HS.start w
 refine cw_seq ?_
 refine cw_reg ?_
 refine ry (y_asg rfl rfl) rfl rfl ?_
 refine ry (y_asg rfl rfl) rfl rfl ?_
 refine reg_nil ?_
 refine fn_next ?_
 refine cw_seq ?_
 refine cw_reg ?_
 refine ry (y_asg rfl rfl) rfl rfl ?_
 refine reg_nil ?_
 refine fn_next ?_
 refine cw_seq ?_
 refine cw_seq ?_
 refine cw_reg ?_
 refine ry (y_mov rfl rfl) rfl rfl ?_
 refine ry (y_len rfl Try.underlying169 rfl) rfl rfl ?_
 refine ry (y_mov rfl rfl) rfl rfl ?_
 refine reg_nil ?_
 refine fn_next ?_
 refine cw_block ?_
 refine cw_loopR 3 ?_
 refine cw_seq ?_
 refine cw_reg ?_
 refine ry (y_lss rfl rfl rfl) rfl rfl ?_
 refine reg_nil ?_
 refine fn_next ?_
 refine cw_seq ?_
 refine cw_condt rfl ?_
 refine cw_skip ?_
 refine fn_next ?_
 refine cw_seq ?_
 refine cw_block ?_
 refine cw_seq ?_
 refine cw_reg ?_
 refine ry (y_iar (i := 0) (hr.below H0.base) rfl rfl rfl kfmerge1_1 (rfl) (by omega) (Nat.mul_one _) ((rfl : ([.pointer (some ⟨g0, 0, none⟩), .pointer (some ⟨g1, 0, none⟩), .pointer (some ⟨g2, 0, none⟩)] : List Value)[0]? = some _))) rfl rfl ?_
 refine ry (y_ldr (hr.below H0.base) rfl rfl kfmerge1_2 ((rfl : ([.pointer (some ⟨g0, 0, none⟩), .pointer (some ⟨g1, 0, none⟩), .pointer (some ⟨g2, 0, none⟩)] : List Value)[0]? = some _))) rfl rfl ?_
 refine ry (y_asg rfl rfl) rfl rfl ?_
 refine reg_nil ?_
 refine fn_next ?_
 refine cw_seq ?_
 refine cw_seq ?_
 refine cw_reg ?_
 refine ry (y_mov rfl rfl) rfl rfl ?_
 refine ry (y_peqlnil rfl Try.underlying28 rfl rfl) rfl rfl ?_
 refine reg_nil ?_
 refine fn_next ?_
 refine cw_condf rfl ?_
 refine cw_skip ?_
 refine fn_next ?_
 refine cw_seq ?_
 refine cw_reg ?_
 refine ry (y_mov rfl rfl) rfl rfl ?_
 refine ry (y_mov rfl rfl) rfl rfl ?_
 refine reg_op (op_call (gAll g0 a h (V0)  _ (R0.below H0.base)) rfl kfmerge1_3 ⟨rfl, trivial⟩) rfl rfl ?_
 rintro _ w2 ⟨rfl, e1⟩
 have H3 := H0.ext e1
 refine reg_op (op_call (gValuesAll g0 a h (V0) _ (R0.below H3.base)) rfl kfmerge1_4 ⟨rfl, rfl, trivial⟩) rfl rfl ?_
 rintro _ w5 ⟨A7, c8, rfl, k4⟩
 have H6 := H3.call k4
 refine ry (y_mov rfl rfl) rfl rfl ?_
 refine ry (y_ext rfl rfl rfl) rfl rfl ?_
 refine ry (y_ext rfl rfl rfl) rfl rfl ?_
 refine ry (y_asg rfl rfl) rfl rfl ?_
 refine ry (y_asg rfl rfl) rfl rfl ?_
 refine reg_nil ?_
 refine fn_next ?_
 refine cw_reg ?_
 refine ry (y_mov rfl rfl) rfl rfl ?_
 refine ry (y_mov rfl rfl) rfl rfl ?_
 refine reg_op (op_lit (parts := [(0, _)]) (vs := [(0, _)]) (cs := [.slice _ _ _]) H6 rfl Try.underlying140 kfmerge1_5 rfl ⟨rfl, trivial⟩ rfl rfl) rfl rfl ?_
 rintro _ w10 ⟨b9, rfl, H11⟩
 have H12 := H11.asrow (m := 1) (size := 1) rfl (by decide)
 have H13 := H12.nilrow 22 1
 refine reg_op (op_app (i := 0) H13 rfl rfl rfl rfl (H13.rd (i := 1) rfl) (rfl) (rfl) Try.underlying140 kfmerge1_6 rfl rfl (by unfold maxLen; omega) (by omega)) rfl rfl ?_
 rintro _ w16 ⟨A14, c15, rfl, H17⟩
 refine ry (y_asg rfl rfl) rfl rfl ?_
 refine reg_nil ?_
 refine fn_block ?_
 refine fn_next ?_
 refine cw_reg ?_
 refine ry (y_add rfl rfl rfl (wi (by omega))) rfl rfl ?_
 refine ry (y_mov rfl rfl) rfl rfl ?_
 refine reg_nil ?_
 refine fn_roundR ?_
 refine cw_seq ?_
 refine cw_reg ?_
 refine ry (y_lss rfl rfl rfl) rfl rfl ?_
 refine reg_nil ?_
 refine fn_next ?_
 refine cw_seq ?_
 refine cw_condt rfl ?_
 refine cw_skip ?_
 refine fn_next ?_
 refine cw_seq ?_
 refine cw_block ?_
 refine cw_seq ?_
 refine cw_reg ?_
 refine ry (y_iar (i := 1) (hr.below H17.base) rfl rfl rfl kfmerge1_1 (rfl) (by omega) (Nat.mul_one _) ((rfl : ([.pointer (some ⟨g0, 0, none⟩), .pointer (some ⟨g1, 0, none⟩), .pointer (some ⟨g2, 0, none⟩)] : List Value)[1]? = some _))) rfl rfl ?_
 refine ry (y_ldr (hr.below H17.base) rfl rfl kfmerge1_2 ((rfl : ([.pointer (some ⟨g0, 0, none⟩), .pointer (some ⟨g1, 0, none⟩), .pointer (some ⟨g2, 0, none⟩)] : List Value)[1]? = some _))) rfl rfl ?_
 refine ry (y_asg rfl rfl) rfl rfl ?_
 refine reg_nil ?_
 refine fn_next ?_
 refine cw_seq ?_
 refine cw_seq ?_
 refine cw_reg ?_
 refine ry (y_mov rfl rfl) rfl rfl ?_
 refine ry (y_peqlnil rfl Try.underlying28 rfl rfl) rfl rfl ?_
 refine reg_nil ?_
 refine fn_next ?_
 refine cw_condf rfl ?_
 refine cw_skip ?_
 refine fn_next ?_
 refine cw_seq ?_
 refine cw_reg ?_
 refine ry (y_mov rfl rfl) rfl rfl ?_
 refine ry (y_mov rfl rfl) rfl rfl ?_
 refine reg_op (op_call (gAll g1 a2 h2 (V1)  _ (R1.below H17.base)) rfl kfmerge1_3 ⟨rfl, trivial⟩) rfl rfl ?_
 rintro _ w19 ⟨rfl, e18⟩
 have H20 := H17.ext e18
 refine reg_op (op_call (gValuesAll g1 a2 h2 (V1) _ (R1.below H20.base)) rfl kfmerge1_4 ⟨rfl, rfl, trivial⟩) rfl rfl ?_
 rintro _ w22 ⟨A24, c25, rfl, k21⟩
 have H23 := H20.call k21
 refine ry (y_mov rfl rfl) rfl rfl ?_
 refine ry (y_ext rfl rfl rfl) rfl rfl ?_
 refine ry (y_ext rfl rfl rfl) rfl rfl ?_
 refine ry (y_asg rfl rfl) rfl rfl ?_
 refine ry (y_asg rfl rfl) rfl rfl ?_
 refine reg_nil ?_
 refine fn_next ?_
 refine cw_reg ?_
 refine ry (y_mov rfl rfl) rfl rfl ?_
 refine ry (y_mov rfl rfl) rfl rfl ?_
 refine reg_op (op_lit (parts := [(0, _)]) (vs := [(0, _)]) (cs := [.slice _ _ _]) H23 rfl Try.underlying140 kfmerge1_5 rfl ⟨rfl, trivial⟩ rfl rfl) rfl rfl ?_
 rintro _ w27 ⟨b26, rfl, H28⟩
 have H29 := H28.asrow (m := 1) (size := 1) rfl (by decide)
 refine reg_op (op_app (i := 2) H29 rfl rfl rfl rfl (H29.rd (i := 0) rfl) (rfl) (rfl) Try.underlying140 kfmerge1_6 rfl rfl (by unfold maxLen; omega) (by omega)) rfl rfl ?_
 rintro _ w32 ⟨A30, c31, rfl, H33⟩
 refine ry (y_asg rfl rfl) rfl rfl ?_
 refine reg_nil ?_
 refine fn_block ?_
 refine fn_next ?_
 refine cw_reg ?_
 refine ry (y_add rfl rfl rfl (wi (by omega))) rfl rfl ?_
 refine ry (y_mov rfl rfl) rfl rfl ?_
 refine reg_nil ?_
 refine fn_roundR ?_
 refine cw_seq ?_
 refine cw_reg ?_
 refine ry (y_lss rfl rfl rfl) rfl rfl ?_
 refine reg_nil ?_
 refine fn_next ?_
 refine cw_seq ?_
 refine cw_condt rfl ?_
 refine cw_skip ?_
 refine fn_next ?_
 refine cw_seq ?_
 refine cw_block ?_
 refine cw_seq ?_
 refine cw_reg ?_
 refine ry (y_iar (i := 2) (hr.below H33.base) rfl rfl rfl kfmerge1_1 (rfl) (by omega) (Nat.mul_one _) ((rfl : ([.pointer (some ⟨g0, 0, none⟩), .pointer (some ⟨g1, 0, none⟩), .pointer (some ⟨g2, 0, none⟩)] : List Value)[2]? = some _))) rfl rfl ?_
 refine ry (y_ldr (hr.below H33.base) rfl rfl kfmerge1_2 ((rfl : ([.pointer (some ⟨g0, 0, none⟩), .pointer (some ⟨g1, 0, none⟩), .pointer (some ⟨g2, 0, none⟩)] : List Value)[2]? = some _))) rfl rfl ?_
 refine ry (y_asg rfl rfl) rfl rfl ?_
 refine reg_nil ?_
 refine fn_next ?_
 refine cw_seq ?_
 refine cw_seq ?_
 refine cw_reg ?_
 refine ry (y_mov rfl rfl) rfl rfl ?_
 refine ry (y_peqlnil rfl Try.underlying28 rfl rfl) rfl rfl ?_
 refine reg_nil ?_
 refine fn_next ?_
 refine cw_condf rfl ?_
 refine cw_skip ?_
 refine fn_next ?_
 refine cw_seq ?_
 refine cw_reg ?_
 refine ry (y_mov rfl rfl) rfl rfl ?_
 refine ry (y_mov rfl rfl) rfl rfl ?_
 refine reg_op (op_call (gAll g2 a h (V2)  _ (R2.below H33.base)) rfl kfmerge1_3 ⟨rfl, trivial⟩) rfl rfl ?_
 rintro _ w35 ⟨rfl, e34⟩
 have H36 := H33.ext e34
 refine reg_op (op_call (gValuesAll g2 a h (V2) _ (R2.below H36.base)) rfl kfmerge1_4 ⟨rfl, rfl, trivial⟩) rfl rfl ?_
 rintro _ w38 ⟨A40, c41, rfl, k37⟩
 have H39 := H36.call k37
 refine ry (y_mov rfl rfl) rfl rfl ?_
 refine ry (y_ext rfl rfl rfl) rfl rfl ?_
 refine ry (y_ext rfl rfl rfl) rfl rfl ?_
 refine ry (y_asg rfl rfl) rfl rfl ?_
 refine ry (y_asg rfl rfl) rfl rfl ?_
 refine reg_nil ?_
 refine fn_next ?_
 refine cw_reg ?_
 refine ry (y_mov rfl rfl) rfl rfl ?_
 refine ry (y_mov rfl rfl) rfl rfl ?_
 refine reg_op (op_lit (parts := [(0, _)]) (vs := [(0, _)]) (cs := [.slice _ _ _]) H39 rfl Try.underlying140 kfmerge1_5 rfl ⟨rfl, trivial⟩ rfl rfl) rfl rfl ?_
 rintro _ w43 ⟨b42, rfl, H44⟩
 have H45 := H44.asrow (m := 1) (size := 1) rfl (by decide)
 refine reg_op (op_app (i := 4) H45 rfl rfl rfl rfl (H45.rd (i := 0) rfl) (rfl) (rfl) Try.underlying140 kfmerge1_6 rfl rfl (by unfold maxLen; omega) (by omega)) rfl rfl ?_
 rintro _ w48 ⟨A46, c47, rfl, H49⟩
 refine ry (y_asg rfl rfl) rfl rfl ?_
 refine reg_nil ?_
 refine fn_block ?_
 refine fn_next ?_
 refine cw_reg ?_
 refine ry (y_add rfl rfl rfl (wi (by omega))) rfl rfl ?_
 refine ry (y_mov rfl rfl) rfl rfl ?_
 refine reg_nil ?_
 refine fn_roundR ?_
 refine cw_seq ?_
 refine cw_reg ?_
 refine ry (y_lss rfl rfl rfl) rfl rfl ?_
 refine reg_nil ?_
 refine fn_next ?_
 refine cw_seq ?_
 refine cw_condf rfl ?_
 refine cw_exit ?_
 refine fn_then_exit (fn_then_exit (fn_block_exit ?_))
 refine fn_next ?_
 refine cw_seq ?_
 refine cw_seq ?_
 refine cw_reg ?_
 refine ry (y_mov rfl rfl) rfl rfl ?_
 refine ry (y_len rfl Try.underlying169 rfl) rfl rfl ?_
 refine ry (y_mov rfl rfl) rfl rfl ?_
 refine reg_nil ?_
 refine fn_next ?_
 refine cw_block ?_
 refine cw_loopR 3 ?_
 refine cw_seq ?_
 refine cw_reg ?_
 refine ry (y_lss rfl rfl rfl) rfl rfl ?_
 refine reg_nil ?_
 refine fn_next ?_
 refine cw_seq ?_
 refine cw_condt rfl ?_
 refine cw_skip ?_
 refine fn_next ?_
 refine cw_seq ?_
 refine cw_block ?_
 refine cw_seq ?_
 refine cw_reg ?_
 refine ry (y_iar (i := 0) (hr.below H49.base) rfl rfl rfl kfmerge1_1 (rfl) (by omega) (Nat.mul_one _) ((rfl : ([.pointer (some ⟨g0, 0, none⟩), .pointer (some ⟨g1, 0, none⟩), .pointer (some ⟨g2, 0, none⟩)] : List Value)[0]? = some _))) rfl rfl ?_
 refine ry (y_ldr (hr.below H49.base) rfl rfl kfmerge1_2 ((rfl : ([.pointer (some ⟨g0, 0, none⟩), .pointer (some ⟨g1, 0, none⟩), .pointer (some ⟨g2, 0, none⟩)] : List Value)[0]? = some _))) rfl rfl ?_
 refine ry (y_asg rfl rfl) rfl rfl ?_
 refine reg_nil ?_
 refine fn_next ?_
 refine cw_seq ?_
 refine cw_draw H49 [0, 1, 2, 3, 4, 5, 6] [] (fun X HX => HX) (by kernel_rfl) (by kernel_rfl) (by rfl) ?_
 simp only [pick, List.getElem?_cons_succ, List.getElem?_cons_zero]
 refine hk_y (fun Y HY => y_mov rfl rfl) rfl rfl ?_
 refine hk_q (qy_call (fun Y HY => gAll g0 a h (V0)  _ (R0.below HY.base)) rfl kfmerge1_3 ⟨rfl, trivial⟩) rfl rfl ?_
 refine hk_y (fun Y HY => y_mov rfl rfl) rfl rfl ?_
 refine hk_y (fun Y HY => y_iar (i := 0) (hr.below HY.base) rfl rfl rfl kfmerge1_1 (rfl) (by omega) (Nat.mul_one _) ((rfl : ([.pointer (some ⟨g0, 0, none⟩), .pointer (some ⟨g1, 0, none⟩), .pointer (some ⟨g2, 0, none⟩)] : List Value)[0]? = some _))) rfl rfl ?_
 refine hk_y (fun Y HY => y_ldr (hr.below HY.base) rfl rfl kfmerge1_2 ((rfl : ([.pointer (some ⟨g0, 0, none⟩), .pointer (some ⟨g1, 0, none⟩), .pointer (some ⟨g2, 0, none⟩)] : List Value)[0]? = some _))) rfl rfl ?_
 refine hk_q (qy_call (fun Y HY => gAll g0 a h (V0)  _ (R0.below HY.base)) rfl kfmerge1_3 ⟨rfl, trivial⟩) rfl rfl ?_
 refine hk_y (fun Y HY => yv (congrArg Value.bool (decide_eq_false (fun q => q rfl))) (y_seq (ks := [.i64, .i64, .i64, .i64]) (a := [0, 0, (a : Int) - 1, (h : Int) - 1]) (b := [0, 0, (a : Int) - 1, (h : Int) - 1]) rfl (.inr ⟨rfl, rfl⟩) kfmerge1_7 rfl rfl rfl rfl rfl rfl rfl)) rfl rfl ?_
 refine hk_nil ?_
 intro w50 H51
 refine tv_nil ?_
 refine fn_next ?_
 refine cw_condf rfl ?_
 refine cw_skip ?_
 refine fn_block ?_
 refine fn_next ?_
 refine cw_reg ?_
 refine ry (y_add rfl rfl rfl (wi (by omega))) rfl rfl ?_
 refine ry (y_mov rfl rfl) rfl rfl ?_
 refine reg_nil ?_
 refine fn_roundR ?_
 refine cw_seq ?_
 refine cw_reg ?_
 refine ry (y_lss rfl rfl rfl) rfl rfl ?_
 refine reg_nil ?_
 refine fn_next ?_
 refine cw_seq ?_
 refine cw_condt rfl ?_
 refine cw_skip ?_
 refine fn_next ?_
 refine cw_seq ?_
 refine cw_block ?_
 refine cw_seq ?_
 refine cw_reg ?_
 refine ry (y_iar (i := 1) (hr.below H51.base) rfl rfl rfl kfmerge1_1 (rfl) (by omega) (Nat.mul_one _) ((rfl : ([.pointer (some ⟨g0, 0, none⟩), .pointer (some ⟨g1, 0, none⟩), .pointer (some ⟨g2, 0, none⟩)] : List Value)[1]? = some _))) rfl rfl ?_
 refine ry (y_ldr (hr.below H51.base) rfl rfl kfmerge1_2 ((rfl : ([.pointer (some ⟨g0, 0, none⟩), .pointer (some ⟨g1, 0, none⟩), .pointer (some ⟨g2, 0, none⟩)] : List Value)[1]? = some _))) rfl rfl ?_
 refine ry (y_asg rfl rfl) rfl rfl ?_
 refine reg_nil ?_
 refine fn_next ?_
 refine cw_seq ?_
 refine cw_draw H51 [0, 1, 2, 3, 4, 5, 6] [] (fun X HX => HX) (by kernel_rfl) (by kernel_rfl) (by rfl) ?_
 simp only [pick, List.getElem?_cons_succ, List.getElem?_cons_zero]
 refine hk_y (fun Y HY => y_mov rfl rfl) rfl rfl ?_
 refine hk_q (qy_call (fun Y HY => gAll g1 a2 h2 (V1)  _ (R1.below HY.base)) rfl kfmerge1_3 ⟨rfl, trivial⟩) rfl rfl ?_
 refine hk_y (fun Y HY => y_mov rfl rfl) rfl rfl ?_
 refine hk_y (fun Y HY => y_iar (i := 0) (hr.below HY.base) rfl rfl rfl kfmerge1_1 (rfl) (by omega) (Nat.mul_one _) ((rfl : ([.pointer (some ⟨g0, 0, none⟩), .pointer (some ⟨g1, 0, none⟩), .pointer (some ⟨g2, 0, none⟩)] : List Value)[0]? = some _))) rfl rfl ?_
 refine hk_y (fun Y HY => y_ldr (hr.below HY.base) rfl rfl kfmerge1_2 ((rfl : ([.pointer (some ⟨g0, 0, none⟩), .pointer (some ⟨g1, 0, none⟩), .pointer (some ⟨g2, 0, none⟩)] : List Value)[0]? = some _))) rfl rfl ?_
 refine hk_q (qy_call (fun Y HY => gAll g0 a h (V0)  _ (R0.below HY.base)) rfl kfmerge1_3 ⟨rfl, trivial⟩) rfl rfl ?_
 refine hk_y (fun Y HY => y_seq (ks := [.i64, .i64, .i64, .i64]) (a := [0, 0, (a2 : Int) - 1, (h2 : Int) - 1]) (b := [0, 0, (a : Int) - 1, (h : Int) - 1]) rfl (.inr ⟨rfl, rfl⟩) kfmerge1_7 rfl rfl rfl rfl rfl rfl rfl) rfl rfl ?_
 refine hk_nil ?_
 intro w52 H53
 refine tv_nil ?_
 refine fn_next ?_
 refine cw_condd rfl (fun h54 => ?_) (fun h54 => ?_)
 ·skip
  refine cw_seq ?_
  refine cw_reg ?_
  refine ry (y_asg rfl rfl) rfl rfl ?_
  refine ry (y_asg rfl rfl) rfl rfl ?_
  refine reg_nil ?_
  refine fn_next ?_
  refine cw_ret ?_
  refine fn_block_ret (fn_then_ret (fn_then_ret (fn_block_ret (fn_then_ret ?_))))
  refine fn_retn (vs := [_, _]) rfl ⟨rfl, rfl, trivial⟩ rfl ?_
  exact ⟨rfl, H53.base⟩
 · exact absurd (h54) (fun q => hne (by simp at q; omega))

set_option maxRecDepth 100000 in
theorem three_s3 (a a2 h h2 : Nat) (g0 : Nat) (V0 : List Int) (g1 : Nat) (V1 : List Int) (g2 : Nat) (V2 : List Int) (A : Option Addr) (cap : Nat) (w : World) (R0 : GRd w g0 a h V0) (R1 : GRd w g1 a h V1) (R2 : GRd w g2 a2 h2 V2) (hr : Rd w A [.pointer (some ⟨g0, 0, none⟩), .pointer (some ⟨g1, 0, none⟩), .pointer (some ⟨g2, 0, none⟩)]) (hne : ¬ (a2 = a ∧ h2 = h)) :
    Ret Try.prog 98 [.slice A 3 cap] w (fun z w' => z = .tuple #[.slice none 0 0, .int .i64 3] ∧ Below w.heap.size w w') := by
 refine ret_enter Try.func98 rfl rfl rfl ?_
 have H0 := HS.start w
 refine cw_seq ?_
 refine cw_reg ?_
 refine ry (y_asg rfl rfl) rfl rfl ?_
 refine ry (y_asg rfl rfl) rfl rfl ?_
 refine reg_nil ?_
 refine fn_next ?_
 refine cw_seq ?_
 refine cw_reg ?_
 refine ry (y_asg rfl rfl) rfl rfl ?_
 refine reg_nil ?_
 refine fn_next ?_
 refine cw_seq ?_
 refine cw_seq ?_
 refine cw_reg ?_
 refine ry (y_mov rfl rfl) rfl rfl ?_
 refine ry (y_len rfl Try.underlying169 rfl) rfl rfl ?_
 refine ry (y_mov rfl rfl) rfl rfl ?_
 refine reg_nil ?_
 refine fn_next ?_
 refine cw_block ?_
 refine cw_loopR 3 ?_
 refine cw_seq ?_
 refine cw_reg ?_
 refine ry (y_lss rfl rfl rfl) rfl rfl ?_
 refine reg_nil ?_
 refine fn_next ?_
 refine cw_seq ?_
 refine cw_condt rfl ?_
 refine cw_skip ?_
 refine fn_next ?_
 refine cw_seq ?_
 refine cw_block ?_
 refine cw_seq ?_
 refine cw_reg ?_
 refine ry (y_iar (i := 0) (hr.below H0.base) rfl rfl rfl kfmerge1_1 (rfl) (by omega) (Nat.mul_one _) ((rfl : ([.pointer (some ⟨g0, 0, none⟩), .pointer (some ⟨g1, 0, none⟩), .pointer (some ⟨g2, 0, none⟩)] : List Value)[0]? = some _))) rfl rfl ?_
 refine ry (y_ldr (hr.below H0.base) rfl rfl kfmerge1_2 ((rfl : ([.pointer (some ⟨g0, 0, none⟩), .pointer (some ⟨g1, 0, none⟩), .pointer (some ⟨g2, 0, none⟩)] : List Value)[0]? = some _))) rfl rfl ?_
 refine ry (y_asg rfl rfl) rfl rfl ?_
 refine reg_nil ?_
 refine fn_next ?_
 refine cw_seq ?_
 refine cw_seq ?_
 refine cw_reg ?_
 refine ry (y_mov rfl rfl) rfl rfl ?_
 refine ry (y_peqlnil rfl Try.underlying28 rfl rfl) rfl rfl ?_
 refine reg_nil ?_
 refine fn_next ?_
 refine cw_condf rfl ?_
 refine cw_skip ?_
 refine fn_next ?_
 refine cw_seq ?_
 refine cw_reg ?_
 refine ry (y_mov rfl rfl) rfl rfl ?_
 refine ry (y_mov rfl rfl) rfl rfl ?_
 refine reg_op (op_call (gAll g0 a h (V0)  _ (R0.below H0.base)) rfl kfmerge1_3 ⟨rfl, trivial⟩) rfl rfl ?_
 rintro _ w2 ⟨rfl, e1⟩
 have H3 := H0.ext e1
 refine reg_op (op_call (gValuesAll g0 a h (V0) _ (R0.below H3.base)) rfl kfmerge1_4 ⟨rfl, rfl, trivial⟩) rfl rfl ?_
 rintro _ w5 ⟨A7, c8, rfl, k4⟩
 have H6 := H3.call k4
 refine ry (y_mov rfl rfl) rfl rfl ?_
 refine ry (y_ext rfl rfl rfl) rfl rfl ?_
 refine ry (y_ext rfl rfl rfl) rfl rfl ?_
 refine ry (y_asg rfl rfl) rfl rfl ?_
 refine ry (y_asg rfl rfl) rfl rfl ?_
 refine reg_nil ?_
 refine fn_next ?_
 refine cw_reg ?_
 refine ry (y_mov rfl rfl) rfl rfl ?_
 refine ry (y_mov rfl rfl) rfl rfl ?_
 refine reg_op (op_lit (parts := [(0, _)]) (vs := [(0, _)]) (cs := [.slice _ _ _]) H6 rfl Try.underlying140 kfmerge1_5 rfl ⟨rfl, trivial⟩ rfl rfl) rfl rfl ?_
 rintro _ w10 ⟨b9, rfl, H11⟩
 have H12 := H11.asrow (m := 1) (size := 1) rfl (by decide)
 have H13 := H12.nilrow 22 1
 refine reg_op (op_app (i := 0) H13 rfl rfl rfl rfl (H13.rd (i := 1) rfl) (rfl) (rfl) Try.underlying140 kfmerge1_6 rfl rfl (by unfold maxLen; omega) (by omega)) rfl rfl ?_
 rintro _ w16 ⟨A14, c15, rfl, H17⟩
 refine ry (y_asg rfl rfl) rfl rfl ?_
 refine reg_nil ?_
 refine fn_block ?_
 refine fn_next ?_
 refine cw_reg ?_
 refine ry (y_add rfl rfl rfl (wi (by omega))) rfl rfl ?_
 refine ry (y_mov rfl rfl) rfl rfl ?_
 refine reg_nil ?_
 refine fn_roundR ?_
 refine cw_seq ?_
 refine cw_reg ?_
 refine ry (y_lss rfl rfl rfl) rfl rfl ?_
 refine reg_nil ?_
 refine fn_next ?_
 refine cw_seq ?_
 refine cw_condt rfl ?_
 refine cw_skip ?_
 refine fn_next ?_
 refine cw_seq ?_
 refine cw_block ?_
 refine cw_seq ?_
 refine cw_reg ?_
 refine ry (y_iar (i := 1) (hr.below H17.base) rfl rfl rfl kfmerge1_1 (rfl) (by omega) (Nat.mul_one _) ((rfl : ([.pointer (some ⟨g0, 0, none⟩), .pointer (some ⟨g1, 0, none⟩), .pointer (some ⟨g2, 0, none⟩)] : List Value)[1]? = some _))) rfl rfl ?_
 refine ry (y_ldr (hr.below H17.base) rfl rfl kfmerge1_2 ((rfl : ([.pointer (some ⟨g0, 0, none⟩), .pointer (some ⟨g1, 0, none⟩), .pointer (some ⟨g2, 0, none⟩)] : List Value)[1]? = some _))) rfl rfl ?_
 refine ry (y_asg rfl rfl) rfl rfl ?_
 refine reg_nil ?_
 refine fn_next ?_
 refine cw_seq ?_
 refine cw_seq ?_
 refine cw_reg ?_
 refine ry (y_mov rfl rfl) rfl rfl ?_
 refine ry (y_peqlnil rfl Try.underlying28 rfl rfl) rfl rfl ?_
 refine reg_nil ?_
 refine fn_next ?_
 refine cw_condf rfl ?_
 refine cw_skip ?_
 refine fn_next ?_
 refine cw_seq ?_
 refine cw_reg ?_
 refine ry (y_mov rfl rfl) rfl rfl ?_
 refine ry (y_mov rfl rfl) rfl rfl ?_
 refine reg_op (op_call (gAll g1 a h (V1)  _ (R1.below H17.base)) rfl kfmerge1_3 ⟨rfl, trivial⟩) rfl rfl ?_
 rintro _ w19 ⟨rfl, e18⟩
 have H20 := H17.ext e18
 refine reg_op (op_call (gValuesAll g1 a h (V1) _ (R1.below H20.base)) rfl kfmerge1_4 ⟨rfl, rfl, trivial⟩) rfl rfl ?_
 rintro _ w22 ⟨A24, c25, rfl, k21⟩
 have H23 := H20.call k21
 refine ry (y_mov rfl rfl) rfl rfl ?_
 refine ry (y_ext rfl rfl rfl) rfl rfl ?_
 refine ry (y_ext rfl rfl rfl) rfl rfl ?_
 refine ry (y_asg rfl rfl) rfl rfl ?_
 refine ry (y_asg rfl rfl) rfl rfl ?_
 refine reg_nil ?_
 refine fn_next ?_
 refine cw_reg ?_
 refine ry (y_mov rfl rfl) rfl rfl ?_
 refine ry (y_mov rfl rfl) rfl rfl ?_
 refine reg_op (op_lit (parts := [(0, _)]) (vs := [(0, _)]) (cs := [.slice _ _ _]) H23 rfl Try.underlying140 kfmerge1_5 rfl ⟨rfl, trivial⟩ rfl rfl) rfl rfl ?_
 rintro _ w27 ⟨b26, rfl, H28⟩
 have H29 := H28.asrow (m := 1) (size := 1) rfl (by decide)
 refine reg_op (op_app (i := 2) H29 rfl rfl rfl rfl (H29.rd (i := 0) rfl) (rfl) (rfl) Try.underlying140 kfmerge1_6 rfl rfl (by unfold maxLen; omega) (by omega)) rfl rfl ?_
 rintro _ w32 ⟨A30, c31, rfl, H33⟩
 refine ry (y_asg rfl rfl) rfl rfl ?_
 refine reg_nil ?_
 refine fn_block ?_
 refine fn_next ?_
 refine cw_reg ?_
 refine ry (y_add rfl rfl rfl (wi (by omega))) rfl rfl ?_
 refine ry (y_mov rfl rfl) rfl rfl ?_
 refine reg_nil ?_
 refine fn_roundR ?_
 refine cw_seq ?_
 refine cw_reg ?_
 refine ry (y_lss rfl rfl rfl) rfl rfl ?_
 refine reg_nil ?_
 refine fn_next ?_
 refine cw_seq ?_
 refine cw_condt rfl ?_
 refine cw_skip ?_
 refine fn_next ?_
 refine cw_seq ?_
 refine cw_block ?_
 refine cw_seq ?_
 refine cw_reg ?_
 refine ry (y_iar (i := 2) (hr.below H33.base) rfl rfl rfl kfmerge1_1 (rfl) (by omega) (Nat.mul_one _) ((rfl : ([.pointer (some ⟨g0, 0, none⟩), .pointer (some ⟨g1, 0, none⟩), .pointer (some ⟨g2, 0, none⟩)] : List Value)[2]? = some _))) rfl rfl ?_
 refine ry (y_ldr (hr.below H33.base) rfl rfl kfmerge1_2 ((rfl : ([.pointer (some ⟨g0, 0, none⟩), .pointer (some ⟨g1, 0, none⟩), .pointer (some ⟨g2, 0, none⟩)] : List Value)[2]? = some _))) rfl rfl ?_
 refine ry (y_asg rfl rfl) rfl rfl ?_
 refine reg_nil ?_
 refine fn_next ?_
 refine cw_seq ?_
 refine cw_seq ?_
 refine cw_reg ?_
 refine ry (y_mov rfl rfl) rfl rfl ?_
 refine ry (y_peqlnil rfl Try.underlying28 rfl rfl) rfl rfl ?_
 refine reg_nil ?_
 refine fn_next ?_
 refine cw_condf rfl ?_
 refine cw_skip ?_
 refine fn_next ?_
 refine cw_seq ?_
 refine cw_reg ?_
 refine ry (y_mov rfl rfl) rfl rfl ?_
 refine ry (y_mov rfl rfl) rfl rfl ?_
 refine reg_op (op_call (gAll g2 a2 h2 (V2)  _ (R2.below H33.base)) rfl kfmerge1_3 ⟨rfl, trivial⟩) rfl rfl ?_
 rintro _ w35 ⟨rfl, e34⟩
 have H36 := H33.ext e34
 refine reg_op (op_call (gValuesAll g2 a2 h2 (V2) _ (R2.below H36.base)) rfl kfmerge1_4 ⟨rfl, rfl, trivial⟩) rfl rfl ?_
 rintro _ w38 ⟨A40, c41, rfl, k37⟩
 have H39 := H36.call k37
 refine ry (y_mov rfl rfl) rfl rfl ?_
 refine ry (y_ext rfl rfl rfl) rfl rfl ?_
 refine ry (y_ext rfl rfl rfl) rfl rfl ?_
 refine ry (y_asg rfl rfl) rfl rfl ?_
 refine ry (y_asg rfl rfl) rfl rfl ?_
 refine reg_nil ?_
 refine fn_next ?_
 refine cw_reg ?_
 refine ry (y_mov rfl rfl) rfl rfl ?_
 refine ry (y_mov rfl rfl) rfl rfl ?_
 refine reg_op (op_lit (parts := [(0, _)]) (vs := [(0, _)]) (cs := [.slice _ _ _]) H39 rfl Try.underlying140 kfmerge1_5 rfl ⟨rfl, trivial⟩ rfl rfl) rfl rfl ?_
 rintro _ w43 ⟨b42, rfl, H44⟩
 have H45 := H44.asrow (m := 1) (size := 1) rfl (by decide)
 refine reg_op (op_app (i := 4) H45 rfl rfl rfl rfl (H45.rd (i := 0) rfl) (rfl) (rfl) Try.underlying140 kfmerge1_6 rfl rfl (by unfold maxLen; omega) (by omega)) rfl rfl ?_
 rintro _ w48 ⟨A46, c47, rfl, H49⟩
 refine ry (y_asg rfl rfl) rfl rfl ?_
 refine reg_nil ?_
 refine fn_block ?_
 refine fn_next ?_
 refine cw_reg ?_
 refine ry (y_add rfl rfl rfl (wi (by omega))) rfl rfl ?_
 refine ry (y_mov rfl rfl) rfl rfl ?_
 refine reg_nil ?_
 refine fn_roundR ?_
 refine cw_seq ?_
 refine cw_reg ?_
 refine ry (y_lss rfl rfl rfl) rfl rfl ?_
 refine reg_nil ?_
 refine fn_next ?_
 refine cw_seq ?_
 refine cw_condf rfl ?_
 refine cw_exit ?_
 refine fn_then_exit (fn_then_exit (fn_block_exit ?_))
 refine fn_next ?_
 refine cw_seq ?_
 refine cw_seq ?_
 refine cw_reg ?_
 refine ry (y_mov rfl rfl) rfl rfl ?_
 refine ry (y_len rfl Try.underlying169 rfl) rfl rfl ?_
 refine ry (y_mov rfl rfl) rfl rfl ?_
 refine reg_nil ?_
 refine fn_next ?_
 refine cw_block ?_
 refine cw_loopR 3 ?_
 refine cw_seq ?_
 refine cw_reg ?_
 refine ry (y_lss rfl rfl rfl) rfl rfl ?_
 refine reg_nil ?_
 refine fn_next ?_
 refine cw_seq ?_
 refine cw_condt rfl ?_
 refine cw_skip ?_
 refine fn_next ?_
 refine cw_seq ?_
 refine cw_block ?_
 refine cw_seq ?_
 refine cw_reg ?_
 refine ry (y_iar (i := 0) (hr.below H49.base) rfl rfl rfl kfmerge1_1 (rfl) (by omega) (Nat.mul_one _) ((rfl : ([.pointer (some ⟨g0, 0, none⟩), .pointer (some ⟨g1, 0, none⟩), .pointer (some ⟨g2, 0, none⟩)] : List Value)[0]? = some _))) rfl rfl ?_
 refine ry (y_ldr (hr.below H49.base) rfl rfl kfmerge1_2 ((rfl : ([.pointer (some ⟨g0, 0, none⟩), .pointer (some ⟨g1, 0, none⟩), .pointer (some ⟨g2, 0, none⟩)] : List Value)[0]? = some _))) rfl rfl ?_
 refine ry (y_asg rfl rfl) rfl rfl ?_
 refine reg_nil ?_
 refine fn_next ?_
 refine cw_seq ?_
 refine cw_draw H49 [0, 1, 2, 3, 4, 5, 6] [] (fun X HX => HX) (by kernel_rfl) (by kernel_rfl) (by rfl) ?_
 simp only [pick, List.getElem?_cons_succ, List.getElem?_cons_zero]
 refine hk_y (fun Y HY => y_mov rfl rfl) rfl rfl ?_
 refine hk_q (qy_call (fun Y HY => gAll g0 a h (V0)  _ (R0.below HY.base)) rfl kfmerge1_3 ⟨rfl, trivial⟩) rfl rfl ?_
 refine hk_y (fun Y HY => y_mov rfl rfl) rfl rfl ?_
 refine hk_y (fun Y HY => y_iar (i := 0) (hr.below HY.base) rfl rfl rfl kfmerge1_1 (rfl) (by omega) (Nat.mul_one _) ((rfl : ([.pointer (some ⟨g0, 0, none⟩), .pointer (some ⟨g1, 0, none⟩), .pointer (some ⟨g2, 0, none⟩)] : List Value)[0]? = some _))) rfl rfl ?_
 refine hk_y (fun Y HY => y_ldr (hr.below HY.base) rfl rfl kfmerge1_2 ((rfl : ([.pointer (some ⟨g0, 0, none⟩), .pointer (some ⟨g1, 0, none⟩), .pointer (some ⟨g2, 0, none⟩)] : List Value)[0]? = some _))) rfl rfl ?_
 refine hk_q (qy_call (fun Y HY => gAll g0 a h (V0)  _ (R0.below HY.base)) rfl kfmerge1_3 ⟨rfl, trivial⟩) rfl rfl ?_
 refine hk_y (fun Y HY => yv (congrArg Value.bool (decide_eq_false (fun q => q rfl))) (y_seq (ks := [.i64, .i64, .i64, .i64]) (a := [0, 0, (a : Int) - 1, (h : Int) - 1]) (b := [0, 0, (a : Int) - 1, (h : Int) - 1]) rfl (.inr ⟨rfl, rfl⟩) kfmerge1_7 rfl rfl rfl rfl rfl rfl rfl)) rfl rfl ?_
 refine hk_nil ?_
 intro w50 H51
 refine tv_nil ?_
 refine fn_next ?_
 refine cw_condf rfl ?_
 refine cw_skip ?_
 refine fn_block ?_
 refine fn_next ?_
 refine cw_reg ?_
 refine ry (y_add rfl rfl rfl (wi (by omega))) rfl rfl ?_
 refine ry (y_mov rfl rfl) rfl rfl ?_
 refine reg_nil ?_
 refine fn_roundR ?_
 refine cw_seq ?_
 refine cw_reg ?_
 refine ry (y_lss rfl rfl rfl) rfl rfl ?_
 refine reg_nil ?_
 refine fn_next ?_
 refine cw_seq ?_
 refine cw_condt rfl ?_
 refine cw_skip ?_
 refine fn_next ?_
 refine cw_seq ?_
 refine cw_block ?_
 refine cw_seq ?_
 refine cw_reg ?_
 refine ry (y_iar (i := 1) (hr.below H51.base) rfl rfl rfl kfmerge1_1 (rfl) (by omega) (Nat.mul_one _) ((rfl : ([.pointer (some ⟨g0, 0, none⟩), .pointer (some ⟨g1, 0, none⟩), .pointer (some ⟨g2, 0, none⟩)] : List Value)[1]? = some _))) rfl rfl ?_
 refine ry (y_ldr (hr.below H51.base) rfl rfl kfmerge1_2 ((rfl : ([.pointer (some ⟨g0, 0, none⟩), .pointer (some ⟨g1, 0, none⟩), .pointer (some ⟨g2, 0, none⟩)] : List Value)[1]? = some _))) rfl rfl ?_
 refine ry (y_asg rfl rfl) rfl rfl ?_
 refine reg_nil ?_
 refine fn_next ?_
 refine cw_seq ?_
 refine cw_draw H51 [0, 1, 2, 3, 4, 5, 6] [] (fun X HX => HX) (by kernel_rfl) (by kernel_rfl) (by rfl) ?_
 simp only [pick, List.getElem?_cons_succ, List.getElem?_cons_zero]
 refine hk_y (fun Y HY => y_mov rfl rfl) rfl rfl ?_
 refine hk_q (qy_call (fun Y HY => gAll g1 a h (V1)  _ (R1.below HY.base)) rfl kfmerge1_3 ⟨rfl, trivial⟩) rfl rfl ?_
 refine hk_y (fun Y HY => y_mov rfl rfl) rfl rfl ?_
 refine hk_y (fun Y HY => y_iar (i := 0) (hr.below HY.base) rfl rfl rfl kfmerge1_1 (rfl) (by omega) (Nat.mul_one _) ((rfl : ([.pointer (some ⟨g0, 0, none⟩), .pointer (some ⟨g1, 0, none⟩), .pointer (some ⟨g2, 0, none⟩)] : List Value)[0]? = some _))) rfl rfl ?_
 refine hk_y (fun Y HY => y_ldr (hr.below HY.base) rfl rfl kfmerge1_2 ((rfl : ([.pointer (some ⟨g0, 0, none⟩), .pointer (some ⟨g1, 0, none⟩), .pointer (some ⟨g2, 0, none⟩)] : List Value)[0]? = some _))) rfl rfl ?_
 refine hk_q (qy_call (fun Y HY => gAll g0 a h (V0)  _ (R0.below HY.base)) rfl kfmerge1_3 ⟨rfl, trivial⟩) rfl rfl ?_
 refine hk_y (fun Y HY => yv (congrArg Value.bool (decide_eq_false (fun q => q rfl))) (y_seq (ks := [.i64, .i64, .i64, .i64]) (a := [0, 0, (a : Int) - 1, (h : Int) - 1]) (b := [0, 0, (a : Int) - 1, (h : Int) - 1]) rfl (.inr ⟨rfl, rfl⟩) kfmerge1_7 rfl rfl rfl rfl rfl rfl rfl)) rfl rfl ?_
 refine hk_nil ?_
 intro w52 H53
 refine tv_nil ?_
 refine fn_next ?_
 refine cw_condf rfl ?_
 refine cw_skip ?_
 refine fn_block ?_
 refine fn_next ?_
 refine cw_reg ?_
 refine ry (y_add rfl rfl rfl (wi (by omega))) rfl rfl ?_
 refine ry (y_mov rfl rfl) rfl rfl ?_
 refine reg_nil ?_
 refine fn_roundR ?_
 refine cw_seq ?_
 refine cw_reg ?_
 refine ry (y_lss rfl rfl rfl) rfl rfl ?_
 refine reg_nil ?_
 refine fn_next ?_
 refine cw_seq ?_
 refine cw_condt rfl ?_
 refine cw_skip ?_
 refine fn_next ?_
 refine cw_seq ?_
 refine cw_block ?_
 refine cw_seq ?_
 refine cw_reg ?_
 refine ry (y_iar (i := 2) (hr.below H53.base) rfl rfl rfl kfmerge1_1 (rfl) (by omega) (Nat.mul_one _) ((rfl : ([.pointer (some ⟨g0, 0, none⟩), .pointer (some ⟨g1, 0, none⟩), .pointer (some ⟨g2, 0, none⟩)] : List Value)[2]? = some _))) rfl rfl ?_
 refine ry (y_ldr (hr.below H53.base) rfl rfl kfmerge1_2 ((rfl : ([.pointer (some ⟨g0, 0, none⟩), .pointer (some ⟨g1, 0, none⟩), .pointer (some ⟨g2, 0, none⟩)] : List Value)[2]? = some _))) rfl rfl ?_
 refine ry (y_asg rfl rfl) rfl rfl ?_
 refine reg_nil ?_
 refine fn_next ?_
 refine cw_seq ?_
 refine cw_draw H53 [0, 1, 2, 3, 4, 5, 6] [] (fun X HX => HX) (by kernel_rfl) (by kernel_rfl) (by rfl) ?_
 simp only [pick, List.getElem?_cons_succ, List.getElem?_cons_zero]
 refine hk_y (fun Y HY => y_mov rfl rfl) rfl rfl ?_
 refine hk_q (qy_call (fun Y HY => gAll g2 a2 h2 (V2)  _ (R2.below HY.base)) rfl kfmerge1_3 ⟨rfl, trivial⟩) rfl rfl ?_
 refine hk_y (fun Y HY => y_mov rfl rfl) rfl rfl ?_
 refine hk_y (fun Y HY => y_iar (i := 0) (hr.below HY.base) rfl rfl rfl kfmerge1_1 (rfl) (by omega) (Nat.mul_one _) ((rfl : ([.pointer (some ⟨g0, 0, none⟩), .pointer (some ⟨g1, 0, none⟩), .pointer (some ⟨g2, 0, none⟩)] : List Value)[0]? = some _))) rfl rfl ?_
 refine hk_y (fun Y HY => y_ldr (hr.below HY.base) rfl rfl kfmerge1_2 ((rfl : ([.pointer (some ⟨g0, 0, none⟩), .pointer (some ⟨g1, 0, none⟩), .pointer (some ⟨g2, 0, none⟩)] : List Value)[0]? = some _))) rfl rfl ?_
 refine hk_q (qy_call (fun Y HY => gAll g0 a h (V0)  _ (R0.below HY.base)) rfl kfmerge1_3 ⟨rfl, trivial⟩) rfl rfl ?_
 refine hk_y (fun Y HY => y_seq (ks := [.i64, .i64, .i64, .i64]) (a := [0, 0, (a2 : Int) - 1, (h2 : Int) - 1]) (b := [0, 0, (a : Int) - 1, (h : Int) - 1]) rfl (.inr ⟨rfl, rfl⟩) kfmerge1_7 rfl rfl rfl rfl rfl rfl rfl) rfl rfl ?_
 refine hk_nil ?_
 intro w54 H55
 refine tv_nil ?_
 refine fn_next ?_
 refine cw_condd rfl (fun h56 => ?_) (fun h56 => ?_)
 ·skip
  refine cw_seq ?_
  refine cw_reg ?_
  refine ry (y_asg rfl rfl) rfl rfl ?_
  refine ry (y_asg rfl rfl) rfl rfl ?_
  refine reg_nil ?_
  refine fn_next ?_
  refine cw_ret ?_
  refine fn_block_ret (fn_then_ret (fn_then_ret (fn_block_ret (fn_then_ret ?_))))
  refine fn_retn (vs := [_, _]) rfl ⟨rfl, rfl, trivial⟩ rfl ?_
  exact ⟨rfl, H55.base⟩
 · exact absurd (h56) (fun q => hne (by simp at q; omega))

set_option maxRecDepth 100000 in
theorem three_n0 (a1 a2 h1 h2 : Nat) (g1 : Nat) (V1 : List Int) (g2 : Nat) (V2 : List Int) (A : Option Addr) (cap : Nat) (w : World) (R1 : GRd w g1 a1 h1 V1) (R2 : GRd w g2 a2 h2 V2) (hr : Rd w A [.pointer none, .pointer (some ⟨g1, 0, none⟩), .pointer (some ⟨g2, 0, none⟩)]) :
    Ret Try.prog 98 [.slice A 3 cap] w (fun z w' => z = .tuple #[.slice none 0 0, .int .i64 1] ∧ Below w.heap.size w w') := by
 refine ret_enter Try.func98 rfl rfl rfl ?_
 have H0 := HS.start w
 refine cw_seq ?_
 refine cw_reg ?_
 refine ry (y_asg rfl rfl) rfl rfl ?_
 refine ry (y_asg rfl rfl) rfl rfl ?_
 refine reg_nil ?_
 refine fn_next ?_
 refine cw_seq ?_
 refine cw_reg ?_
 refine ry (y_asg rfl rfl) rfl rfl ?_
 refine reg_nil ?_
 refine fn_next ?_
 refine cw_seq ?_
 refine cw_seq ?_
 refine cw_reg ?_
 refine ry (y_mov rfl rfl) rfl rfl ?_
 refine ry (y_len rfl Try.underlying169 rfl) rfl rfl ?_
 refine ry (y_mov rfl rfl) rfl rfl ?_
 refine reg_nil ?_
 refine fn_next ?_
 refine cw_block ?_
 refine cw_loopR 3 ?_
 refine cw_seq ?_
 refine cw_reg ?_
 refine ry (y_lss rfl rfl rfl) rfl rfl ?_
 refine reg_nil ?_
 refine fn_next ?_
 refine cw_seq ?_
 refine cw_condt rfl ?_
 refine cw_skip ?_
 refine fn_next ?_
 refine cw_seq ?_
 refine cw_block ?_
 refine cw_seq ?_
 refine cw_reg ?_
 refine ry (y_iar (i := 0) (hr.below H0.base) rfl rfl rfl kfmerge1_1 (rfl) (by omega) (Nat.mul_one _) ((rfl : ([.pointer none, .pointer (some ⟨g1, 0, none⟩), .pointer (some ⟨g2, 0, none⟩)] : List Value)[0]? = some _))) rfl rfl ?_
 refine ry (y_ldr (hr.below H0.base) rfl rfl kfmerge1_2 ((rfl : ([.pointer none, .pointer (some ⟨g1, 0, none⟩), .pointer (some ⟨g2, 0, none⟩)] : List Value)[0]? = some _))) rfl rfl ?_
 refine ry (y_asg rfl rfl) rfl rfl ?_
 refine reg_nil ?_
 refine fn_next ?_
 refine cw_seq ?_
 refine cw_seq ?_
 refine cw_reg ?_
 refine ry (y_mov rfl rfl) rfl rfl ?_
 refine ry (y_peqlnil rfl Try.underlying28 rfl rfl) rfl rfl ?_
 refine reg_nil ?_
 refine fn_next ?_
 refine cw_condt rfl ?_
 refine cw_seq ?_
 refine cw_reg ?_
 refine ry (y_asg rfl rfl) rfl rfl ?_
 refine ry (y_asg rfl rfl) rfl rfl ?_
 refine reg_nil ?_
 refine fn_next ?_
 refine cw_ret ?_
 refine fn_then_ret (fn_block_ret (fn_then_ret (fn_then_ret (fn_block_ret (fn_then_ret ?_)))))
 refine fn_retn (vs := [_, _]) rfl ⟨rfl, rfl, trivial⟩ rfl ?_
 exact ⟨rfl, H0.base⟩

set_option maxRecDepth 100000 in
theorem three_n1 (a a2 h h2 : Nat) (g0 : Nat) (V0 : List Int) (g2 : Nat) (V2 : List Int) (A : Option Addr) (cap : Nat) (w : World) (R0 : GRd w g0 a h V0) (R2 : GRd w g2 a2 h2 V2) (hr : Rd w A [.pointer (some ⟨g0, 0, none⟩), .pointer none, .pointer (some ⟨g2, 0, none⟩)]) :
    Ret Try.prog 98 [.slice A 3 cap] w (fun z w' => z = .tuple #[.slice none 0 0, .int .i64 1] ∧ Below w.heap.size w w') := by
 refine ret_enter Try.func98 rfl rfl rfl ?_
 have H0 := HS.start w
 refine cw_seq ?_
 refine cw_reg ?_
 refine ry (y_asg rfl rfl) rfl rfl ?_
 refine ry (y_asg rfl rfl) rfl rfl ?_
 refine reg_nil ?_
 refine fn_next ?_
 refine cw_seq ?_
 refine cw_reg ?_
 refine ry (y_asg rfl rfl) rfl rfl ?_
 refine reg_nil ?_
 refine fn_next ?_
 refine cw_seq ?_
 refine cw_seq ?_
 refine cw_reg ?_
 refine ry (y_mov rfl rfl) rfl rfl ?_
 refine ry (y_len rfl Try.underlying169 rfl) rfl rfl ?_
 refine ry (y_mov rfl rfl) rfl rfl ?_
 refine reg_nil ?_
 refine fn_next ?_
 refine cw_block ?_
 refine cw_loopR 3 ?_
 refine cw_seq ?_
 refine cw_reg ?_
 refine ry (y_lss rfl rfl rfl) rfl rfl ?_
 refine reg_nil ?_
 refine fn_next ?_
 refine cw_seq ?_
 refine cw_condt rfl ?_
 refine cw_skip ?_
 refine fn_next ?_
 refine cw_seq ?_
 refine cw_block ?_
 refine cw_seq ?_
 refine cw_reg ?_
 refine ry (y_iar (i := 0) (hr.below H0.base) rfl rfl rfl kfmerge1_1 (rfl) (by omega) (Nat.mul_one _) ((rfl : ([.pointer (some ⟨g0, 0, none⟩), .pointer none, .pointer (some ⟨g2, 0, none⟩)] : List Value)[0]? = some _))) rfl rfl ?_
 refine ry (y_ldr (hr.below H0.base) rfl rfl kfmerge1_2 ((rfl : ([.pointer (some ⟨g0, 0, none⟩), .pointer none, .pointer (some ⟨g2, 0, none⟩)] : List Value)[0]? = some _))) rfl rfl ?_
 refine ry (y_asg rfl rfl) rfl rfl ?_
 refine reg_nil ?_
 refine fn_next ?_
 refine cw_seq ?_
 refine cw_seq ?_
 refine cw_reg ?_
 refine ry (y_mov rfl rfl) rfl rfl ?_
 refine ry (y_peqlnil rfl Try.underlying28 rfl rfl) rfl rfl ?_
 refine reg_nil ?_
 refine fn_next ?_
 refine cw_condf rfl ?_
 refine cw_skip ?_
 refine fn_next ?_
 refine cw_seq ?_
 refine cw_reg ?_
 refine ry (y_mov rfl rfl) rfl rfl ?_
 refine ry (y_mov rfl rfl) rfl rfl ?_
 refine reg_op (op_call (gAll g0 a h (V0)  _ (R0.below H0.base)) rfl kfmerge1_3 ⟨rfl, trivial⟩) rfl rfl ?_
 rintro _ w2 ⟨rfl, e1⟩
 have H3 := H0.ext e1
 refine reg_op (op_call (gValuesAll g0 a h (V0) _ (R0.below H3.base)) rfl kfmerge1_4 ⟨rfl, rfl, trivial⟩) rfl rfl ?_
 rintro _ w5 ⟨A7, c8, rfl, k4⟩
 have H6 := H3.call k4
 refine ry (y_mov rfl rfl) rfl rfl ?_
 refine ry (y_ext rfl rfl rfl) rfl rfl ?_
 refine ry (y_ext rfl rfl rfl) rfl rfl ?_
 refine ry (y_asg rfl rfl) rfl rfl ?_
 refine ry (y_asg rfl rfl) rfl rfl ?_
 refine reg_nil ?_
 refine fn_next ?_
 refine cw_reg ?_
 refine ry (y_mov rfl rfl) rfl rfl ?_
 refine ry (y_mov rfl rfl) rfl rfl ?_
 refine reg_op (op_lit (parts := [(0, _)]) (vs := [(0, _)]) (cs := [.slice _ _ _]) H6 rfl Try.underlying140 kfmerge1_5 rfl ⟨rfl, trivial⟩ rfl rfl) rfl rfl ?_
 rintro _ w10 ⟨b9, rfl, H11⟩
 have H12 := H11.asrow (m := 1) (size := 1) rfl (by decide)
 have H13 := H12.nilrow 22 1
 refine reg_op (op_app (i := 0) H13 rfl rfl rfl rfl (H13.rd (i := 1) rfl) (rfl) (rfl) Try.underlying140 kfmerge1_6 rfl rfl (by unfold maxLen; omega) (by omega)) rfl rfl ?_
 rintro _ w16 ⟨A14, c15, rfl, H17⟩
 refine ry (y_asg rfl rfl) rfl rfl ?_
 refine reg_nil ?_
 refine fn_block ?_
 refine fn_next ?_
 refine cw_reg ?_
 refine ry (y_add rfl rfl rfl (wi (by omega))) rfl rfl ?_
 refine ry (y_mov rfl rfl) rfl rfl ?_
 refine reg_nil ?_
 refine fn_roundR ?_
 refine cw_seq ?_
 refine cw_reg ?_
 refine ry (y_lss rfl rfl rfl) rfl rfl ?_
 refine reg_nil ?_
 refine fn_next ?_
 refine cw_seq ?_
 refine cw_condt rfl ?_
 refine cw_skip ?_
 refine fn_next ?_
 refine cw_seq ?_
 refine cw_block ?_
 refine cw_seq ?_
 refine cw_reg ?_
 refine ry (y_iar (i := 1) (hr.below H17.base) rfl rfl rfl kfmerge1_1 (rfl) (by omega) (Nat.mul_one _) ((rfl : ([.pointer (some ⟨g0, 0, none⟩), .pointer none, .pointer (some ⟨g2, 0, none⟩)] : List Value)[1]? = some _))) rfl rfl ?_
 refine ry (y_ldr (hr.below H17.base) rfl rfl kfmerge1_2 ((rfl : ([.pointer (some ⟨g0, 0, none⟩), .pointer none, .pointer (some ⟨g2, 0, none⟩)] : List Value)[1]? = some _))) rfl rfl ?_
 refine ry (y_asg rfl rfl) rfl rfl ?_
 refine reg_nil ?_
 refine fn_next ?_
 refine cw_seq ?_
 refine cw_seq ?_
 refine cw_reg ?_
 refine ry (y_mov rfl rfl) rfl rfl ?_
 refine ry (y_peqlnil rfl Try.underlying28 rfl rfl) rfl rfl ?_
 refine reg_nil ?_
 refine fn_next ?_
 refine cw_condt rfl ?_
 refine cw_seq ?_
 refine cw_reg ?_
 refine ry (y_asg rfl rfl) rfl rfl ?_
 refine ry (y_asg rfl rfl) rfl rfl ?_
 refine reg_nil ?_
 refine fn_next ?_
 refine cw_ret ?_
 refine fn_then_ret (fn_block_ret (fn_then_ret (fn_then_ret (fn_block_ret (fn_then_ret ?_)))))
 refine fn_retn (vs := [_, _]) rfl ⟨rfl, rfl, trivial⟩ rfl ?_
 exact ⟨rfl, H17.base⟩

set_option maxRecDepth 100000 in
theorem three_n2 (a a1 h h1 : Nat) (g0 : Nat) (V0 : List Int) (g1 : Nat) (V1 : List Int) (A : Option Addr) (cap : Nat) (w : World) (R0 : GRd w g0 a h V0) (R1 : GRd w g1 a1 h1 V1) (hr : Rd w A [.pointer (some ⟨g0, 0, none⟩), .pointer (some ⟨g1, 0, none⟩), .pointer none]) :
    Ret Try.prog 98 [.slice A 3 cap] w (fun z w' => z = .tuple #[.slice none 0 0, .int .i64 1] ∧ Below w.heap.size w w') := by
 refine ret_enter Try.func98 rfl rfl rfl ?_
 have H0 := HS.start w
 refine cw_seq ?_
 refine cw_reg ?_
 refine ry (y_asg rfl rfl) rfl rfl ?_
 refine ry (y_asg rfl rfl) rfl rfl ?_
 refine reg_nil ?_
 refine fn_next ?_
 refine cw_seq ?_
 refine cw_reg ?_
 refine ry (y_asg rfl rfl) rfl rfl ?_
 refine reg_nil ?_
 refine fn_next ?_
 refine cw_seq ?_
 refine cw_seq ?_
 refine cw_reg ?_
 refine ry (y_mov rfl rfl) rfl rfl ?_
 refine ry (y_len rfl Try.underlying169 rfl) rfl rfl ?_
 refine ry (y_mov rfl rfl) rfl rfl ?_
 refine reg_nil ?_
 refine fn_next ?_
 refine cw_block ?_
 refine cw_loopR 3 ?_
 refine cw_seq ?_
 refine cw_reg ?_
 refine ry (y_lss rfl rfl rfl) rfl rfl ?_
 refine reg_nil ?_
 refine fn_next ?_
 refine cw_seq ?_
 refine cw_condt rfl ?_
 refine cw_skip ?_
 refine fn_next ?_
 refine cw_seq ?_
 refine cw_block ?_
 refine cw_seq ?_
 refine cw_reg ?_
 refine ry (y_iar (i := 0) (hr.below H0.base) rfl rfl rfl kfmerge1_1 (rfl) (by omega) (Nat.mul_one _) ((rfl : ([.pointer (some ⟨g0, 0, none⟩), .pointer (some ⟨g1, 0, none⟩), .pointer none] : List Value)[0]? = some _))) rfl rfl ?_
 refine ry (y_ldr (hr.below H0.base) rfl rfl kfmerge1_2 ((rfl : ([.pointer (some ⟨g0, 0, none⟩), .pointer (some ⟨g1, 0, none⟩), .pointer none] : List Value)[0]? = some _))) rfl rfl ?_
 refine ry (y_asg rfl rfl) rfl rfl ?_
 refine reg_nil ?_
 refine fn_next ?_
 refine cw_seq ?_
 refine cw_seq ?_
 refine cw_reg ?_
 refine ry (y_mov rfl rfl) rfl rfl ?_
 refine ry (y_peqlnil rfl Try.underlying28 rfl rfl) rfl rfl ?_
 refine reg_nil ?_
 refine fn_next ?_
 refine cw_condf rfl ?_
 refine cw_skip ?_
 refine fn_next ?_
 refine cw_seq ?_
 refine cw_reg ?_
 refine ry (y_mov rfl rfl) rfl rfl ?_
 refine ry (y_mov rfl rfl) rfl rfl ?_
 refine reg_op (op_call (gAll g0 a h (V0)  _ (R0.below H0.base)) rfl kfmerge1_3 ⟨rfl, trivial⟩) rfl rfl ?_
 rintro _ w2 ⟨rfl, e1⟩
 have H3 := H0.ext e1
 refine reg_op (op_call (gValuesAll g0 a h (V0) _ (R0.below H3.base)) rfl kfmerge1_4 ⟨rfl, rfl, trivial⟩) rfl rfl ?_
 rintro _ w5 ⟨A7, c8, rfl, k4⟩
 have H6 := H3.call k4
 refine ry (y_mov rfl rfl) rfl rfl ?_
 refine ry (y_ext rfl rfl rfl) rfl rfl ?_
 refine ry (y_ext rfl rfl rfl) rfl rfl ?_
 refine ry (y_asg rfl rfl) rfl rfl ?_
 refine ry (y_asg rfl rfl) rfl rfl ?_
 refine reg_nil ?_
 refine fn_next ?_
 refine cw_reg ?_
 refine ry (y_mov rfl rfl) rfl rfl ?_
 refine ry (y_mov rfl rfl) rfl rfl ?_
 refine reg_op (op_lit (parts := [(0, _)]) (vs := [(0, _)]) (cs := [.slice _ _ _]) H6 rfl Try.underlying140 kfmerge1_5 rfl ⟨rfl, trivial⟩ rfl rfl) rfl rfl ?_
 rintro _ w10 ⟨b9, rfl, H11⟩
 have H12 := H11.asrow (m := 1) (size := 1) rfl (by decide)
 have H13 := H12.nilrow 22 1
 refine reg_op (op_app (i := 0) H13 rfl rfl rfl rfl (H13.rd (i := 1) rfl) (rfl) (rfl) Try.underlying140 kfmerge1_6 rfl rfl (by unfold maxLen; omega) (by omega)) rfl rfl ?_
 rintro _ w16 ⟨A14, c15, rfl, H17⟩
 refine ry (y_asg rfl rfl) rfl rfl ?_
 refine reg_nil ?_
 refine fn_block ?_
 refine fn_next ?_
 refine cw_reg ?_
 refine ry (y_add rfl rfl rfl (wi (by omega))) rfl rfl ?_
 refine ry (y_mov rfl rfl) rfl rfl ?_
 refine reg_nil ?_
 refine fn_roundR ?_
 refine cw_seq ?_
 refine cw_reg ?_
 refine ry (y_lss rfl rfl rfl) rfl rfl ?_
 refine reg_nil ?_
 refine fn_next ?_
 refine cw_seq ?_
 refine cw_condt rfl ?_
 refine cw_skip ?_
 refine fn_next ?_
 refine cw_seq ?_
 refine cw_block ?_
 refine cw_seq ?_
 refine cw_reg ?_
 refine ry (y_iar (i := 1) (hr.below H17.base) rfl rfl rfl kfmerge1_1 (rfl) (by omega) (Nat.mul_one _) ((rfl : ([.pointer (some ⟨g0, 0, none⟩), .pointer (some ⟨g1, 0, none⟩), .pointer none] : List Value)[1]? = some _))) rfl rfl ?_
 refine ry (y_ldr (hr.below H17.base) rfl rfl kfmerge1_2 ((rfl : ([.pointer (some ⟨g0, 0, none⟩), .pointer (some ⟨g1, 0, none⟩), .pointer none] : List Value)[1]? = some _))) rfl rfl ?_
 refine ry (y_asg rfl rfl) rfl rfl ?_
 refine reg_nil ?_
 refine fn_next ?_
 refine cw_seq ?_
 refine cw_seq ?_
 refine cw_reg ?_
 refine ry (y_mov rfl rfl) rfl rfl ?_
 refine ry (y_peqlnil rfl Try.underlying28 rfl rfl) rfl rfl ?_
 refine reg_nil ?_
 refine fn_next ?_
 refine cw_condf rfl ?_
 refine cw_skip ?_
 refine fn_next ?_
 refine cw_seq ?_
 refine cw_reg ?_
 refine ry (y_mov rfl rfl) rfl rfl ?_
 refine ry (y_mov rfl rfl) rfl rfl ?_
 refine reg_op (op_call (gAll g1 a1 h1 (V1)  _ (R1.below H17.base)) rfl kfmerge1_3 ⟨rfl, trivial⟩) rfl rfl ?_
 rintro _ w19 ⟨rfl, e18⟩
 have H20 := H17.ext e18
 refine reg_op (op_call (gValuesAll g1 a1 h1 (V1) _ (R1.below H20.base)) rfl kfmerge1_4 ⟨rfl, rfl, trivial⟩) rfl rfl ?_
 rintro _ w22 ⟨A24, c25, rfl, k21⟩
 have H23 := H20.call k21
 refine ry (y_mov rfl rfl) rfl rfl ?_
 refine ry (y_ext rfl rfl rfl) rfl rfl ?_
 refine ry (y_ext rfl rfl rfl) rfl rfl ?_
 refine ry (y_asg rfl rfl) rfl rfl ?_
 refine ry (y_asg rfl rfl) rfl rfl ?_
 refine reg_nil ?_
 refine fn_next ?_
 refine cw_reg ?_
 refine ry (y_mov rfl rfl) rfl rfl ?_
 refine ry (y_mov rfl rfl) rfl rfl ?_
 refine reg_op (op_lit (parts := [(0, _)]) (vs := [(0, _)]) (cs := [.slice _ _ _]) H23 rfl Try.underlying140 kfmerge1_5 rfl ⟨rfl, trivial⟩ rfl rfl) rfl rfl ?_
 rintro _ w27 ⟨b26, rfl, H28⟩
 have H29 := H28.asrow (m := 1) (size := 1) rfl (by decide)
 refine reg_op (op_app (i := 2) H29 rfl rfl rfl rfl (H29.rd (i := 0) rfl) (rfl) (rfl) Try.underlying140 kfmerge1_6 rfl rfl (by unfold maxLen; omega) (by omega)) rfl rfl ?_
 rintro _ w32 ⟨A30, c31, rfl, H33⟩
 refine ry (y_asg rfl rfl) rfl rfl ?_
 refine reg_nil ?_
 refine fn_block ?_
 refine fn_next ?_
 refine cw_reg ?_
 refine ry (y_add rfl rfl rfl (wi (by omega))) rfl rfl ?_
 refine ry (y_mov rfl rfl) rfl rfl ?_
 refine reg_nil ?_
 refine fn_roundR ?_
 refine cw_seq ?_
 refine cw_reg ?_
 refine ry (y_lss rfl rfl rfl) rfl rfl ?_
 refine reg_nil ?_
 refine fn_next ?_
 refine cw_seq ?_
 refine cw_condt rfl ?_
 refine cw_skip ?_
 refine fn_next ?_
 refine cw_seq ?_
 refine cw_block ?_
 refine cw_seq ?_
 refine cw_reg ?_
 refine ry (y_iar (i := 2) (hr.below H33.base) rfl rfl rfl kfmerge1_1 (rfl) (by omega) (Nat.mul_one _) ((rfl : ([.pointer (some ⟨g0, 0, none⟩), .pointer (some ⟨g1, 0, none⟩), .pointer none] : List Value)[2]? = some _))) rfl rfl ?_
 refine ry (y_ldr (hr.below H33.base) rfl rfl kfmerge1_2 ((rfl : ([.pointer (some ⟨g0, 0, none⟩), .pointer (some ⟨g1, 0, none⟩), .pointer none] : List Value)[2]? = some _))) rfl rfl ?_
 refine ry (y_asg rfl rfl) rfl rfl ?_
 refine reg_nil ?_
 refine fn_next ?_
 refine cw_seq ?_
 refine cw_seq ?_
 refine cw_reg ?_
 refine ry (y_mov rfl rfl) rfl rfl ?_
 refine ry (y_peqlnil rfl Try.underlying28 rfl rfl) rfl rfl ?_
 refine reg_nil ?_
 refine fn_next ?_
 refine cw_condt rfl ?_
 refine cw_seq ?_
 refine cw_reg ?_
 refine ry (y_asg rfl rfl) rfl rfl ?_
 refine ry (y_asg rfl rfl) rfl rfl ?_
 refine reg_nil ?_
 refine fn_next ?_
 refine cw_ret ?_
 refine fn_then_ret (fn_block_ret (fn_then_ret (fn_then_ret (fn_block_ret (fn_then_ret ?_)))))
 refine fn_retn (vs := [_, _]) rfl ⟨rfl, rfl, trivial⟩ rfl ?_
 exact ⟨rfl, H33.base⟩

end Go.Proofs.Ytbhmkpnihgjlnaa
