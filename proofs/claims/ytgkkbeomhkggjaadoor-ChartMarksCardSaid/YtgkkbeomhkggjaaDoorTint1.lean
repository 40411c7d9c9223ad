/- Layer 33: legends. -/
import Derived.Test.YtgkkbeomhkggjaaDoorPlain34
set_option linter.unusedVariables false
set_option linter.unusedSimpArgs false
namespace Go.Proofs.YtgkkbeomhkggjaaDoor
open Go Go.RowKit
theorem kftint1_1 : fldB Tryd.prog 86 1 1 = true := by kernel_rfl
theorem kftint1_2 : oneB Tryd.prog 21 = true := by kernel_rfl
theorem kftint1_3 : elB Tryd.prog 87 2 = true := by kernel_rfl
theorem kftint1_4 : aggB Tryd.prog 86 2 = true := by kernel_rfl
theorem kftint1_5 : callB Tryd.prog 95 = true := by kernel_rfl
theorem kftint1_6 : callB Tryd.prog 114 = true := by kernel_rfl
theorem kftint1_7 : callB Tryd.prog 111 = true := by kernel_rfl
theorem kftint1_8 : (Tryd.prog.info? 86).bind (fun i => i.zero.map Value.cells) = some (List.toArray [(.int .i64 0), (.int .i32 0)]) := by kernel_rfl
theorem kftint1_9 : szB Tryd.prog 86 2 = true := by kernel_rfl
theorem kftint1_10 : fldB Tryd.prog 86 0 0 = true := by kernel_rfl
theorem kftint1_11 : oneB Tryd.prog 2 = true := by kernel_rfl
theorem kftint1_12 : callB Tryd.prog 45 = true := by kernel_rfl
theorem kftint1_13 : callB Tryd.prog 94 = true := by kernel_rfl
theorem Rd.pre {w : World} {A : Option Addr} {xs : List Value} (h : Rd w A xs) (k : Nat) : Rd w A (xs.take k) := fun j u hu => by
  rw [List.getElem?_take] at hu
  split at hu
  · exact h j u hu
  · cases hu
theorem bpre {w : World} {A : Option Addr} {l : List Bd} {c : Nat} (h : Rd w A (bcells l)) (i : Nat) : Rd w (subA A c 0 2) (bcells (l.take i)) := by rw [subA_zero, ← bcells_take]; exact h.pre _
theorem bq {l : List Bd} {i j : Nat} (hi : i ≤ l.length) (h : j < i) : (bcells (l.take i))[j * 2]? = some (.int .i64 (bn l j).f) := by
  rw [← bn_take h]; exact b_get0 (by rw [List.length_take]; omega)

set_option maxRecDepth 100000 in
theorem tintSign (s : Int) (w : World) :
    Ret Tryd.prog 45 [.int .i32 s] w (fun v w' => v = .bool (decide (SgnP s)) ∧ Below w.heap.size w w') := by
 refine ret_enter Tryd.func45 rfl rfl rfl ?_
 have H0 := HS.start w
 refine cw_seq ?_
 refine cw_reg ?_
 refine ry (y_asg rfl rfl) rfl rfl ?_
 refine reg_nil ?_
 refine fn_next ?_
 refine cw_seq ?_
 refine cw_block ?_
 refine cw_seq ?_
 refine cw_reg ?_
 refine ry (y_mov rfl rfl) rfl rfl ?_
 refine ry (y_eql rfl rfl rfl) rfl rfl ?_
 refine ry (y_mov rfl rfl) rfl rfl ?_
 refine rg_splitd (d := 6) rfl (fun h1 => ?_) (fun h1 => ?_)
 ·skip
  refine rg_off rfl rfl rfl rfl rfl ?_
  refine rg_off rfl rfl rfl rfl rfl ?_
  refine ry (y_pick rfl rfl rfl) rfl rfl ?_
  refine ry (y_mov rfl rfl) rfl rfl ?_
  refine rg_off rfl rfl rfl rfl rfl ?_
  refine rg_off rfl rfl rfl rfl rfl ?_
  refine ry (y_pick rfl rfl rfl) rfl rfl ?_
  refine ry (y_mov rfl rfl) rfl rfl ?_
  refine rg_off rfl rfl rfl rfl rfl ?_
  refine rg_off rfl rfl rfl rfl rfl ?_
  refine rg_off rfl rfl rfl rfl rfl ?_
  refine rg_offu rfl rfl rfl rfl ?_
  refine rg_offu rfl rfl rfl rfl ?_
  refine rg_off rfl rfl rfl rfl rfl ?_
  refine ry (y_pick rfl rfl rfl) rfl rfl ?_
  refine ry (y_asg rfl rfl) rfl rfl ?_
  refine reg_nil ?_
  refine fn_next ?_
  refine cw_condt rfl ?_
  refine cw_seq ?_
  refine cw_reg ?_
  refine ry (y_asg rfl rfl) rfl rfl ?_
  refine reg_nil ?_
  refine fn_next ?_
  refine cw_ret ?_
  refine fn_block_ret (fn_then_ret ?_)
  refine fn_ret1 rfl rfl ?_
  first | exact ⟨congrArg Value.bool (decide_eq_decide.2 (by unfold SgnP; omega)), H0.base⟩ | exact ⟨congrArg Value.bool (decide_eq_false (by unfold SgnP; omega)).symm, H0.base⟩ | exact ⟨congrArg Value.bool (decide_eq_true (by unfold SgnP; omega)).symm, H0.base⟩
 ·skip
  refine rgy (y_mov rfl rfl) rfl rfl rfl rfl ?_
  refine rgy (y_eql rfl rfl rfl) rfl rfl rfl rfl ?_
  refine ry (y_pick rfl rfl rfl) rfl rfl ?_
  refine ry (y_mov rfl rfl) rfl rfl ?_
  refine rg_splitd (d := 10) rfl (fun h2 => ?_) (fun h2 => ?_)
  ·skip
   refine rg_off rfl rfl rfl rfl rfl ?_
   refine rg_off rfl rfl rfl rfl rfl ?_
   refine ry (y_pick rfl rfl rfl) rfl rfl ?_
   refine ry (y_mov rfl rfl) rfl rfl ?_
   refine rg_off rfl rfl rfl rfl rfl ?_
   refine rg_off rfl rfl rfl rfl rfl ?_
   refine rg_off rfl rfl rfl rfl rfl ?_
   refine rg_offu rfl rfl rfl rfl ?_
   refine rg_offu rfl rfl rfl rfl ?_
   refine rg_off rfl rfl rfl rfl rfl ?_
   refine ry (y_pick rfl rfl rfl) rfl rfl ?_
   refine ry (y_asg rfl rfl) rfl rfl ?_
   refine reg_nil ?_
   refine fn_next ?_
   refine cw_condt rfl ?_
   refine cw_seq ?_
   refine cw_reg ?_
   refine ry (y_asg rfl rfl) rfl rfl ?_
   refine reg_nil ?_
   refine fn_next ?_
   refine cw_ret ?_
   refine fn_block_ret (fn_then_ret ?_)
   refine fn_ret1 rfl rfl ?_
   first | exact ⟨congrArg Value.bool (decide_eq_decide.2 (by unfold SgnP; omega)), H0.base⟩ | exact ⟨congrArg Value.bool (decide_eq_false (by unfold SgnP; omega)).symm, H0.base⟩ | exact ⟨congrArg Value.bool (decide_eq_true (by unfold SgnP; omega)).symm, H0.base⟩
  ·skip
   refine rgy (y_mov rfl rfl) rfl rfl rfl rfl ?_
   refine rgy (y_eql rfl rfl rfl) rfl rfl rfl rfl ?_
   refine ry (y_pick rfl rfl rfl) rfl rfl ?_
   refine ry (y_mov rfl rfl) rfl rfl ?_
   refine rg_splitd (d := 14) rfl (fun h3 => ?_) (fun h3 => ?_)
   ·skip
    refine rg_off rfl rfl rfl rfl rfl ?_
    refine rg_off rfl rfl rfl rfl rfl ?_
    refine rg_off rfl rfl rfl rfl rfl ?_
    refine rg_offu rfl rfl rfl rfl ?_
    refine rg_offu rfl rfl rfl rfl ?_
    refine rg_off rfl rfl rfl rfl rfl ?_
    refine ry (y_pick rfl rfl rfl) rfl rfl ?_
    refine ry (y_asg rfl rfl) rfl rfl ?_
    refine reg_nil ?_
    refine fn_next ?_
    refine cw_condt rfl ?_
    refine cw_seq ?_
    refine cw_reg ?_
    refine ry (y_asg rfl rfl) rfl rfl ?_
    refine reg_nil ?_
    refine fn_next ?_
    refine cw_ret ?_
    refine fn_block_ret (fn_then_ret ?_)
    refine fn_ret1 rfl rfl ?_
    first | exact ⟨congrArg Value.bool (decide_eq_decide.2 (by unfold SgnP; omega)), H0.base⟩ | exact ⟨congrArg Value.bool (decide_eq_false (by unfold SgnP; omega)).symm, H0.base⟩ | exact ⟨congrArg Value.bool (decide_eq_true (by unfold SgnP; omega)).symm, H0.base⟩
   ·skip
    refine rgy (y_mov rfl rfl) rfl rfl rfl rfl ?_
    refine rgy (y_geq rfl rfl rfl) rfl rfl rfl rfl ?_
    refine rgy (y_mov rfl rfl) rfl rfl rfl rfl ?_
    refine rg_splitd (d := 17) rfl (fun h4 => ?_) (fun h4 => ?_)
    ·skip
     refine rgy (y_mov rfl rfl) rfl rfl rfl rfl ?_
     refine rgy (y_leq rfl rfl rfl) rfl rfl rfl rfl ?_
     refine rgy (y_pick rfl rfl rfl) rfl rfl rfl rfl ?_
     refine ry (y_pick rfl rfl rfl) rfl rfl ?_
     refine ry (y_asg rfl rfl) rfl rfl ?_
     refine reg_nil ?_
     refine fn_next ?_
     refine cw_condd rfl (fun h5 => ?_) (fun h5 => ?_)
     ·skip
      refine cw_seq ?_
      refine cw_reg ?_
      refine ry (y_asg rfl rfl) rfl rfl ?_
      refine reg_nil ?_
      refine fn_next ?_
      refine cw_ret ?_
      refine fn_block_ret (fn_then_ret ?_)
      refine fn_ret1 rfl rfl ?_
      first | exact ⟨congrArg Value.bool (decide_eq_decide.2 (by unfold SgnP; omega)), H0.base⟩ | exact ⟨congrArg Value.bool (decide_eq_false (by unfold SgnP; omega)).symm, H0.base⟩ | exact ⟨congrArg Value.bool (decide_eq_true (by unfold SgnP; omega)).symm, H0.base⟩
     ·skip
      refine cw_skip ?_
      refine fn_block ?_
      refine fn_next ?_
      refine cw_seq ?_
      refine cw_reg ?_
      refine ry (y_mov rfl rfl) rfl rfl ?_
      refine ry (y_geq rfl rfl rfl) rfl rfl ?_
      refine ry (y_mov rfl rfl) rfl rfl ?_
      refine rg_splitd (d := 24) rfl (fun h6 => ?_) (fun h6 => ?_)
      ·skip
       refine rgy (y_mov rfl rfl) rfl rfl rfl rfl ?_
       refine rgy (y_leq rfl rfl rfl) rfl rfl rfl rfl ?_
       refine ry (y_pick rfl rfl rfl) rfl rfl ?_
       refine ry (y_mov rfl rfl) rfl rfl ?_
       refine rg_splitd (d := 28) rfl (fun h7 => ?_) (fun h7 => ?_)
       ·skip
        refine rg_off rfl rfl rfl rfl rfl ?_
        refine rg_off rfl rfl rfl rfl rfl ?_
        refine rg_off rfl rfl rfl rfl rfl ?_
        refine rg_offu rfl rfl rfl rfl ?_
        refine rg_offu rfl rfl rfl rfl ?_
        refine rg_off rfl rfl rfl rfl rfl ?_
        refine ry (y_pick rfl rfl rfl) rfl rfl ?_
        refine ry (y_asg rfl rfl) rfl rfl ?_
        refine reg_nil ?_
        refine fn_next ?_
        refine cw_ret ?_
        refine fn_ret1 rfl rfl ?_
        first | exact ⟨congrArg Value.bool (decide_eq_decide.2 (by unfold SgnP; omega)), H0.base⟩ | exact ⟨congrArg Value.bool (decide_eq_false (by unfold SgnP; omega)).symm, H0.base⟩ | exact ⟨congrArg Value.bool (decide_eq_true (by unfold SgnP; omega)).symm, H0.base⟩
       ·skip
        refine rgy (y_mov rfl rfl) rfl rfl rfl rfl ?_
        refine rgy (y_geq rfl rfl rfl) rfl rfl rfl rfl ?_
        refine rgy (y_mov rfl rfl) rfl rfl rfl rfl ?_
        refine rg_splitd (d := 31) rfl (fun h8 => ?_) (fun h8 => ?_)
        ·skip
         refine rgy (y_mov rfl rfl) rfl rfl rfl rfl ?_
         refine rgy (y_leq rfl rfl rfl) rfl rfl rfl rfl ?_
         refine rgy (y_pick rfl rfl rfl) rfl rfl rfl rfl ?_
         refine ry (y_pick rfl rfl rfl) rfl rfl ?_
         refine ry (y_asg rfl rfl) rfl rfl ?_
         refine reg_nil ?_
         refine fn_next ?_
         refine cw_ret ?_
         refine fn_ret1 rfl rfl ?_
         first | exact ⟨congrArg Value.bool (decide_eq_decide.2 (by unfold SgnP; omega)), H0.base⟩ | exact ⟨congrArg Value.bool (decide_eq_false (by unfold SgnP; omega)).symm, H0.base⟩ | exact ⟨congrArg Value.bool (decide_eq_true (by unfold SgnP; omega)).symm, H0.base⟩
        ·skip
         refine rg_off rfl rfl rfl rfl rfl ?_
         refine rg_off rfl rfl rfl rfl rfl ?_
         refine rgy (y_pick rfl rfl rfl) rfl rfl rfl rfl ?_
         refine ry (y_pick rfl rfl rfl) rfl rfl ?_
         refine ry (y_asg rfl rfl) rfl rfl ?_
         refine reg_nil ?_
         refine fn_next ?_
         refine cw_ret ?_
         refine fn_ret1 rfl rfl ?_
         first | exact ⟨congrArg Value.bool (decide_eq_decide.2 (by unfold SgnP; omega)), H0.base⟩ | exact ⟨congrArg Value.bool (decide_eq_false (by unfold SgnP; omega)).symm, H0.base⟩ | exact ⟨congrArg Value.bool (decide_eq_true (by unfold SgnP; omega)).symm, H0.base⟩
      ·skip
       refine rg_off rfl rfl rfl rfl rfl ?_
       refine rg_off rfl rfl rfl rfl rfl ?_
       refine ry (y_pick rfl rfl rfl) rfl rfl ?_
       refine ry (y_mov rfl rfl) rfl rfl ?_
       refine rgy (y_mov rfl rfl) rfl rfl rfl rfl ?_
       refine rgy (y_geq rfl rfl rfl) rfl rfl rfl rfl ?_
       refine rgy (y_mov rfl rfl) rfl rfl rfl rfl ?_
       refine rg_splitd (d := 31) rfl (fun h9 => ?_) (fun h9 => ?_)
       ·skip
        refine rgy (y_mov rfl rfl) rfl rfl rfl rfl ?_
        refine rgy (y_leq rfl rfl rfl) rfl rfl rfl rfl ?_
        refine rgy (y_pick rfl rfl rfl) rfl rfl rfl rfl ?_
        refine ry (y_pick rfl rfl rfl) rfl rfl ?_
        refine ry (y_asg rfl rfl) rfl rfl ?_
        refine reg_nil ?_
        refine fn_next ?_
        refine cw_ret ?_
        refine fn_ret1 rfl rfl ?_
        first | exact ⟨congrArg Value.bool (decide_eq_decide.2 (by unfold SgnP; omega)), H0.base⟩ | exact ⟨congrArg Value.bool (decide_eq_false (by unfold SgnP; omega)).symm, H0.base⟩ | exact ⟨congrArg Value.bool (decide_eq_true (by unfold SgnP; omega)).symm, H0.base⟩
       ·skip
        refine rg_off rfl rfl rfl rfl rfl ?_
        refine rg_off rfl rfl rfl rfl rfl ?_
        refine rgy (y_pick rfl rfl rfl) rfl rfl rfl rfl ?_
        refine ry (y_pick rfl rfl rfl) rfl rfl ?_
        refine ry (y_asg rfl rfl) rfl rfl ?_
        refine reg_nil ?_
        refine fn_next ?_
        refine cw_ret ?_
        refine fn_ret1 rfl rfl ?_
        first | exact ⟨congrArg Value.bool (decide_eq_decide.2 (by unfold SgnP; omega)), H0.base⟩ | exact ⟨congrArg Value.bool (decide_eq_false (by unfold SgnP; omega)).symm, H0.base⟩ | exact ⟨congrArg Value.bool (decide_eq_true (by unfold SgnP; omega)).symm, H0.base⟩
    ·skip
     refine rg_off rfl rfl rfl rfl rfl ?_
     refine rg_off rfl rfl rfl rfl rfl ?_
     refine rgy (y_pick rfl rfl rfl) rfl rfl rfl rfl ?_
     refine ry (y_pick rfl rfl rfl) rfl rfl ?_
     refine ry (y_asg rfl rfl) rfl rfl ?_
     refine reg_nil ?_
     refine fn_next ?_
     refine cw_condf rfl ?_
     refine cw_skip ?_
     refine fn_block ?_
     refine fn_next ?_
     refine cw_seq ?_
     refine cw_reg ?_
     refine ry (y_mov rfl rfl) rfl rfl ?_
     refine ry (y_geq rfl rfl rfl) rfl rfl ?_
     refine ry (y_mov rfl rfl) rfl rfl ?_
     refine rg_splitd (d := 24) rfl (fun h10 => ?_) (fun h10 => ?_)
     ·skip
      refine rgy (y_mov rfl rfl) rfl rfl rfl rfl ?_
      refine rgy (y_leq rfl rfl rfl) rfl rfl rfl rfl ?_
      refine ry (y_pick rfl rfl rfl) rfl rfl ?_
      refine ry (y_mov rfl rfl) rfl rfl ?_
      refine rg_splitd (d := 28) rfl (fun h11 => ?_) (fun h11 => ?_)
      ·skip
       refine rg_off rfl rfl rfl rfl rfl ?_
       refine rg_off rfl rfl rfl rfl rfl ?_
       refine rg_off rfl rfl rfl rfl rfl ?_
       refine rg_offu rfl rfl rfl rfl ?_
       refine rg_offu rfl rfl rfl rfl ?_
       refine rg_off rfl rfl rfl rfl rfl ?_
       refine ry (y_pick rfl rfl rfl) rfl rfl ?_
       refine ry (y_asg rfl rfl) rfl rfl ?_
       refine reg_nil ?_
       refine fn_next ?_
       refine cw_ret ?_
       refine fn_ret1 rfl rfl ?_
       first | exact ⟨congrArg Value.bool (decide_eq_decide.2 (by unfold SgnP; omega)), H0.base⟩ | exact ⟨congrArg Value.bool (decide_eq_false (by unfold SgnP; omega)).symm, H0.base⟩ | exact ⟨congrArg Value.bool (decide_eq_true (by unfold SgnP; omega)).symm, H0.base⟩
      ·skip
       refine rgy (y_mov rfl rfl) rfl rfl rfl rfl ?_
       refine rgy (y_geq rfl rfl rfl) rfl rfl rfl rfl ?_
       refine rgy (y_mov rfl rfl) rfl rfl rfl rfl ?_
       refine rg_splitd (d := 31) rfl (fun h12 => ?_) (fun h12 => ?_)
       ·skip
        refine rgy (y_mov rfl rfl) rfl rfl rfl rfl ?_
        refine rgy (y_leq rfl rfl rfl) rfl rfl rfl rfl ?_
        refine rgy (y_pick rfl rfl rfl) rfl rfl rfl rfl ?_
        refine ry (y_pick rfl rfl rfl) rfl rfl ?_
        refine ry (y_asg rfl rfl) rfl rfl ?_
        refine reg_nil ?_
        refine fn_next ?_
        refine cw_ret ?_
        refine fn_ret1 rfl rfl ?_
        first | exact ⟨congrArg Value.bool (decide_eq_decide.2 (by unfold SgnP; omega)), H0.base⟩ | exact ⟨congrArg Value.bool (decide_eq_false (by unfold SgnP; omega)).symm, H0.base⟩ | exact ⟨congrArg Value.bool (decide_eq_true (by unfold SgnP; omega)).symm, H0.base⟩
       ·skip
        refine rg_off rfl rfl rfl rfl rfl ?_
        refine rg_off rfl rfl rfl rfl rfl ?_
        refine rgy (y_pick rfl rfl rfl) rfl rfl rfl rfl ?_
        refine ry (y_pick rfl rfl rfl) rfl rfl ?_
        refine ry (y_asg rfl rfl) rfl rfl ?_
        refine reg_nil ?_
        refine fn_next ?_
        refine cw_ret ?_
        refine fn_ret1 rfl rfl ?_
        first | exact ⟨congrArg Value.bool (decide_eq_decide.2 (by unfold SgnP; omega)), H0.base⟩ | exact ⟨congrArg Value.bool (decide_eq_false (by unfold SgnP; omega)).symm, H0.base⟩ | exact ⟨congrArg Value.bool (decide_eq_true (by unfold SgnP; omega)).symm, H0.base⟩
     ·skip
      refine rg_off rfl rfl rfl rfl rfl ?_
      refine rg_off rfl rfl rfl rfl rfl ?_
      refine ry (y_pick rfl rfl rfl) rfl rfl ?_
      refine ry (y_mov rfl rfl) rfl rfl ?_
      refine rgy (y_mov rfl rfl) rfl rfl rfl rfl ?_
      refine rgy (y_geq rfl rfl rfl) rfl rfl rfl rfl ?_
      refine rgy (y_mov rfl rfl) rfl rfl rfl rfl ?_
      refine rg_splitd (d := 31) rfl (fun h13 => ?_) (fun h13 => ?_)
      ·skip
       refine rgy (y_mov rfl rfl) rfl rfl rfl rfl ?_
       refine rgy (y_leq rfl rfl rfl) rfl rfl rfl rfl ?_
       refine rgy (y_pick rfl rfl rfl) rfl rfl rfl rfl ?_
       refine ry (y_pick rfl rfl rfl) rfl rfl ?_
       refine ry (y_asg rfl rfl) rfl rfl ?_
       refine reg_nil ?_
       refine fn_next ?_
       refine cw_ret ?_
       refine fn_ret1 rfl rfl ?_
       first | exact ⟨congrArg Value.bool (decide_eq_decide.2 (by unfold SgnP; omega)), H0.base⟩ | exact ⟨congrArg Value.bool (decide_eq_false (by unfold SgnP; omega)).symm, H0.base⟩ | exact ⟨congrArg Value.bool (decide_eq_true (by unfold SgnP; omega)).symm, H0.base⟩
      ·skip
       refine rg_off rfl rfl rfl rfl rfl ?_
       refine rg_off rfl rfl rfl rfl rfl ?_
       refine rgy (y_pick rfl rfl rfl) rfl rfl rfl rfl ?_
       refine ry (y_pick rfl rfl rfl) rfl rfl ?_
       refine ry (y_asg rfl rfl) rfl rfl ?_
       refine reg_nil ?_
       refine fn_next ?_
       refine cw_ret ?_
       refine fn_ret1 rfl rfl ?_
       first | exact ⟨congrArg Value.bool (decide_eq_decide.2 (by unfold SgnP; omega)), H0.base⟩ | exact ⟨congrArg Value.bool (decide_eq_false (by unfold SgnP; omega)).symm, H0.base⟩ | exact ⟨congrArg Value.bool (decide_eq_true (by unfold SgnP; omega)).symm, H0.base⟩

set_option maxRecDepth 100000 in
theorem refSign3 (s : Int) (w : World) :
    Ret Tryd.prog 22 [.int .i32 s] w (fun v w' => v = .bool (decide (SgnP s)) ∧ Below w.heap.size w w') := by
 refine ret_enter Tryd.func22 rfl rfl rfl ?_
 have H0 := HS.start w
 refine cw_seq ?_
 refine cw_reg ?_
 refine ry (y_asg rfl rfl) rfl rfl ?_
 refine reg_nil ?_
 refine fn_next ?_
 refine cw_seq ?_
 refine cw_seq ?_
 refine cw_reg ?_
 refine ry (y_mov rfl rfl) rfl rfl ?_
 refine ry (y_eql rfl rfl rfl) rfl rfl ?_
 refine ry (y_mov rfl rfl) rfl rfl ?_
 refine rg_splitd (d := 5) rfl (fun h1 => ?_) (fun h1 => ?_)
 ·skip
  refine rg_off rfl rfl rfl rfl rfl ?_
  refine rg_off rfl rfl rfl rfl rfl ?_
  refine ry (y_pick rfl rfl rfl) rfl rfl ?_
  refine ry (y_mov rfl rfl) rfl rfl ?_
  refine rg_off rfl rfl rfl rfl rfl ?_
  refine rg_off rfl rfl rfl rfl rfl ?_
  refine ry (y_pick rfl rfl rfl) rfl rfl ?_
  refine reg_nil ?_
  refine fn_next ?_
  refine cw_condt rfl ?_
  refine cw_seq ?_
  refine cw_reg ?_
  refine ry (y_asg rfl rfl) rfl rfl ?_
  refine reg_nil ?_
  refine fn_next ?_
  refine cw_ret ?_
  refine fn_then_ret ?_
  refine fn_ret1 rfl rfl ?_
  first | exact ⟨congrArg Value.bool (decide_eq_decide.2 (by unfold SgnP; omega)), H0.base⟩ | exact ⟨congrArg Value.bool (decide_eq_false (by unfold SgnP; omega)).symm, H0.base⟩ | exact ⟨congrArg Value.bool (decide_eq_true (by unfold SgnP; omega)).symm, H0.base⟩
 ·skip
  refine rgy (y_mov rfl rfl) rfl rfl rfl rfl ?_
  refine rgy (y_eql rfl rfl rfl) rfl rfl rfl rfl ?_
  refine ry (y_pick rfl rfl rfl) rfl rfl ?_
  refine ry (y_mov rfl rfl) rfl rfl ?_
  refine rg_splitd (d := 9) rfl (fun h2 => ?_) (fun h2 => ?_)
  ·skip
   refine rg_off rfl rfl rfl rfl rfl ?_
   refine rg_off rfl rfl rfl rfl rfl ?_
   refine ry (y_pick rfl rfl rfl) rfl rfl ?_
   refine reg_nil ?_
   refine fn_next ?_
   refine cw_condt rfl ?_
   refine cw_seq ?_
   refine cw_reg ?_
   refine ry (y_asg rfl rfl) rfl rfl ?_
   refine reg_nil ?_
   refine fn_next ?_
   refine cw_ret ?_
   refine fn_then_ret ?_
   refine fn_ret1 rfl rfl ?_
   first | exact ⟨congrArg Value.bool (decide_eq_decide.2 (by unfold SgnP; omega)), H0.base⟩ | exact ⟨congrArg Value.bool (decide_eq_false (by unfold SgnP; omega)).symm, H0.base⟩ | exact ⟨congrArg Value.bool (decide_eq_true (by unfold SgnP; omega)).symm, H0.base⟩
  ·skip
   refine rgy (y_mov rfl rfl) rfl rfl rfl rfl ?_
   refine rgy (y_eql rfl rfl rfl) rfl rfl rfl rfl ?_
   refine ry (y_pick rfl rfl rfl) rfl rfl ?_
   refine reg_nil ?_
   refine fn_next ?_
   refine cw_condd rfl (fun h3 => ?_) (fun h3 => ?_)
   ·skip
    refine cw_seq ?_
    refine cw_reg ?_
    refine ry (y_asg rfl rfl) rfl rfl ?_
    refine reg_nil ?_
    refine fn_next ?_
    refine cw_ret ?_
    refine fn_then_ret ?_
    refine fn_ret1 rfl rfl ?_
    first | exact ⟨congrArg Value.bool (decide_eq_decide.2 (by unfold SgnP; omega)), H0.base⟩ | exact ⟨congrArg Value.bool (decide_eq_false (by unfold SgnP; omega)).symm, H0.base⟩ | exact ⟨congrArg Value.bool (decide_eq_true (by unfold SgnP; omega)).symm, H0.base⟩
   ·skip
    refine cw_skip ?_
    refine fn_next ?_
    refine cw_seq ?_
    refine cw_reg ?_
    refine ry (y_mov rfl rfl) rfl rfl ?_
    refine ry (y_gtr rfl rfl rfl) rfl rfl ?_
    refine ry (y_mov rfl rfl) rfl rfl ?_
    refine rg_splitd (d := 15) rfl (fun h4 => ?_) (fun h4 => ?_)
    ·skip
     refine rgy (y_mov rfl rfl) rfl rfl rfl rfl ?_
     refine rgy (y_lss rfl rfl rfl) rfl rfl rfl rfl ?_
     refine ry (y_pick rfl rfl rfl) rfl rfl ?_
     refine ry (y_mov rfl rfl) rfl rfl ?_
     refine rg_splitd (d := 19) rfl (fun h5 => ?_) (fun h5 => ?_)
     ·skip
      refine rg_off rfl rfl rfl rfl rfl ?_
      refine rg_off rfl rfl rfl rfl rfl ?_
      refine rg_off rfl rfl rfl rfl rfl ?_
      refine rg_offu rfl rfl rfl rfl ?_
      refine rg_offu rfl rfl rfl rfl ?_
      refine rg_off rfl rfl rfl rfl rfl ?_
      refine ry (y_pick rfl rfl rfl) rfl rfl ?_
      refine ry (y_mov rfl rfl) rfl rfl ?_
      refine rg_off rfl rfl rfl rfl rfl ?_
      refine rg_off rfl rfl rfl rfl rfl ?_
      refine rg_off rfl rfl rfl rfl rfl ?_
      refine rg_offu rfl rfl rfl rfl ?_
      refine rg_offu rfl rfl rfl rfl ?_
      refine rg_off rfl rfl rfl rfl rfl ?_
      refine ry (y_pick rfl rfl rfl) rfl rfl ?_
      refine ry (y_asg rfl rfl) rfl rfl ?_
      refine reg_nil ?_
      refine fn_next ?_
      refine cw_ret ?_
      refine fn_ret1 rfl rfl ?_
      first | exact ⟨congrArg Value.bool (decide_eq_decide.2 (by unfold SgnP; omega)), H0.base⟩ | exact ⟨congrArg Value.bool (decide_eq_false (by unfold SgnP; omega)).symm, H0.base⟩ | exact ⟨congrArg Value.bool (decide_eq_true (by unfold SgnP; omega)).symm, H0.base⟩
     ·skip
      refine rgy (y_mov rfl rfl) rfl rfl rfl rfl ?_
      refine rgy (y_gtr rfl rfl rfl) rfl rfl rfl rfl ?_
      refine rgy (y_mov rfl rfl) rfl rfl rfl rfl ?_
      refine rg_splitd (d := 22) rfl (fun h6 => ?_) (fun h6 => ?_)
      ·skip
       refine rgy (y_mov rfl rfl) rfl rfl rfl rfl ?_
       refine rgy (y_lss rfl rfl rfl) rfl rfl rfl rfl ?_
       refine rgy (y_pick rfl rfl rfl) rfl rfl rfl rfl ?_
       refine ry (y_pick rfl rfl rfl) rfl rfl ?_
       refine ry (y_mov rfl rfl) rfl rfl ?_
       refine rg_splitd (d := 27) rfl (fun h7 => ?_) (fun h7 => ?_)
       ·skip
        refine rg_off rfl rfl rfl rfl rfl ?_
        refine rg_off rfl rfl rfl rfl rfl ?_
        refine rg_off rfl rfl rfl rfl rfl ?_
        refine rg_offu rfl rfl rfl rfl ?_
        refine rg_offu rfl rfl rfl rfl ?_
        refine rg_off rfl rfl rfl rfl rfl ?_
        refine ry (y_pick rfl rfl rfl) rfl rfl ?_
        refine ry (y_asg rfl rfl) rfl rfl ?_
        refine reg_nil ?_
        refine fn_next ?_
        refine cw_ret ?_
        refine fn_ret1 rfl rfl ?_
        first | exact ⟨congrArg Value.bool (decide_eq_decide.2 (by unfold SgnP; omega)), H0.base⟩ | exact ⟨congrArg Value.bool (decide_eq_false (by unfold SgnP; omega)).symm, H0.base⟩ | exact ⟨congrArg Value.bool (decide_eq_true (by unfold SgnP; omega)).symm, H0.base⟩
       ·skip
        refine rgy (y_mov rfl rfl) rfl rfl rfl rfl ?_
        refine rgy (y_gtr rfl rfl rfl) rfl rfl rfl rfl ?_
        refine rgy (y_mov rfl rfl) rfl rfl rfl rfl ?_
        refine rg_splitd (d := 30) rfl (fun h8 => ?_) (fun h8 => ?_)
        ·skip
         refine rgy (y_mov rfl rfl) rfl rfl rfl rfl ?_
         refine rgy (y_lss rfl rfl rfl) rfl rfl rfl rfl ?_
         refine rgy (y_pick rfl rfl rfl) rfl rfl rfl rfl ?_
         refine ry (y_pick rfl rfl rfl) rfl rfl ?_
         refine ry (y_asg rfl rfl) rfl rfl ?_
         refine reg_nil ?_
         refine fn_next ?_
         refine cw_ret ?_
         refine fn_ret1 rfl rfl ?_
         first | exact ⟨congrArg Value.bool (decide_eq_decide.2 (by unfold SgnP; omega)), H0.base⟩ | exact ⟨congrArg Value.bool (decide_eq_false (by unfold SgnP; omega)).symm, H0.base⟩ | exact ⟨congrArg Value.bool (decide_eq_true (by unfold SgnP; omega)).symm, H0.base⟩
        ·skip
         refine rg_off rfl rfl rfl rfl rfl ?_
         refine rg_off rfl rfl rfl rfl rfl ?_
         refine rgy (y_pick rfl rfl rfl) rfl rfl rfl rfl ?_
         refine ry (y_pick rfl rfl rfl) rfl rfl ?_
         refine ry (y_asg rfl rfl) rfl rfl ?_
         refine reg_nil ?_
         refine fn_next ?_
         refine cw_ret ?_
         refine fn_ret1 rfl rfl ?_
         first | exact ⟨congrArg Value.bool (decide_eq_decide.2 (by unfold SgnP; omega)), H0.base⟩ | exact ⟨congrArg Value.bool (decide_eq_false (by unfold SgnP; omega)).symm, H0.base⟩ | exact ⟨congrArg Value.bool (decide_eq_true (by unfold SgnP; omega)).symm, H0.base⟩
      ·skip
       refine rg_off rfl rfl rfl rfl rfl ?_
       refine rg_off rfl rfl rfl rfl rfl ?_
       refine rgy (y_pick rfl rfl rfl) rfl rfl rfl rfl ?_
       refine ry (y_pick rfl rfl rfl) rfl rfl ?_
       refine ry (y_mov rfl rfl) rfl rfl ?_
       refine rgy (y_mov rfl rfl) rfl rfl rfl rfl ?_
       refine rgy (y_gtr rfl rfl rfl) rfl rfl rfl rfl ?_
       refine rgy (y_mov rfl rfl) rfl rfl rfl rfl ?_
       refine rg_splitd (d := 30) rfl (fun h9 => ?_) (fun h9 => ?_)
       ·skip
        refine rgy (y_mov rfl rfl) rfl rfl rfl rfl ?_
        refine rgy (y_lss rfl rfl rfl) rfl rfl rfl rfl ?_
        refine rgy (y_pick rfl rfl rfl) rfl rfl rfl rfl ?_
        refine ry (y_pick rfl rfl rfl) rfl rfl ?_
        refine ry (y_asg rfl rfl) rfl rfl ?_
        refine reg_nil ?_
        refine fn_next ?_
        refine cw_ret ?_
        refine fn_ret1 rfl rfl ?_
        first | exact ⟨congrArg Value.bool (decide_eq_decide.2 (by unfold SgnP; omega)), H0.base⟩ | exact ⟨congrArg Value.bool (decide_eq_false (by unfold SgnP; omega)).symm, H0.base⟩ | exact ⟨congrArg Value.bool (decide_eq_true (by unfold SgnP; omega)).symm, H0.base⟩
       ·skip
        refine rg_off rfl rfl rfl rfl rfl ?_
        refine rg_off rfl rfl rfl rfl rfl ?_
        refine rgy (y_pick rfl rfl rfl) rfl rfl rfl rfl ?_
        refine ry (y_pick rfl rfl rfl) rfl rfl ?_
        refine ry (y_asg rfl rfl) rfl rfl ?_
        refine reg_nil ?_
        refine fn_next ?_
        refine cw_ret ?_
        refine fn_ret1 rfl rfl ?_
        first | exact ⟨congrArg Value.bool (decide_eq_decide.2 (by unfold SgnP; omega)), H0.base⟩ | exact ⟨congrArg Value.bool (decide_eq_false (by unfold SgnP; omega)).symm, H0.base⟩ | exact ⟨congrArg Value.bool (decide_eq_true (by unfold SgnP; omega)).symm, H0.base⟩
    ·skip
     refine rg_off rfl rfl rfl rfl rfl ?_
     refine rg_off rfl rfl rfl rfl rfl ?_
     refine ry (y_pick rfl rfl rfl) rfl rfl ?_
     refine ry (y_mov rfl rfl) rfl rfl ?_
     refine rgy (y_mov rfl rfl) rfl rfl rfl rfl ?_
     refine rgy (y_gtr rfl rfl rfl) rfl rfl rfl rfl ?_
     refine rgy (y_mov rfl rfl) rfl rfl rfl rfl ?_
     refine rg_splitd (d := 22) rfl (fun h10 => ?_) (fun h10 => ?_)
     ·skip
      refine rgy (y_mov rfl rfl) rfl rfl rfl rfl ?_
      refine rgy (y_lss rfl rfl rfl) rfl rfl rfl rfl ?_
      refine rgy (y_pick rfl rfl rfl) rfl rfl rfl rfl ?_
      refine ry (y_pick rfl rfl rfl) rfl rfl ?_
      refine ry (y_mov rfl rfl) rfl rfl ?_
      refine rg_splitd (d := 27) rfl (fun h11 => ?_) (fun h11 => ?_)
      ·skip
       refine rg_off rfl rfl rfl rfl rfl ?_
       refine rg_off rfl rfl rfl rfl rfl ?_
       refine rg_off rfl rfl rfl rfl rfl ?_
       refine rg_offu rfl rfl rfl rfl ?_
       refine rg_offu rfl rfl rfl rfl ?_
       refine rg_off rfl rfl rfl rfl rfl ?_
       refine ry (y_pick rfl rfl rfl) rfl rfl ?_
       refine ry (y_asg rfl rfl) rfl rfl ?_
       refine reg_nil ?_
       refine fn_next ?_
       refine cw_ret ?_
       refine fn_ret1 rfl rfl ?_
       first | exact ⟨congrArg Value.bool (decide_eq_decide.2 (by unfold SgnP; omega)), H0.base⟩ | exact ⟨congrArg Value.bool (decide_eq_false (by unfold SgnP; omega)).symm, H0.base⟩ | exact ⟨congrArg Value.bool (decide_eq_true (by unfold SgnP; omega)).symm, H0.base⟩
      ·skip
       refine rgy (y_mov rfl rfl) rfl rfl rfl rfl ?_
       refine rgy (y_gtr rfl rfl rfl) rfl rfl rfl rfl ?_
       refine rgy (y_mov rfl rfl) rfl rfl rfl rfl ?_
       refine rg_splitd (d := 30) rfl (fun h12 => ?_) (fun h12 => ?_)
       ·skip
        refine rgy (y_mov rfl rfl) rfl rfl rfl rfl ?_
        refine rgy (y_lss rfl rfl rfl) rfl rfl rfl rfl ?_
        refine rgy (y_pick rfl rfl rfl) rfl rfl rfl rfl ?_
        refine ry (y_pick rfl rfl rfl) rfl rfl ?_
        refine ry (y_asg rfl rfl) rfl rfl ?_
        refine reg_nil ?_
        refine fn_next ?_
        refine cw_ret ?_
        refine fn_ret1 rfl rfl ?_
        first | exact ⟨congrArg Value.bool (decide_eq_decide.2 (by unfold SgnP; omega)), H0.base⟩ | exact ⟨congrArg Value.bool (decide_eq_false (by unfold SgnP; omega)).symm, H0.base⟩ | exact ⟨congrArg Value.bool (decide_eq_true (by unfold SgnP; omega)).symm, H0.base⟩
       ·skip
        refine rg_off rfl rfl rfl rfl rfl ?_
        refine rg_off rfl rfl rfl rfl rfl ?_
        refine rgy (y_pick rfl rfl rfl) rfl rfl rfl rfl ?_
        refine ry (y_pick rfl rfl rfl) rfl rfl ?_
        refine ry (y_asg rfl rfl) rfl rfl ?_
        refine reg_nil ?_
        refine fn_next ?_
        refine cw_ret ?_
        refine fn_ret1 rfl rfl ?_
        first | exact ⟨congrArg Value.bool (decide_eq_decide.2 (by unfold SgnP; omega)), H0.base⟩ | exact ⟨congrArg Value.bool (decide_eq_false (by unfold SgnP; omega)).symm, H0.base⟩ | exact ⟨congrArg Value.bool (decide_eq_true (by unfold SgnP; omega)).symm, H0.base⟩
     ·skip
      refine rg_off rfl rfl rfl rfl rfl ?_
      refine rg_off rfl rfl rfl rfl rfl ?_
      refine rgy (y_pick rfl rfl rfl) rfl rfl rfl rfl ?_
      refine ry (y_pick rfl rfl rfl) rfl rfl ?_
      refine ry (y_mov rfl rfl) rfl rfl ?_
      refine rgy (y_mov rfl rfl) rfl rfl rfl rfl ?_
      refine rgy (y_gtr rfl rfl rfl) rfl rfl rfl rfl ?_
      refine rgy (y_mov rfl rfl) rfl rfl rfl rfl ?_
      refine rg_splitd (d := 30) rfl (fun h13 => ?_) (fun h13 => ?_)
      ·skip
       refine rgy (y_mov rfl rfl) rfl rfl rfl rfl ?_
       refine rgy (y_lss rfl rfl rfl) rfl rfl rfl rfl ?_
       refine rgy (y_pick rfl rfl rfl) rfl rfl rfl rfl ?_
       refine ry (y_pick rfl rfl rfl) rfl rfl ?_
       refine ry (y_asg rfl rfl) rfl rfl ?_
       refine reg_nil ?_
       refine fn_next ?_
       refine cw_ret ?_
       refine fn_ret1 rfl rfl ?_
       first | exact ⟨congrArg Value.bool (decide_eq_decide.2 (by unfold SgnP; omega)), H0.base⟩ | exact ⟨congrArg Value.bool (decide_eq_false (by unfold SgnP; omega)).symm, H0.base⟩ | exact ⟨congrArg Value.bool (decide_eq_true (by unfold SgnP; omega)).symm, H0.base⟩
      ·skip
       refine rg_off rfl rfl rfl rfl rfl ?_
       refine rg_off rfl rfl rfl rfl rfl ?_
       refine rgy (y_pick rfl rfl rfl) rfl rfl rfl rfl ?_
       refine ry (y_pick rfl rfl rfl) rfl rfl ?_
       refine ry (y_asg rfl rfl) rfl rfl ?_
       refine reg_nil ?_
       refine fn_next ?_
       refine cw_ret ?_
       refine fn_ret1 rfl rfl ?_
       first | exact ⟨congrArg Value.bool (decide_eq_decide.2 (by unfold SgnP; omega)), H0.base⟩ | exact ⟨congrArg Value.bool (decide_eq_false (by unfold SgnP; omega)).symm, H0.base⟩ | exact ⟨congrArg Value.bool (decide_eq_true (by unfold SgnP; omega)).symm, H0.base⟩

set_option maxRecDepth 100000 in
theorem right1 (f s f2 s2 : Int) (b : Nat) (w : World) (hc : Rd w (some ⟨b, 0, none⟩) [.int .i64 f2, .int .i32 s2]) :
    Ret Tryd.prog 95 [.agg #[.int .i64 f, .int .i32 s], pt (some ⟨b, 0, none⟩) 0] w (fun v w' => v = .bool (decide (s = s2)) ∧ Below w.heap.size w w') := by
 refine ret_enter Tryd.func95 rfl rfl rfl ?_
 have H0 := HS.start w
 refine cw_seq ?_
 refine cw_reg ?_
 refine reg_op (op_box (cs := [.int _ _, .int _ _]) H0 rfl rfl rfl) rfl rfl ?_
 rintro _ w2 ⟨b1, rfl, H3⟩
 refine ry (y_asg rfl rfl) rfl rfl ?_
 refine reg_nil ?_
 refine fn_next ?_
 refine cw_seq ?_
 refine cw_reg ?_
 refine ry (y_fa rfl rfl kftint1_1 rfl) rfl rfl ?_
 refine ry (y_ld rfl rfl kftint1_2 (H3.cell (i := 0) rfl rfl)) rfl rfl ?_
 refine ry (y_far (hc.below H3.base) rfl rfl kftint1_1 rfl (rfl)) rfl rfl ?_
 refine ry (y_ldr (k := 1) (hc.below H3.base) rfl rfl kftint1_2 (rfl)) rfl rfl ?_
 refine ry (y_eql rfl rfl rfl) rfl rfl ?_
 refine ry (y_asg rfl rfl) rfl rfl ?_
 refine reg_nil ?_
 refine fn_next ?_
 refine cw_ret ?_
 refine fn_ret1 rfl rfl ?_
 exact ⟨rfl, H3.base⟩

set_option maxRecDepth 100000 in
theorem back1 (f s s2 : Int) (b : Nat) (w : World) (hc : Rd w (some ⟨b, 0, none⟩) [.int .i32 s2]) :
    Ret Tryd.prog 114 [.agg #[.int .i64 f, .int .i32 s], pt (some ⟨b, 0, none⟩) 0] w (fun v w' => v = .bool (decide (s = s2)) ∧ Below w.heap.size w w') := by
 refine ret_enter Tryd.func114 rfl rfl rfl ?_
 have H0 := HS.start w
 refine cw_seq ?_
 refine cw_reg ?_
 refine reg_op (op_box (cs := [.int _ _, .int _ _]) H0 rfl rfl rfl) rfl rfl ?_
 rintro _ w2 ⟨b1, rfl, H3⟩
 refine ry (y_asg rfl rfl) rfl rfl ?_
 refine reg_nil ?_
 refine fn_next ?_
 refine cw_seq ?_
 refine cw_reg ?_
 refine ry (y_fa rfl rfl kftint1_1 rfl) rfl rfl ?_
 refine ry (y_ld rfl rfl kftint1_2 (H3.cell (i := 0) rfl rfl)) rfl rfl ?_
 refine ry (y_ldr (k := 0) (hc.below H3.base) rfl rfl kftint1_2 (rfl)) rfl rfl ?_
 refine ry (y_eql rfl rfl rfl) rfl rfl ?_
 refine ry (y_asg rfl rfl) rfl rfl ?_
 refine reg_nil ?_
 refine fn_next ?_
 refine cw_ret ?_
 refine fn_ret1 rfl rfl ?_
 exact ⟨rfl, H3.base⟩

set_option maxRecDepth 100000 in
set_option maxHeartbeats 1000000 in
theorem indexR (A : Option Addr) (n c : Nat) (l : List Bd) (s2 : Int) (b : Nat) (f2 : Int) (w : World) (hb : Rd w A (bcells l)) (hl : l.length = n) (hn : n ≤ 100000000) (hc : Rd w (some ⟨b, 0, none⟩) [.int .i64 f2, .int .i32 s2]) :
    Ret Tryd.prog 111 [.slice A n c, .func (.func 95) #[] #[.pointer (some ⟨b, 0, none⟩)]] w (fun v w' => ∃ i : Int, v = .int .i64 i ∧ ((i = -1 ∧ ∀ j, j < l.length → (bn l j).s ≠ s2) ∨ (∃ k : Nat, i = k ∧ k < l.length ∧ (∀ j, j < k → (bn l j).s ≠ s2) ∧ (bn l k).s = s2)) ∧ Below w.heap.size w w') := by
 refine ret_enter Tryd.func111 rfl rfl rfl ?_
 have H0 := HS.start w
 refine cw_seq ?_
 refine cw_reg ?_
 refine ry (y_asg rfl rfl) rfl rfl ?_
 refine reg_nil ?_
 refine fn_next ?_
 refine cw_seq ?_
 refine cw_seq ?_
 refine cw_reg ?_
 refine ry (y_mov rfl rfl) rfl rfl ?_
 refine ry (y_len rfl Tryd.underlying87 rfl) rfl rfl ?_
 refine ry (y_mov rfl rfl) rfl rfl ?_
 refine reg_nil ?_
 refine fn_next ?_
 refine cw_block ?_
 refine cw_loopJ [4, 5, 8, 9, 10, 11, 12, 13, 14, 15, 16, 17, 18] (fun M wl ml => ∃ (i : Nat), M = [(8, .int .i64 (i : Int))] ∧ HS w wl [] ∧ (i ≤ n) ∧ (∀ j, j < i → (bn l j).s ≠ s2) ∧ ml = n + 1 - i) ⟨0, rfl, H0, Nat.zero_le _, fun j h => absurd h (Nat.not_lt_zero _), rfl⟩ ⟨rfl, trivial⟩ ?_
 rintro M w1 m3 ⟨i, rfl, H2, hin, hall, rfl⟩
 refine cw_seq ?_
 refine cw_reg ?_
 refine ry (y_lss rfl rfl rfl) rfl rfl ?_
 refine reg_nil ?_
 refine fn_next ?_
 refine cw_seq ?_
 refine cw_condd rfl (fun h4 => ?_) (fun h4 => ?_)
 ·skip
  have g0 := b_get0 (l := l) (i := i) (by omega)
  have g1 := b_get1 (l := l) (i := i) (by omega)
  have gp := b_part (l := l) (i := i) (by omega)
  refine cw_skip ?_
  refine fn_next ?_
  refine cw_seq ?_
  refine cw_block ?_
  refine cw_seq ?_
  refine cw_reg ?_
  refine ry (y_mov rfl rfl) rfl rfl ?_
  refine ry (y_asg rfl rfl) rfl rfl ?_
  refine reg_nil ?_
  refine fn_next ?_
  refine cw_seq ?_
  refine cw_reg ?_
  refine ry (y_mov rfl rfl) rfl rfl ?_
  refine ry (y_mov rfl rfl) rfl rfl ?_
  refine ry (y_mov rfl rfl) rfl rfl ?_
  refine ry (y_iar (hb.below H2.base) rfl rfl rfl kftint1_3 (rfl) (by omega) (rfl) (g0)) rfl rfl ?_
  refine ry (y_ldra (cs := [_, _]) (hb.below H2.base) rfl rfl kftint1_4 rfl (by decide) (gp)) rfl rfl ?_
  refine reg_op (op_callv (fs := []) (vs := [_]) (cs := [_]) (right1 (bn l i).f (bn l i).s f2 s2 b _ (hc.below H2.base)) rfl kftint1_5 rfl ⟨rfl, trivial⟩) rfl rfl ?_
  rintro _ w6 ⟨rfl, e5⟩
  have H7 := H2.ext e5
  refine reg_nil ?_
  refine fn_next ?_
  refine cw_condd rfl (fun hk => ?_) (fun hk => ?_)
  ·skip
   refine cw_seq ?_
   refine cw_reg ?_
   refine ry (y_mov rfl rfl) rfl rfl ?_
   refine ry (y_asg rfl rfl) rfl rfl ?_
   refine reg_nil ?_
   refine fn_next ?_
   refine cw_ret ?_
   refine fn_block_ret (fn_then_ret (fn_then_ret (fn_block_ret (fn_then_ret ?_))))
   refine fn_ret1 rfl rfl ?_
   exact ⟨i, rfl, .inr ⟨i, rfl, by omega, hall, hk⟩, H7.base⟩
  ·skip
   refine cw_skip ?_
   refine fn_block ?_
   refine fn_next ?_
   refine cw_reg ?_
   refine ry (y_add rfl rfl rfl (wi (by omega))) rfl rfl ?_
   refine ry (y_mov rfl rfl) rfl rfl ?_
   refine reg_nil ?_
   refine fn_roundJ ⟨i + 1, rfl, H7, by omega, fun j hj => by rcases Nat.lt_succ_iff_lt_or_eq.1 hj with q | rfl; exact hall j q; exact hk, rfl⟩ ⟨rfl, trivial⟩ (by omega) (by repeat (first | exact kp_refl | refine kp_app rfl rfl ?_ | refine kp_cons rfl ?_)) rfl
 ·skip
  refine cw_exit ?_
  refine fn_then_exit (fn_then_exit (fn_block_exit ?_))
  refine fn_next ?_
  refine cw_seq ?_
  refine cw_reg ?_
  refine ry (y_asg rfl rfl) rfl rfl ?_
  refine reg_nil ?_
  refine fn_next ?_
  refine cw_ret ?_
  refine fn_ret1 rfl rfl ?_
  exact ⟨-1, rfl, .inl ⟨rfl, fun j hj => hall j (by omega)⟩, H2.base⟩

set_option maxRecDepth 100000 in
set_option maxHeartbeats 1000000 in
theorem indexB (A : Option Addr) (n c : Nat) (l : List Bd) (s2 : Int) (b : Nat) (w : World) (hb : Rd w A (bcells l)) (hl : l.length = n) (hn : n ≤ 100000000) (hc : Rd w (some ⟨b, 0, none⟩) [.int .i32 s2]) :
    Ret Tryd.prog 111 [.slice A n c, .func (.func 114) #[] #[.pointer (some ⟨b, 0, none⟩)]] w (fun v w' => ∃ i : Int, v = .int .i64 i ∧ ((i = -1 ∧ ∀ j, j < l.length → (bn l j).s ≠ s2) ∨ (∃ k : Nat, i = k ∧ k < l.length ∧ (∀ j, j < k → (bn l j).s ≠ s2) ∧ (bn l k).s = s2)) ∧ Below w.heap.size w w') := by
 refine ret_enter Tryd.func111 rfl rfl rfl ?_
 have H0 := HS.start w
 refine cw_seq ?_
 refine cw_reg ?_
 refine ry (y_asg rfl rfl) rfl rfl ?_
 refine reg_nil ?_
 refine fn_next ?_
 refine cw_seq ?_
 refine cw_seq ?_
 refine cw_reg ?_
 refine ry (y_mov rfl rfl) rfl rfl ?_
 refine ry (y_len rfl Tryd.underlying87 rfl) rfl rfl ?_
 refine ry (y_mov rfl rfl) rfl rfl ?_
 refine reg_nil ?_
 refine fn_next ?_
 refine cw_block ?_
 refine cw_loopJ [4, 5, 8, 9, 10, 11, 12, 13, 14, 15, 16, 17, 18] (fun M wl ml => ∃ (i : Nat), M = [(8, .int .i64 (i : Int))] ∧ HS w wl [] ∧ (i ≤ n) ∧ (∀ j, j < i → (bn l j).s ≠ s2) ∧ ml = n + 1 - i) ⟨0, rfl, H0, Nat.zero_le _, fun j h => absurd h (Nat.not_lt_zero _), rfl⟩ ⟨rfl, trivial⟩ ?_
 rintro M w1 m3 ⟨i, rfl, H2, hin, hall, rfl⟩
 refine cw_seq ?_
 refine cw_reg ?_
 refine ry (y_lss rfl rfl rfl) rfl rfl ?_
 refine reg_nil ?_
 refine fn_next ?_
 refine cw_seq ?_
 refine cw_condd rfl (fun h4 => ?_) (fun h4 => ?_)
 ·skip
  have g0 := b_get0 (l := l) (i := i) (by omega)
  have g1 := b_get1 (l := l) (i := i) (by omega)
  have gp := b_part (l := l) (i := i) (by omega)
  refine cw_skip ?_
  refine fn_next ?_
  refine cw_seq ?_
  refine cw_block ?_
  refine cw_seq ?_
  refine cw_reg ?_
  refine ry (y_mov rfl rfl) rfl rfl ?_
  refine ry (y_asg rfl rfl) rfl rfl ?_
  refine reg_nil ?_
  refine fn_next ?_
  refine cw_seq ?_
  refine cw_reg ?_
  refine ry (y_mov rfl rfl) rfl rfl ?_
  refine ry (y_mov rfl rfl) rfl rfl ?_
  refine ry (y_mov rfl rfl) rfl rfl ?_
  refine ry (y_iar (hb.below H2.base) rfl rfl rfl kftint1_3 (rfl) (by omega) (rfl) (g0)) rfl rfl ?_
  refine ry (y_ldra (cs := [_, _]) (hb.below H2.base) rfl rfl kftint1_4 rfl (by decide) (gp)) rfl rfl ?_
  refine reg_op (op_callv (fs := []) (vs := [_]) (cs := [_]) (back1 (bn l i).f (bn l i).s s2 b _ (hc.below H2.base)) rfl kftint1_6 rfl ⟨rfl, trivial⟩) rfl rfl ?_
  rintro _ w6 ⟨rfl, e5⟩
  have H7 := H2.ext e5
  refine reg_nil ?_
  refine fn_next ?_
  refine cw_condd rfl (fun hk => ?_) (fun hk => ?_)
  ·skip
   refine cw_seq ?_
   refine cw_reg ?_
   refine ry (y_mov rfl rfl) rfl rfl ?_
   refine ry (y_asg rfl rfl) rfl rfl ?_
   refine reg_nil ?_
   refine fn_next ?_
   refine cw_ret ?_
   refine fn_block_ret (fn_then_ret (fn_then_ret (fn_block_ret (fn_then_ret ?_))))
   refine fn_ret1 rfl rfl ?_
   exact ⟨i, rfl, .inr ⟨i, rfl, by omega, hall, hk⟩, H7.base⟩
  ·skip
   refine cw_skip ?_
   refine fn_block ?_
   refine fn_next ?_
   refine cw_reg ?_
   refine ry (y_add rfl rfl rfl (wi (by omega))) rfl rfl ?_
   refine ry (y_mov rfl rfl) rfl rfl ?_
   refine reg_nil ?_
   refine fn_roundJ ⟨i + 1, rfl, H7, by omega, fun j hj => by rcases Nat.lt_succ_iff_lt_or_eq.1 hj with q | rfl; exact hall j q; exact hk, rfl⟩ ⟨rfl, trivial⟩ (by omega) (by repeat (first | exact kp_refl | refine kp_app rfl rfl ?_ | refine kp_cons rfl ?_)) rfl
 ·skip
  refine cw_exit ?_
  refine fn_then_exit (fn_then_exit (fn_block_exit ?_))
  refine fn_next ?_
  refine cw_seq ?_
  refine cw_reg ?_
  refine ry (y_asg rfl rfl) rfl rfl ?_
  refine reg_nil ?_
  refine fn_next ?_
  refine cw_ret ?_
  refine fn_ret1 rfl rfl ?_
  exact ⟨-1, rfl, .inl ⟨rfl, fun j hj => hall j (by omega)⟩, H2.base⟩

set_option maxRecDepth 100000 in
theorem containsR (A : Option Addr) (n c : Nat) (l : List Bd) (s2 : Int) (b : Nat) (f2 : Int) (w : World) (hb : Rd w A (bcells l)) (hl : l.length = n) (hn : n ≤ 100000000) (hc : Rd w (some ⟨b, 0, none⟩) [.int .i64 f2, .int .i32 s2]) :
    Ret Tryd.prog 94 [.slice A n c, .func (.func 95) #[] #[.pointer (some ⟨b, 0, none⟩)]] w (fun v w' => ∃ r : Bool, v = .bool r ∧ ((r = false ∧ ∀ j, j < l.length → (bn l j).s ≠ s2) ∨ (r = true ∧ ∃ k, k < l.length ∧ (bn l k).s = s2)) ∧ Below w.heap.size w w') := by
 refine ret_enter Tryd.func94 rfl rfl rfl ?_
 have H0 := HS.start w
 refine cw_seq ?_
 refine cw_reg ?_
 refine ry (y_asg rfl rfl) rfl rfl ?_
 refine reg_nil ?_
 refine fn_next ?_
 refine cw_seq ?_
 refine cw_reg ?_
 refine ry (y_mov rfl rfl) rfl rfl ?_
 refine ry (y_mov rfl rfl) rfl rfl ?_
 refine reg_op (op_call (indexR A n c l s2 b f2 _ (hb.below H0.base) hl hn (hc.below H0.base)) rfl kftint1_7 ⟨rfl, rfl, trivial⟩) rfl rfl ?_
 rintro _ w2 ⟨i, rfl, hi, e1⟩
 have H3 := H0.ext e1
 refine ry (y_geq rfl rfl rfl) rfl rfl ?_
 refine ry (y_asg rfl rfl) rfl rfl ?_
 refine reg_nil ?_
 refine fn_next ?_
 refine cw_ret ?_
 refine fn_ret1 rfl rfl ?_
 rcases hi with ⟨rfl, hk⟩ | ⟨k, rfl, hk, _, he⟩
 · exact ⟨decide (-1 ≥ (0 : Int)), rfl, .inl ⟨rfl, hk⟩, H3.base⟩
 · exact ⟨_, rfl, .inr ⟨decide_eq_true (by omega), k, hk, he⟩, H3.base⟩

set_option maxRecDepth 100000 in
set_option maxHeartbeats 1000000 in
theorem tintRight (A : Option Addr) (n c : Nat) (l : List Bd) (w : World) (hb : Rd w A (bcells l)) (hl : l.length = n) (hn : n ≤ 100000000) (hcap : n ≤ c) :
    Ret Tryd.prog 63 [.slice A n c] w (fun v w' => v = .bool (rgtB l) ∧ Below w.heap.size w w') := by
 refine ret_enter Tryd.func63 rfl rfl rfl ?_
 have H0 := HS.start w
 refine cw_seq ?_
 refine cw_reg ?_
 refine ry (y_asg rfl rfl) rfl rfl ?_
 refine reg_nil ?_
 refine fn_next ?_
 refine cw_seq ?_
 refine cw_seq ?_
 refine cw_reg ?_
 refine ry (y_mov rfl rfl) rfl rfl ?_
 refine ry (y_len rfl Tryd.underlying87 rfl) rfl rfl ?_
 refine ry (y_lss rfl rfl rfl) rfl rfl ?_
 refine ry (y_mov rfl rfl) rfl rfl ?_
 refine rg_splitd (d := 9) rfl (fun h1 => ?_) (fun h1 => ?_)
 ·skip
  refine rg_off rfl rfl rfl rfl rfl ?_
  refine rg_off rfl rfl rfl rfl rfl ?_
  refine rg_off rfl rfl rfl rfl rfl ?_
  refine ry (y_pick rfl rfl rfl) rfl rfl ?_
  refine reg_nil ?_
  refine fn_next ?_
  refine cw_condt rfl ?_
  refine cw_seq ?_
  refine cw_reg ?_
  refine ry (y_asg rfl rfl) rfl rfl ?_
  refine reg_nil ?_
  refine fn_next ?_
  refine cw_ret ?_
  refine fn_then_ret ?_
  refine fn_ret1 rfl rfl ?_
  exact ⟨by rw [rgtB_no (fun q => by have := q.1; omega)], H0.base⟩
 ·skip
  refine rgy (y_mov rfl rfl) rfl rfl rfl rfl ?_
  refine rgy (y_len rfl Tryd.underlying87 rfl) rfl rfl rfl rfl ?_
  refine rgy (y_gtr rfl rfl rfl) rfl rfl rfl rfl ?_
  refine ry (y_pick rfl rfl rfl) rfl rfl ?_
  refine reg_nil ?_
  refine fn_next ?_
  refine cw_condd rfl (fun h2 => ?_) (fun h2 => ?_)
  ·skip
   refine cw_seq ?_
   refine cw_reg ?_
   refine ry (y_asg rfl rfl) rfl rfl ?_
   refine reg_nil ?_
   refine fn_next ?_
   refine cw_ret ?_
   refine fn_then_ret ?_
   refine fn_ret1 rfl rfl ?_
   exact ⟨by rw [rgtB_no (fun q => by have := q.1; omega)], H0.base⟩
  ·skip
   refine cw_skip ?_
   refine fn_next ?_
   refine cw_seq ?_
   refine cw_seq ?_
   refine cw_reg ?_
   refine ry (y_mov rfl rfl) rfl rfl ?_
   refine ry (y_len rfl Tryd.underlying87 rfl) rfl rfl ?_
   refine ry (y_mov rfl rfl) rfl rfl ?_
   refine reg_nil ?_
   refine fn_next ?_
   refine cw_block ?_
   refine cw_loopJ [2, 3, 4, 5, 16, 17, 18, 19, 20, 21, 22, 23, 24, 25, 26, 27, 28, 29, 30, 31, 32, 33, 34, 35, 36, 37, 38, 39, 40, 41, 42, 43, 44, 45, 46, 47, 48, 49, 50, 51, 52, 53, 54, 55, 56, 57] (fun M wl ml => ∃ (i : Nat), M = [(16, .int .i64 (i : Int))] ∧ HS w wl [] ∧ (i ≤ n) ∧ (∀ j, j < i → RB l j) ∧ ml = n + 1 - i) ⟨0, rfl, H0, Nat.zero_le _, fun j h => absurd h (Nat.not_lt_zero _), rfl⟩ ⟨rfl, trivial⟩ ?_
   rintro M w3 m5 ⟨i, rfl, H4, hin, hall, rfl⟩
   refine cw_seq ?_
   refine cw_reg ?_
   refine ry (y_lss rfl rfl rfl) rfl rfl ?_
   refine reg_nil ?_
   refine fn_next ?_
   refine cw_seq ?_
   refine cw_condd rfl (fun h6 => ?_) (fun h6 => ?_)
   ·skip
    have g0 := b_get0 (l := l) (i := i) (by omega)
    have g1 := b_get1 (l := l) (i := i) (by omega)
    have gp := b_part (l := l) (i := i) (by omega)
    have hpre := bpre (c := c) hb i
    refine cw_skip ?_
    refine fn_next ?_
    refine cw_seq ?_
    refine cw_block ?_
    refine cw_seq ?_
    refine cw_reg ?_
    refine ry (y_mov rfl rfl) rfl rfl ?_
    refine ry (y_iar (hb.below H4.base) rfl rfl rfl kftint1_3 (rfl) (by omega) (rfl) (g0)) rfl rfl ?_
    refine ry (y_ldra (cs := [_, _]) (hb.below H4.base) rfl rfl kftint1_4 rfl (by decide) (gp)) rfl rfl ?_
    refine reg_op (op_alloc H4 rfl kftint1_8) rfl rfl ?_
    rintro _ w8 ⟨b7, rfl, H9⟩
    refine ry (y_asg rfl rfl) rfl rfl ?_
    refine reg_op (op_st (i := 0) (vs := [.int _ _, .int _ _]) H9 rfl rfl rfl rfl rfl kftint1_9 rfl rfl rfl) rfl rfl ?_
    rintro _ w10 H11
    refine reg_nil ?_
    refine fn_next ?_
    refine cw_seq ?_
    refine cw_reg ?_
    refine ry (y_mov rfl rfl) rfl rfl ?_
    refine ry (y_mov rfl rfl) rfl rfl ?_
    refine ry (y_sh rfl rfl rfl kftint1_3 (rfl) (by omega)) rfl rfl ?_
    refine ry (y_asg rfl rfl) rfl rfl ?_
    refine reg_nil ?_
    refine fn_next ?_
    refine cw_block ?_
    refine cw_seq ?_
    refine cw_reg ?_
    refine ry (y_fa rfl rfl kftint1_10 rfl) rfl rfl ?_
    refine ry (y_ld rfl rfl kftint1_11 (H11.cell (i := 0) rfl rfl)) rfl rfl ?_
    refine ry (y_lss rfl rfl rfl) rfl rfl ?_
    refine ry (y_mov rfl rfl) rfl rfl ?_
    refine rg_splitd (d := 28) rfl (fun h12 => ?_) (fun h12 => ?_)
    ·skip
     refine rg_off rfl rfl rfl rfl rfl ?_
     refine rg_off rfl rfl rfl rfl rfl ?_
     refine rg_off rfl rfl rfl rfl rfl ?_
     refine ry (y_pick rfl rfl rfl) rfl rfl ?_
     refine ry (y_mov rfl rfl) rfl rfl ?_
     refine rg_off rfl rfl rfl rfl rfl ?_
     refine rg_off rfl rfl rfl rfl rfl ?_
     refine rg_off rfl rfl rfl rfl rfl ?_
     refine rg_off rfl rfl rfl rfl rfl ?_
     refine ry (y_pick rfl rfl rfl) rfl rfl ?_
     refine ry (y_asg rfl rfl) rfl rfl ?_
     refine reg_nil ?_
     refine fn_next ?_
     refine cw_condt rfl ?_
     refine cw_seq ?_
     refine cw_reg ?_
     refine ry (y_asg rfl rfl) rfl rfl ?_
     refine reg_nil ?_
     refine fn_next ?_
     refine cw_ret ?_
     refine fn_block_ret (fn_block_ret (fn_then_ret (fn_then_ret (fn_block_ret (fn_then_ret ?_)))))
     refine fn_ret1 rfl rfl ?_
     exact ⟨by rw [rgt_not (i := i) (by omega) (fun q => by have q1 := q.1; have q2 := q.2.1; unfold B32 at q1; first | omega | exact hsg0 q2)], H11.base⟩
    ·skip
     refine rgy (y_fa rfl rfl kftint1_10 rfl) rfl rfl rfl rfl ?_
     refine rgy (y_ld rfl rfl kftint1_11 (H11.cell (i := 0) rfl rfl)) rfl rfl rfl rfl ?_
     refine rgy (y_gtr rfl rfl rfl) rfl rfl rfl rfl ?_
     refine ry (y_pick rfl rfl rfl) rfl rfl ?_
     refine ry (y_mov rfl rfl) rfl rfl ?_
     refine rg_splitd (d := 33) rfl (fun h13 => ?_) (fun h13 => ?_)
     ·skip
      refine rg_off rfl rfl rfl rfl rfl ?_
      refine rg_off rfl rfl rfl rfl rfl ?_
      refine rg_off rfl rfl rfl rfl rfl ?_
      refine rg_off rfl rfl rfl rfl rfl ?_
      refine ry (y_pick rfl rfl rfl) rfl rfl ?_
      refine ry (y_asg rfl rfl) rfl rfl ?_
      refine reg_nil ?_
      refine fn_next ?_
      refine cw_condt rfl ?_
      refine cw_seq ?_
      refine cw_reg ?_
      refine ry (y_asg rfl rfl) rfl rfl ?_
      refine reg_nil ?_
      refine fn_next ?_
      refine cw_ret ?_
      refine fn_block_ret (fn_block_ret (fn_then_ret (fn_then_ret (fn_block_ret (fn_then_ret ?_)))))
      refine fn_ret1 rfl rfl ?_
      exact ⟨by rw [rgt_not (i := i) (by omega) (fun q => by have q1 := q.1; have q2 := q.2.1; unfold B32 at q1; first | omega | exact hsg0 q2)], H11.base⟩
     ·skip
      refine rgy (y_fa rfl rfl kftint1_1 rfl) rfl rfl rfl rfl ?_
      refine rgy (y_ld rfl rfl kftint1_2 (H11.cell (i := 0) rfl rfl)) rfl rfl rfl rfl ?_
      refine rg_on rfl rfl rfl (op_call (tintSign (bn l i).s _) rfl kftint1_12 ⟨rfl, trivial⟩) rfl ?_
      rintro _ w15 ⟨rfl, e14⟩
      have H16 := H11.ext e14
      refine rgy (y_notd rfl rfl) rfl rfl rfl rfl ?_
      refine ry (y_pick rfl rfl rfl) rfl rfl ?_
      refine ry (y_asg rfl rfl) rfl rfl ?_
      refine reg_nil ?_
      refine fn_next ?_
      refine cw_condd rfl (fun hsg0 => ?_) (fun hsg0 => ?_)
      ·skip
       refine cw_seq ?_
       refine cw_reg ?_
       refine ry (y_asg rfl rfl) rfl rfl ?_
       refine reg_nil ?_
       refine fn_next ?_
       refine cw_ret ?_
       refine fn_block_ret (fn_block_ret (fn_then_ret (fn_then_ret (fn_block_ret (fn_then_ret ?_)))))
       refine fn_ret1 rfl rfl ?_
       exact ⟨by rw [rgt_not (i := i) (by omega) (fun q => by have q1 := q.1; have q2 := q.2.1; unfold B32 at q1; first | omega | exact hsg0 q2)], H16.base⟩
      ·skip
       have hsg := Classical.not_not.1 hsg0
       refine cw_seq ?_
       refine cw_draw H16 [0, 1, 2, 3, 4, 5, 6, 7, 8, 9, 10, 11, 12, 13] [] (fun X HX => HX) (by kernel_rfl) (by kernel_rfl) (by rfl) ?_
       simp only [pick, List.getElem?_cons_succ, List.getElem?_cons_zero]
       refine hk_y (fun Y HY => y_mov rfl rfl) rfl rfl ?_
       refine hk_y (fun Y HY => y_gtr rfl rfl rfl) rfl rfl ?_
       refine hk_y (fun Y HY => y_mov rfl rfl) rfl rfl ?_
       refine hk_splitd tv_all (d := 42) rfl (fun h18 => ?_) (fun h18 => ?_)
       ·skip
        have gq := bq (l := l) (i := i) (j := i - 1) (by omega) (by omega)
        refine hk_on (qy_yd fun Y HY => y_fa rfl rfl kftint1_10 rfl) rfl rfl rfl rfl ?_
        refine hk_on (qy_yd fun Y HY => y_ld rfl rfl kftint1_11 (HY.cell (i := 0) rfl rfl)) rfl rfl rfl rfl ?_
        refine hk_on (qy_yd fun Y HY => y_mov rfl rfl) rfl rfl rfl rfl ?_
        refine hk_on (qy_yd fun Y HY => y_mov rfl rfl) rfl rfl rfl rfl ?_
        refine hk_on (qy_yd fun Y HY => y_sub rfl rfl rfl (wi (by omega))) rfl rfl rfl rfl ?_
        refine hk_on (qy_yd fun Y HY => y_iar (hpre.below HY.base) rfl rfl rfl kftint1_3 (show (i : Int) - 1 = ((i - 1 : Nat) : Int) by omega) (by omega) (rfl) (gq)) rfl rfl rfl rfl ?_
        refine hk_on (qy_yd fun Y HY => y_far (hpre.below HY.base) rfl rfl kftint1_10 rfl (gq)) rfl rfl rfl rfl ?_
        refine hk_on (qy_yd fun Y HY => y_ldr (hpre.below HY.base) rfl rfl kftint1_11 (gq)) rfl rfl rfl rfl ?_
        refine hk_on (qy_yd fun Y HY => y_leq rfl rfl rfl) rfl rfl rfl rfl ?_
        refine hk_y (fun Y HY => y_pick rfl rfl rfl) rfl rfl ?_
        refine hk_y (fun Y HY => y_asg rfl rfl) rfl rfl ?_
        refine hk_nil ?_
        intro w19 H20
        refine tv_nil ?_
        refine fn_next ?_
        refine cw_condd rfl (fun hlt => ?_) (fun hlt => ?_)
        ·skip
         refine cw_seq ?_
         refine cw_reg ?_
         refine ry (y_asg rfl rfl) rfl rfl ?_
         refine reg_nil ?_
         refine fn_next ?_
         refine cw_ret ?_
         refine fn_block_ret (fn_block_ret (fn_then_ret (fn_then_ret (fn_block_ret (fn_then_ret ?_)))))
         refine fn_ret1 rfl rfl ?_
         exact ⟨by rw [rgt_not (i := i) (by omega) (fun q => by have := q.2.2 (i - 1) (by omega); omega)], H20.base⟩
        ·skip
         refine cw_seq ?_
         refine cw_reg ?_
         refine ry (y_mov rfl rfl) rfl rfl ?_
         refine ry (y_mkf (first := []) (caps := [_]) (fs := []) (cs := [_]) rfl trivial ⟨rfl, trivial⟩) rfl rfl ?_
         refine reg_op (op_call (containsR _ i _ (l.take i) (bn l i).s _ (bn l i).f _ (hpre.below H20.base) (by rw [List.length_take]; omega) (by omega) ((H20.at_ (i := 0) rfl).2.rd)) rfl kftint1_13 ⟨rfl, rfl, trivial⟩) rfl rfl ?_
         rintro _ w23 ⟨r, rfl, hr, e22⟩
         have H24 := H20.ext e22
         refine ry (y_asg rfl rfl) rfl rfl ?_
         refine reg_nil ?_
         refine fn_next ?_
         refine cw_cond rfl (fun h25 => ?_) (fun h25 => ?_)
         ·skip
          obtain ⟨k, hk, he⟩ : ∃ k, k < (l.take i).length ∧ (bn (l.take i) k).s = (bn l i).s := by rcases hr with ⟨h2, _⟩ | ⟨_, h2⟩; (rw [h2] at h25; cases h25); exact h2
          rw [List.length_take] at hk
          rw [bn_take (by omega)] at he
          refine cw_seq ?_
          refine cw_reg ?_
          refine ry (y_asg rfl rfl) rfl rfl ?_
          refine reg_nil ?_
          refine fn_next ?_
          refine cw_ret ?_
          refine fn_block_ret (fn_block_ret (fn_then_ret (fn_then_ret (fn_block_ret (fn_then_ret ?_)))))
          refine fn_ret1 rfl rfl ?_
          exact ⟨by rw [rgt_not (i := i) (by omega) (fun q => (q.2.2 k (by omega)).2 he)], H24.base⟩
         ·skip
          have hnc : ∀ k, k < i → (bn l k).s ≠ (bn l i).s := by rcases hr with ⟨_, h2⟩ | ⟨h2, _⟩; (intro k hk; have := h2 k (by rw [List.length_take]; omega); rwa [bn_take hk] at this); (rw [h2] at h25; cases h25)
          refine cw_skip ?_
          refine fn_block ?_
          refine fn_block ?_
          refine fn_next ?_
          refine cw_reg ?_
          refine ry (y_add rfl rfl rfl (wi (by omega))) rfl rfl ?_
          refine ry (y_mov rfl rfl) rfl rfl ?_
          refine reg_nil ?_
          refine fn_roundJ ⟨i + 1, rfl, (H24.pick (m := []) [] rfl (by decide)), by omega, rgt_step hall (by unfold B32; omega) hsg (fun h0 => by omega) hnc, rfl⟩ ⟨rfl, trivial⟩ (by omega) (by repeat (first | exact kp_refl | refine kp_app rfl rfl ?_ | refine kp_cons rfl ?_)) rfl
       ·skip
        refine hk_off rfl rfl rfl rfl rfl ?_
        refine hk_off rfl rfl rfl rfl rfl ?_
        refine hk_off rfl rfl rfl rfl rfl ?_
        refine hk_off rfl rfl rfl rfl rfl ?_
        refine hk_off rfl rfl rfl rfl rfl ?_
        refine hk_off rfl rfl rfl rfl rfl ?_
        refine hk_off rfl rfl rfl rfl rfl ?_
        refine hk_off rfl rfl rfl rfl rfl ?_
        refine hk_off rfl rfl rfl rfl rfl ?_
        refine hk_y (fun Y HY => y_pick rfl rfl rfl) rfl rfl ?_
        refine hk_y (fun Y HY => y_asg rfl rfl) rfl rfl ?_
        refine hk_nil ?_
        intro w26 H27
        refine tv_nil ?_
        refine fn_next ?_
        refine cw_condf rfl ?_
        refine cw_seq ?_
        refine cw_reg ?_
        refine ry (y_mov rfl rfl) rfl rfl ?_
        refine ry (y_mkf (first := []) (caps := [_]) (fs := []) (cs := [_]) rfl trivial ⟨rfl, trivial⟩) rfl rfl ?_
        refine reg_op (op_call (containsR _ i _ (l.take i) (bn l i).s _ (bn l i).f _ (hpre.below H27.base) (by rw [List.length_take]; omega) (by omega) ((H27.at_ (i := 0) rfl).2.rd)) rfl kftint1_13 ⟨rfl, rfl, trivial⟩) rfl rfl ?_
        rintro _ w29 ⟨r, rfl, hr, e28⟩
        have H30 := H27.ext e28
        refine ry (y_asg rfl rfl) rfl rfl ?_
        refine reg_nil ?_
        refine fn_next ?_
        refine cw_cond rfl (fun h31 => ?_) (fun h31 => ?_)
        ·skip
         obtain ⟨k, hk, he⟩ : ∃ k, k < (l.take i).length ∧ (bn (l.take i) k).s = (bn l i).s := by rcases hr with ⟨h2, _⟩ | ⟨_, h2⟩; (rw [h2] at h31; cases h31); exact h2
         rw [List.length_take] at hk
         rw [bn_take (by omega)] at he
         refine cw_seq ?_
         refine cw_reg ?_
         refine ry (y_asg rfl rfl) rfl rfl ?_
         refine reg_nil ?_
         refine fn_next ?_
         refine cw_ret ?_
         refine fn_block_ret (fn_block_ret (fn_then_ret (fn_then_ret (fn_block_ret (fn_then_ret ?_)))))
         refine fn_ret1 rfl rfl ?_
         exact ⟨by rw [rgt_not (i := i) (by omega) (fun q => (q.2.2 k (by omega)).2 he)], H30.base⟩
        ·skip
         have hnc : ∀ k, k < i → (bn l k).s ≠ (bn l i).s := by rcases hr with ⟨_, h2⟩ | ⟨h2, _⟩; (intro k hk; have := h2 k (by rw [List.length_take]; omega); rwa [bn_take hk] at this); (rw [h2] at h31; cases h31)
         refine cw_skip ?_
         refine fn_block ?_
         refine fn_block ?_
         refine fn_next ?_
         refine cw_reg ?_
         refine ry (y_add rfl rfl rfl (wi (by omega))) rfl rfl ?_
         refine ry (y_mov rfl rfl) rfl rfl ?_
         refine reg_nil ?_
         refine fn_roundJ ⟨i + 1, rfl, (H30.pick (m := []) [] rfl (by decide)), by omega, rgt_step hall (by unfold B32; omega) hsg (fun h0 => by omega) hnc, rfl⟩ ⟨rfl, trivial⟩ (by omega) (by repeat (first | exact kp_refl | refine kp_app rfl rfl ?_ | refine kp_cons rfl ?_)) rfl
   ·skip
    refine cw_exit ?_
    refine fn_then_exit (fn_then_exit (fn_block_exit ?_))
    refine fn_next ?_
    refine cw_seq ?_
    refine cw_reg ?_
    refine ry (y_asg rfl rfl) rfl rfl ?_
    refine reg_nil ?_
    refine fn_next ?_
    refine cw_ret ?_
    refine fn_ret1 rfl rfl ?_
    exact ⟨by rw [(rgtB_iff l).2 ⟨by omega, fun j hj => hall j (by omega)⟩], H4.base⟩

end Go.Proofs.YtgkkbeomhkggjaaDoor
