/- Layer 48: the document's answer. -/
import Derived.Test.YtgkkbeomhkggjaaDoorLaw48
import Derived.Test.YtgkkbeomhkggjaaDoorSlope3
set_option linter.unusedVariables false
set_option linter.unusedSimpArgs false
namespace Go.Proofs.YtgkkbeomhkggjaaDoor
open Go Go.RowKit
theorem kfref48_1 : aggB Tryd.prog 27 3 = true := by kernel_rfl
theorem kfref48_2 : aggB Tryd.prog 24 2 = true := by kernel_rfl
theorem kfref48_3 : callB Tryd.prog 32 = true := by kernel_rfl
theorem kfref48_4 : (Tryd.prog.info? 40).bind (fun i => i.zero.map Value.cells) = some (List.toArray [(.int .i64 0), (.int .i64 0), (.int .i64 0), (.int .i64 0)]) := by kernel_rfl
theorem kfref48_5 : (Tryd.prog.info? 2).map (fun i => (i.size, i.zero.map Value.cells)) = some (1, some (List.toArray [(.int .i64 0)])) := by kernel_rfl
theorem kfref48_6 : szB Tryd.prog 40 4 = true := by kernel_rfl
theorem kfref48_7 : fldB Tryd.prog 24 0 0 = true := by kernel_rfl
theorem kfref48_8 : oneB Tryd.prog 2 = true := by kernel_rfl
theorem kfref48_9 : elB Tryd.prog 22 1 = true := by kernel_rfl
theorem kfref48_10 : fldB Tryd.prog 24 1 1 = true := by kernel_rfl
theorem kfref48_11 : (Tryd.prog.info? 24).bind (fun i => i.zero.map Value.cells) = some (List.toArray [(.int .i64 0), (.int .i64 0)]) := by kernel_rfl
theorem kfref48_12 : szB Tryd.prog 24 2 = true := by kernel_rfl
theorem kfref48_13 : aggB Tryd.prog 40 4 = true := by kernel_rfl
theorem kfref48_14 : fldB Tryd.prog 40 1 1 = true := by kernel_rfl
theorem kfref48_15 : fldB Tryd.prog 40 0 0 = true := by kernel_rfl
theorem kfref48_16 : callB Tryd.prog 33 = true := by kernel_rfl
theorem ret_still {f : FuncId} {args : List Value} {v : Value} {w : World} (h : Calls Tryd.prog f args.toArray w fun r w' => r = .returned v ∧ w = w') : Ret Tryd.prog f args w (fun u w' => u = v ∧ Below w.heap.size w w') := ret_elder (Calls.mono h fun e w' ⟨p, q⟩ => ⟨p, by subst q; exact Below.refl _ _⟩)
/-- the model's best of the first k -/
def hT (U X Y : Nat → Int) (k : Nat) : Int × Int × Int × Int := if k = 0 then (0, 0, 0, 0) else (U (bst U k), (bst U k : Int) + 1, X (bst U k), Y (bst U k))
theorem hT_0 (U X Y : Nat → Int) : hT U X Y 0 = (0, 0, 0, 0) := rfl
theorem hT_s {U X Y : Nat → Int} {k : Nat} (h : 0 < k) : (hT U X Y k).1 = U (bst U k) ∧ (hT U X Y k).2.1 = (bst U k : Int) + 1 := by
  unfold hT; rw [if_neg (by omega)]; exact ⟨rfl, rfl⟩
theorem hT_on {U X Y : Nat → Int} {k : Nat} : (hT U X Y k).2.1 = 0 ↔ k = 0 := by
  constructor
  · intro q
    rcases Nat.eq_zero_or_pos k with e | e
    · exact e
    · rw [(hT_s e).2] at q; omega
  · rintro rfl; rfl
theorem hT_first {U X Y : Nat → Int} {k : Nat} (h : (hT U X Y k).2.1 = 0) : hT U X Y (k + 1) = (U k, (k : Int) + 1, X k, Y k) := by
  obtain rfl := hT_on.1 h
  unfold hT; rw [if_neg (by omega)]
  have : bst U (0 + 1) = 0 := Nat.le_zero.1 (bst_le U 0)
  rw [this]
theorem hT_yes {U X Y : Nat → Int} {k : Nat} (h : ¬ (hT U X Y k).2.1 = 0) (q : cmpI (U k * (hT U X Y k).2.1) ((hT U X Y k).1 * ((k : Int) + 1)) > 0) : hT U X Y (k + 1) = (U k, (k : Int) + 1, X k, Y k) := by
  have hk : 0 < k := Nat.pos_of_ne_zero fun e => h (hT_on.2 e)
  rw [(hT_s hk).1, (hT_s hk).2] at q
  have : bst U (k + 1) = k := by rw [bst, if_pos (cmpI_pos.1 q)]
  unfold hT; rw [if_neg (by omega), this]
theorem hT_not {U X Y : Nat → Int} {k : Nat} (h : ¬ (hT U X Y k).2.1 = 0) (q : ¬ cmpI (U k * (hT U X Y k).2.1) ((hT U X Y k).1 * ((k : Int) + 1)) > 0) : hT U X Y (k + 1) = hT U X Y k := by
  have hk : 0 < k := Nat.pos_of_ne_zero fun e => h (hT_on.2 e)
  rw [(hT_s hk).1, (hT_s hk).2] at q
  have : bst U (k + 1) = bst U k := by rw [bst, if_neg fun z => q (cmpI_pos.2 z)]
  unfold hT; rw [if_neg (by omega), if_neg (by omega), this]
theorem hT_bd {U X Y : Nat → Int} {k : Nat} (h : ¬ (hT U X Y k).2.1 = 0) (hU : Bd60 U k) (hk2 : k ≤ 2000) : -1000000000000 ≤ (hT U X Y k).1 ∧ (hT U X Y k).1 ≤ 1000000000000 ∧ 1 ≤ (hT U X Y k).2.1 ∧ (hT U X Y k).2.1 ≤ 2001 := by
  have hk : 0 < k := Nat.pos_of_ne_zero fun e => h (hT_on.2 e)
  rw [(hT_s hk).1, (hT_s hk).2]
  have := hU _ (bst_lt (U := U) hk)
  have := bst_lt (U := U) hk
  omega
theorem hS_T {V : List Int} {a h : Nat} {cx cy high : Int} {d : Nat} : hT (hU V a h cx cy (dX d) (dY d) (gatV V a h cx cy + high)) (hX cx (dX d)) (hX cy (dY d)) (ms a h cx cy (dX d) (dY d)) = ((hS V a h cx cy high d).1, (hS V a h cx cy high d).2.1, (hS V a h cx cy high d).2.2.1, (hS V a h cx cy high d).2.2.2.1) := by
  unfold hS hT
  simp only
  by_cases e : ms a h cx cy (dX d) (dY d) = 0
  · rw [if_pos e, if_pos e]
  · rw [if_neg e, if_neg e]; rfl
theorem hS_is {V : List Int} {a h : Nat} {cx cy high : Int} {d : Nat} : (hS V a h cx cy high d).2.2.2.2 = decide (0 < (hS V a h cx cy high d).2.1) := by
  unfold hS
  simp only
  by_cases e : ms a h cx cy (dX d) (dY d) = 0
  · rw [if_pos e]; rfl
  · rw [if_neg e]; exact (decide_eq_true (by show (0 : Int) < (_ : Int) + 1; omega)).symm

set_option maxRecDepth 100000 in
theorem refMay (a h : Nat) (A : Option Addr) (cap : Nat) (V : List Int) (cx cy high : Int) (w : World) (s : SzG a h) (hr : Rd w A (vi .i64 V)) (hl : V.length = a * h) :
    Ret Tryd.prog 12 [.agg #[.int .i64 (a : Int), .int .i64 (h : Int), .slice A (a * h) cap], .agg #[.int .i64 cx, .int .i64 cy], .int .i64 high, .agg #[.int .i64 cx, .int .i64 cy], .int .i64 0] w (fun z w' => z = .int .i64 (hC a h cx cy high) ∧ Below w.heap.size w w') := by
 refine ret_enter Tryd.func12 rfl rfl rfl ?_
 have H0 := HS.start w
 refine cw_seq ?_
 refine cw_reg ?_
 refine reg_op (op_box (cs := [.int _ _, .int _ _, .slice _ _ _]) H0 rfl rfl rfl) rfl rfl ?_
 rintro _ w2 ⟨b1, rfl, H3⟩
 refine reg_op (op_box (cs := [.int _ _, .int _ _]) H3 rfl rfl rfl) rfl rfl ?_
 rintro _ w5 ⟨b4, rfl, H6⟩
 refine reg_op (op_box (cs := [.int _ _, .int _ _]) H6 rfl rfl rfl) rfl rfl ?_
 rintro _ w8 ⟨b7, rfl, H9⟩
 refine ry (y_asg rfl rfl) rfl rfl ?_
 refine reg_nil ?_
 refine fn_next ?_
 refine cw_seq ?_
 refine cw_reg ?_
 refine ry (y_ldb (i := 2) (cs := [_, _, _]) H9 rfl rfl kfref48_1 rfl rfl) rfl rfl ?_
 refine ry (y_ldb (i := 1) (cs := [_, _]) H9 rfl rfl kfref48_2 rfl rfl) rfl rfl ?_
 refine reg_op (op_call (mAt a h A cap cx cy V _ s (hr.below H9.base) hl) rfl kfref48_3 ⟨rfl, rfl, trivial⟩) rfl rfl ?_
 rintro _ w11 ⟨rfl, e10⟩
 have H12 := H9.ext e10
 refine ry (y_mov rfl rfl) rfl rfl ?_
 refine ry (y_ext rfl rfl rfl) rfl rfl ?_
 refine ry (y_ext rfl rfl rfl) rfl rfl ?_
 refine ry (y_asg rfl rfl) rfl rfl ?_
 refine ry (y_asg rfl rfl) rfl rfl ?_
 refine reg_nil ?_
 refine fn_next ?_
 refine cw_seq ?_
 refine cw_reg ?_
 refine ry (y_ldb (i := 2) (cs := [_, _, _]) H12 rfl rfl kfref48_1 rfl rfl) rfl rfl ?_
 refine ry (y_ldb (i := 0) (cs := [_, _]) H12 rfl rfl kfref48_2 rfl rfl) rfl rfl ?_
 refine reg_op (op_call (mAt a h A cap cx cy V _ s (hr.below H12.base) hl) rfl kfref48_3 ⟨rfl, rfl, trivial⟩) rfl rfl ?_
 rintro _ w14 ⟨rfl, e13⟩
 have H15 := H12.ext e13
 refine ry (y_mov rfl rfl) rfl rfl ?_
 refine ry (y_ext rfl rfl rfl) rfl rfl ?_
 refine ry (y_ext rfl rfl rfl) rfl rfl ?_
 refine ry (y_asg rfl rfl) rfl rfl ?_
 refine ry (y_asg rfl rfl) rfl rfl ?_
 refine reg_nil ?_
 refine fn_next ?_
 refine cw_seq ?_
 refine cw_seq ?_
 refine cw_reg ?_
 refine ry (y_mov rfl rfl) rfl rfl ?_
 refine ry (y_neq rfl rfl rfl) rfl rfl ?_
 refine ry (y_mov rfl rfl) rfl rfl ?_
 refine rg_splitd (d := 29) rfl (fun h16 => ?_) (fun h16 => ?_)
 ·skip
  refine rg_off rfl rfl rfl rfl rfl ?_
  refine rg_off rfl rfl rfl rfl rfl ?_
  refine ry (y_pick rfl rfl rfl) rfl rfl ?_
  refine reg_nil ?_
  refine fn_next ?_
  refine cw_condt rfl ?_
  refine cw_seq ?_
  refine cw_reg ?_
  refine ry (y_asg rfl rfl) rfl rfl ?_
  refine reg_nil ?_
  refine fn_next ?_
  refine cw_ret ?_
  refine fn_then_ret ?_
  refine fn_ret1 rfl rfl ?_
  unfold hC
  rw [if_neg (by first | assumption | (intro q; omega))]
  exact ⟨rfl, H15.base⟩
 ·skip
  refine rgy (y_mov rfl rfl) rfl rfl rfl rfl ?_
  refine rgy (y_neq rfl rfl rfl) rfl rfl rfl rfl ?_
  refine ry (y_pick rfl rfl rfl) rfl rfl ?_
  refine reg_nil ?_
  refine fn_next ?_
  refine cw_condd rfl (fun h17 => ?_) (fun h17 => ?_)
  ·skip
   refine cw_seq ?_
   refine cw_reg ?_
   refine ry (y_asg rfl rfl) rfl rfl ?_
   refine reg_nil ?_
   refine fn_next ?_
   refine cw_ret ?_
   refine fn_then_ret ?_
   refine fn_ret1 rfl rfl ?_
   unfold hC
   rw [if_neg (by first | assumption | (intro q; omega))]
   exact ⟨rfl, H15.base⟩
  ·skip
   refine cw_skip ?_
   refine fn_next ?_
   refine cw_seq ?_
   refine cw_seq ?_
   refine cw_reg ?_
   refine ry (y_mov rfl rfl) rfl rfl ?_
   refine ry (y_lss rfl rfl rfl) rfl rfl ?_
   refine ry (y_mov rfl rfl) rfl rfl ?_
   refine rg_splitd (d := 35) rfl (fun h18 => ?_) (fun h18 => ?_)
   ·skip
    refine rg_off rfl rfl rfl rfl rfl ?_
    refine rg_off rfl rfl rfl rfl rfl ?_
    refine ry (y_pick rfl rfl rfl) rfl rfl ?_
    refine ry (y_mov rfl rfl) rfl rfl ?_
    refine rg_off rfl rfl rfl rfl rfl ?_
    refine rg_off rfl rfl rfl rfl rfl ?_
    refine ry (y_pick rfl rfl rfl) rfl rfl ?_
    refine ry (y_mov rfl rfl) rfl rfl ?_
    refine rg_off rfl rfl rfl rfl rfl ?_
    refine rg_off rfl rfl rfl rfl rfl ?_
    refine ry (y_pick rfl rfl rfl) rfl rfl ?_
    refine reg_nil ?_
    refine fn_next ?_
    refine cw_condt rfl ?_
    refine cw_seq ?_
    refine cw_reg ?_
    refine ry (y_asg rfl rfl) rfl rfl ?_
    refine reg_nil ?_
    refine fn_next ?_
    refine cw_ret ?_
    refine fn_then_ret ?_
    refine fn_ret1 rfl rfl ?_
    unfold hC
    rw [if_pos (Classical.not_not.1 (by assumption)), if_pos (by omega)]
    exact ⟨rfl, H15.base⟩
   ·skip
    refine rgy (y_mov rfl rfl) rfl rfl rfl rfl ?_
    refine rgy (y_gtr rfl rfl rfl) rfl rfl rfl rfl ?_
    refine ry (y_pick rfl rfl rfl) rfl rfl ?_
    refine ry (y_mov rfl rfl) rfl rfl ?_
    refine rg_splitd (d := 39) rfl (fun h19 => ?_) (fun h19 => ?_)
    ·skip
     refine rg_off rfl rfl rfl rfl rfl ?_
     refine rg_off rfl rfl rfl rfl rfl ?_
     refine ry (y_pick rfl rfl rfl) rfl rfl ?_
     refine ry (y_mov rfl rfl) rfl rfl ?_
     refine rg_off rfl rfl rfl rfl rfl ?_
     refine rg_off rfl rfl rfl rfl rfl ?_
     refine ry (y_pick rfl rfl rfl) rfl rfl ?_
     refine reg_nil ?_
     refine fn_next ?_
     refine cw_condt rfl ?_
     refine cw_seq ?_
     refine cw_reg ?_
     refine ry (y_asg rfl rfl) rfl rfl ?_
     refine reg_nil ?_
     refine fn_next ?_
     refine cw_ret ?_
     refine fn_then_ret ?_
     refine fn_ret1 rfl rfl ?_
     unfold hC
     rw [if_pos (Classical.not_not.1 (by assumption)), if_pos (by omega)]
     exact ⟨rfl, H15.base⟩
    ·skip
     refine rgy (y_mov rfl rfl) rfl rfl rfl rfl ?_
     refine rgy (y_lss rfl rfl rfl) rfl rfl rfl rfl ?_
     refine ry (y_pick rfl rfl rfl) rfl rfl ?_
     refine ry (y_mov rfl rfl) rfl rfl ?_
     refine rg_splitd (d := 43) rfl (fun h20 => ?_) (fun h20 => ?_)
     ·skip
      refine rg_off rfl rfl rfl rfl rfl ?_
      refine rg_off rfl rfl rfl rfl rfl ?_
      refine ry (y_pick rfl rfl rfl) rfl rfl ?_
      refine reg_nil ?_
      refine fn_next ?_
      refine cw_condt rfl ?_
      refine cw_seq ?_
      refine cw_reg ?_
      refine ry (y_asg rfl rfl) rfl rfl ?_
      refine reg_nil ?_
      refine fn_next ?_
      refine cw_ret ?_
      refine fn_then_ret ?_
      refine fn_ret1 rfl rfl ?_
      unfold hC
      rw [if_pos (Classical.not_not.1 (by assumption)), if_pos (by omega)]
      exact ⟨rfl, H15.base⟩
     ·skip
      refine rgy (y_mov rfl rfl) rfl rfl rfl rfl ?_
      refine rgy (y_gtr rfl rfl rfl) rfl rfl rfl rfl ?_
      refine ry (y_pick rfl rfl rfl) rfl rfl ?_
      refine reg_nil ?_
      refine fn_next ?_
      refine cw_condd rfl (fun h21 => ?_) (fun h21 => ?_)
      ·skip
       refine cw_seq ?_
       refine cw_reg ?_
       refine ry (y_asg rfl rfl) rfl rfl ?_
       refine reg_nil ?_
       refine fn_next ?_
       refine cw_ret ?_
       refine fn_then_ret ?_
       refine fn_ret1 rfl rfl ?_
       unfold hC
       rw [if_pos (Classical.not_not.1 (by assumption)), if_pos (by omega)]
       exact ⟨rfl, H15.base⟩
      ·skip
       refine cw_skip ?_
       refine fn_next ?_
       refine cw_seq ?_
       refine cw_reg ?_
       refine ry (y_asg rfl rfl) rfl rfl ?_
       refine reg_nil ?_
       refine fn_next ?_
       refine cw_ret ?_
       refine fn_ret1 rfl rfl ?_
       unfold hC
       rw [if_pos (Classical.not_not.1 (by assumption)), if_neg (by omega)]
       exact ⟨rfl, H15.base⟩

set_option maxRecDepth 100000 in
set_option maxHeartbeats 2000000 in
theorem mSteep (a h : Nat) (A : Option Addr) (cap : Nat) (V : List Int) (cx cy high : Int) (d : Nat) (w : World) (s : SzG a h) (hr : Rd w A (vi .i64 V)) (hl : V.length = a * h) (hb : AllB V) (hc : hC a h cx cy high = 0) (hd : d < 8) :
    Ret Tryd.prog 13 [.agg #[.int .i64 (a : Int), .int .i64 (h : Int), .slice A (a * h) cap], .agg #[.int .i64 cx, .int .i64 cy], .int .i64 high, .int .i64 (d : Int)] w (fun z w' => z = .agg #[.int .i64 (hS V a h cx cy high d).1, .int .i64 (hS V a h cx cy high d).2.1, .int .i64 (hS V a h cx cy high d).2.2.1, .int .i64 (hS V a h cx cy high d).2.2.2.1] ∧ Below w.heap.size w w') := by
 have hi := (inB_w (x := cx) (y := cy) s).2 (hC_w hc)
 have hh := hC_h hc
 have hcb := inB_bd hi
 have hd1 := okD hd
 have hms := ms_spec s hd1 hi
 have hmb := hms.2.2
 obtain ⟨z1, z2, z3, z4⟩ := id s
 have d1 := hd1.x1
 have d2 := hd1.x2
 have d3 := hd1.y1
 have d4 := hd1.y2
 have gx : (vi .i64 [0, 1, 1, 1, 0, -1, -1, -1])[d]? = some (.int .i64 (dX d)) := vi_get (show d < 8 from hd)
 have gy : (vi .i64 [-1, -1, 0, 1, 1, 1, 0, -1])[d]? = some (.int .i64 (dY d)) := vi_get (show d < 8 from hd)
 have hgb := gatV_B32 (a := a) (h := h) (x := cx) (y := cy) hb
 refine ret_enter Tryd.func13 rfl rfl rfl ?_
 have H0 := HS.start w
 refine cw_seq ?_
 refine cw_reg ?_
 refine reg_op (op_box (cs := [.int _ _, .int _ _, .slice _ _ _]) H0 rfl rfl rfl) rfl rfl ?_
 rintro _ w2 ⟨b1, rfl, H3⟩
 refine reg_op (op_box (cs := [.int _ _, .int _ _]) H3 rfl rfl rfl) rfl rfl ?_
 rintro _ w5 ⟨b4, rfl, H6⟩
 refine reg_op (op_alloc H6 rfl kfref48_4) rfl rfl ?_
 rintro _ w8 ⟨b7, rfl, H9⟩
 refine reg_nil ?_
 refine fn_next ?_
 refine cw_seq ?_
 refine cw_reg ?_
 refine reg_op (op_lit (parts := [(0, _), (1, _), (2, _), (3, _), (4, _), (5, _), (6, _), (7, _)]) (vs := [(0, _), (1, _), (2, _), (3, _), (4, _), (5, _), (6, _), (7, _)]) (cs := [.int _ _, .int _ _, .int _ _, .int _ _, .int _ _, .int _ _, .int _ _, .int _ _]) H9 rfl Tryd.underlying22 kfref48_5 rfl ⟨rfl, rfl, rfl, rfl, rfl, rfl, rfl, rfl, trivial⟩ rfl rfl) rfl rfl ?_
 rintro _ w11 ⟨b10, rfl, H12⟩
 have H13 := H12.asrow (m := 8) (size := 1) rfl (by decide)
 refine ry (y_asg rfl rfl) rfl rfl ?_
 refine reg_nil ?_
 refine fn_next ?_
 refine cw_seq ?_
 refine cw_reg ?_
 refine reg_op (op_lit (parts := [(0, _), (1, _), (2, _), (3, _), (4, _), (5, _), (6, _), (7, _)]) (vs := [(0, _), (1, _), (2, _), (3, _), (4, _), (5, _), (6, _), (7, _)]) (cs := [.int _ _, .int _ _, .int _ _, .int _ _, .int _ _, .int _ _, .int _ _, .int _ _]) H13 rfl Tryd.underlying22 kfref48_5 rfl ⟨rfl, rfl, rfl, rfl, rfl, rfl, rfl, rfl, trivial⟩ rfl rfl) rfl rfl ?_
 rintro _ w15 ⟨b14, rfl, H16⟩
 have H17 := H16.asrow (m := 8) (size := 1) rfl (by decide)
 refine ry (y_asg rfl rfl) rfl rfl ?_
 refine reg_nil ?_
 refine fn_next ?_
 refine cw_seq ?_
 refine cw_reg ?_
 refine ry (y_ldb (i := 4) (cs := [_, _, _]) H17 rfl rfl kfref48_1 rfl rfl) rfl rfl ?_
 refine ry (y_ldb (i := 3) (cs := [_, _]) H17 rfl rfl kfref48_2 rfl rfl) rfl rfl ?_
 refine reg_op (op_call (mAt a h A cap cx cy V _ s (hr.below H17.base) hl) rfl kfref48_3 ⟨rfl, rfl, trivial⟩) rfl rfl ?_
 rintro _ w19 ⟨rfl, e18⟩
 have H20 := H17.ext e18
 refine ry (y_mov rfl rfl) rfl rfl ?_
 refine ry (y_ext rfl rfl rfl) rfl rfl ?_
 refine ry (y_ext rfl rfl rfl) rfl rfl ?_
 refine ry (y_asg rfl rfl) rfl rfl ?_
 refine ry (y_asg rfl rfl) rfl rfl ?_
 refine reg_nil ?_
 refine fn_next ?_
 refine cw_seq ?_
 refine cw_reg ?_
 refine ry (y_build (places := [(0, 1), (1, 1), (2, 2)]) (parts := []) (vs := []) (cs := [.int _ _, .int _ _, .int _ _, .int _ _]) rfl Tryd.underlying40 (by kernel_rfl) kfref48_4 rfl trivial rfl) rfl rfl ?_
 refine reg_op (op_alloc H20 rfl kfref48_4) rfl rfl ?_
 rintro _ w22 ⟨b21, rfl, H23⟩
 refine reg_op (op_st (i := 0) (vs := [.int _ _, .int _ _, .int _ _, .int _ _]) H23 rfl rfl rfl rfl rfl kfref48_6 rfl rfl rfl) rfl rfl ?_
 rintro _ w24 H25
 refine reg_nil ?_
 refine fn_next ?_
 refine cw_seq ?_
 refine cw_seq ?_
 refine cw_reg ?_
 refine ry (y_asg rfl rfl) rfl rfl ?_
 refine reg_nil ?_
 refine fn_next ?_
 refine cw_block ?_
 refine cw_loopJ [14, 15, 16, 17, 27, 28, 29, 30, 31, 32, 33, 34, 35, 36, 37, 38, 39, 40, 41, 42, 43, 44, 45, 46, 47, 48, 49, 50, 51, 52, 53, 54, 55, 56, 57, 58, 59, 60, 61, 62, 63, 64, 65, 66, 67, 68, 69, 70, 71, 72, 73, 74, 75, 76, 77, 78, 79, 80, 81, 82, 83] (fun M wl ml => ∃ (k : Nat), M = [(14, .int .i64 ((k : Int) + 1))] ∧ HS w wl [Ob.blk b21 [.int .i64 (hT (hU V a h cx cy (dX d) (dY d) (gatV V a h cx cy + high)) (hX cx (dX d)) (hX cy (dY d)) k).1, .int .i64 (hT (hU V a h cx cy (dX d) (dY d) (gatV V a h cx cy + high)) (hX cx (dX d)) (hX cy (dY d)) k).2.1, .int .i64 (hT (hU V a h cx cy (dX d) (dY d) (gatV V a h cx cy + high)) (hX cx (dX d)) (hX cy (dY d)) k).2.2.1, .int .i64 (hT (hU V a h cx cy (dX d) (dY d) (gatV V a h cx cy + high)) (hX cx (dX d)) (hX cy (dY d)) k).2.2.2] 40, Ob.row (some ⟨b14, 0, none⟩) 8 8 (vi .i64 [-1, -1, 0, 1, 1, 1, 0, -1]) 2 1, Ob.row (some ⟨b10, 0, none⟩) 8 8 (vi .i64 [0, 1, 1, 1, 0, -1, -1, -1]) 2 1, Ob.blk b7 [.int .i64 0, .int .i64 0, .int .i64 0, .int .i64 0] 40, Ob.blk b4 [.int .i64 cx, .int .i64 cy] 24, Ob.blk b1 [.int .i64 (a : Int), .int .i64 (h : Int), .slice A (a * h) cap] 27] ∧ (k ≤ (ms a h cx cy (dX d) (dY d))) ∧ ml = (ms a h cx cy (dX d) (dY d)) + 1 - k) ⟨0, rfl, H25, Nat.zero_le _, rfl⟩ ⟨rfl, trivial⟩ ?_
 rintro M w26 m28 ⟨k, rfl, H27, hp0, rfl⟩
 have hin := inB_bd (hms.1 k hp0)
 have hsx := sXs cx (dX d) k
 have hsy := sXs cy (dY d) k
 have hmx : ((k + 1 : Nat) : Int) * dX d = sX cx (dX d) (k + 1) - cx := by unfold sX; omega
 have hmy : ((k + 1 : Nat) : Int) * dY d = sX cy (dY d) (k + 1) - cy := by unfold sX; omega
 refine cw_seq ?_
 refine cw_seq ?_
 refine cw_reg ?_
 refine ry (y_mov rfl rfl) rfl rfl ?_
 refine ry (y_lss rfl rfl rfl) rfl rfl ?_
 refine reg_nil ?_
 refine fn_next ?_
 refine cw_condd rfl (fun h29 => ?_) (fun h29 => ?_)
 ·skip
  refine cw_skip ?_
  refine fn_next ?_
  refine cw_seq ?_
  refine cw_block ?_
  refine cw_seq ?_
  refine cw_draw H27 [0, 1, 2, 3, 4, 5, 6, 7, 8, 9, 10, 11, 12, 13, 14, 15, 16, 17, 18] [19, 20] (fun X HX => HX) (by kernel_rfl) (by kernel_rfl) (by rfl) ?_
  simp only [pick, List.getElem?_cons_succ, List.getElem?_cons_zero]
  refine hk_y (fun Y HY => y_fa rfl rfl kfref48_7 rfl) rfl rfl ?_
  refine hk_y (fun Y HY => y_ld rfl rfl kfref48_8 (HY.cell (i := 4) rfl rfl)) rfl rfl ?_
  refine hk_y (fun Y HY => y_mov rfl rfl) rfl rfl ?_
  refine hk_y (fun Y HY => y_mov rfl rfl) rfl rfl ?_
  refine hk_y (fun Y HY => y_mov rfl rfl) rfl rfl ?_
  refine hk_y (fun Y HY => y_iar (HY.rd (i := 2) rfl) rfl rfl rfl kfref48_9 (rfl) (by omega) (Nat.mul_one _) (gx)) rfl rfl ?_
  refine hk_y (fun Y HY => y_ldr (HY.rd (i := 2) rfl) rfl rfl kfref48_8 (gx)) rfl rfl ?_
  refine hk_y (fun Y HY => y_mul rfl rfl rfl (show _ = ((k + 1 : Nat) : Int) * dX d from wi (by show -9223372036854775808 ≤ ((k + 1 : Nat) : Int) * dX d ∧ ((k + 1 : Nat) : Int) * dX d ≤ 9223372036854775807; rw [hmx]; omega))) rfl rfl ?_
  refine hk_y (fun Y HY => y_add rfl rfl rfl (show _ = sX cx (dX d) (k + 1) from (wi (by rw [hmx]; omega)).trans (by rw [hmx]; omega))) rfl rfl ?_
  refine hk_y (fun Y HY => y_fa rfl rfl kfref48_10 rfl) rfl rfl ?_
  refine hk_y (fun Y HY => y_ld rfl rfl kfref48_8 (HY.cell (i := 4) rfl rfl)) rfl rfl ?_
  refine hk_y (fun Y HY => y_mov rfl rfl) rfl rfl ?_
  refine hk_y (fun Y HY => y_mov rfl rfl) rfl rfl ?_
  refine hk_y (fun Y HY => y_mov rfl rfl) rfl rfl ?_
  refine hk_y (fun Y HY => y_iar (HY.rd (i := 1) rfl) rfl rfl rfl kfref48_9 (rfl) (by omega) (Nat.mul_one _) (gy)) rfl rfl ?_
  refine hk_y (fun Y HY => y_ldr (HY.rd (i := 1) rfl) rfl rfl kfref48_8 (gy)) rfl rfl ?_
  refine hk_y (fun Y HY => y_mul rfl rfl rfl (show _ = ((k + 1 : Nat) : Int) * dY d from wi (by show -9223372036854775808 ≤ ((k + 1 : Nat) : Int) * dY d ∧ ((k + 1 : Nat) : Int) * dY d ≤ 9223372036854775807; rw [hmy]; omega))) rfl rfl ?_
  refine hk_y (fun Y HY => y_add rfl rfl rfl (show _ = sX cy (dY d) (k + 1) from (wi (by rw [hmy]; omega)).trans (by rw [hmy]; omega))) rfl rfl ?_
  refine hk_y (fun Y HY => y_build (places := [(0, 1), (1, 1)]) (parts := [(0, _), (1, _)]) (vs := [(0, _), (1, _)]) (cs := [.int _ _, .int _ _]) rfl Tryd.underlying24 (by kernel_rfl) kfref48_11 rfl ⟨rfl, rfl, trivial⟩ rfl) rfl rfl ?_
  refine hk_nil ?_
  intro w30 H31
  refine tv_op (op_alloc H31 rfl kfref48_11) rfl rfl ?_
  rintro _ w33 ⟨b32, rfl, H34⟩
  refine ⟨(H34.pick (m := [_, _, _, _, _, _]) [1, 2, 3, 4, 5, 6] rfl (by decide)), fun w35 e37 => ?_⟩
  have H36 := H34.ext e37
  refine tv_op (op_st (i := 0) (vs := [.int _ _, .int _ _]) H36 rfl rfl rfl rfl rfl kfref48_12 rfl rfl rfl) rfl rfl ?_
  rintro _ w38 H39
  refine ⟨(H39.pick (m := [_, _, _, _, _, _]) [1, 2, 3, 4, 5, 6] rfl (by decide)), fun w40 e42 => ?_⟩
  have H41 := H39.ext e42
  refine tv_nil ?_
  refine fn_next ?_
  refine cw_seq ?_
  refine cw_reg ?_
  refine ry (y_ldb (i := 6) (cs := [_, _, _]) H41 rfl rfl kfref48_1 rfl rfl) rfl rfl ?_
  refine ry (y_ldb (i := 0) (cs := [_, _]) H41 rfl rfl kfref48_2 rfl rfl) rfl rfl ?_
  refine reg_op (op_call (mAt a h A cap (sX cx (dX d) (k + 1)) (sX cy (dY d) (k + 1)) V _ s (hr.below H41.base) hl) rfl kfref48_3 ⟨rfl, rfl, trivial⟩) rfl rfl ?_
  rintro _ w44 ⟨rfl, e43⟩
  have H45 := H41.ext e43
  refine ry (y_mov rfl rfl) rfl rfl ?_
  refine ry (y_ext rfl rfl rfl) rfl rfl ?_
  refine ry (y_ext rfl rfl rfl) rfl rfl ?_
  refine ry (y_asg rfl rfl) rfl rfl ?_
  refine ry (y_asg rfl rfl) rfl rfl ?_
  refine reg_nil ?_
  refine fn_next ?_
  refine cw_seq ?_
  refine cw_seq ?_
  refine cw_reg ?_
  refine ry (y_mov rfl rfl) rfl rfl ?_
  refine ry (y_neq rfl rfl rfl) rfl rfl ?_
  refine reg_nil ?_
  refine fn_next ?_
  refine cw_condd rfl (fun h46 => ?_) (fun h46 => ?_)
  ·skip
   have hie := ms_stop s hd1 hi hp0 h46
   subst hie
   refine cw_seq ?_
   refine cw_reg ?_
   refine ry (y_ldb (i := 1) (cs := [_, _, _, _]) H45 rfl rfl kfref48_13 rfl rfl) rfl rfl ?_
   refine reg_op (op_st (i := 4) (vs := [.int _ _, .int _ _, .int _ _, .int _ _]) H45 rfl rfl rfl rfl rfl kfref48_6 rfl rfl rfl) rfl rfl ?_
   rintro _ w47 H48
   refine reg_nil ?_
   refine fn_next ?_
   refine cw_ret ?_
   refine fn_then_ret (fn_block_ret (fn_then_ret (fn_then_ret (fn_block_ret (fn_then_ret ?_)))))
   refine fn_ret1 rfl (⟨_, rfl, load_agg (cs := [_, _, _, _]) kfref48_13 rfl fun j v hv => by rw [Nat.zero_add]; exact H48.cell (i := 4) rfl hv⟩) ?_
   refine ⟨?_, H48.base⟩
   rw [hS_T]
  ·skip
   have hlt := ms_go s hd1 hi hp0 (Classical.not_not.1 h46)
   have hgk := gatV_B32 (a := a) (h := h) (x := sX cx (dX d) (k + 1)) (y := sX cy (dY d) (k + 1)) hb
   have hub := hU_bd (a := a) (h := h) (cx := cx) (cy := cy) (dx := dX d) (dy := dY d) (e := (gatV V a h cx cy + high)) hb (by omega)
   have hukb := hub (k + 1) k (by omega)
   refine cw_skip ?_
   refine fn_next ?_
   refine cw_seq ?_
   refine cw_reg ?_
   refine ry (y_fa rfl rfl kfref48_14 rfl) rfl rfl ?_
   refine ry (y_ld rfl rfl kfref48_8 (H45.cell (i := 1) rfl rfl)) rfl rfl ?_
   refine ry (y_eql rfl rfl rfl) rfl rfl ?_
   refine ry (y_mov rfl rfl) rfl rfl ?_
   refine rg_splitd (d := 62) rfl (fun h49 => ?_) (fun h49 => ?_)
   ·skip
    have hnx := hT_first h49
    have hn2 : ([.int .i64 ((hU V a h cx cy (dX d) (dY d) (gatV V a h cx cy + high)) k), .int .i64 ((k : Int) + 1), .int .i64 (sX cx (dX d) (k + 1)), .int .i64 (sX cy (dY d) (k + 1))] : List Value) = [.int .i64 (hT (hU V a h cx cy (dX d) (dY d) (gatV V a h cx cy + high)) (hX cx (dX d)) (hX cy (dY d)) (k + 1)).1, .int .i64 (hT (hU V a h cx cy (dX d) (dY d) (gatV V a h cx cy + high)) (hX cx (dX d)) (hX cy (dY d)) (k + 1)).2.1, .int .i64 (hT (hU V a h cx cy (dX d) (dY d) (gatV V a h cx cy + high)) (hX cx (dX d)) (hX cy (dY d)) (k + 1)).2.2.1, .int .i64 (hT (hU V a h cx cy (dX d) (dY d) (gatV V a h cx cy + high)) (hX cx (dX d)) (hX cy (dY d)) (k + 1)).2.2.2] := by rw [hnx]; rfl
    refine rg_off rfl rfl rfl rfl rfl ?_
    refine rg_off rfl rfl rfl rfl rfl ?_
    refine rg_off rfl rfl rfl rfl rfl ?_
    refine rg_off rfl rfl rfl rfl rfl ?_
    refine rg_off rfl rfl rfl rfl rfl ?_
    refine rg_off rfl rfl rfl rfl rfl ?_
    refine rg_off rfl rfl rfl rfl rfl ?_
    refine rg_off rfl rfl rfl rfl rfl ?_
    refine rg_off rfl rfl rfl rfl rfl ?_
    refine rg_off rfl rfl rfl rfl rfl ?_
    refine rg_off rfl rfl rfl rfl rfl ?_
    refine rg_off rfl rfl rfl rfl rfl ?_
    refine ry (y_pick rfl rfl rfl) rfl rfl ?_
    refine reg_nil ?_
    refine fn_next ?_
    refine cw_condt rfl ?_
    refine cw_reg ?_
    refine ry (y_mov rfl rfl) rfl rfl ?_
    refine ry (y_mov rfl rfl) rfl rfl ?_
    refine ry (y_sub rfl rfl rfl (wi (by omega))) rfl rfl ?_
    refine ry (y_mov rfl rfl) rfl rfl ?_
    refine ry (y_sub rfl rfl rfl (show _ = (hU V a h cx cy (dX d) (dY d) (gatV V a h cx cy + high)) k from (wi (by omega)).trans (by show _ = gatV V a h (sX cx (dX d) (k + 1)) (sX cy (dY d) (k + 1)) - (gatV V a h cx cy + high); omega))) rfl rfl ?_
    refine ry (y_mov rfl rfl) rfl rfl ?_
    refine ry (y_ldb (i := 0) (cs := [_, _]) H45 rfl rfl kfref48_2 rfl rfl) rfl rfl ?_
    refine ry (y_build (places := [(0, 1), (1, 1), (2, 2)]) (parts := [(0, _), (1, _), (2, _)]) (vs := [(0, _), (1, _), (2, _)]) (cs := [.int _ _, .int _ _, .int _ _, .int _ _]) rfl Tryd.underlying40 (by kernel_rfl) kfref48_4 rfl ⟨rfl, rfl, rfl, trivial⟩ rfl) rfl rfl ?_
    refine reg_op (op_st (i := 1) (vs := [.int _ _, .int _ _, .int _ _, .int _ _]) H45 rfl rfl rfl rfl rfl kfref48_6 rfl rfl rfl) rfl rfl ?_
    rintro _ w50 H51
    refine reg_nil ?_
    refine fn_block ?_
    refine fn_next ?_
    refine cw_reg ?_
    refine ry (y_mov rfl rfl) rfl rfl ?_
    refine ry (y_add rfl rfl rfl (show _ = ((k + 1 : Nat) : Int) + 1 from (wi (by omega)).trans (by omega))) rfl rfl ?_
    refine ry (y_asg rfl rfl) rfl rfl ?_
    refine reg_nil ?_
    first | rw [hn2] at H51 | rw [← hnx] at H51
    refine fn_roundJ ⟨k + 1, rfl, (H51.pick (m := [_, _, _, _, _, _]) [1, 2, 3, 4, 5, 6] rfl (by decide)), by omega, rfl⟩ ⟨rfl, trivial⟩ (by omega) (by repeat (first | exact kp_refl | refine kp_app rfl rfl ?_ | refine kp_cons rfl ?_)) rfl
   ·skip
    have hon := h49
    have hbd := hT_bd (X := (hX cx (dX d))) (Y := (hX cy (dY d))) h49 (hub k) (by omega)
    refine rgy (y_mov rfl rfl) rfl rfl rfl rfl ?_
    refine rgy (y_mov rfl rfl) rfl rfl rfl rfl ?_
    refine rgy (y_sub rfl rfl rfl (wi (by omega))) rfl rfl rfl rfl ?_
    refine rgy (y_mov rfl rfl) rfl rfl rfl rfl ?_
    refine rgy (y_sub rfl rfl rfl (show _ = (hU V a h cx cy (dX d) (dY d) (gatV V a h cx cy + high)) k from (wi (by omega)).trans (by show _ = gatV V a h (sX cx (dX d) (k + 1)) (sX cy (dY d) (k + 1)) - (gatV V a h cx cy + high); omega))) rfl rfl rfl rfl ?_
    refine rgy (y_mov rfl rfl) rfl rfl rfl rfl ?_
    refine rgy (y_fa rfl rfl kfref48_15 rfl) rfl rfl rfl rfl ?_
    refine rgy (y_ld rfl rfl kfref48_8 (H45.cell (i := 1) rfl rfl)) rfl rfl rfl rfl ?_
    refine rgy (y_fa rfl rfl kfref48_14 rfl) rfl rfl rfl rfl ?_
    refine rgy (y_ld rfl rfl kfref48_8 (H45.cell (i := 1) rfl rfl)) rfl rfl rfl rfl ?_
    refine rg_on rfl rfl rfl (op_call (ret_still (R24Cmp_any ((hU V a h cx cy (dX d) (dY d) (gatV V a h cx cy + high)) k) ((k : Int) + 1) (hT (hU V a h cx cy (dX d) (dY d) (gatV V a h cx cy + high)) (hX cx (dX d)) (hX cy (dY d)) k).1 (hT (hU V a h cx cy (dX d) (dY d) (gatV V a h cx cy + high)) (hX cx (dX d)) (hX cy (dY d)) k).2.1 _ (by omega) (by omega) (by omega) (by omega) (by omega) (by omega) (by omega) (by omega))) rfl kfref48_16 ⟨rfl, rfl, rfl, rfl, trivial⟩) rfl ?_
    rintro _ w53 ⟨rfl, e52⟩
    have H54 := H45.ext e52
    refine rgy (y_gtr rfl rfl rfl) rfl rfl rfl rfl ?_
    refine ry (y_pick rfl rfl rfl) rfl rfl ?_
    refine reg_nil ?_
    refine fn_next ?_
    refine cw_condd rfl (fun h55 => ?_) (fun h55 => ?_)
    ·skip
     have hnx := hT_yes hon h55
     have hn2 : ([.int .i64 ((hU V a h cx cy (dX d) (dY d) (gatV V a h cx cy + high)) k), .int .i64 ((k : Int) + 1), .int .i64 (sX cx (dX d) (k + 1)), .int .i64 (sX cy (dY d) (k + 1))] : List Value) = [.int .i64 (hT (hU V a h cx cy (dX d) (dY d) (gatV V a h cx cy + high)) (hX cx (dX d)) (hX cy (dY d)) (k + 1)).1, .int .i64 (hT (hU V a h cx cy (dX d) (dY d) (gatV V a h cx cy + high)) (hX cx (dX d)) (hX cy (dY d)) (k + 1)).2.1, .int .i64 (hT (hU V a h cx cy (dX d) (dY d) (gatV V a h cx cy + high)) (hX cx (dX d)) (hX cy (dY d)) (k + 1)).2.2.1, .int .i64 (hT (hU V a h cx cy (dX d) (dY d) (gatV V a h cx cy + high)) (hX cx (dX d)) (hX cy (dY d)) (k + 1)).2.2.2] := by rw [hnx]; rfl
     refine cw_reg ?_
     refine ry (y_mov rfl rfl) rfl rfl ?_
     refine ry (y_mov rfl rfl) rfl rfl ?_
     refine ry (y_sub rfl rfl rfl (wi (by omega))) rfl rfl ?_
     refine ry (y_mov rfl rfl) rfl rfl ?_
     refine ry (y_sub rfl rfl rfl (show _ = (hU V a h cx cy (dX d) (dY d) (gatV V a h cx cy + high)) k from (wi (by omega)).trans (by show _ = gatV V a h (sX cx (dX d) (k + 1)) (sX cy (dY d) (k + 1)) - (gatV V a h cx cy + high); omega))) rfl rfl ?_
     refine ry (y_mov rfl rfl) rfl rfl ?_
     refine ry (y_ldb (i := 0) (cs := [_, _]) H54 rfl rfl kfref48_2 rfl rfl) rfl rfl ?_
     refine ry (y_build (places := [(0, 1), (1, 1), (2, 2)]) (parts := [(0, _), (1, _), (2, _)]) (vs := [(0, _), (1, _), (2, _)]) (cs := [.int _ _, .int _ _, .int _ _, .int _ _]) rfl Tryd.underlying40 (by kernel_rfl) kfref48_4 rfl ⟨rfl, rfl, rfl, trivial⟩ rfl) rfl rfl ?_
     refine reg_op (op_st (i := 1) (vs := [.int _ _, .int _ _, .int _ _, .int _ _]) H54 rfl rfl rfl rfl rfl kfref48_6 rfl rfl rfl) rfl rfl ?_
     rintro _ w56 H57
     refine reg_nil ?_
     refine fn_block ?_
     refine fn_next ?_
     refine cw_reg ?_
     refine ry (y_mov rfl rfl) rfl rfl ?_
     refine ry (y_add rfl rfl rfl (show _ = ((k + 1 : Nat) : Int) + 1 from (wi (by omega)).trans (by omega))) rfl rfl ?_
     refine ry (y_asg rfl rfl) rfl rfl ?_
     refine reg_nil ?_
     first | rw [hn2] at H57 | rw [← hnx] at H57
     refine fn_roundJ ⟨k + 1, rfl, (H57.pick (m := [_, _, _, _, _, _]) [1, 2, 3, 4, 5, 6] rfl (by decide)), by omega, rfl⟩ ⟨rfl, trivial⟩ (by omega) (by repeat (first | exact kp_refl | refine kp_app rfl rfl ?_ | refine kp_cons rfl ?_)) rfl
    ·skip
     have hnx := hT_not hon h55
     refine cw_skip ?_
     refine fn_block ?_
     refine fn_next ?_
     refine cw_reg ?_
     refine ry (y_mov rfl rfl) rfl rfl ?_
     refine ry (y_add rfl rfl rfl (show _ = ((k + 1 : Nat) : Int) + 1 from (wi (by omega)).trans (by omega))) rfl rfl ?_
     refine ry (y_asg rfl rfl) rfl rfl ?_
     refine reg_nil ?_
     first | rw [hn2] at H54 | rw [← hnx] at H54
     refine fn_roundJ ⟨k + 1, rfl, (H54.pick (m := [_, _, _, _, _, _]) [1, 2, 3, 4, 5, 6] rfl (by decide)), by omega, rfl⟩ ⟨rfl, trivial⟩ (by omega) (by repeat (first | exact kp_refl | refine kp_app rfl rfl ?_ | refine kp_cons rfl ?_)) rfl
 · exfalso; omega

end Go.Proofs.YtgkkbeomhkggjaaDoor
