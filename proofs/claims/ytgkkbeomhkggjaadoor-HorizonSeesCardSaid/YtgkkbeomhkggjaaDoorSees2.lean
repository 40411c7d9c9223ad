/- Layers 25, 48: what is steepest is seen. -/
import Derived.Test.YtgkkbeomhkggjaaDoorSees1
set_option linter.unusedVariables false
set_option linter.unusedSimpArgs false
namespace Go.Proofs.YtgkkbeomhkggjaaDoor
open Go Go.RowKit
theorem kfsees2_1 : aggB Tryd.prog 24 2 = true := by kernel_rfl
theorem kfsees2_2 : (Tryd.prog.info? 117).bind (fun i => i.zero.map Value.cells) = some (List.toArray [(.int .i64 0), (.int .i64 0), (.int .i64 0), (.int .i64 0)]) := by kernel_rfl
theorem kfsees2_3 : szB Tryd.prog 24 2 = true := by kernel_rfl
theorem kfsees2_4 : (Tryd.prog.info? 24).bind (fun i => i.zero.map Value.cells) = some (List.toArray [(.int .i64 0), (.int .i64 0)]) := by kernel_rfl
theorem kfsees2_5 : callB Tryd.prog 54 = true := by kernel_rfl
theorem kfsees2_6 : callB Tryd.prog 58 = true := by kernel_rfl
theorem kfsees2_7 : (Tryd.prog.info? 2).map (fun i => (i.zero.map (·.cells.toList), i.size, i.bytes)) = some (some [(.int .i64 0)], 1, 8) := by kernel_rfl
theorem kfsees2_8 : elB Tryd.prog 72 2 = true := by kernel_rfl
theorem kfsees2_9 : elB Tryd.prog 22 1 = true := by kernel_rfl
theorem kfsees2_10 : szB Tryd.prog 2 1 = true := by kernel_rfl
theorem kfsees2_11 : callB Tryd.prog 34 = true := by kernel_rfl
theorem kfsees2_12 : callB Tryd.prog 35 = true := by kernel_rfl
theorem kfsees2_13 : oneB Tryd.prog 2 = true := by kernel_rfl
theorem kfsees2_14 : callB Tryd.prog 36 = true := by kernel_rfl
def pv (V : List Int) (a h : Nat) (cx cy dx dy : Int) (m : Nat) : List Int := (List.range m).map fun k => gatV V a h (sX cx dx k) (sX cy dy k)
theorem pv_len (V : List Int) (a h : Nat) (cx cy dx dy : Int) (m : Nat) : (pv V a h cx cy dx dy m).length = m := by unfold pv; simp
theorem pv_nth {V : List Int} {a h : Nat} {cx cy dx dy : Int} {m k : Nat} (hk : k < m) : nth (pv V a h cx cy dx dy m) k = gatV V a h (sX cx dx k) (sX cy dy k) := by
  rw [nth_lt (by rw [pv_len]; exact hk)]; unfold pv; simp
theorem pv_at {V : List Int} {a h : Nat} {cx cy dx dy : Int} {m k : Nat} (hk : k < m) : (vi .i64 (pv V a h cx cy dx dy m))[k]? = some (.int .i64 (gatV V a h (sX cx dx k) (sX cy dy k))) := by
  rw [vi_get (by rw [pv_len]; exact hk), pv_nth hk]

set_option maxRecDepth 100000 in
set_option maxHeartbeats 1000000 in
theorem zProf (g a h : Nat) (V : List Int) (cx cy bx yy dx dy : Int) (n : Nat) (w : World) (R : GRd w g a h V) (hsx : Str cx dx n bx) (hsy : Str cy dy n yy) (d : OkD dx dy) (hn1 : 1 ≤ n) (hn2 : n ≤ 2000) (hc : 0 ≤ cx ∧ cx < 1024 ∧ 0 ≤ cy ∧ cy < 1024) (hb : 0 ≤ bx ∧ bx < 1024 ∧ 0 ≤ yy ∧ yy < 1024) (w0c : withinC cx cy cx cy a h = 0) (w0b : withinC bx yy bx yy a h = 0) :
    Ret Tryd.prog 34 [.pointer (some ⟨g, 0, none⟩), .agg #[.int .i64 cx, .int .i64 cy], .agg #[.int .i64 bx, .int .i64 yy]] w (fun z w' => ∃ A c, z = .tuple #[.slice A (n + 1) c, .int .i64 0] ∧ HS w w' [.row A (n + 1) c (vi .i64 (pv V a h cx cy dx dy (n + 1))) 2 1]) := by
 have hll := pv_len V a h cx cy dx dy (n + 1)
 refine ret_enter Tryd.func34 rfl rfl rfl ?_
 have H0 := HS.start w
 refine cw_seq ?_
 refine cw_reg ?_
 refine reg_op (op_box (cs := [.int _ _, .int _ _]) H0 rfl rfl rfl) rfl rfl ?_
 rintro _ w2 ⟨b1, rfl, H3⟩
 refine reg_op (op_box (cs := [.int _ _, .int _ _]) H3 rfl rfl rfl) rfl rfl ?_
 rintro _ w5 ⟨b4, rfl, H6⟩
 refine ry (y_asg rfl rfl) rfl rfl ?_
 refine ry (y_asg rfl rfl) rfl rfl ?_
 refine reg_nil ?_
 refine fn_next ?_
 refine cw_seq ?_
 refine cw_seq ?_
 refine cw_reg ?_
 refine ry (y_mov rfl rfl) rfl rfl ?_
 refine ry (y_peqlnil rfl Tryd.underlying30 rfl rfl) rfl rfl ?_
 refine reg_nil ?_
 refine fn_next ?_
 refine cw_condf rfl ?_
 refine cw_skip ?_
 refine fn_next ?_
 refine cw_seq ?_
 refine cw_seq ?_
 refine cw_reg ?_
 refine ry (y_ldb (i := 1) (cs := [_, _]) H6 rfl rfl kfsees2_1 rfl rfl) rfl rfl ?_
 refine ry (y_ldb (i := 0) (cs := [_, _]) H6 rfl rfl kfsees2_1 rfl rfl) rfl rfl ?_
 refine ry (y_builda (parts := [(0, _), (1, _)]) (vs := [(0, _), (1, _)]) (cs := [.int _ _, .int _ _, .int _ _, .int _ _]) rfl Tryd.underlying117 kfsees2_3 kfsees2_2 rfl ⟨rfl, rfl, trivial⟩ rfl) rfl rfl ?_
 refine ry (y_mov rfl rfl) rfl rfl ?_
 refine reg_nil ?_
 refine fn_next ?_
 refine cw_block ?_
 refine cw_loopR 2 ?_
 refine cw_seq ?_
 refine cw_reg ?_
 refine ry (y_lss rfl rfl rfl) rfl rfl ?_
 refine reg_nil ?_
 refine fn_next ?_
 refine cw_seq ?_
 refine cw_condt rfl ?_
 refine cw_skip ?_
 refine fn_next ?_
 refine cw_seq ?_
 refine cw_block ?_
 refine cw_seq ?_
 refine cw_reg ?_
 refine ry (y_index (i := 0) (es := [.int _ _, .int _ _]) rfl Tryd.underlying117 rfl rfl (rfl) (by decide) kfsees2_1 rfl) rfl rfl ?_
 refine reg_op (op_alloc H6 rfl kfsees2_4) rfl rfl ?_
 rintro _ w8 ⟨b7, rfl, H9⟩
 refine reg_op (op_st (i := 0) (vs := [.int _ _, .int _ _]) H9 rfl rfl rfl rfl rfl kfsees2_3 rfl rfl rfl) rfl rfl ?_
 rintro _ w10 H11
 refine reg_nil ?_
 refine fn_next ?_
 refine cw_seq ?_
 refine cw_reg ?_
 refine ry (y_mov rfl rfl) rfl rfl ?_
 refine ry (y_ldb (i := 0) (cs := [_, _]) H11 rfl rfl kfsees2_1 rfl rfl) rfl rfl ?_
 refine reg_op (op_call (ret_v (v := .tuple #[.int .i64 (gatV V a h cx cy), .int .i64 0]) (gAt g a h (V) cx cy _ (R.below H11.base)) (by rw [w0c])) rfl kfsees2_5 ⟨rfl, rfl, trivial⟩) rfl rfl ?_
 rintro _ w13 ⟨rfl, e12⟩
 have H14 := H11.ext e12
 refine ry (y_mov rfl rfl) rfl rfl ?_
 refine ry (y_ext rfl rfl rfl) rfl rfl ?_
 refine ry (y_ext rfl rfl rfl) rfl rfl ?_
 refine ry (y_asg rfl rfl) rfl rfl ?_
 refine ry (y_asg rfl rfl) rfl rfl ?_
 refine reg_nil ?_
 refine fn_next ?_
 refine cw_seq ?_
 refine cw_reg ?_
 refine ry (y_mov rfl rfl) rfl rfl ?_
 refine ry (y_neq rfl rfl rfl) rfl rfl ?_
 refine reg_nil ?_
 refine fn_next ?_
 refine cw_condf rfl ?_
 refine cw_skip ?_
 refine fn_block ?_
 refine fn_next ?_
 refine cw_reg ?_
 refine ry (y_add rfl rfl rfl (show _ = (1 : Int) from by decide)) rfl rfl ?_
 refine ry (y_mov rfl rfl) rfl rfl ?_
 refine reg_nil ?_
 refine fn_roundR ?_
 refine cw_seq ?_
 refine cw_reg ?_
 refine ry (y_lss rfl rfl rfl) rfl rfl ?_
 refine reg_nil ?_
 refine fn_next ?_
 refine cw_seq ?_
 refine cw_condd rfl (fun h15 => ?_) (fun h15 => ?_)
 ·skip
  refine cw_skip ?_
  refine fn_next ?_
  refine cw_seq ?_
  refine cw_block ?_
  refine cw_seq ?_
  refine cw_reg ?_
  refine ry (y_index (i := 1) (es := [.int _ _, .int _ _]) rfl Tryd.underlying117 rfl rfl (rfl) (by decide) kfsees2_1 rfl) rfl rfl ?_
  refine reg_op (op_alloc H14 rfl kfsees2_4) rfl rfl ?_
  rintro _ w17 ⟨b16, rfl, H18⟩
  refine reg_op (op_st (i := 0) (vs := [.int _ _, .int _ _]) H18 rfl rfl rfl rfl rfl kfsees2_3 rfl rfl rfl) rfl rfl ?_
  rintro _ w19 H20
  refine reg_nil ?_
  refine fn_next ?_
  refine cw_seq ?_
  refine cw_reg ?_
  refine ry (y_mov rfl rfl) rfl rfl ?_
  refine ry (y_ldb (i := 0) (cs := [_, _]) H20 rfl rfl kfsees2_1 rfl rfl) rfl rfl ?_
  refine reg_op (op_call (ret_v (v := .tuple #[.int .i64 (gatV V a h bx yy), .int .i64 0]) (gAt g a h (V) bx yy _ (R.below H20.base)) (by rw [w0b])) rfl kfsees2_5 ⟨rfl, rfl, trivial⟩) rfl rfl ?_
  rintro _ w22 ⟨rfl, e21⟩
  have H23 := H20.ext e21
  refine ry (y_mov rfl rfl) rfl rfl ?_
  refine ry (y_ext rfl rfl rfl) rfl rfl ?_
  refine ry (y_ext rfl rfl rfl) rfl rfl ?_
  refine ry (y_asg rfl rfl) rfl rfl ?_
  refine ry (y_asg rfl rfl) rfl rfl ?_
  refine reg_nil ?_
  refine fn_next ?_
  refine cw_seq ?_
  refine cw_reg ?_
  refine ry (y_mov rfl rfl) rfl rfl ?_
  refine ry (y_neq rfl rfl rfl) rfl rfl ?_
  refine reg_nil ?_
  refine fn_next ?_
  refine cw_condf rfl ?_
  refine cw_skip ?_
  refine fn_block ?_
  refine fn_next ?_
  refine cw_reg ?_
  refine ry (y_add rfl rfl rfl (show _ = (2 : Int) from by decide)) rfl rfl ?_
  refine ry (y_mov rfl rfl) rfl rfl ?_
  refine reg_nil ?_
  refine fn_roundR ?_
  refine cw_seq ?_
  refine cw_reg ?_
  refine ry (y_lss rfl rfl rfl) rfl rfl ?_
  refine reg_nil ?_
  refine fn_next ?_
  refine cw_seq ?_
  refine cw_condd rfl (fun h24 => ?_) (fun h24 => ?_)
  · exact absurd h24 (by decide)
  ·skip
   refine cw_exit ?_
   refine fn_then_exit (fn_then_exit (fn_block_exit ?_))
   refine fn_next ?_
   refine cw_seq ?_
   refine cw_reg ?_
   refine ry (y_ldb (i := 3) (cs := [_, _]) H23 rfl rfl kfsees2_1 rfl rfl) rfl rfl ?_
   refine ry (y_ldb (i := 2) (cs := [_, _]) H23 rfl rfl kfsees2_1 rfl rfl) rfl rfl ?_
   refine reg_op (op_call (zRow cx cy bx yy dx dy n _ hsx hsy d hn1 hn2 hc hb) rfl kfsees2_6 ⟨rfl, rfl, trivial⟩) rfl rfl ?_
   rintro _ w26 ⟨A28, c29, rfl, k25⟩
   have H27 := H23.call k25
   refine ry (y_mov rfl rfl) rfl rfl ?_
   refine ry (y_ext rfl rfl rfl) rfl rfl ?_
   refine ry (y_ext rfl rfl rfl) rfl rfl ?_
   refine ry (y_asg rfl rfl) rfl rfl ?_
   refine ry (y_asg rfl rfl) rfl rfl ?_
   refine reg_nil ?_
   refine fn_next ?_
   refine cw_seq ?_
   refine cw_reg ?_
   refine ry (y_mov rfl rfl) rfl rfl ?_
   refine ry (y_len rfl Tryd.underlying72 rfl) rfl rfl ?_
   refine reg_op (op_make (m := (n + 1)) H27 rfl rfl rfl (rfl) (rfl) Tryd.underlying22 kfsees2_7 (by omega) (by unfold maxLen; omega)) rfl rfl ?_
   rintro _ w31 ⟨b30, rfl, H32⟩
   refine ry (y_asg rfl rfl) rfl rfl ?_
   refine reg_nil ?_
   refine fn_next ?_
   refine cw_seq ?_
   refine cw_seq ?_
   refine cw_reg ?_
   refine ry (y_mov rfl rfl) rfl rfl ?_
   refine ry (y_len rfl Tryd.underlying72 rfl) rfl rfl ?_
   refine ry (y_mov rfl rfl) rfl rfl ?_
   refine reg_nil ?_
   refine fn_next ?_
   refine cw_block ?_
   rw [vi_zero, ← cpT_zero (V := (pv V a h cx cy dx dy (n + 1)))] at H32
   refine cw_loopJ [15, 16, 46, 47, 48, 49, 50, 51, 52, 53, 54, 55, 56, 57, 58, 59, 60] (fun M wl ml => ∃ (i : Nat), M = [(46, .int .i64 (i : Int))] ∧ HS w wl [Ob.row (some ⟨b30, 0, none⟩) (n + 1) (n + 1) (vi .i64 (cpT (pv V a h cx cy dx dy (n + 1)) (n + 1) i)) 2 1, Ob.row A28 (n + 1) c29 (vi .i64 (pr (sX cx dx) (sX cy dy) (n + 1))) 24 2] ∧ (i ≤ n + 1) ∧ ml = n + 1 - i) ⟨0, rfl, (H32.pick (m := [_, _]) [0, 1] rfl (by decide)), Nat.zero_le _, rfl⟩ ⟨rfl, trivial⟩ ?_
   rintro M w33 m35 ⟨i, rfl, H34, hp0, rfl⟩
   refine cw_seq ?_
   refine cw_reg ?_
   refine ry (y_lss rfl rfl rfl) rfl rfl ?_
   refine reg_nil ?_
   refine fn_next ?_
   refine cw_seq ?_
   refine cw_condd rfl (fun h36 => ?_) (fun h36 => ?_)
   ·skip
    have hi : i < n + 1 := by omega
    have g0 := pr_at0 (f := sX cx dx) (g := sX cy dy) hi
    have g1 := pr_at (f := sX cx dx) (g := sX cy dy) hi
    refine cw_skip ?_
    refine fn_next ?_
    refine cw_seq ?_
    refine cw_block ?_
    refine cw_seq ?_
    refine cw_reg ?_
    refine ry (y_mov rfl rfl) rfl rfl ?_
    refine ry (y_iar (H34.rd (i := 1) rfl) rfl rfl rfl kfsees2_8 (rfl) (by omega) (rfl) (g0)) rfl rfl ?_
    refine ry (y_ldra (cs := [_, _]) (H34.rd (i := 1) rfl) rfl rfl kfsees2_1 rfl (by decide) (g1)) rfl rfl ?_
    refine reg_op (op_alloc H34 rfl kfsees2_4) rfl rfl ?_
    rintro _ w38 ⟨b37, rfl, H39⟩
    refine ry (y_asg rfl rfl) rfl rfl ?_
    refine reg_op (op_st (i := 0) (vs := [.int _ _, .int _ _]) H39 rfl rfl rfl rfl rfl kfsees2_3 rfl rfl rfl) rfl rfl ?_
    rintro _ w40 H41
    refine reg_nil ?_
    refine fn_next ?_
    refine cw_reg ?_
    refine ry (y_mov rfl rfl) rfl rfl ?_
    refine ry (y_mov rfl rfl) rfl rfl ?_
    refine ry (y_mov rfl rfl) rfl rfl ?_
    refine ry (y_ldb (i := 0) (cs := [_, _]) H41 rfl rfl kfsees2_1 rfl rfl) rfl rfl ?_
    refine reg_op (op_call (gAt g a h (V) (sX cx dx i) (sX cy dy i) _ (R.below H41.base)) rfl kfsees2_5 ⟨rfl, rfl, trivial⟩) rfl rfl ?_
    rintro _ w43 ⟨rfl, e42⟩
    have H44 := H41.ext e42
    refine ry (y_mov rfl rfl) rfl rfl ?_
    refine ry (y_ext rfl rfl rfl) rfl rfl ?_
    refine ry (y_ext rfl rfl rfl) rfl rfl ?_
    refine ry (y_iar (H44.rd (i := 1) rfl) rfl rfl rfl kfsees2_9 (rfl) (by omega) (Nat.mul_one _) (vi_get (by rw [cpT_len hll (by omega)]; omega))) rfl rfl ?_
    refine reg_op (op_ste (i := 1) (vs := [.int _ _]) H44 rfl rfl rfl rfl rfl kfsees2_10 rfl (by rw [vi_len, cpT_len hll (by omega)]; show i + 1 ≤ n + 1; omega) rfl rfl) rfl rfl ?_
    rintro _ w45 H46
    refine reg_nil ?_
    refine fn_block ?_
    refine fn_next ?_
    refine cw_reg ?_
    refine ry (y_add rfl rfl rfl (wi (by omega))) rfl rfl ?_
    refine ry (y_mov rfl rfl) rfl rfl ?_
    refine reg_nil ?_
    have hst : (cpT (pv V a h cx cy dx dy (n + 1)) (n + 1) i).set i (gatV V a h (sX cx dx i) (sX cy dy i)) = cpT (pv V a h cx cy dx dy (n + 1)) (n + 1) (i + 1) := by have := cpT_set (i := i) hll (by omega); rwa [pv_nth (by omega)] at this
    rw [vi_set, hst] at H46
    refine fn_roundJ ⟨i + 1, rfl, (H46.pick (m := [_, _]) [1, 2] rfl (by decide)), by omega, rfl⟩ ⟨rfl, trivial⟩ (by omega) (by repeat (first | exact kp_refl | refine kp_app rfl rfl ?_ | refine kp_cons rfl ?_)) rfl
   ·skip
    have hie : i = n + 1 := by omega
    subst hie
    rw [cpT_full hll] at H34
    refine cw_exit ?_
    refine fn_then_exit (fn_then_exit (fn_block_exit ?_))
    refine fn_next ?_
    refine cw_seq ?_
    refine cw_reg ?_
    refine ry (y_mov rfl rfl) rfl rfl ?_
    refine ry (y_asg rfl rfl) rfl rfl ?_
    refine ry (y_asg rfl rfl) rfl rfl ?_
    refine reg_nil ?_
    refine fn_next ?_
    refine cw_ret ?_
    refine fn_retn (vs := [_, _]) rfl ⟨rfl, rfl, trivial⟩ rfl ?_
    exact ⟨_, _, rfl, (H34.pick (m := [_]) [0] rfl (by decide))⟩
 · exact absurd (by decide) h15

set_option maxRecDepth 100000 in
theorem zMay (n : Int) (w : World) (hx : 0 ≤ n ∧ n ≤ 1048576) :
    Ret Tryd.prog 35 [.int .i64 n] w (fun z w' => z = .bool true ∧ Below w.heap.size w w') := by
 refine ret_enter Tryd.func35 rfl rfl rfl ?_
 have H0 := HS.start w
 refine cw_seq ?_
 refine cw_reg ?_
 refine ry (y_asg rfl rfl) rfl rfl ?_
 refine reg_nil ?_
 refine fn_next ?_
 refine cw_seq ?_
 refine cw_reg ?_
 refine ry (y_mov rfl rfl) rfl rfl ?_
 refine ry (y_geq rfl rfl rfl) rfl rfl ?_
 refine ry (y_mov rfl rfl) rfl rfl ?_
 refine rg_splitd (d := 5) rfl (fun h1 => ?_) (fun h1 => ?_)
 ·skip
  refine rgy (y_mov rfl rfl) rfl rfl rfl rfl ?_
  refine rgy (y_leq rfl rfl rfl) rfl rfl rfl rfl ?_
  refine ry (y_pick rfl rfl rfl) rfl rfl ?_
  refine ry (y_asg rfl rfl) rfl rfl ?_
  refine reg_nil ?_
  refine fn_next ?_
  refine cw_ret ?_
  refine fn_ret1 rfl rfl ?_
  rw [decide_eq_true (by omega)]
  exact ⟨rfl, H0.base⟩
 · exfalso; omega

set_option maxRecDepth 100000 in
set_option maxHeartbeats 1000000 in
theorem zClear (g a h : Nat) (V : List Int) (cx cy bx yy dx dy : Int) (n : Nat) (high : Int) (w : World) (R : GRd w g a h V) (hsx : Str cx dx n bx) (hsy : Str cy dy n yy) (d : OkD dx dy) (hn1 : 1 ≤ n) (hn2 : n ≤ 2000) (hc : 0 ≤ cx ∧ cx < 1024 ∧ 0 ≤ cy ∧ cy < 1024) (hb : 0 ≤ bx ∧ bx < 1024 ∧ 0 ≤ yy ∧ yy < 1024) (w0c : withinC cx cy cx cy a h = 0) (w0b : withinC bx yy bx yy a h = 0) (hh : 0 ≤ high ∧ high ≤ 1048576) (hbest : ∀ k : Nat, k + 1 < n → ¬ ((gatV V a h (sX cx dx n) (sX cy dy n) - (gatV V a h cx cy + high)) * ((k : Int) + 1) < (gatV V a h (sX cx dx (k + 1)) (sX cy dy (k + 1)) - (gatV V a h cx cy + high)) * (n : Int))) :
    Ret Tryd.prog 16 [.pointer (some ⟨g, 0, none⟩), .agg #[.int .i64 cx, .int .i64 cy], .int .i64 high, .agg #[.int .i64 bx, .int .i64 yy], .int .i64 0] w (fun z w' => z = .tuple #[.bool true, .agg #[.int .i64 0, .int .i64 0], .int .i64 0] ∧ Below w.heap.size w w') := by
 have hgv := R.gv
 have d1 := d.x1
 have d2 := d.x2
 have d3 := d.y1
 have d4 := d.y2
 have d5 := d.n
 have n1024 : n ≤ 1024 := by unfold Str at hsx hsy; omega
 have gb0 := gatV_B32 (a := a) (h := h) (x := cx) (y := cy) hgv.bd
 have gbn := gatV_B32 (a := a) (h := h) (x := sX cx dx n) (y := sX cy dy n) hgv.bd
 have q0 := pv_at (V := V) (a := a) (h := h) (cx := cx) (cy := cy) (dx := dx) (dy := dy) (m := n + 1) (k := 0) (by omega)
 rw [sX0, sX0] at q0
 have qn := pv_at (V := V) (a := a) (h := h) (cx := cx) (cy := cy) (dx := dx) (dy := dy) (m := n + 1) (k := n) (by omega)
 refine ret_enter Tryd.func16 rfl rfl rfl ?_
 have H0 := HS.start w
 refine cw_seq ?_
 refine cw_reg ?_
 refine reg_op (op_box (cs := [.int _ _, .int _ _]) H0 rfl rfl rfl) rfl rfl ?_
 rintro _ w2 ⟨b1, rfl, H3⟩
 refine reg_op (op_box (cs := [.int _ _, .int _ _]) H3 rfl rfl rfl) rfl rfl ?_
 rintro _ w5 ⟨b4, rfl, H6⟩
 refine ry (y_asg rfl rfl) rfl rfl ?_
 refine reg_op (op_alloc H6 rfl kfsees2_4) rfl rfl ?_
 rintro _ w8 ⟨b7, rfl, H9⟩
 refine ry (y_asg rfl rfl) rfl rfl ?_
 refine reg_nil ?_
 refine fn_next ?_
 refine cw_seq ?_
 refine cw_reg ?_
 refine ry (y_mov rfl rfl) rfl rfl ?_
 refine ry (y_ldb (i := 2) (cs := [_, _]) H9 rfl rfl kfsees2_1 rfl rfl) rfl rfl ?_
 refine ry (y_ldb (i := 1) (cs := [_, _]) H9 rfl rfl kfsees2_1 rfl rfl) rfl rfl ?_
 refine reg_op (op_call (zProf g a h (V) cx cy bx yy dx dy n _ (R.below H9.base) hsx hsy d hn1 hn2 hc hb w0c w0b) rfl kfsees2_11 ⟨rfl, rfl, rfl, trivial⟩) rfl rfl ?_
 rintro _ w11 ⟨A13, c14, rfl, k10⟩
 have H12 := H9.call k10
 refine ry (y_mov rfl rfl) rfl rfl ?_
 refine ry (y_ext rfl rfl rfl) rfl rfl ?_
 refine ry (y_ext rfl rfl rfl) rfl rfl ?_
 refine ry (y_asg rfl rfl) rfl rfl ?_
 refine ry (y_asg rfl rfl) rfl rfl ?_
 refine reg_nil ?_
 refine fn_next ?_
 refine cw_seq ?_
 refine cw_block ?_
 refine cw_seq ?_
 refine cw_reg ?_
 refine ry (y_mov rfl rfl) rfl rfl ?_
 refine ry (y_neq rfl rfl rfl) rfl rfl ?_
 refine ry (y_asg rfl rfl) rfl rfl ?_
 refine reg_nil ?_
 refine fn_next ?_
 refine cw_condf rfl ?_
 refine cw_seq ?_
 refine cw_reg ?_
 refine ry (y_mov rfl rfl) rfl rfl ?_
 refine reg_op (op_call (zMay high _ hh) rfl kfsees2_12 ⟨rfl, trivial⟩) rfl rfl ?_
 rintro _ w16 ⟨rfl, e15⟩
 have H17 := H12.ext e15
 refine ry (y_not rfl rfl) rfl rfl ?_
 refine ry (y_mov rfl rfl) rfl rfl ?_
 refine rgy (y_mov rfl rfl) rfl rfl rfl rfl ?_
 refine rg_on rfl rfl rfl (op_call (zMay 0 _ (by decide)) rfl kfsees2_12 ⟨rfl, trivial⟩) rfl ?_
 rintro _ w19 ⟨rfl, e18⟩
 have H20 := H17.ext e18
 refine rgy (y_not rfl rfl) rfl rfl rfl rfl ?_
 refine ry (y_pick rfl rfl rfl) rfl rfl ?_
 refine ry (y_asg rfl rfl) rfl rfl ?_
 refine reg_nil ?_
 refine fn_next ?_
 refine cw_condf rfl ?_
 refine cw_skip ?_
 refine fn_block ?_
 refine fn_next ?_
 refine cw_seq ?_
 refine cw_reg ?_
 refine ry (y_mov rfl rfl) rfl rfl ?_
 refine ry (y_len rfl Tryd.underlying22 rfl) rfl rfl ?_
 refine ry (y_sub rfl rfl rfl (show _ = (n : Int) from (wi (by omega)).trans (by omega))) rfl rfl ?_
 refine ry (y_asg rfl rfl) rfl rfl ?_
 refine reg_nil ?_
 refine fn_next ?_
 refine cw_seq ?_
 refine cw_seq ?_
 refine cw_reg ?_
 refine ry (y_asg rfl rfl) rfl rfl ?_
 refine reg_nil ?_
 refine fn_next ?_
 refine cw_block ?_
 refine cw_loopJ [10, 12, 16, 17, 18, 19, 20, 46, 47, 48, 49, 50, 51, 52, 53, 54, 55, 56, 57, 58, 59, 60, 61, 62, 63, 64, 65, 66, 67, 68, 69, 70, 71, 72, 73, 74, 75, 76, 77, 78, 79, 80] (fun M wl ml => ∃ (k : Nat), M = [(16, .int .i64 ((k : Int) + 1))] ∧ HS w wl [Ob.row A13 (n + 1) c14 (vi .i64 (pv V a h cx cy dx dy (n + 1))) 2 1, Ob.blk b7 [.int .i64 0, .int .i64 0] 24, Ob.blk b4 [.int .i64 bx, .int .i64 yy] 24, Ob.blk b1 [.int .i64 cx, .int .i64 cy] 24] ∧ (k + 1 ≤ n) ∧ ml = n + 1 - k) ⟨0, rfl, H20, hn1, rfl⟩ ⟨rfl, trivial⟩ ?_
 rintro M w21 m23 ⟨k, rfl, H22, hp0, rfl⟩
 refine cw_seq ?_
 refine cw_seq ?_
 refine cw_reg ?_
 refine ry (y_mov rfl rfl) rfl rfl ?_
 refine ry (y_mov rfl rfl) rfl rfl ?_
 refine ry (y_lss rfl rfl rfl) rfl rfl ?_
 refine reg_nil ?_
 refine fn_next ?_
 refine cw_condd rfl (fun h24 => ?_) (fun h24 => ?_)
 ·skip
  have hk1 : k + 1 < n := by omega
  have qk := pv_at (V := V) (a := a) (h := h) (cx := cx) (cy := cy) (dx := dx) (dy := dy) (m := n + 1) (k := k + 1) (by omega)
  have gbk := gatV_B32 (a := a) (h := h) (x := sX cx dx (k + 1)) (y := sX cy dy (k + 1)) hgv.bd
  refine cw_skip ?_
  refine fn_next ?_
  refine cw_seq ?_
  refine cw_block ?_
  refine cw_seq ?_
  refine cw_draw H22 [0, 1, 2, 3, 4, 5, 6, 7, 8, 9, 10, 11, 12, 13, 14, 15, 16, 17, 18, 19, 20, 21, 22] [] (fun X HX => HX) (by kernel_rfl) (by kernel_rfl) (by rfl) ?_
  simp only [pick, List.getElem?_cons_succ, List.getElem?_cons_zero]
  refine hk_y (fun Y HY => y_mov rfl rfl) rfl rfl ?_
  refine hk_y (fun Y HY => y_mov rfl rfl) rfl rfl ?_
  refine hk_y (fun Y HY => y_iar (i := (k + 1)) (HY.rd (i := 0) rfl) rfl rfl rfl kfsees2_9 (rfl) (by omega) (Nat.mul_one _) (qk)) rfl rfl ?_
  refine hk_y (fun Y HY => y_ldr (HY.rd (i := 0) rfl) rfl rfl kfsees2_13 (qk)) rfl rfl ?_
  refine hk_y (fun Y HY => y_mov rfl rfl) rfl rfl ?_
  refine hk_y (fun Y HY => y_iar (i := 0) (HY.rd (i := 0) rfl) rfl rfl rfl kfsees2_9 (rfl) (by omega) (Nat.mul_one _) (q0)) rfl rfl ?_
  refine hk_y (fun Y HY => y_ldr (HY.rd (i := 0) rfl) rfl rfl kfsees2_13 (q0)) rfl rfl ?_
  refine hk_y (fun Y HY => y_mov rfl rfl) rfl rfl ?_
  refine hk_y (fun Y HY => y_add rfl rfl rfl (wi (by omega))) rfl rfl ?_
  refine hk_y (fun Y HY => y_mov rfl rfl) rfl rfl ?_
  refine hk_y (fun Y HY => y_mov rfl rfl) rfl rfl ?_
  refine hk_y (fun Y HY => y_iar (i := n) (HY.rd (i := 0) rfl) rfl rfl rfl kfsees2_9 (rfl) (by omega) (Nat.mul_one _) (qn)) rfl rfl ?_
  refine hk_y (fun Y HY => y_ldr (HY.rd (i := 0) rfl) rfl rfl kfsees2_13 (qn)) rfl rfl ?_
  refine hk_y (fun Y HY => y_mov rfl rfl) rfl rfl ?_
  refine hk_y (fun Y HY => y_add rfl rfl rfl (show _ = gatV V a h (sX cx dx n) (sX cy dy n) from (wi (by omega)).trans (by omega))) rfl rfl ?_
  refine hk_y (fun Y HY => y_mov rfl rfl) rfl rfl ?_
  refine hk_y (fun Y HY => y_mov rfl rfl) rfl rfl ?_
  refine hk_q (qy_call (fun Y HY => ret_v (v := .tuple #[.bool false, .int .i64 0]) (ret_still (Hides_ok (gatV V a h (sX cx dx (k + 1)) (sX cy dy (k + 1))) (gatV V a h cx cy + high) (gatV V a h (sX cx dx n) (sX cy dy n)) ((k : Int) + 1) (n : Int) _ (by omega) (by omega) (by omega) (by omega) (decide_eq_true (by omega)) (decide_eq_true (by omega)) (decide_eq_true (by omega)))) (by rw [decide_eq_false (hbest k (by omega))])) rfl kfsees2_14 ⟨rfl, rfl, rfl, rfl, rfl, trivial⟩) rfl rfl ?_
  refine hk_y (fun Y HY => y_mov rfl rfl) rfl rfl ?_
  refine hk_y (fun Y HY => y_ext rfl rfl rfl) rfl rfl ?_
  refine hk_y (fun Y HY => y_ext rfl rfl rfl) rfl rfl ?_
  refine hk_y (fun Y HY => y_asg rfl rfl) rfl rfl ?_
  refine hk_y (fun Y HY => y_asg rfl rfl) rfl rfl ?_
  refine hk_nil ?_
  intro w25 H26
  refine tv_nil ?_
  refine fn_next ?_
  refine cw_seq ?_
  refine cw_reg ?_
  refine ry (y_mov rfl rfl) rfl rfl ?_
  refine reg_nil ?_
  refine fn_next ?_
  refine cw_condf rfl ?_
  refine cw_skip ?_
  refine fn_block ?_
  refine fn_next ?_
  refine cw_reg ?_
  refine ry (y_mov rfl rfl) rfl rfl ?_
  refine ry (y_add rfl rfl rfl (show _ = ((k + 1 : Nat) : Int) + 1 from (wi (by omega)).trans (by omega))) rfl rfl ?_
  refine ry (y_asg rfl rfl) rfl rfl ?_
  refine reg_nil ?_
  refine fn_roundJ ⟨k + 1, rfl, H26, by omega, rfl⟩ ⟨rfl, trivial⟩ (by omega) (by repeat (first | exact kp_refl | refine kp_app rfl rfl ?_ | refine kp_cons rfl ?_)) rfl
 ·skip
  refine cw_exit ?_
  refine fn_then_exit (fn_then_exit (fn_block_exit ?_))
  refine fn_next ?_
  refine cw_seq ?_
  refine cw_reg ?_
  refine ry (y_build (places := [(0, 1), (1, 1)]) (parts := []) (vs := []) (cs := [.int _ _, .int _ _]) rfl Tryd.underlying24 (by kernel_rfl) kfsees2_4 rfl trivial rfl) rfl rfl ?_
  refine ry (y_asg rfl rfl) rfl rfl ?_
  refine reg_op (op_st (i := 1) (vs := [.int _ _, .int _ _]) H22 rfl rfl rfl rfl rfl kfsees2_3 rfl rfl rfl) rfl rfl ?_
  rintro _ w27 H28
  refine ry (y_asg rfl rfl) rfl rfl ?_
  refine reg_nil ?_
  refine fn_next ?_
  refine cw_ret ?_
  refine fn_retn (vs := [_, _, _]) rfl ⟨rfl, ⟨_, rfl, load_agg (cs := [_, _]) kfsees2_1 rfl fun j v hv => by rw [Nat.zero_add]; exact H28.cell (i := 1) rfl hv⟩, rfl, trivial⟩ rfl ?_
  exact ⟨rfl, H28.base⟩

end Go.Proofs.YtgkkbeomhkggjaaDoor
