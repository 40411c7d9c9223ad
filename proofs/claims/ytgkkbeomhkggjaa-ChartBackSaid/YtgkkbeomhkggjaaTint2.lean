/- Layer 33: a value's sign, a sign's band; the document's answer. -/
import Derived.Test.YtgkkbeomhkggjaaTint1
import Derived.Test.YtgkkbeomhkggjaaK19
import Derived.Test.YtgkkbeomhkggjaaMG
set_option linter.unusedVariables false
set_option linter.unusedSimpArgs false
namespace Go.Proofs.Ytgkkbeomhkggjaa
open Go Go.RowKit
theorem kftint2_1 : callB Try.prog 47 = true := by kernel_rfl
theorem kftint2_2 : elB Try.prog 51 2 = true := by kernel_rfl
theorem kftint2_3 : fldB Try.prog 70 1 1 = true := by kernel_rfl
theorem kftint2_4 : oneB Try.prog 21 = true := by kernel_rfl
theorem kftint2_5 : aggB Try.prog 70 2 = true := by kernel_rfl
theorem kftint2_6 : (Try.prog.info? 70).bind (fun i => i.zero.map Value.cells) = some (List.toArray [(.int .i64 0), (.int .i32 0)]) := by kernel_rfl
theorem kftint2_7 : szB Try.prog 70 2 = true := by kernel_rfl
theorem kftint2_8 : fldB Try.prog 70 0 0 = true := by kernel_rfl
theorem kftint2_9 : oneB Try.prog 2 = true := by kernel_rfl
theorem kftint2_10 : callB Try.prog 95 = true := by kernel_rfl
theorem kftint2_11 : callB Try.prog 43 = true := by kernel_rfl
theorem kftint2_12 : callB Try.prog 44 = true := by kernel_rfl
theorem kftint2_13 : (Try.prog.info? 5).map (fun i => (i.size, i.zero.map Value.cells)) = some (1, some (List.toArray [(.int .u8 0)])) := by kernel_rfl
theorem ofI_zero {l : List Bd} {v : Int} : ofI l v 0 = (bn l 0).s := rfl

set_option maxRecDepth 100000 in
set_option maxHeartbeats 1000000 in
theorem tintOf (A : Option Addr) (n c : Nat) (l : List Bd) (v : Int) (w : World) (hb : Rd w A (bcells l)) (hl : l.length = n) (hn : n ≤ 100000000) (hcap : n ≤ c) :
    Ret Try.prog 48 [.slice A n c, .int .i64 v] w (fun v_ w' => v_ = (if rgtB l = true then .tuple #[.int .i32 (ofF l v), .int .i64 0] else .tuple #[.int .i32 0, .int .i64 13]) ∧ Below w.heap.size w w') := by
 refine ret_enter Try.func48 rfl rfl rfl ?_
 have H0 := HS.start w
 refine cw_seq ?_
 refine cw_reg ?_
 refine ry (y_asg rfl rfl) rfl rfl ?_
 refine ry (y_asg rfl rfl) rfl rfl ?_
 refine reg_nil ?_
 refine fn_next ?_
 refine cw_seq ?_
 refine cw_seq ?_
 refine cw_reg ?_
 refine ry (y_mov rfl rfl) rfl rfl ?_
 refine reg_op (op_call (tintRight A n c l _ (hb.below H0.base) hl hn hcap) rfl kftint2_1 ⟨rfl, trivial⟩) rfl rfl ?_
 rintro _ w2 ⟨rfl, e1⟩
 have H3 := H0.ext e1
 refine ry (y_not rfl rfl) rfl rfl ?_
 refine reg_nil ?_
 refine fn_next ?_
 refine cw_cond rfl (fun h4 => ?_) (fun h4 => ?_)
 ·skip
  have hr : rgtB l = false := by simpa using h4
  refine cw_seq ?_
  refine cw_reg ?_
  refine ry (y_asg rfl rfl) rfl rfl ?_
  refine ry (y_asg rfl rfl) rfl rfl ?_
  refine reg_nil ?_
  refine fn_next ?_
  refine cw_ret ?_
  refine fn_then_ret ?_
  refine fn_retn (vs := [_, _]) rfl ⟨rfl, rfl, trivial⟩ rfl ?_
  exact ⟨by rw [hr]; rfl, H3.base⟩
 ·skip
  have hr : rgtB l = true := by simpa using h4
  have hR := (rgtB_iff l).1 hr
  have h1l := hR.1.1
  have g0 := b_get0 (l := l) (i := 0) (by omega)
  have g1 := b_get1 (l := l) (i := 0) (by omega)
  refine cw_skip ?_
  refine fn_next ?_
  refine cw_seq ?_
  refine cw_reg ?_
  refine ry (y_mov rfl rfl) rfl rfl ?_
  refine ry (y_iar (i := 0) (hb.below H3.base) rfl rfl rfl kftint2_2 (rfl) (by omega) (rfl) (g0)) rfl rfl ?_
  refine ry (y_far (hb.below H3.base) rfl rfl kftint2_3 rfl (g0)) rfl rfl ?_
  refine ry (y_ldr (hb.below H3.base) rfl rfl kftint2_4 (g1)) rfl rfl ?_
  refine ry (y_asg rfl rfl) rfl rfl ?_
  refine reg_nil ?_
  refine fn_next ?_
  refine cw_seq ?_
  refine cw_seq ?_
  refine cw_reg ?_
  refine ry (y_mov rfl rfl) rfl rfl ?_
  refine ry (y_len rfl Try.underlying51 rfl) rfl rfl ?_
  refine ry (y_mov rfl rfl) rfl rfl ?_
  refine reg_nil ?_
  refine fn_next ?_
  refine cw_block ?_
  refine cw_loopJ [6, 8, 18, 19, 20, 21, 22, 23, 24, 25, 26, 27, 28] (fun M wl ml => ∃ (i : Nat), M = [(18, .int .i64 (i : Int)), (6, .int .i32 (ofI l v i))] ∧ HS w wl [] ∧ (i ≤ n) ∧ ml = n + 1 - i) ⟨0, rfl, H3, Nat.zero_le _, rfl⟩ ⟨rfl, rfl, trivial⟩ ?_
  rintro M w5 m7 ⟨i, rfl, H6, hin, rfl⟩
  refine cw_seq ?_
  refine cw_reg ?_
  refine ry (y_lss rfl rfl rfl) rfl rfl ?_
  refine reg_nil ?_
  refine fn_next ?_
  refine cw_seq ?_
  refine cw_condd rfl (fun h8 => ?_) (fun h8 => ?_)
  ·skip
   have g0 := b_get0 (l := l) (i := i) (by omega)
   have gp := b_part (l := l) (i := i) (by omega)
   refine cw_skip ?_
   refine fn_next ?_
   refine cw_seq ?_
   refine cw_block ?_
   refine cw_seq ?_
   refine cw_reg ?_
   refine ry (y_iar (hb.below H6.base) rfl rfl rfl kftint2_2 (rfl) (by omega) (rfl) (g0)) rfl rfl ?_
   refine ry (y_ldra (cs := [_, _]) (hb.below H6.base) rfl rfl kftint2_5 rfl (by decide) (gp)) rfl rfl ?_
   refine reg_op (op_alloc H6 rfl kftint2_6) rfl rfl ?_
   rintro _ w10 ⟨b9, rfl, H11⟩
   refine reg_op (op_st (i := 0) (vs := [.int _ _, .int _ _]) H11 rfl rfl rfl rfl rfl kftint2_7 rfl rfl rfl) rfl rfl ?_
   rintro _ w12 H13
   refine reg_nil ?_
   refine fn_next ?_
   refine cw_seq ?_
   refine cw_reg ?_
   refine ry (y_fa rfl rfl kftint2_8 rfl) rfl rfl ?_
   refine ry (y_ld rfl rfl kftint2_9 (H13.cell (i := 0) rfl rfl)) rfl rfl ?_
   refine ry (y_mov rfl rfl) rfl rfl ?_
   refine ry (y_leq rfl rfl rfl) rfl rfl ?_
   refine reg_nil ?_
   refine fn_next ?_
   refine cw_condd rfl (fun h14 => ?_) (fun h14 => ?_)
   ·skip
    refine cw_reg ?_
    refine ry (y_fa rfl rfl kftint2_3 rfl) rfl rfl ?_
    refine ry (y_ld rfl rfl kftint2_4 (H13.cell (i := 0) rfl rfl)) rfl rfl ?_
    refine ry (y_asg rfl rfl) rfl rfl ?_
    refine reg_nil ?_
    refine fn_block ?_
    refine fn_next ?_
    refine cw_reg ?_
    refine ry (y_add rfl rfl rfl (wi (by omega))) rfl rfl ?_
    refine ry (y_mov rfl rfl) rfl rfl ?_
    refine reg_nil ?_
    refine fn_roundJ ⟨i + 1, rfl, (H13.pick (m := []) [] rfl (by decide)), by omega, rfl⟩ ⟨rfl, show _ = some (Value.int .i32 (if (bn l i).f ≤ v then (bn l i).s else ofI l v i)) by first | (rw [if_pos (by assumption)]; rfl) | (rw [if_neg (by assumption)]; rfl), trivial⟩ (by omega) (by repeat (first | exact kp_refl | refine kp_app rfl rfl ?_ | refine kp_cons rfl ?_)) rfl
   ·skip
    refine cw_skip ?_
    refine fn_block ?_
    refine fn_next ?_
    refine cw_reg ?_
    refine ry (y_add rfl rfl rfl (wi (by omega))) rfl rfl ?_
    refine ry (y_mov rfl rfl) rfl rfl ?_
    refine reg_nil ?_
    refine fn_roundJ ⟨i + 1, rfl, (H13.pick (m := []) [] rfl (by decide)), by omega, rfl⟩ ⟨rfl, show _ = some (Value.int .i32 (if (bn l i).f ≤ v then (bn l i).s else ofI l v i)) by first | (rw [if_pos (by assumption)]; rfl) | (rw [if_neg (by assumption)]; rfl), trivial⟩ (by omega) (by repeat (first | exact kp_refl | refine kp_app rfl rfl ?_ | refine kp_cons rfl ?_)) rfl
  ·skip
   obtain rfl : i = n := by omega
   refine cw_exit ?_
   refine fn_then_exit (fn_then_exit (fn_block_exit ?_))
   refine fn_next ?_
   refine cw_seq ?_
   refine cw_reg ?_
   refine ry (y_mov rfl rfl) rfl rfl ?_
   refine ry (y_asg rfl rfl) rfl rfl ?_
   refine ry (y_asg rfl rfl) rfl rfl ?_
   refine reg_nil ?_
   refine fn_next ?_
   refine cw_ret ?_
   refine fn_retn (vs := [_, _]) rfl ⟨rfl, rfl, trivial⟩ rfl ?_
   exact ⟨by rw [hr, if_pos rfl]; unfold ofF; rw [hl], H6.base⟩

set_option maxRecDepth 100000 in
set_option maxHeartbeats 1000000 in
theorem tintBack (A : Option Addr) (n c : Nat) (l : List Bd) (s : Int) (w : World) (hb : Rd w A (bcells l)) (hl : l.length = n) (hn : n ≤ 100000000) (hcap : n ≤ c) :
    Ret Try.prog 81 [.slice A n c, .int .i32 s] w (fun v_ w' => v_ = (if rgtB l = true then (match backF l s with | some f => .tuple #[.int .i64 f, .int .i64 0] | none => .tuple #[.int .i64 0, .int .i64 15]) else .tuple #[.int .i64 0, .int .i64 13]) ∧ Below w.heap.size w w') := by
 refine ret_enter Try.func81 rfl rfl rfl ?_
 have H0 := HS.start w
 refine cw_seq ?_
 refine cw_reg ?_
 refine reg_op (op_box (cs := [.int _ _]) H0 rfl rfl rfl) rfl rfl ?_
 rintro _ w2 ⟨b1, rfl, H3⟩
 refine ry (y_asg rfl rfl) rfl rfl ?_
 refine ry (y_asg rfl rfl) rfl rfl ?_
 refine reg_nil ?_
 refine fn_next ?_
 refine cw_seq ?_
 refine cw_seq ?_
 refine cw_reg ?_
 refine ry (y_mov rfl rfl) rfl rfl ?_
 refine reg_op (op_call (tintRight A n c l _ (hb.below H3.base) hl hn hcap) rfl kftint2_1 ⟨rfl, trivial⟩) rfl rfl ?_
 rintro _ w5 ⟨rfl, e4⟩
 have H6 := H3.ext e4
 refine ry (y_not rfl rfl) rfl rfl ?_
 refine reg_nil ?_
 refine fn_next ?_
 refine cw_cond rfl (fun h7 => ?_) (fun h7 => ?_)
 ·skip
  have hr : rgtB l = false := by simpa using h7
  refine cw_seq ?_
  refine cw_reg ?_
  refine ry (y_asg rfl rfl) rfl rfl ?_
  refine ry (y_asg rfl rfl) rfl rfl ?_
  refine reg_nil ?_
  refine fn_next ?_
  refine cw_ret ?_
  refine fn_then_ret ?_
  refine fn_retn (vs := [_, _]) rfl ⟨rfl, rfl, trivial⟩ rfl ?_
  exact ⟨by rw [hr]; rfl, H6.base⟩
 ·skip
  have hr : rgtB l = true := by simpa using h7
  refine cw_skip ?_
  refine fn_next ?_
  refine cw_seq ?_
  refine cw_reg ?_
  refine ry (y_mov rfl rfl) rfl rfl ?_
  refine ry (y_mkf (first := []) (caps := [_]) (fs := []) (cs := [_]) rfl trivial ⟨rfl, trivial⟩) rfl rfl ?_
  refine reg_op (op_call (indexB A n c l s _ _ (hb.below H6.base) hl hn ((H6.at_ (i := 0) rfl).2.rd)) rfl kftint2_10 ⟨rfl, rfl, trivial⟩) rfl rfl ?_
  rintro _ w9 ⟨i, rfl, hi, e8⟩
  have H10 := H6.ext e8
  refine ry (y_asg rfl rfl) rfl rfl ?_
  refine reg_nil ?_
  refine fn_next ?_
  refine cw_seq ?_
  refine cw_seq ?_
  refine cw_reg ?_
  refine ry (y_mov rfl rfl) rfl rfl ?_
  refine ry (y_lss rfl rfl rfl) rfl rfl ?_
  refine reg_nil ?_
  refine fn_next ?_
  refine cw_condd rfl (fun h11 => ?_) (fun h11 => ?_)
  ·skip
   have hno : ∀ j, j < l.length → (bn l j).s ≠ s := by rcases hi with ⟨_, q⟩ | ⟨k, q, _⟩; exact q; omega
   refine cw_seq ?_
   refine cw_reg ?_
   refine ry (y_asg rfl rfl) rfl rfl ?_
   refine ry (y_asg rfl rfl) rfl rfl ?_
   refine reg_nil ?_
   refine fn_next ?_
   refine cw_ret ?_
   refine fn_then_ret ?_
   refine fn_retn (vs := [_, _]) rfl ⟨rfl, rfl, trivial⟩ rfl ?_
   exact ⟨by rw [hr, if_pos rfl]; unfold backF; rw [backI_none hno]; rfl, H10.base⟩
  ·skip
   obtain ⟨k, rfl, hk, hlt, he⟩ := hi.resolve_left (by omega)
   have g0 := b_get0 (l := l) (i := k) (by omega)
   refine cw_skip ?_
   refine fn_next ?_
   refine cw_seq ?_
   refine cw_reg ?_
   refine ry (y_mov rfl rfl) rfl rfl ?_
   refine ry (y_mov rfl rfl) rfl rfl ?_
   refine ry (y_iar (hb.below H10.base) rfl rfl rfl kftint2_2 (rfl) (by omega) (rfl) (g0)) rfl rfl ?_
   refine ry (y_far (hb.below H10.base) rfl rfl kftint2_8 rfl (g0)) rfl rfl ?_
   refine ry (y_ldr (hb.below H10.base) rfl rfl kftint2_9 (g0)) rfl rfl ?_
   refine ry (y_asg rfl rfl) rfl rfl ?_
   refine ry (y_asg rfl rfl) rfl rfl ?_
   refine reg_nil ?_
   refine fn_next ?_
   refine cw_ret ?_
   refine fn_retn (vs := [_, _]) rfl ⟨rfl, rfl, trivial⟩ rfl ?_
   exact ⟨by rw [hr, if_pos rfl]; unfold backF; rw [backI_some hlt he hk]; rfl, H10.base⟩

set_option maxRecDepth 100000 in
set_option maxHeartbeats 2000000 in
theorem refRight3 (A : Option Addr) (n c : Nat) (l : List Bd) (w : World) (hb : Rd w A (bcells l)) (hl : l.length = n) (hn : n ≤ 100000000) :
    Ret Try.prog 23 [.slice A n c] w (fun v w' => v = .bool (rgtB l) ∧ Below w.heap.size w w') := by
 refine ret_enter Try.func23 rfl rfl rfl ?_
 have H0 := HS.start w
 refine cw_seq ?_
 refine cw_reg ?_
 refine ry (y_asg rfl rfl) rfl rfl ?_
 refine reg_nil ?_
 refine fn_next ?_
 refine cw_seq ?_
 refine cw_seq ?_
 refine cw_reg ?_
 refine ry (y_mov rfl rfl) rfl rfl ?_
 refine ry (y_len rfl Try.underlying51 rfl) rfl rfl ?_
 refine ry (y_eql rfl rfl rfl) rfl rfl ?_
 refine ry (y_mov rfl rfl) rfl rfl ?_
 refine rg_splitd (d := 8) rfl (fun h1 => ?_) (fun h1 => ?_)
 ·skip
  refine rg_off rfl rfl rfl rfl rfl ?_
  refine rg_off rfl rfl rfl rfl rfl ?_
  refine rg_off rfl rfl rfl rfl rfl ?_
  refine ry (y_pick rfl rfl rfl) rfl rfl ?_
  refine reg_nil ?_
  refine fn_next ?_
  refine cw_condt rfl ?_
  refine cw_seq ?_
  refine cw_reg ?_
  refine ry (y_asg rfl rfl) rfl rfl ?_
  refine reg_nil ?_
  refine fn_next ?_
  refine cw_ret ?_
  refine fn_then_ret ?_
  refine fn_ret1 rfl rfl ?_
  exact ⟨by rw [rgtB_no (fun q => by have := q.1; omega)], H0.base⟩
 ·skip
  refine rgy (y_mov rfl rfl) rfl rfl rfl rfl ?_
  refine rgy (y_len rfl Try.underlying51 rfl) rfl rfl rfl rfl ?_
  refine rgy (y_gtr rfl rfl rfl) rfl rfl rfl rfl ?_
  refine ry (y_pick rfl rfl rfl) rfl rfl ?_
  refine reg_nil ?_
  refine fn_next ?_
  refine cw_condd rfl (fun h2 => ?_) (fun h2 => ?_)
  ·skip
   refine cw_seq ?_
   refine cw_reg ?_
   refine ry (y_asg rfl rfl) rfl rfl ?_
   refine reg_nil ?_
   refine fn_next ?_
   refine cw_ret ?_
   refine fn_then_ret ?_
   refine fn_ret1 rfl rfl ?_
   exact ⟨by rw [rgtB_no (fun q => by have := q.1; omega)], H0.base⟩
  ·skip
   refine cw_skip ?_
   refine fn_next ?_
   refine cw_seq ?_
   refine cw_seq ?_
   refine cw_reg ?_
   refine ry (y_asg rfl rfl) rfl rfl ?_
   refine reg_nil ?_
   refine fn_next ?_
   refine cw_block ?_
   refine cw_loopJ [2, 3, 4, 13, 14, 15, 16, 17, 18, 19, 20, 21, 22, 23, 24, 25, 26, 27, 28, 29, 30, 31, 32, 33, 34, 35, 36, 37, 38, 39, 40, 41, 42, 43, 44, 45, 46, 47, 48, 49, 50, 51, 52, 53, 54, 55, 56, 57, 58, 59, 60, 61, 62, 63] (fun M wl ml => ∃ (i : Nat), M = [(3, .int .i64 (i : Int))] ∧ HS w wl [] ∧ (i ≤ n) ∧ (∀ j, j < i → RB l j) ∧ ml = n + 1 - i) ⟨0, rfl, H0, Nat.zero_le _, fun j h => absurd h (Nat.not_lt_zero _), rfl⟩ ⟨rfl, trivial⟩ ?_
   rintro M w3 m5 ⟨i, rfl, H4, hin, hall, rfl⟩
   refine cw_seq ?_
   refine cw_seq ?_
   refine cw_reg ?_
   refine ry (y_mov rfl rfl) rfl rfl ?_
   refine ry (y_mov rfl rfl) rfl rfl ?_
   refine ry (y_len rfl Try.underlying51 rfl) rfl rfl ?_
   refine ry (y_lss rfl rfl rfl) rfl rfl ?_
   refine reg_nil ?_
   refine fn_next ?_
   refine cw_condd rfl (fun h6 => ?_) (fun h6 => ?_)
   ·skip
    have g0 := b_get0 (l := l) (i := i) (by omega)
    have g1 := b_get1 (l := l) (i := i) (by omega)
    refine cw_skip ?_
    refine fn_next ?_
    refine cw_seq ?_
    refine cw_block ?_
    refine cw_seq ?_
    refine cw_seq ?_
    refine cw_reg ?_
    refine ry (y_mov rfl rfl) rfl rfl ?_
    refine ry (y_mov rfl rfl) rfl rfl ?_
    refine ry (y_iar (hb.below H4.base) rfl rfl rfl kftint2_2 (rfl) (by omega) (rfl) (g0)) rfl rfl ?_
    refine ry (y_far (hb.below H4.base) rfl rfl kftint2_8 rfl (g0)) rfl rfl ?_
    refine ry (y_ldr (hb.below H4.base) rfl rfl kftint2_9 (g0)) rfl rfl ?_
    refine reg_op (op_call (refMay_any (bn l i).f _) rfl kftint2_11 ⟨rfl, trivial⟩) rfl rfl ?_
    rintro _ w8 ⟨rfl, e7⟩
    have H9 := H4.ext e7
    refine ry (y_notd rfl rfl) rfl rfl ?_
    refine ry (y_mov rfl rfl) rfl rfl ?_
    refine rg_splitd (d := 26) rfl (fun h10 => ?_) (fun h10 => ?_)
    ·skip
     refine rg_off rfl rfl rfl rfl rfl ?_
     refine rg_off rfl rfl rfl rfl rfl ?_
     refine rg_off rfl rfl rfl rfl rfl ?_
     refine rg_off rfl rfl rfl rfl rfl ?_
     refine rg_off rfl rfl rfl rfl rfl ?_
     refine rg_off rfl rfl rfl rfl rfl ?_
     refine rg_off rfl rfl rfl rfl rfl ?_
     refine ry (y_pick rfl rfl rfl) rfl rfl ?_
     refine reg_nil ?_
     refine fn_next ?_
     refine cw_condt rfl ?_
     refine cw_seq ?_
     refine cw_reg ?_
     refine ry (y_asg rfl rfl) rfl rfl ?_
     refine reg_nil ?_
     refine fn_next ?_
     refine cw_ret ?_
     refine fn_then_ret (fn_block_ret (fn_then_ret (fn_then_ret (fn_block_ret (fn_then_ret ?_)))))
     refine fn_ret1 rfl rfl ?_
     refine ⟨?_, H9.base⟩
     rw [rgt_not (i := i) (by omega) (fun q => ?_)]
     first | exact hs q.2.1 | exact absurd q.1 (by assumption)
    ·skip
     have hb32 := Classical.not_not.1 h10
     refine rgy (y_mov rfl rfl) rfl rfl rfl rfl ?_
     refine rgy (y_mov rfl rfl) rfl rfl rfl rfl ?_
     refine rgy (y_iar (hb.below H9.base) rfl rfl rfl kftint2_2 (rfl) (by omega) (rfl) (g0)) rfl rfl rfl rfl ?_
     refine rgy (y_far (hb.below H9.base) rfl rfl kftint2_3 rfl (g0)) rfl rfl rfl rfl ?_
     refine rgy (y_ldr (hb.below H9.base) rfl rfl kftint2_4 (g1)) rfl rfl rfl rfl ?_
     refine rg_on rfl rfl rfl (op_call (refSign3 (bn l i).s _) rfl kftint2_12 ⟨rfl, trivial⟩) rfl ?_
     rintro _ w12 ⟨rfl, e11⟩
     have H13 := H9.ext e11
     refine rgy (y_notd rfl rfl) rfl rfl rfl rfl ?_
     refine ry (y_pick rfl rfl rfl) rfl rfl ?_
     refine reg_nil ?_
     refine fn_next ?_
     refine cw_condd rfl (fun hs => ?_) (fun hs => ?_)
     ·skip
      refine cw_seq ?_
      refine cw_reg ?_
      refine ry (y_asg rfl rfl) rfl rfl ?_
      refine reg_nil ?_
      refine fn_next ?_
      refine cw_ret ?_
      refine fn_then_ret (fn_block_ret (fn_then_ret (fn_then_ret (fn_block_ret (fn_then_ret ?_)))))
      refine fn_ret1 rfl rfl ?_
      refine ⟨?_, H13.base⟩
      rw [rgt_not (i := i) (by omega) (fun q => ?_)]
      first | exact hs q.2.1 | exact absurd q.1 (by assumption)
     ·skip
      have hsg := Classical.not_not.1 hs
      refine cw_skip ?_
      refine fn_next ?_
      refine cw_seq ?_
      refine cw_reg ?_
      refine ry (y_asg rfl rfl) rfl rfl ?_
      refine reg_nil ?_
      refine fn_next ?_
      refine cw_block ?_
      refine cw_loopJ [2, 4, 35, 36, 37, 38, 39, 40, 41, 42, 43, 44, 45, 46, 47, 48, 49, 50, 51, 52, 53, 54, 55, 56, 57, 58, 59, 60, 61, 62, 63] (fun M wl ml => ∃ (k : Nat), M = [(4, .int .i64 (k : Int))] ∧ HS w wl [] ∧ (k ≤ i) ∧ (∀ j, j < k → (bn l j).f < (bn l i).f ∧ (bn l j).s ≠ (bn l i).s) ∧ ml = i + 1 - k) ⟨0, rfl, H13, Nat.zero_le _, fun j h => absurd h (Nat.not_lt_zero _), rfl⟩ ⟨rfl, trivial⟩ ?_
      rintro M w15 m17 ⟨k, rfl, H16, hki, hkk, rfl⟩
      refine cw_seq ?_
      refine cw_seq ?_
      refine cw_reg ?_
      refine ry (y_mov rfl rfl) rfl rfl ?_
      refine ry (y_mov rfl rfl) rfl rfl ?_
      refine ry (y_lss rfl rfl rfl) rfl rfl ?_
      refine reg_nil ?_
      refine fn_next ?_
      refine cw_condd rfl (fun h18 => ?_) (fun h18 => ?_)
      ·skip
       have k0 := b_get0 (l := l) (i := k) (by omega)
       have k1 := b_get1 (l := l) (i := k) (by omega)
       refine cw_skip ?_
       refine fn_next ?_
       refine cw_seq ?_
       refine cw_block ?_
       refine cw_seq ?_
       refine cw_draw H16 [0, 1, 2, 3, 4, 5, 6, 7, 8, 9, 10, 11, 12, 13, 14, 15, 16, 17, 18, 19, 20, 21, 22, 23] [] (fun X HX => HX) (by kernel_rfl) (by kernel_rfl) (by rfl) ?_
       simp only [pick, List.getElem?_cons_succ, List.getElem?_cons_zero]
       refine hk_y (fun Y HY => y_mov rfl rfl) rfl rfl ?_
       refine hk_y (fun Y HY => y_mov rfl rfl) rfl rfl ?_
       refine hk_y (fun Y HY => y_iar (hb.below HY.base) rfl rfl rfl kftint2_2 (rfl) (by omega) (rfl) (k0)) rfl rfl ?_
       refine hk_y (fun Y HY => y_far (hb.below HY.base) rfl rfl kftint2_8 rfl (k0)) rfl rfl ?_
       refine hk_y (fun Y HY => y_ldr (hb.below HY.base) rfl rfl kftint2_9 (k0)) rfl rfl ?_
       refine hk_y (fun Y HY => y_mov rfl rfl) rfl rfl ?_
       refine hk_y (fun Y HY => y_mov rfl rfl) rfl rfl ?_
       refine hk_y (fun Y HY => y_iar (hb.below HY.base) rfl rfl rfl kftint2_2 (rfl) (by omega) (rfl) (g0)) rfl rfl ?_
       refine hk_y (fun Y HY => y_far (hb.below HY.base) rfl rfl kftint2_8 rfl (g0)) rfl rfl ?_
       refine hk_y (fun Y HY => y_ldr (hb.below HY.base) rfl rfl kftint2_9 (g0)) rfl rfl ?_
       refine hk_y (fun Y HY => y_geq rfl rfl rfl) rfl rfl ?_
       refine hk_y (fun Y HY => y_mov rfl rfl) rfl rfl ?_
       refine hk_splitd tv_all (d := 51) rfl (fun h19 => ?_) (fun h19 => ?_)
       ·skip
        refine hk_off rfl rfl rfl rfl rfl ?_
        refine hk_off rfl rfl rfl rfl rfl ?_
        refine hk_off rfl rfl rfl rfl rfl ?_
        refine hk_off rfl rfl rfl rfl rfl ?_
        refine hk_off rfl rfl rfl rfl rfl ?_
        refine hk_off rfl rfl rfl rfl rfl ?_
        refine hk_off rfl rfl rfl rfl rfl ?_
        refine hk_off rfl rfl rfl rfl rfl ?_
        refine hk_off rfl rfl rfl rfl rfl ?_
        refine hk_off rfl rfl rfl rfl rfl ?_
        refine hk_off rfl rfl rfl rfl rfl ?_
        refine hk_y (fun Y HY => y_pick rfl rfl rfl) rfl rfl ?_
        refine hk_nil ?_
        intro w20 H21
        refine tv_nil ?_
        refine fn_next ?_
        refine cw_condt rfl ?_
        refine cw_seq ?_
        refine cw_reg ?_
        refine ry (y_asg rfl rfl) rfl rfl ?_
        refine reg_nil ?_
        refine fn_next ?_
        refine cw_ret ?_
        refine fn_block_ret (fn_then_ret (fn_then_ret (fn_block_ret (fn_block_ret (fn_then_ret (fn_then_ret (fn_block_ret (fn_then_ret ?_))))))))
        refine fn_ret1 rfl rfl ?_
        refine ⟨?_, H21.base⟩
        rw [rgt_not (i := i) (by omega) (fun q => ?_)]
        have q2 := q.2.2 k (by omega)
        first | omega | exact q2.2 (by assumption)
       ·skip
        have hlt : (bn l k).f < (bn l i).f := by omega
        refine hk_on (qy_yd fun Y HY => y_mov rfl rfl) rfl rfl rfl rfl ?_
        refine hk_on (qy_yd fun Y HY => y_mov rfl rfl) rfl rfl rfl rfl ?_
        refine hk_on (qy_yd fun Y HY => y_iar (hb.below HY.base) rfl rfl rfl kftint2_2 (rfl) (by omega) (rfl) (k0)) rfl rfl rfl rfl ?_
        refine hk_on (qy_yd fun Y HY => y_far (hb.below HY.base) rfl rfl kftint2_3 rfl (k0)) rfl rfl rfl rfl ?_
        refine hk_on (qy_yd fun Y HY => y_ldr (hb.below HY.base) rfl rfl kftint2_4 (k1)) rfl rfl rfl rfl ?_
        refine hk_on (qy_yd fun Y HY => y_mov rfl rfl) rfl rfl rfl rfl ?_
        refine hk_on (qy_yd fun Y HY => y_mov rfl rfl) rfl rfl rfl rfl ?_
        refine hk_on (qy_yd fun Y HY => y_iar (hb.below HY.base) rfl rfl rfl kftint2_2 (rfl) (by omega) (rfl) (g0)) rfl rfl rfl rfl ?_
        refine hk_on (qy_yd fun Y HY => y_far (hb.below HY.base) rfl rfl kftint2_3 rfl (g0)) rfl rfl rfl rfl ?_
        refine hk_on (qy_yd fun Y HY => y_ldr (hb.below HY.base) rfl rfl kftint2_4 (g1)) rfl rfl rfl rfl ?_
        refine hk_on (qy_yd fun Y HY => y_eql rfl rfl rfl) rfl rfl rfl rfl ?_
        refine hk_y (fun Y HY => y_pick rfl rfl rfl) rfl rfl ?_
        refine hk_nil ?_
        intro w22 H23
        refine tv_nil ?_
        refine fn_next ?_
        refine cw_condd rfl (fun hne => ?_) (fun hne => ?_)
        ·skip
         refine cw_seq ?_
         refine cw_reg ?_
         refine ry (y_asg rfl rfl) rfl rfl ?_
         refine reg_nil ?_
         refine fn_next ?_
         refine cw_ret ?_
         refine fn_block_ret (fn_then_ret (fn_then_ret (fn_block_ret (fn_block_ret (fn_then_ret (fn_then_ret (fn_block_ret (fn_then_ret ?_))))))))
         refine fn_ret1 rfl rfl ?_
         refine ⟨?_, H23.base⟩
         rw [rgt_not (i := i) (by omega) (fun q => ?_)]
         have q2 := q.2.2 k (by omega)
         first | omega | exact q2.2 (by assumption)
        ·skip
         refine cw_skip ?_
         refine fn_block ?_
         refine fn_next ?_
         refine cw_reg ?_
         refine ry (y_mov rfl rfl) rfl rfl ?_
         refine ry (y_add rfl rfl rfl (wi (by omega))) rfl rfl ?_
         refine ry (y_asg rfl rfl) rfl rfl ?_
         refine reg_nil ?_
         refine fn_roundJ ⟨k + 1, rfl, H23, by omega, fun j hj => by rcases Nat.lt_succ_iff_lt_or_eq.1 hj with q | rfl; exact hkk j q; exact ⟨by omega, hne⟩, rfl⟩ ⟨rfl, trivial⟩ (by omega) (by repeat (first | exact kp_refl | refine kp_app rfl rfl ?_ | refine kp_cons rfl ?_)) rfl
      ·skip
       obtain rfl : i = k := by omega
       refine cw_exit ?_
       refine fn_then_exit (fn_then_exit (fn_block_exit ?_))
       refine fn_block ?_
       refine fn_next ?_
       refine cw_reg ?_
       refine ry (y_mov rfl rfl) rfl rfl ?_
       refine ry (y_add rfl rfl rfl (wi (by omega))) rfl rfl ?_
       refine ry (y_asg rfl rfl) rfl rfl ?_
       refine reg_nil ?_
       refine fn_roundJ ⟨i + 1, rfl, H16, by omega, fun j hj => by rcases Nat.lt_succ_iff_lt_or_eq.1 hj with q | rfl; exact hall j q; exact ⟨hb32, hsg, fun q hq => hkk q (by omega)⟩, rfl⟩ ⟨rfl, trivial⟩ (by omega) (by repeat (first | exact kp_refl | refine kp_app rfl rfl ?_ | refine kp_cons rfl ?_)) rfl
   ·skip
    refine cw_exit ?_
    refine fn_then_exit (fn_then_exit (fn_block_exit ?_))
    refine fn_next ?_
    refine cw_seq ?_
    refine cw_reg ?_
    refine ry (y_asg rfl rfl) rfl rfl ?_
    refine reg_nil ?_
    refine fn_next ?_
    refine cw_ret ?_
    refine fn_ret1 rfl rfl ?_
    exact ⟨by rw [(rgtB_iff l).2 ⟨by omega, fun j hj => hall j (by omega)⟩], H4.base⟩

set_option maxRecDepth 100000 in
theorem refBytes3 (r : Int) (w : World) (hs : SgnP r) :
    Ret Try.prog 85 [.int .i32 r] w (fun v w' => ∃ A c, v = .slice A (encB r).length c ∧ HS w w' [.row A (encB r).length c (vi .u8 (encB r)) 5 1]) := by
 have hr : 33 ≤ r ∧ r ≤ 65532 := by unfold SgnP at hs; omega
 refine ret_enter Try.func85 rfl rfl rfl ?_
 have H0 := HS.start w
 refine cw_seq ?_
 refine cw_reg ?_
 refine ry (y_asg rfl rfl) rfl rfl ?_
 refine reg_nil ?_
 refine fn_next ?_
 refine cw_seq ?_
 refine cw_seq ?_
 refine cw_reg ?_
 refine ry (y_mov rfl rfl) rfl rfl ?_
 refine ry (y_lss rfl rfl rfl) rfl rfl ?_
 refine reg_nil ?_
 refine fn_next ?_
 refine cw_condd rfl (fun h1 => ?_) (fun h1 => ?_)
 ·skip
  refine cw_seq ?_
  refine cw_reg ?_
  refine ry (y_mov rfl rfl) rfl rfl ?_
  refine ry (y_conv rfl Try.underlying21 Try.underlying5 rfl (wu8 (by omega))) rfl rfl ?_
  refine reg_op (op_lit (parts := [(0, _)]) (vs := [(0, _)]) (cs := [.int _ _]) H0 rfl Try.underlying92 kftint2_13 rfl ⟨rfl, trivial⟩ rfl rfl) rfl rfl ?_
  rintro _ w3 ⟨b2, rfl, H4⟩
  have H5 := H4.asrow (m := 1) (size := 1) rfl (by decide)
  refine ry (y_asg rfl rfl) rfl rfl ?_
  refine reg_nil ?_
  refine fn_next ?_
  refine cw_ret ?_
  refine fn_then_ret ?_
  refine fn_ret1 rfl rfl ?_
  have he : encB r = [r] := by unfold encB; rw [if_pos h1]
  rw [he]
  exact ⟨_, _, rfl, H5⟩
 ·skip
  refine cw_skip ?_
  refine fn_next ?_
  refine cw_seq ?_
  refine cw_seq ?_
  refine cw_reg ?_
  refine ry (y_mov rfl rfl) rfl rfl ?_
  refine ry (y_lss rfl rfl rfl) rfl rfl ?_
  refine reg_nil ?_
  refine fn_next ?_
  refine cw_condd rfl (fun h2 => ?_) (fun h2 => ?_)
  ·skip
   refine cw_seq ?_
   refine cw_reg ?_
   refine ry (y_mov rfl rfl) rfl rfl ?_
   refine ry (y_quo rfl rfl rfl (by omega) (tdq (by omega) (wi32 (by omega)))) rfl rfl ?_
   refine ry (y_add rfl rfl rfl (wi32 (by omega))) rfl rfl ?_
   refine ry (y_conv rfl Try.underlying21 Try.underlying5 rfl (wu8 (by omega))) rfl rfl ?_
   refine ry (y_mov rfl rfl) rfl rfl ?_
   refine ry (y_rem rfl rfl rfl (by omega) (tmn (by omega) rfl)) rfl rfl ?_
   refine ry (y_add rfl rfl rfl (wi32 (by omega))) rfl rfl ?_
   refine ry (y_conv rfl Try.underlying21 Try.underlying5 rfl (wu8 (by omega))) rfl rfl ?_
   refine reg_op (op_lit (parts := [(0, _), (1, _)]) (vs := [(0, _), (1, _)]) (cs := [.int _ _, .int _ _]) H0 rfl Try.underlying92 kftint2_13 rfl ⟨rfl, rfl, trivial⟩ rfl rfl) rfl rfl ?_
   rintro _ w8 ⟨b7, rfl, H9⟩
   have H10 := H9.asrow (m := 2) (size := 1) rfl (by decide)
   refine ry (y_asg rfl rfl) rfl rfl ?_
   refine reg_nil ?_
   refine fn_next ?_
   refine cw_ret ?_
   refine fn_then_ret ?_
   refine fn_ret1 rfl rfl ?_
   have he : encB r = [192 + r / 64, 128 + r % 64] := by unfold encB; rw [if_neg h1, if_pos h2]
   rw [he]
   exact ⟨_, _, rfl, H10⟩
  ·skip
   refine cw_skip ?_
   refine fn_next ?_
   refine cw_seq ?_
   refine cw_reg ?_
   refine ry (y_mov rfl rfl) rfl rfl ?_
   refine ry (y_quo rfl rfl rfl (by omega) (tdq (by omega) (wi32 (by omega)))) rfl rfl ?_
   refine ry (y_add rfl rfl rfl (wi32 (by omega))) rfl rfl ?_
   refine ry (y_conv rfl Try.underlying21 Try.underlying5 rfl (wu8 (by omega))) rfl rfl ?_
   refine ry (y_mov rfl rfl) rfl rfl ?_
   refine ry (y_quo rfl rfl rfl (by omega) (tdq (by omega) (wi32 (by omega)))) rfl rfl ?_
   refine ry (y_rem rfl rfl rfl (by omega) (tmn (by omega) rfl)) rfl rfl ?_
   refine ry (y_add rfl rfl rfl (wi32 (by omega))) rfl rfl ?_
   refine ry (y_conv rfl Try.underlying21 Try.underlying5 rfl (wu8 (by omega))) rfl rfl ?_
   refine ry (y_mov rfl rfl) rfl rfl ?_
   refine ry (y_rem rfl rfl rfl (by omega) (tmn (by omega) rfl)) rfl rfl ?_
   refine ry (y_add rfl rfl rfl (wi32 (by omega))) rfl rfl ?_
   refine ry (y_conv rfl Try.underlying21 Try.underlying5 rfl (wu8 (by omega))) rfl rfl ?_
   refine reg_op (op_lit (parts := [(0, _), (1, _), (2, _)]) (vs := [(0, _), (1, _), (2, _)]) (cs := [.int _ _, .int _ _, .int _ _]) H0 rfl Try.underlying92 kftint2_13 rfl ⟨rfl, rfl, rfl, trivial⟩ rfl rfl) rfl rfl ?_
   rintro _ w12 ⟨b11, rfl, H13⟩
   have H14 := H13.asrow (m := 3) (size := 1) rfl (by decide)
   refine ry (y_asg rfl rfl) rfl rfl ?_
   refine reg_nil ?_
   refine fn_next ?_
   refine cw_ret ?_
   refine fn_ret1 rfl rfl ?_
   have he : encB r = [224 + r / 4096, 128 + r / 64 % 64, 128 + r % 64] := by unfold encB; rw [if_neg h1, if_neg h2]
   rw [he]
   exact ⟨_, _, rfl, H14⟩

end Go.Proofs.Ytgkkbeomhkggjaa
