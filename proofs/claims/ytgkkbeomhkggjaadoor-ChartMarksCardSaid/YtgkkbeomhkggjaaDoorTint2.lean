/- Layer 33: a value's sign, a sign's band; the document's answer. -/
import Derived.Test.YtgkkbeomhkggjaaDoorTint1
import Derived.Test.YtgkkbeomhkggjaaDoorK19
import Derived.Test.YtgkkbeomhkggjaaDoorMG
set_option linter.unusedVariables false
set_option linter.unusedSimpArgs false
namespace Go.Proofs.YtgkkbeomhkggjaaDoor
open Go Go.RowKit
theorem kftint2_1 : callB Tryd.prog 63 = true := by kernel_rfl
theorem kftint2_2 : elB Tryd.prog 87 2 = true := by kernel_rfl
theorem kftint2_3 : fldB Tryd.prog 86 1 1 = true := by kernel_rfl
theorem kftint2_4 : oneB Tryd.prog 21 = true := by kernel_rfl
theorem kftint2_5 : aggB Tryd.prog 86 2 = true := by kernel_rfl
theorem kftint2_6 : (Tryd.prog.info? 86).bind (fun i => i.zero.map Value.cells) = some (List.toArray [(.int .i64 0), (.int .i32 0)]) := by kernel_rfl
theorem kftint2_7 : szB Tryd.prog 86 2 = true := by kernel_rfl
theorem kftint2_8 : fldB Tryd.prog 86 0 0 = true := by kernel_rfl
theorem kftint2_9 : oneB Tryd.prog 2 = true := by kernel_rfl
theorem kftint2_10 : callB Tryd.prog 111 = true := by kernel_rfl
theorem kftint2_11 : callB Tryd.prog 26 = true := by kernel_rfl
theorem kftint2_12 : callB Tryd.prog 22 = true := by kernel_rfl
theorem kftint2_13 : (Tryd.prog.info? 5).map (fun i => (i.size, i.zero.map Value.cells)) = some (1, some (List.toArray [(.int .u8 0)])) := by kernel_rfl
theorem ofI_zero {l : List Bd} {v : Int} : ofI l v 0 = (bn l 0).s := rfl

set_option maxRecDepth 100000 in
set_option maxHeartbeats 1000000 in
theorem tintOf (A : Option Addr) (n c : Nat) (l : List Bd) (v : Int) (w : World) (hb : Rd w A (bcells l)) (hl : l.length = n) (hn : n ≤ 100000000) (hcap : n ≤ c) :
    Ret Tryd.prog 64 [.slice A n c, .int .i64 v] w (fun v_ w' => v_ = (if rgtB l = true then .tuple #[.int .i32 (ofF l v), .int .i64 0] else .tuple #[.int .i32 0, .int .i64 13]) ∧ Below w.heap.size w w') := by
 refine ret_enter Tryd.func64 rfl rfl rfl ?_
 have H0 := HS.start w
 refine cw_seq ?_
 refine cw_reg ?_
 refine ry (y_asg rfl rfl) rfl rfl ?_
 refine ry (y_asg rfl rfl) rfl rfl ?_
 refine reg_nil ?_
 refine fn_next ?_
 refine cw_seq ?_
 refine cw_seq ?_
 refine cw_reg ?_
 refine ry (y_mov rfl rfl) rfl rfl ?_
 refine reg_op (op_call (tintRight A n c l _ (hb.below H0.base) hl hn hcap) rfl kftint2_1 ⟨rfl, trivial⟩) rfl rfl ?_
 rintro _ w2 ⟨rfl, e1⟩
 have H3 := H0.ext e1
 refine ry (y_not rfl rfl) rfl rfl ?_
 refine reg_nil ?_
 refine fn_next ?_
 refine cw_cond rfl (fun h4 => ?_) (fun h4 => ?_)
 ·skip
  have hr : rgtB l = false := by simpa using h4
  refine cw_seq ?_
  refine cw_reg ?_
  refine ry (y_asg rfl rfl) rfl rfl ?_
  refine ry (y_asg rfl rfl) rfl rfl ?_
  refine reg_nil ?_
  refine fn_next ?_
  refine cw_ret ?_
  refine fn_then_ret ?_
  refine fn_retn (vs := [_, _]) rfl ⟨rfl, rfl, trivial⟩ rfl ?_
  exact ⟨by rw [hr]; rfl, H3.base⟩
 ·skip
  have hr : rgtB l = true := by simpa using h4
  have hR := (rgtB_iff l).1 hr
  have h1l := hR.1.1
  have g0 := b_get0 (l := l) (i := 0) (by omega)
  have g1 := b_get1 (l := l) (i := 0) (by omega)
  refine cw_skip ?_
  refine fn_next ?_
  refine cw_seq ?_
  refine cw_reg ?_
  refine ry (y_mov rfl rfl) rfl rfl ?_
  refine ry (y_iar (i := 0) (hb.below H3.base) rfl rfl rfl kftint2_2 (rfl) (by omega) (rfl) (g0)) rfl rfl ?_
  refine ry (y_far (hb.below H3.base) rfl rfl kftint2_3 rfl (g0)) rfl rfl ?_
  refine ry (y_ldr (hb.below H3.base) rfl rfl kftint2_4 (g1)) rfl rfl ?_
  refine ry (y_asg rfl rfl) rfl rfl ?_
  refine reg_nil ?_
  refine fn_next ?_
  refine cw_seq ?_
  refine cw_seq ?_
  refine cw_reg ?_
  refine ry (y_mov rfl rfl) rfl rfl ?_
  refine ry (y_len rfl Tryd.underlying87 rfl) rfl rfl ?_
  refine ry (y_mov rfl rfl) rfl rfl ?_
  refine reg_nil ?_
  refine fn_next ?_
  refine cw_block ?_
  refine cw_loopJ [6, 8, 18, 19, 20, 21, 22, 23, 24, 25, 26, 27, 28] (fun M wl ml => ∃ (i : Nat), M = [(18, .int .i64 (i : Int)), (6, .int .i32 (ofI l v i))] ∧ HS w wl [] ∧ (i ≤ n) ∧ ml = n + 1 - i) ⟨0, rfl, H3, Nat.zero_le _, rfl⟩ ⟨rfl, rfl, trivial⟩ ?_
  rintro M w5 m7 ⟨i, rfl, H6, hin, rfl⟩
  refine cw_seq ?_
  refine cw_reg ?_
  refine ry (y_lss rfl rfl rfl) rfl rfl ?_
  refine reg_nil ?_
  refine fn_next ?_
  refine cw_seq ?_
  refine cw_condd rfl (fun h8 => ?_) (fun h8 => ?_)
  ·skip
   have g0 := b_get0 (l := l) (i := i) (by omega)
   have gp := b_part (l := l) (i := i) (by omega)
   refine cw_skip ?_
   refine fn_next ?_
   refine cw_seq ?_
   refine cw_block ?_
   refine cw_seq ?_
   refine cw_reg ?_
   refine ry (y_iar (hb.below H6.base) rfl rfl rfl kftint2_2 (rfl) (by omega) (rfl) (g0)) rfl rfl ?_
   refine ry (y_ldra (cs := [_, _]) (hb.below H6.base) rfl rfl kftint2_5 rfl (by decide) (gp)) rfl rfl ?_
   refine reg_op (op_alloc H6 rfl kftint2_6) rfl rfl ?_
   rintro _ w10 ⟨b9, rfl, H11⟩
   refine reg_op (op_st (i := 0) (vs := [.int _ _, .int _ _]) H11 rfl rfl rfl rfl rfl kftint2_7 rfl rfl rfl) rfl rfl ?_
   rintro _ w12 H13
   refine reg_nil ?_
   refine fn_next ?_
   refine cw_seq ?_
   refine cw_reg ?_
   refine ry (y_fa rfl rfl kftint2_8 rfl) rfl rfl ?_
   refine ry (y_ld rfl rfl kftint2_9 (H13.cell (i := 0) rfl rfl)) rfl rfl ?_
   refine ry (y_mov rfl rfl) rfl rfl ?_
   refine ry (y_leq rfl rfl rfl) rfl rfl ?_
   refine reg_nil ?_
   refine fn_next ?_
   refine cw_condd rfl (fun h14 => ?_) (fun h14 => ?_)
   ·skip
    refine cw_reg ?_
    refine ry (y_fa rfl rfl kftint2_3 rfl) rfl rfl ?_
    refine ry (y_ld rfl rfl kftint2_4 (H13.cell (i := 0) rfl rfl)) rfl rfl ?_
    refine ry (y_asg rfl rfl) rfl rfl ?_
    refine reg_nil ?_
    refine fn_block ?_
    refine fn_next ?_
    refine cw_reg ?_
    refine ry (y_add rfl rfl rfl (wi (by omega))) rfl rfl ?_
    refine ry (y_mov rfl rfl) rfl rfl ?_
    refine reg_nil ?_
    refine fn_roundJ ⟨i + 1, rfl, (H13.pick (m := []) [] rfl (by decide)), by omega, rfl⟩ ⟨rfl, show _ = some (Value.int .i32 (if (bn l i).f ≤ v then (bn l i).s else ofI l v i)) by first | (rw [if_pos (by assumption)]; rfl) | (rw [if_neg (by assumption)]; rfl), trivial⟩ (by omega) (by repeat (first | exact kp_refl | refine kp_app rfl rfl ?_ | refine kp_cons rfl ?_)) rfl
   ·skip
    refine cw_skip ?_
    refine fn_block ?_
    refine fn_next ?_
    refine cw_reg ?_
    refine ry (y_add rfl rfl rfl (wi (by omega))) rfl rfl ?_
    refine ry (y_mov rfl rfl) rfl rfl ?_
    refine reg_nil ?_
    refine fn_roundJ ⟨i + 1, rfl, (H13.pick (m := []) [] rfl (by decide)), by omega, rfl⟩ ⟨rfl, show _ = some (Value.int .i32 (if (bn l i).f ≤ v then (bn l i).s else ofI l v i)) by first | (rw [if_pos (by assumption)]; rfl) | (rw [if_neg (by assumption)]; rfl), trivial⟩ (by omega) (by repeat (first | exact kp_refl | refine kp_app rfl rfl ?_ | refine kp_cons rfl ?_)) rfl
  ·skip
   obtain rfl : i = n := by omega
   refine cw_exit ?_
   refine fn_then_exit (fn_then_exit (fn_block_exit ?_))
   refine fn_next ?_
   refine cw_seq ?_
   refine cw_reg ?_
   refine ry (y_mov rfl rfl) rfl rfl ?_
   refine ry (y_asg rfl rfl) rfl rfl ?_
   refine ry (y_asg rfl rfl) rfl rfl ?_
   refine reg_nil ?_
   refine fn_next ?_
   refine cw_ret ?_
   refine fn_retn (vs := [_, _]) rfl ⟨rfl, rfl, trivial⟩ rfl ?_
   exact ⟨by rw [hr, if_pos rfl]; unfold ofF; rw [hl], H6.base⟩

set_option maxRecDepth 100000 in
set_option maxHeartbeats 1000000 in
theorem tintBack (A : Option Addr) (n c : Nat) (l : List Bd) (s : Int) (w : World) (hb : Rd w A (bcells l)) (hl : l.length = n) (hn : n ≤ 100000000) (hcap : n ≤ c) :
    Ret Tryd.prog 99 [.slice A n c, .int .i32 s] w (fun v_ w' => v_ = (if rgtB l = true then (match backF l s with | some f => .tuple #[.int .i64 f, .int .i64 0] | none => .tuple #[.int .i64 0, .int .i64 15]) else .tuple #[.int .i64 0, .int .i64 13]) ∧ Below w.heap.size w w') := by
 refine ret_enter Tryd.func99 rfl rfl rfl ?_
 have H0 := HS.start w
 refine cw_seq ?_
 refine cw_reg ?_
 refine reg_op (op_box (cs := [.int _ _]) H0 rfl rfl rfl) rfl rfl ?_
 rintro _ w2 ⟨b1, rfl, H3⟩
 refine ry (y_asg rfl rfl) rfl rfl ?_
 refine ry (y_asg rfl rfl) rfl rfl ?_
 refine reg_nil ?_
 refine fn_next ?_
 refine cw_seq ?_
 refine cw_seq ?_
 refine cw_reg ?_
 refine ry (y_mov rfl rfl) rfl rfl ?_
 refine reg_op (op_call (tintRight A n c l _ (hb.below H3.base) hl hn hcap) rfl kftint2_1 ⟨rfl, trivial⟩) rfl rfl ?_
 rintro _ w5 ⟨rfl, e4⟩
 have H6 := H3.ext e4
 refine ry (y_not rfl rfl) rfl rfl ?_
 refine reg_nil ?_
 refine fn_next ?_
 refine cw_cond rfl (fun h7 => ?_) (fun h7 => ?_)
 ·skip
  have hr : rgtB l = false := by simpa using h7
  refine cw_seq ?_
  refine cw_reg ?_
  refine ry (y_asg rfl rfl) rfl rfl ?_
  refine ry (y_asg rfl rfl) rfl rfl ?_
  refine reg_nil ?_
  refine fn_next ?_
  refine cw_ret ?_
  refine fn_then_ret ?_
  refine fn_retn (vs := [_, _]) rfl ⟨rfl, rfl, trivial⟩ rfl ?_
  exact ⟨by rw [hr]; rfl, H6.base⟩
 ·skip
  have hr : rgtB l = true := by simpa using h7
  refine cw_skip ?_
  refine fn_next ?_
  refine cw_seq ?_
  refine cw_reg ?_
  refine ry (y_mov rfl rfl) rfl rfl ?_
  refine ry (y_mkf (first := []) (caps := [_]) (fs := []) (cs := [_]) rfl trivial ⟨rfl, trivial⟩) rfl rfl ?_
  refine reg_op (op_call (indexB A n c l s _ _ (hb.below H6.base) hl hn ((H6.at_ (i := 0) rfl).2.rd)) rfl kftint2_10 ⟨rfl, rfl, trivial⟩) rfl rfl ?_
  rintro _ w9 ⟨i, rfl, hi, e8⟩
  have H10 := H6.ext e8
  refine ry (y_asg rfl rfl) rfl rfl ?_
  refine reg_nil ?_
  refine fn_next ?_
  refine cw_seq ?_
  refine cw_seq ?_
  refine cw_reg ?_
  refine ry (y_mov rfl rfl) rfl rfl ?_
  refine ry (y_lss rfl rfl rfl) rfl rfl ?_
  refine reg_nil ?_
  refine fn_next ?_
  refine cw_condd rfl (fun h11 => ?_) (fun h11 => ?_)
  ·skip
   have hno : ∀ j, j < l.length → (bn l j).s ≠ s := by rcases hi with ⟨_, q⟩ | ⟨k, q, _⟩; exact q; omega
   refine cw_seq ?_
   refine cw_reg ?_
   refine ry (y_asg rfl rfl) rfl rfl ?_
   refine ry (y_asg rfl rfl) rfl rfl ?_
   refine reg_nil ?_
   refine fn_next ?_
   refine cw_ret ?_
   refine fn_then_ret ?_
   refine fn_retn (vs := [_, _]) rfl ⟨rfl, rfl, trivial⟩ rfl ?_
   exact ⟨by rw [hr, if_pos rfl]; unfold backF; rw [backI_none hno]; rfl, H10.base⟩
  ·skip
   obtain ⟨k, rfl, hk, hlt, he⟩ := hi.resolve_left (by omega)
   have g0 := b_get0 (l := l) (i := k) (by omega)
   refine cw_skip ?_
   refine fn_next ?_
   refine cw_seq ?_
   refine cw_reg ?_
   refine ry (y_mov rfl rfl) rfl rfl ?_
   refine ry (y_mov rfl rfl) rfl rfl ?_
   refine ry (y_iar (hb.below H10.base) rfl rfl rfl kftint2_2 (rfl) (by omega) (rfl) (g0)) rfl rfl ?_
   refine ry (y_far (hb.below H10.base) rfl rfl kftint2_8 rfl (g0)) rfl rfl ?_
   refine ry (y_ldr (hb.below H10.base) rfl rfl kftint2_9 (g0)) rfl rfl ?_
   refine ry (y_asg rfl rfl) rfl rfl ?_
   refine ry (y_asg rfl rfl) rfl rfl ?_
   refine reg_nil ?_
   refine fn_next ?_
   refine cw_ret ?_
   refine fn_retn (vs := [_, _]) rfl ⟨rfl, rfl, trivial⟩ rfl ?_
   exact ⟨by rw [hr, if_pos rfl]; unfold backF; rw [backI_some hlt he hk]; rfl, H10.base⟩

set_option maxRecDepth 100000 in
theorem refBytes3 (r : Int) (w : World) (hs : SgnP r) :
    Ret Tryd.prog 24 [.int .i32 r] w (fun v w' => ∃ A c, v = .slice A (encB r).length c ∧ HS w w' [.row A (encB r).length c (vi .u8 (encB r)) 5 1]) := by
 have hr : 33 ≤ r ∧ r ≤ 65532 := by unfold SgnP at hs; omega
 refine ret_enter Tryd.func24 rfl rfl rfl ?_
 have H0 := HS.start w
 refine cw_seq ?_
 refine cw_reg ?_
 refine ry (y_asg rfl rfl) rfl rfl ?_
 refine reg_nil ?_
 refine fn_next ?_
 refine cw_seq ?_
 refine cw_seq ?_
 refine cw_reg ?_
 refine ry (y_mov rfl rfl) rfl rfl ?_
 refine ry (y_lss rfl rfl rfl) rfl rfl ?_
 refine reg_nil ?_
 refine fn_next ?_
 refine cw_condd rfl (fun h1 => ?_) (fun h1 => ?_)
 ·skip
  refine cw_seq ?_
  refine cw_reg ?_
  refine ry (y_mov rfl rfl) rfl rfl ?_
  refine ry (y_conv rfl Tryd.underlying21 Tryd.underlying5 rfl (wu8 (by omega))) rfl rfl ?_
  refine reg_op (op_lit (parts := [(0, _)]) (vs := [(0, _)]) (cs := [.int _ _]) H0 rfl Tryd.underlying62 kftint2_13 rfl ⟨rfl, trivial⟩ rfl rfl) rfl rfl ?_
  rintro _ w3 ⟨b2, rfl, H4⟩
  have H5 := H4.asrow (m := 1) (size := 1) rfl (by decide)
  refine ry (y_asg rfl rfl) rfl rfl ?_
  refine reg_nil ?_
  refine fn_next ?_
  refine cw_ret ?_
  refine fn_then_ret ?_
  refine fn_ret1 rfl rfl ?_
  have he : encB r = [r] := by unfold encB; rw [if_pos h1]
  rw [he]
  exact ⟨_, _, rfl, H5⟩
 ·skip
  refine cw_skip ?_
  refine fn_next ?_
  refine cw_seq ?_
  refine cw_seq ?_
  refine cw_reg ?_
  refine ry (y_mov rfl rfl) rfl rfl ?_
  refine ry (y_lss rfl rfl rfl) rfl rfl ?_
  refine reg_nil ?_
  refine fn_next ?_
  refine cw_condd rfl (fun h2 => ?_) (fun h2 => ?_)
  ·skip
   refine cw_seq ?_
   refine cw_reg ?_
   refine ry (y_mov rfl rfl) rfl rfl ?_
   refine ry (y_quo rfl rfl rfl (by omega) (tdq (by omega) (wi32 (by omega)))) rfl rfl ?_
   refine ry (y_add rfl rfl rfl (wi32 (by omega))) rfl rfl ?_
   refine ry (y_conv rfl Tryd.underlying21 Tryd.underlying5 rfl (wu8 (by omega))) rfl rfl ?_
   refine ry (y_mov rfl rfl) rfl rfl ?_
   refine ry (y_rem rfl rfl rfl (by omega) (tmn (by omega) rfl)) rfl rfl ?_
   refine ry (y_add rfl rfl rfl (wi32 (by omega))) rfl rfl ?_
   refine ry (y_conv rfl Tryd.underlying21 Tryd.underlying5 rfl (wu8 (by omega))) rfl rfl ?_
   refine reg_op (op_lit (parts := [(0, _), (1, _)]) (vs := [(0, _), (1, _)]) (cs := [.int _ _, .int _ _]) H0 rfl Tryd.underlying62 kftint2_13 rfl ⟨rfl, rfl, trivial⟩ rfl rfl) rfl rfl ?_
   rintro _ w8 ⟨b7, rfl, H9⟩
   have H10 := H9.asrow (m := 2) (size := 1) rfl (by decide)
   refine ry (y_asg rfl rfl) rfl rfl ?_
   refine reg_nil ?_
   refine fn_next ?_
   refine cw_ret ?_
   refine fn_then_ret ?_
   refine fn_ret1 rfl rfl ?_
   have he : encB r = [192 + r / 64, 128 + r % 64] := by unfold encB; rw [if_neg h1, if_pos h2]
   rw [he]
   exact ⟨_, _, rfl, H10⟩
  ·skip
   refine cw_skip ?_
   refine fn_next ?_
   refine cw_seq ?_
   refine cw_reg ?_
   refine ry (y_mov rfl rfl) rfl rfl ?_
   refine ry (y_quo rfl rfl rfl (by omega) (tdq (by omega) (wi32 (by omega)))) rfl rfl ?_
   refine ry (y_add rfl rfl rfl (wi32 (by omega))) rfl rfl ?_
   refine ry (y_conv rfl Tryd.underlying21 Tryd.underlying5 rfl (wu8 (by omega))) rfl rfl ?_
   refine ry (y_mov rfl rfl) rfl rfl ?_
   refine ry (y_quo rfl rfl rfl (by omega) (tdq (by omega) (wi32 (by omega)))) rfl rfl ?_
   refine ry (y_rem rfl rfl rfl (by omega) (tmn (by omega) rfl)) rfl rfl ?_
   refine ry (y_add rfl rfl rfl (wi32 (by omega))) rfl rfl ?_
   refine ry (y_conv rfl Tryd.underlying21 Tryd.underlying5 rfl (wu8 (by omega))) rfl rfl ?_
   refine ry (y_mov rfl rfl) rfl rfl ?_
   refine ry (y_rem rfl rfl rfl (by omega) (tmn (by omega) rfl)) rfl rfl ?_
   refine ry (y_add rfl rfl rfl (wi32 (by omega))) rfl rfl ?_
   refine ry (y_conv rfl Tryd.underlying21 Tryd.underlying5 rfl (wu8 (by omega))) rfl rfl ?_
   refine reg_op (op_lit (parts := [(0, _), (1, _), (2, _)]) (vs := [(0, _), (1, _), (2, _)]) (cs := [.int _ _, .int _ _, .int _ _]) H0 rfl Tryd.underlying62 kftint2_13 rfl ⟨rfl, rfl, rfl, trivial⟩ rfl rfl) rfl rfl ?_
   rintro _ w12 ⟨b11, rfl, H13⟩
   have H14 := H13.asrow (m := 3) (size := 1) rfl (by decide)
   refine ry (y_asg rfl rfl) rfl rfl ?_
   refine reg_nil ?_
   refine fn_next ?_
   refine cw_ret ?_
   refine fn_ret1 rfl rfl ?_
   have he : encB r = [224 + r / 4096, 128 + r / 64 % 64, 128 + r % 64] := by unfold encB; rw [if_neg h1, if_neg h2]
   rw [he]
   exact ⟨_, _, rfl, H14⟩

end Go.Proofs.YtgkkbeomhkggjaaDoor
