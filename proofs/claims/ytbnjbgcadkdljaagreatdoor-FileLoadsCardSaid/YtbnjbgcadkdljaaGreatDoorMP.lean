/- Texts as one: Iter0, LoopF, Runs1. -/
import Derived.Test.YtbnjbgcadkdljaaGreatDoorMO
import Derived.Shelf.Abstract
set_option linter.unusedVariables false
set_option linter.unusedSimpArgs false
namespace Go.Proofs.YtbnjbgcadkdljaaGreatDoor
open Go Go.RowKit
theorem kfiter0_1 : oneB Tryz.prog 24 = true := by kernel_rfl
theorem kfiter0_2 : elB Tryz.prog 24 1 = true := by kernel_rfl
theorem kfiter0_3 : oneB Tryz.prog 2 = true := by kernel_rfl
theorem kfiter0_4 : (Tryz.prog.info? 141).bind (fun i => i.zero.map Value.cells) = some (List.toArray [(.int .i64 0), (.int .i64 0)]) := by kernel_rfl
theorem kfiter0_5 : szB Tryz.prog 141 2 = true := by kernel_rfl
theorem kfiter0_6 : fldB Tryz.prog 141 1 1 = true := by kernel_rfl
theorem kfiter0_7 : szB Tryz.prog 2 1 = true := by kernel_rfl
theorem kfiter0_8 : aggB Tryz.prog 141 2 = true := by kernel_rfl
/-- a run that can be -/
abbrev Run := { r : Nat × Int // r.1 ≤ 2000000 ∧ -9223372036854775808 ≤ r.2 ∧ r.2 ≤ 9223372036854775807 }
abbrev rvals (l : List Run) : List (Nat × Int) := l.map (·.1)
def runV (r : Run) : Value := .agg #[.int .i64 (r.1.1 : Int), .int .i64 r.1.2]
/-- what the iterator wants kept -/
def ItK (w00 : World) (kb : Nat) (A B : World) : Prop := Below w00.heap.size A B ∧ (∀ v, Rd A (some ⟨kb, 0, none⟩) [v] → Rd B (some ⟨kb, 0, none⟩) [v])
theorem grown_of {w w' : World} (h : Below w.heap.size w w') : w.grownBy w' none := ⟨h.os, h.tape, h.output, h.size, fun k hk _ => h.block k hk⟩
theorem pre_lt {pre : List Run} {x : Nat × Int} {t l : List (Nat × Int)} (h : rvals pre ++ x :: t = l) : pre.length < l.length := by
  rw [← h]; simp only [List.length_append, List.length_map, List.length_cons]; omega
theorem pre_next {pre : List Run} {x : Run} {y : Nat × Int} {s t l : List (Nat × Int)} (h : rvals pre ++ s = l) (e : s = y :: t) (hx : x.1 = y) : rvals (pre ++ [x]) ++ t = l := by
  subst e; subst hx; rw [← h]; simp

set_option maxRecDepth 100000 in
set_option maxHeartbeats 1000000 in
theorem iterOf0 (w00 : World) (kb n cap l N : Nat) (A : Option Addr) (zs : List Int) (J Jx : List Run → World → Prop) (w : World) (hr : Rd w00 A (vi .i64 zs)) (hl : zs.length = n) (hn : n ≤ 2000000) (hI : allI zs) (hk0 : Rd w (some ⟨kb, 0, none⟩) [.slice A n cap]) (hb0 : Below w00.heap.size w00 w) (hN : (rnl zs 0).length = N) (hJ : AbidesFrom w.heap.size J)
    (hY : ∀ pre (x : Run) W1, J pre W1 → pre.length < (rnl zs 0).length → YieldAt Fence.wide (3 - 1) Tryz.prog l #[runV x] W1 fun e W' => (e = .returned (.bool true) ∧ J (pre ++ [x]) W' ∧ ItK w00 kb W1 W') ∨ (e = .returned (.bool false) ∧ Jx (pre ++ [x]) W')) (h0 : J [] w) :
    Ret Tryz.prog 109 [.func (.yield l) #[] #[], .pointer (some ⟨kb, 0, none⟩)] w (fun v w' => (∃ xs : List Run, rvals xs = rnl zs 0 ∧ J xs w') ∨ (∃ pre, Jx pre w')) := by
 refine ret_enter Tryz.func109 rfl rfl rfl ?_
 have H0 := HS.start w
 refine cw_seq ?_
 refine cw_reg ?_
 refine ry (y_asg rfl rfl) rfl rfl ?_
 refine reg_nil ?_
 refine fn_next ?_
 refine cw_block ?_
 refine cw_loopJ [3, 4, 5, 6, 7, 8, 9, 10, 11, 12, 13, 14, 15, 16, 17, 18, 19, 20, 21, 22, 23, 24, 25, 26, 27, 28, 29, 30, 31, 32, 33, 34, 35, 36, 37, 38, 39, 40, 41] (fun M wl ml => ∃ (i : Nat) (pre : List Run), M = [(3, .int .i64 (i : Int))] ∧ HS wl wl [] ∧ (J pre wl) ∧ (Rd wl (some ⟨kb, 0, none⟩) [.slice A n cap]) ∧ (Below w00.heap.size w00 wl) ∧ (rvals pre ++ rnl (zs.drop i) 0 = rnl zs 0) ∧ (i ≤ n) ∧ ml = n + 1 - i) ⟨0, [], rfl, HS.start _, h0, hk0, hb0, rfl, Nat.zero_le _, rfl⟩ ⟨rfl, trivial⟩ ?_
 rintro M w1 m3 ⟨i, pre, rfl, H2, hJ0, hkl, hbl, hpre, hin, rfl⟩
 have hrl := hr.below hbl
 refine cw_seq ?_
 refine cw_seq ?_
 refine cw_reg ?_
 refine ry (y_mov rfl rfl) rfl rfl ?_
 refine ry (y_ldr (k := 0) (hkl.below H2.base) rfl rfl kfiter0_1 (rfl)) rfl rfl ?_
 refine ry (y_len rfl Tryz.underlying24 rfl) rfl rfl ?_
 refine ry (y_lss rfl rfl rfl) rfl rfl ?_
 refine reg_nil ?_
 refine fn_next ?_
 refine cw_condd rfl (fun h4 => ?_) (fun h4 => ?_)
 ·skip
  refine cw_skip ?_
  refine fn_next ?_
  refine cw_block ?_
  refine cw_seq ?_
  refine cw_reg ?_
  refine ry (y_mov rfl rfl) rfl rfl ?_
  refine ry (y_asg rfl rfl) rfl rfl ?_
  refine reg_nil ?_
  refine fn_next ?_
  refine cw_seq ?_
  refine cw_block ?_
  refine cw_loopJ [3, 11, 12, 13, 14, 15, 16, 17, 18, 19, 20, 21, 22, 23] (fun M wl ml => ∃ (j : Nat), M = [(3, .int .i64 (j : Int))] ∧ HS w1 wl [] ∧ (i ≤ j) ∧ (j ≤ n) ∧ (rnl (zs.drop i) 0 = rnl (zs.drop j) (j - i)) ∧ ml = n + 1 - j) ⟨i, rfl, H2, Nat.le_refl _, hin, by rw [Nat.sub_self], rfl⟩ ⟨rfl, trivial⟩ ?_
  rintro M w5 m7 ⟨j, rfl, H6, hij, hjn, hrj, rfl⟩
  refine cw_seq ?_
  refine cw_seq ?_
  refine cw_reg ?_
  refine ry (y_mov rfl rfl) rfl rfl ?_
  refine ry (y_ldr (k := 0) (hkl.below H6.base) rfl rfl kfiter0_1 (rfl)) rfl rfl ?_
  refine ry (y_len rfl Tryz.underlying24 rfl) rfl rfl ?_
  refine ry (y_lss rfl rfl rfl) rfl rfl ?_
  refine ry (y_mov rfl rfl) rfl rfl ?_
  refine rg_splitd (d := 15) rfl (fun h8 => ?_) (fun h8 => ?_)
  ·skip
   have gz := vi_get (k := .i64) (zs := zs) (i := j) (by omega)
   refine rgy (y_ldr (k := 0) (hkl.below H6.base) rfl rfl kfiter0_1 (rfl)) rfl rfl rfl rfl ?_
   refine rgy (y_mov rfl rfl) rfl rfl rfl rfl ?_
   refine rgy (y_iar (hrl.below H6.base) rfl rfl rfl kfiter0_2 (rfl) (by omega) (Nat.mul_one _) (gz)) rfl rfl rfl rfl ?_
   refine rgy (y_ldr (hrl.below H6.base) rfl rfl kfiter0_3 (gz)) rfl rfl rfl rfl ?_
   refine rgy (y_eql rfl rfl rfl) rfl rfl rfl rfl ?_
   refine ry (y_pick rfl rfl rfl) rfl rfl ?_
   refine reg_nil ?_
   refine fn_next ?_
   refine cw_condd rfl (fun hz => ?_) (fun hz => ?_)
   ·skip
    refine cw_skip ?_
    refine fn_next ?_
    refine cw_block ?_
    refine cw_reg ?_
    refine ry (y_mov rfl rfl) rfl rfl ?_
    refine ry (y_add rfl rfl rfl (wi (by omega))) rfl rfl ?_
    refine ry (y_asg rfl rfl) rfl rfl ?_
    refine reg_nil ?_
    refine fn_block ?_
    refine fn_roundJ ⟨j + 1, rfl, H6, by omega, by omega, by rw [hrj, rn_drop_zero (by omega) hz]; congr 1; omega, rfl⟩ ⟨rfl, trivial⟩ (by omega) (by repeat (first | exact kp_refl | refine kp_app rfl rfl ?_ | refine kp_cons rfl ?_)) rfl
   ·skip
    have hflz : ¬ (j < zs.length ∧ nth zs j = 0) := fun q => hz q.2
    refine cw_exit ?_
    refine fn_then_exit (fn_then_exit (fn_block_exit ?_))
    refine fn_next ?_
    refine cw_seq ?_
    refine cw_reg ?_
    refine ry (y_mov rfl rfl) rfl rfl ?_
    refine ry (y_mov rfl rfl) rfl rfl ?_
    refine ry (y_sub rfl rfl rfl (wi (by omega))) rfl rfl ?_
    refine ry (y_build (places := [(0, 1), (1, 1)]) (parts := [(0, _)]) (vs := [(0, _)]) (cs := [.int _ _, .int _ _]) rfl Tryz.underlying141 (by kernel_rfl) kfiter0_4 rfl ⟨rfl, trivial⟩ rfl) rfl rfl ?_
    refine reg_op (op_alloc H6 rfl kfiter0_4) rfl rfl ?_
    rintro _ w11 ⟨b10, rfl, H12⟩
    refine reg_op (op_st (i := 0) (vs := [.int _ _, .int _ _]) H12 rfl rfl rfl rfl rfl kfiter0_5 rfl rfl rfl) rfl rfl ?_
    rintro _ w13 H14
    refine reg_nil ?_
    refine fn_next ?_
    refine cw_seq ?_
    refine cw_seq ?_
    refine cw_reg ?_
    refine ry (y_mov rfl rfl) rfl rfl ?_
    refine ry (y_mov rfl rfl) rfl rfl ?_
    refine ry (y_eql rfl rfl rfl) rfl rfl ?_
    refine reg_nil ?_
    refine fn_next ?_
    refine cw_condd rfl (fun h15 => ?_) (fun h15 => ?_)
    ·skip
     have hji : j = i := by omega
     have hzI : -9223372036854775808 ≤ nth zs j ∧ nth zs j ≤ 9223372036854775807 := by rw [nth_lt (by omega)]; exact hI _ (List.getElem_mem _)
     have hfl : rnl (zs.drop i) 0 = (j - i, nth zs j) :: rnl (zs.drop (j + 1)) 0 := by rw [hji, Nat.sub_self]; exact rn_drop_rest (by omega) (hji ▸ hz)
     refine cw_seq ?_
     refine cw_reg ?_
     refine ry (y_ldr (k := 0) (hkl.below H14.base) rfl rfl kfiter0_1 (rfl)) rfl rfl ?_
     refine ry (y_mov rfl rfl) rfl rfl ?_
     refine ry (y_iar (hrl.below H14.base) rfl rfl rfl kfiter0_2 (rfl) (by omega) (Nat.mul_one _) (gz)) rfl rfl ?_
     refine ry (y_ldr (hrl.below H14.base) rfl rfl kfiter0_3 (gz)) rfl rfl ?_
     refine ry (y_fa rfl rfl kfiter0_6 rfl) rfl rfl ?_
     refine reg_op (op_st (i := 0) (vs := [.int _ _]) H14 rfl rfl rfl rfl rfl kfiter0_7 rfl rfl rfl) rfl rfl ?_
     rintro _ w16 H17
     refine reg_nil ?_
     refine fn_next ?_
     refine cw_reg ?_
     refine ry (y_mov rfl rfl) rfl rfl ?_
     refine ry (y_add rfl rfl rfl (wi (by omega))) rfl rfl ?_
     refine ry (y_asg rfl rfl) rfl rfl ?_
     refine reg_nil ?_
     refine fn_next ?_
     refine cw_seq ?_
     rw [show (j : Int) - (i : Int) = ((j - i : Nat) : Int) by omega] at H17
     have hJw := hJ pre _ _ none hJ0 (grown_of H17.base) (fun r e => by cases e)
     have hxr : j - i ≤ 2000000 ∧ -9223372036854775808 ≤ (nth zs j : Int) ∧ (nth zs j : Int) ≤ 9223372036854775807 := ⟨by omega, hzI⟩
     have hy := hY pre ⟨(j - i, nth zs j), hxr⟩ _ hJw (pre_lt (hfl ▸ hpre))
     refine cw_regW (m := 3) ?_
     refine rw_yd (y_mov rfl rfl) rfl rfl rfl ?_
     refine rw_yd (y_ldb (i := 0) (cs := [_, _]) H17 rfl rfl kfiter0_8 rfl rfl) rfl rfl rfl ?_
     refine rw_yield (xs := [_]) (vs := [runV ⟨(j - i, nth zs j), hxr⟩]) rfl rfl ⟨rfl, trivial⟩ hy (fun e w' h => by rcases h with ⟨h, _⟩ | ⟨h, _⟩ <;> exact ⟨_, h⟩) rfl rfl ?_
     rintro v w9 (⟨hv, hJ1, hk1⟩ | ⟨hv, hJx1⟩)
     ·skip
      obtain rfl : v = .bool true := by injection hv
      refine rw_yd (y_not rfl rfl) rfl rfl rfl ?_
      refine rw_nil ?_
      have hkl1 := hk1.2 _ (hkl.below H17.base)
      have hbl1 : Below w00.heap.size w00 w9 := (hbl.trans (H17.base.mono hbl.size)).trans hk1.1
      refine fn_next ?_
      refine cw_condf rfl ?_
      refine cw_skip ?_
      refine fn_block ?_
      refine fn_roundJ ⟨j + 1, _, rfl, HS.start _, hJ1, hkl1, hbl1, pre_next hpre hfl rfl, by omega, rfl⟩ ⟨rfl, trivial⟩ (by omega) (by repeat (first | exact kp_refl | refine kp_app rfl rfl ?_ | refine kp_cons rfl ?_)) rfl
     ·skip
      obtain rfl : v = .bool false := by injection hv
      refine rw_yd (y_not rfl rfl) rfl rfl rfl ?_
      refine rw_nil ?_
      refine fn_next ?_
      refine cw_condt rfl ?_
      refine cw_ret ?_
      refine fn_block_ret (fn_then_ret (fn_block_ret ?_))
      refine fn_retn (vs := []) rfl trivial rfl ?_
      exact .inr ⟨_, hJx1⟩
    ·skip
     have hfl : rnl (zs.drop i) 0 = (j - i, 0) :: rnl (zs.drop j) 0 := by
       obtain ⟨k, hk⟩ : ∃ k, j - i = k + 1 := ⟨j - i - 1, by omega⟩
       rw [hrj, hk]; exact rn_drop_flush hflz
     refine cw_skip ?_
     refine fn_next ?_
     refine cw_seq ?_
     rw [show (j : Int) - (i : Int) = ((j - i : Nat) : Int) by omega] at H14
     have hJw := hJ pre _ _ none hJ0 (grown_of H14.base) (fun r e => by cases e)
     have hxr : j - i ≤ 2000000 ∧ -9223372036854775808 ≤ (0 : Int) ∧ (0 : Int) ≤ 9223372036854775807 := by omega
     have hy := hY pre ⟨(j - i, 0), hxr⟩ _ hJw (pre_lt (hfl ▸ hpre))
     refine cw_regW (m := 3) ?_
     refine rw_yd (y_mov rfl rfl) rfl rfl rfl ?_
     refine rw_yd (y_ldb (i := 0) (cs := [_, _]) H14 rfl rfl kfiter0_8 rfl rfl) rfl rfl rfl ?_
     refine rw_yield (xs := [_]) (vs := [runV ⟨(j - i, 0), hxr⟩]) rfl rfl ⟨rfl, trivial⟩ hy (fun e w' h => by rcases h with ⟨h, _⟩ | ⟨h, _⟩ <;> exact ⟨_, h⟩) rfl rfl ?_
     rintro v w9 (⟨hv, hJ1, hk1⟩ | ⟨hv, hJx1⟩)
     ·skip
      obtain rfl : v = .bool true := by injection hv
      refine rw_yd (y_not rfl rfl) rfl rfl rfl ?_
      refine rw_nil ?_
      have hkl1 := hk1.2 _ (hkl.below H14.base)
      have hbl1 : Below w00.heap.size w00 w9 := (hbl.trans (H14.base.mono hbl.size)).trans hk1.1
      refine fn_next ?_
      refine cw_condf rfl ?_
      refine cw_skip ?_
      refine fn_block ?_
      refine fn_roundJ ⟨j, _, rfl, HS.start _, hJ1, hkl1, hbl1, pre_next hpre hfl rfl, by omega, rfl⟩ ⟨rfl, trivial⟩ (by omega) (by repeat (first | exact kp_refl | refine kp_app rfl rfl ?_ | refine kp_cons rfl ?_)) rfl
     ·skip
      obtain rfl : v = .bool false := by injection hv
      refine rw_yd (y_not rfl rfl) rfl rfl rfl ?_
      refine rw_nil ?_
      refine fn_next ?_
      refine cw_condt rfl ?_
      refine cw_ret ?_
      refine fn_block_ret (fn_then_ret (fn_block_ret ?_))
      refine fn_retn (vs := []) rfl trivial rfl ?_
      exact .inr ⟨_, hJx1⟩
  ·skip
   have hflz : ¬ (j < zs.length ∧ nth zs j = 0) := fun q => by omega
   refine rg_off rfl rfl rfl rfl rfl ?_
   refine rg_off rfl rfl rfl rfl rfl ?_
   refine rg_off rfl rfl rfl rfl rfl ?_
   refine rg_off rfl rfl rfl rfl rfl ?_
   refine rg_off rfl rfl rfl rfl rfl ?_
   refine ry (y_pick rfl rfl rfl) rfl rfl ?_
   refine reg_nil ?_
   refine fn_next ?_
   refine cw_condf rfl ?_
   refine cw_exit ?_
   refine fn_then_exit (fn_then_exit (fn_block_exit ?_))
   refine fn_next ?_
   refine cw_seq ?_
   refine cw_reg ?_
   refine ry (y_mov rfl rfl) rfl rfl ?_
   refine ry (y_mov rfl rfl) rfl rfl ?_
   refine ry (y_sub rfl rfl rfl (wi (by omega))) rfl rfl ?_
   refine ry (y_build (places := [(0, 1), (1, 1)]) (parts := [(0, _)]) (vs := [(0, _)]) (cs := [.int _ _, .int _ _]) rfl Tryz.underlying141 (by kernel_rfl) kfiter0_4 rfl ⟨rfl, trivial⟩ rfl) rfl rfl ?_
   refine reg_op (op_alloc H6 rfl kfiter0_4) rfl rfl ?_
   rintro _ w19 ⟨b18, rfl, H20⟩
   refine reg_op (op_st (i := 0) (vs := [.int _ _, .int _ _]) H20 rfl rfl rfl rfl rfl kfiter0_5 rfl rfl rfl) rfl rfl ?_
   rintro _ w21 H22
   refine reg_nil ?_
   refine fn_next ?_
   refine cw_seq ?_
   refine cw_seq ?_
   refine cw_reg ?_
   refine ry (y_mov rfl rfl) rfl rfl ?_
   refine ry (y_mov rfl rfl) rfl rfl ?_
   refine ry (y_eql rfl rfl rfl) rfl rfl ?_
   refine reg_nil ?_
   refine fn_next ?_
   refine cw_condd rfl (fun h23 => ?_) (fun h23 => ?_)
   · exfalso; omega
   ·skip
    have hfl : rnl (zs.drop i) 0 = (j - i, 0) :: rnl (zs.drop j) 0 := by
      obtain ⟨k, hk⟩ : ∃ k, j - i = k + 1 := ⟨j - i - 1, by omega⟩
      rw [hrj, hk]; exact rn_drop_flush hflz
    refine cw_skip ?_
    refine fn_next ?_
    refine cw_seq ?_
    rw [show (j : Int) - (i : Int) = ((j - i : Nat) : Int) by omega] at H22
    have hJw := hJ pre _ _ none hJ0 (grown_of H22.base) (fun r e => by cases e)
    have hxr : j - i ≤ 2000000 ∧ -9223372036854775808 ≤ (0 : Int) ∧ (0 : Int) ≤ 9223372036854775807 := by omega
    have hy := hY pre ⟨(j - i, 0), hxr⟩ _ hJw (pre_lt (hfl ▸ hpre))
    refine cw_regW (m := 3) ?_
    refine rw_yd (y_mov rfl rfl) rfl rfl rfl ?_
    refine rw_yd (y_ldb (i := 0) (cs := [_, _]) H22 rfl rfl kfiter0_8 rfl rfl) rfl rfl rfl ?_
    refine rw_yield (xs := [_]) (vs := [runV ⟨(j - i, 0), hxr⟩]) rfl rfl ⟨rfl, trivial⟩ hy (fun e w' h => by rcases h with ⟨h, _⟩ | ⟨h, _⟩ <;> exact ⟨_, h⟩) rfl rfl ?_
    rintro v w9 (⟨hv, hJ1, hk1⟩ | ⟨hv, hJx1⟩)
    ·skip
     obtain rfl : v = .bool true := by injection hv
     refine rw_yd (y_not rfl rfl) rfl rfl rfl ?_
     refine rw_nil ?_
     have hkl1 := hk1.2 _ (hkl.below H22.base)
     have hbl1 : Below w00.heap.size w00 w9 := (hbl.trans (H22.base.mono hbl.size)).trans hk1.1
     refine fn_next ?_
     refine cw_condf rfl ?_
     refine cw_skip ?_
     refine fn_block ?_
     refine fn_roundJ ⟨j, _, rfl, HS.start _, hJ1, hkl1, hbl1, pre_next hpre hfl rfl, by omega, rfl⟩ ⟨rfl, trivial⟩ (by omega) (by repeat (first | exact kp_refl | refine kp_app rfl rfl ?_ | refine kp_cons rfl ?_)) rfl
    ·skip
     obtain rfl : v = .bool false := by injection hv
     refine rw_yd (y_not rfl rfl) rfl rfl rfl ?_
     refine rw_nil ?_
     refine fn_next ?_
     refine cw_condt rfl ?_
     refine cw_ret ?_
     refine fn_block_ret (fn_then_ret (fn_block_ret ?_))
     refine fn_retn (vs := []) rfl trivial rfl ?_
     exact .inr ⟨_, hJx1⟩
 ·skip
  refine cw_exit ?_
  refine fn_then_exit (fn_then_exit (fn_block_exit ?_))
  refine fn_normal ?_
  refine fn_retn (vs := []) rfl trivial rfl ?_
  exact .inl ⟨pre, by rw [← hpre, List.drop_of_length_le (by omega)]; simp [rnl], hJ0⟩

theorem iterOf (w00 w : World) (kb n cap : Nat) (A : Option Addr) (zs : List Int) (hr : Rd w00 A (vi .i64 zs)) (hl : zs.length = n) (hn : n ≤ 2000000) (hI : allI zs) (hkw : Rd w (some ⟨kb, 0, none⟩) [.slice A n cap]) (hbw : Below w00.heap.size w00 w) :
    SeqStopsK Fence.wide 3 Tryz.prog 109 #[.pointer (some ⟨kb, 0, none⟩)] (fun r : Run => #[runV r]) (ItK w00 kb) (fun xs => rvals xs = rnl zs 0) (fun _ => True) (rnl zs 0).length w := fun l J Jx W hB hJ hJx hY h0 => by
  have hk0 := hkw.below hB
  have hb0 : Below w00.heap.size w00 W := hbw.trans (hB.mono hbw.size)
  refine callsIn_wide.2 ?_
  rw [show (#[.func (.yield l) #[] #[]] ++ #[.pointer (some ⟨kb, 0, none⟩)] : Array Value) = [.func (.yield l) #[] #[], .pointer (some ⟨kb, 0, none⟩)].toArray from by simp]
  refine Calls.mono (iterOf0 w00 kb n cap l _ A zs J Jx W hr hl hn hI hk0 hb0 rfl hJ hY h0) ?_
  rintro e w' ⟨v, he, h | ⟨pre, h⟩⟩
  · exact ⟨⟨v, he⟩, .inl h⟩
  · exact ⟨⟨v, he⟩, .inr ⟨pre, trivial, h⟩⟩

end Go.Proofs.YtbnjbgcadkdljaaGreatDoor

namespace Go.Proofs.YtbnjbgcadkdljaaGreatDoor
open Go Go.RowKit
section
variable {P : Program} {n : Nat} {L : Fr} {w : World} {Q : Exit → Act → World → Prop} {ds : List Deferred}
/-- code behind the loop: the activation has a mark -/
def CwD (P : Program) (n : Nat) (ds : List Deferred) (Q : Exit → Act → World → Prop) (c : Code) (L : Fr) (w : World) : Prop := ∀ a, Rep n L a → c.wp P Q { a with defers := ds } w
def FinD (n : Nat) (ds : List Deferred) (Q : Exit → Act → World → Prop) (e : Exit) (L : Fr) (w : World) : Prop := ∀ a, Rep n L a → Q e { a with defers := ds } w
theorem fd_next {y : Code} (h : CwD P n ds Q y L w) : FinD n ds (Exit.then (y.wp P Q) Q) .normal L w := h
theorem fd_block {id : Nat} (h : FinD n ds Q .normal L w) : FinD n ds (Exit.inBlock id Q) .normal L w := h
theorem cd_seq {x y : Code} (h : CwD P n ds (Exit.then (y.wp P Q) Q) x L w) : CwD P n ds Q (x.seq y) L w := fun a ha => wp_seq (h a ha)
theorem cd_reg {id : Nat} {l : List Oper} (h : RegD P n ds l.toArray Q l L w) : CwD P n ds Q (.region id l.toArray false) L w := fun a ha => wp_region_lit (h a ha)
theorem cd_ret (h : FinD n ds Q .ret L w) : CwD P n ds Q .ret L w := fun a ha => wp_ret (h a ha)
theorem cd_end {ops : Array Oper} (h : FinD n ds Q .normal L w) : RegD P n ds ops Q [] L w := rd_nil h
end
theorem HS.abides {w0 W W' : World} {l : List Ob} {row : Option Nat} (h : HS w0 W l) (hn : l.all notAbs = true) (hg : W.grownBy W' row) (hr : ∀ r, row = some r → w0.heap.size ≤ r ∧ ∃ o : Obj, W.heap[r]? = some o ∧ o.isCells = false) : HS w0 W' l :=
  ⟨h.base.grown hg h.base.size (fun k e => (hr k e).1), fun o ho => Ob.keep (h.own o ho) hg (fun k hk e => by
    obtain ⟨_, x, h1, h2⟩ := hr k e
    rw [Ob.cells_of (h.own o ho) (List.all_eq_true.1 hn o ho) hk h1] at h2; cases h2), h.apart⟩
theorem HS.shut {w0 W : World} {l : List Ob} {D : Nat} {o o' : Obj} (h : HS w0 W l) (hn : l.all notAbs = true) (hD : w0.heap.size ≤ D) (ho : W.heap[D]? = some o) (hc : o.isCells = false) : HS w0 (W.putObj D o') l :=
  h.abides hn (grownBy_putObj' W D o') (fun r e => by cases e; exact ⟨hD, o, ho, hc⟩)
/-- an object whose cells are of another type -/
def okT (T : TypeId) : Ob → Bool
  | .blk _ _ T' => !(Nat.beq T' T)
  | .row _ _ _ _ e _ => !(Nat.beq e T)
  | _ => false
theorem okT_abs {T : TypeId} {o : Ob} (h : okT T o = true) : notAbs o = true := by cases o <;> first | rfl | cases h
theorem okT_all {T : TypeId} {l : List Ob} (h : l.all (okT T) = true) : l.all notAbs = true := List.all_eq_true.2 fun o ho => okT_abs (List.all_eq_true.1 h o ho)
theorem okT_has {B b : Nat} {w : World} {cs : List Value} {T : TypeId} {o : Ob} (h : o.ok B w) (ht : okT T o = true) (hb : Blk w b cs T) : ¬ o.has b := fun hk => by
  unfold Blk at hb
  have no : ∀ x : Nat, (!(Nat.beq x T)) = true → x ≠ T := fun x hx e => by subst e; simp at hx
  cases o with
  | blk b' cs' T' =>
    obtain rfl : b' = b := Option.some.inj hk
    obtain ⟨_, h⟩ := h
    unfold Blk at h
    rw [h] at hb
    cases hb
    exact no _ ht rfl
  | row A n cap xs e size =>
    obtain ⟨_, _, _, h | ⟨g, cur, rfl, _, h, _⟩⟩ := (h : Own _ _ _ _ _ _ _ _)
    · subst h; exact absurd (show (none : Option Nat) = some b from hk) (by simp)
    · have hk' : (if cap = 0 then none else some g) = some b := hk
      split at hk'
      · cases hk'
      · obtain rfl := Option.some.inj hk'
        rw [h] at hb; cases hb
        exact no _ ht rfl
  | ro b' xs => cases ht
  | abs A => cases ht
theorem HS.consT {w0 W : World} {l : List Ob} {b : Nat} {cs : List Value} {T : TypeId} (h : HS w0 W l) (hB : w0.heap.size ≤ b) (hb : Blk W b cs T) (ht : l.all (okT T) = true) : HS w0 W (.blk b cs T :: l) :=
  h.cons ⟨hB, hb⟩ fun o ho k hk => by
    obtain rfl : b = k := Option.some.inj hk
    exact okT_has (h.own o ho) (List.all_eq_true.1 ht o ho) hb
theorem below_of {w0 W W' : World} (h : Below w0.heap.size w0 W) (h' : Below w0.heap.size w0 W') (hs : W.heap.size ≤ W'.heap.size) : Below w0.heap.size W W' :=
  ⟨h'.os.trans h.os.symm, h'.tape.trans h.tape.symm, h'.output.trans h.output.symm, hs, fun k hk => (h'.block k hk).trans (h.block k hk).symm⟩
def runC (r : Run) : List Value := [.int .i64 (r.1.1 : Int), .int .i64 r.1.2]
abbrev runT : TypeId := 141
abbrev kOb (kb : Nat) (A : Option Addr) (n cap : Nat) : Ob := .blk kb [.slice A n cap] 24
theorem itK_of {w W W' : World} {kb n cap : Nat} {A : Option Addr} {l l' : List Ob} {i j : Nat} (h : HS w W l) (h' : HS w W' l') (hi : l[i]? = some (kOb kb A n cap)) (hj : l'[j]? = some (kOb kb A n cap)) (hs : W.heap.size ≤ W'.heap.size) : ItK w kb W W' := by
  refine ⟨below_of h.base h'.base hs, fun v hv => ?_⟩
  obtain ⟨b, off, e, hlt, hc⟩ := hv 0 v rfl
  cases e
  have h1 := h.cell (j := 0) hi rfl
  rw [Nat.zero_add] at hc
  rw [hc] at h1
  cases h1
  exact (h'.at_ hj).2.rd
theorem run_put {n p : Nat} {L : Fr} {a : Act} {v : Value} (ha : Rep n L a) (hp : Nat.blt p n = true) : Rep n ((p, v) :: L) { tmps := ((#[p] : Array Tmp).zip #[v]).foldl (fun t (p, v) => t.setIfInBounds p v) a.tmps, defers := [] } := by
  have h := ha.put (d := some p) hp v
  have e : a.put (some p) v = { tmps := ((#[p] : Array Tmp).zip #[v]).foldl (fun t (p, v) => t.setIfInBounds p v) a.tmps, defers := [] } := by
    simp [Act.put, ha.defers]
  rw [e] at h; exact h
set_option maxHeartbeats 1000000 in
theorem cw_runs {nt : Nat} {L : Fr} {Q : Exit → Act → World → Prop} {g : Operand} {p t : Nat} {assign body : Code} {w wL : World} {kb n cap : Nat} {A : Option Addr} {zs : List Int}
    (hr : Rd w A (vi .i64 zs)) (hl : zs.length = n) (hn : n ≤ 2000000) (hI : allI zs) (G : List Run → List Ob → Prop) (hG : ∀ pre l, G pre l → l.all (okT runT) = true) {l0 : List Ob} (H0 : HS w wL (kOb kb A n cap :: l0)) (hG0 : G [] l0)
    (hg : ev L g = some (.func (.func 109) #[] #[.pointer (some ⟨kb, 0, none⟩)])) (hp : Nat.blt p nt = true)
    (hAs : ∀ rd pre (x : Run) W l, G pre l → HS w W (.abs (othersAb W w.heap.size) :: kOb kb A n cap :: l) → CwI Tryz.prog nt 2 rd (fun e a' W' => e = .normal ∧ ∃ b, Rep nt ((t, .pointer (some ⟨b, 0, none⟩)) :: (p, runV x) :: L) a' ∧ HS w W' (.blk b (runC x) runT :: .abs (othersAb W w.heap.size) :: kOb kb A n cap :: l)) assign ((p, runV x) :: L) W)
    (hBo : ∀ rd pre (x : Run) W l b, G pre l → pre.length < (rnl zs 0).length → HS w W (.abs (othersAb W w.heap.size) :: .blk b (runC x) runT :: kOb kb A n cap :: l) → CwI Tryz.prog nt 2 rd (fun e a' W' => e = .normal ∧ ∃ l', G (pre ++ [x]) l' ∧ HS w W' (.abs (othersAb W w.heap.size) :: kOb kb A n cap :: l')) body ((t, .pointer (some ⟨b, 0, none⟩)) :: (p, runV x) :: L) W)
    (hD : ∀ D xs W l, rvals xs = rnl zs 0 → G xs l → HS w W (kOb kb A n cap :: l) → HS w (W.putObj D (.deferred none)) (kOb kb A n cap :: l) → W.heap[D]? = some (.deferred (some [])) → FinD nt [{ target := .collected D, args := #[] }] Q .normal L W) :
    Cw Tryz.prog nt Q (.rangeFunc g #[p] assign body) L wL := by
  intro a ha
  have hkl : Rd wL (some ⟨kb, 0, none⟩) [.slice A n cap] := (H0.at_ (i := 0) rfl).2.rd
  have hkb : kb < wL.heap.size := (H0.at_ (i := 0) rfl).2.lt
  have hkT : okT runT (kOb kb A n cap) = true := rfl
  have hall : ∀ pre l, G pre l → (kOb kb A n cap :: l).all notAbs = true := fun pre l h => by
    rw [List.all_cons, okT_all (hG pre l h)]; rfl
  refine wpIn_wide.1 (wpIn_rangeFunc_ownH (n := 4) (F := Fence.wide) rfl (by decide) (gf := 109) (lb := #[.pointer (some ⟨kb, 0, none⟩)]) (ha.ev hg) trivial (enters_of Tryz.func109 (by kernel_rfl) rfl)
    (iterOf w wL kb n cap A zs hr hl hn hI hkl H0.base) ?kt ?kb (Below.refl _ _) (fun _ => rfl)
    (fun pre W => ∃ l, G pre l ∧ HS w W (kOb kb A n cap :: l)) (fun _ _ _ => False) ?own (fun _ _ _ _ _ hs _ _ => hs) ⟨l0, hG0, H0⟩
    (fun x a' W => ∃ b, w.heap.size ≤ b ∧ Blk W b (runC x) runT ∧ Rep nt ((t, .pointer (some ⟨b, 0, none⟩)) :: (p, runV x) :: L) a') ?ax ?asg ?bo ?done (fun _ _ _ _ _ _ h _ => h.elim))
  case kt => exact fun h k => ⟨h.1.trans k.1, fun v hv => k.2 v (h.2 v hv)⟩
  case kb =>
    intro W l o o' hlt hh hc hw
    refine ⟨belowK_b H0.base.size W l o o' hlt hh hc hw, fun v hv => ?_⟩
    intro j u hu
    obtain ⟨b, off, e, h1, h2⟩ := hv j u hu
    cases e
    refine ⟨kb, 0, rfl, by simpa using h1, ?_⟩
    rw [World.cell?_of_block (w' := W.putObj l o') (w := W) (by exact (grownBy_putObj' W l o').block kb h1 (fun e => by cases e; omega))]
    exact h2
  case own =>
    intro pre W W' row ⟨l, h1, h2⟩ hg' hr'
    exact ⟨l, h1, h2.abides (hall _ _ h1) hg' (fun r e => ⟨Nat.le_trans H0.base.size (hr' r e).1, (hr' r e).2⟩)⟩
  case ax =>
    intro x a' _ W W' row ⟨b, h1, h2, h3⟩ hg' hr'
    refine ⟨b, h1, ?_, h3⟩
    unfold Blk at h2 ⊢
    rw [hg'.block b (heap_lt h2) (fun e => by obtain ⟨_, o, h4, h5⟩ := hr' b e.symm; rw [h2] at h4; cases h4; cases h5)]
    exact h2
  case asg =>
    intro rd pre x W K ⟨l, h1, h2⟩ hK
    refine wpIn_mono (hAs rd pre x W l h1 (h2.others (hall _ _ h1)) _ (run_put ha hp)) ?_
    rintro e a' W' ⟨rfl, b, hR, H⟩
    have hk := h2.keeps (l' := _) H.tail
    exact hK a' W' (hk.from _) (itK_of (i := 0) (j := 2) h2 H rfl rfl hk.size) ⟨l, h1, H.tail.tail⟩ ⟨b, (H.at_ (i := 0) rfl).1, (H.at_ (i := 0) rfl).2, hR⟩
  case bo =>
    rintro rd pre x a' W _ _ ⟨l, h1, h2⟩ ⟨b, hb, hB, hR⟩ hlt
    have h3 : HS w W (.blk b (runC x) runT :: kOb kb A n cap :: l) := h2.consT hb hB (by rw [List.all_cons, hkT, hG pre l h1]; rfl)
    have h4 := h3.others (by rw [List.all_cons, hall _ _ h1]; rfl)
    refine wpIn_mono (hBo rd pre x W l b h1 hlt h4 a' hR) ?_
    rintro e a' W' ⟨rfl, l', hg', H⟩
    have hk := h2.keeps (l' := _) H
    exact ⟨hk.from _, itK_of (i := 0) (j := 1) h2 H rfl rfl hk.size, l', hg', H.tail⟩
  case done =>
    rintro D xs W hDs hS ⟨l, h1, h2⟩ hK
    have := hD D xs W l hS h1 h2 (h2.shut (hall _ _ h1) (Nat.le_trans H0.base.size hDs) hK rfl) hK a ha
    rw [ha.defers]; exact this
end Go.Proofs.YtbnjbgcadkdljaaGreatDoor

namespace Go.Proofs.YtbnjbgcadkdljaaGreatDoor
open Go Go.RowKit
theorem kfruns1_1 : oneB Tryz.prog 22 = true := by kernel_rfl
theorem kfruns1_2 : callB Tryz.prog 54 = true := by kernel_rfl
theorem kfruns1_3 : szB Tryz.prog 22 1 = true := by kernel_rfl
theorem kfruns1_4 : callB Tryz.prog 103 = true := by kernel_rfl
theorem kfruns1_5 : (Tryz.prog.info? 141).bind (fun i => i.zero.map Value.cells) = some (List.toArray [(.int .i64 0), (.int .i64 0)]) := by kernel_rfl
theorem kfruns1_6 : szB Tryz.prog 141 2 = true := by kernel_rfl
theorem kfruns1_7 : aggB Tryz.prog 141 2 = true := by kernel_rfl
theorem kfruns1_8 : callB Tryz.prog 104 = true := by kernel_rfl
theorem kfruns1_9 : (Tryz.prog.info? 5).map (fun i => (i.zero.map (·.cells.toList), i.size, i.bytes)) = some (some [(.int .u8 0)], 1, 1) := by kernel_rfl
theorem rv_snoc {pre : List Run} {x : Run} : runsB (rvals (pre ++ [x])) = runsB (rvals pre) ++ runB x.1.1 x.1.2 := by
  unfold rvals; rw [List.map_append]; exact runsB_snoc _ _
theorem rv_len {pre : List Run} {zs : List Int} (h : pre.length < (rnl zs 0).length) : (runsB (rvals pre)).length ≤ 11 * zs.length := by
  have h1 := runsB_len (rvals pre)
  have h2 := (rn_len zs 0).2 rfl
  unfold rvals at h1 ⊢; rw [List.length_map] at h1; omega

set_option maxRecDepth 100000 in
theorem runsOf (A : Option Addr) (n cap : Nat) (w : World) :
    Ret Tryz.prog 103 [.slice A n cap] w (fun v w' => ∃ b, v = .func (.func 109) #[] #[.pointer (some ⟨b, 0, none⟩)] ∧ HS w w' [kOb b A n cap]) := by
 refine ret_enter Tryz.func103 rfl rfl rfl ?_
 have H0 := HS.start w
 refine cw_seq ?_
 refine cw_reg ?_
 refine reg_op (op_box (cs := [.slice _ _ _]) H0 rfl rfl rfl) rfl rfl ?_
 rintro _ w2 ⟨b1, rfl, H3⟩
 refine ry (y_asg rfl rfl) rfl rfl ?_
 refine reg_nil ?_
 refine fn_next ?_
 refine cw_seq ?_
 refine cw_reg ?_
 refine ry (y_mkf (first := []) (caps := [_]) (fs := []) (cs := [_]) rfl trivial ⟨rfl, trivial⟩) rfl rfl ?_
 refine ry (y_asg rfl rfl) rfl rfl ?_
 refine reg_nil ?_
 refine fn_next ?_
 refine cw_ret ?_
 refine fn_ret1 rfl rfl ?_
 exact ⟨_, rfl, H3⟩

set_option maxRecDepth 100000 in
set_option maxHeartbeats 1000000 in
theorem runsPut (A0 A : Option Addr) (m cap0 n cap : Nat) (bs zs : List Int) (w : World) (hb : Rd w A0 (vi .u8 bs)) (hbl : bs.length = m) (hm : m ≤ 1000000) (hr : Rd w A (vi .i64 zs)) (hl : zs.length = n) (hn : n ≤ 2000000) (hI : allI zs) :
    Ret Tryz.prog 74 [.slice A0 m cap0, .slice A n cap] w (fun v w' => ∃ A' c, v = .slice A' (m + (runsB (rnl zs 0)).length) c ∧ HS w w' [.row A' (m + (runsB (rnl zs 0)).length) c (vi .u8 (bs ++ runsB (rnl zs 0))) 5 1]) := by
 refine ret_enterM Tryz.func74 rfl rfl rfl ?_
 have H0 := HS.start w
 refine cw_seq ?_
 refine cw_reg ?_
 refine reg_op (op_box (cs := [.slice _ _ _]) H0 rfl rfl rfl) rfl rfl ?_
 rintro _ w2 ⟨b1, rfl, H3⟩
 refine ry (y_asg rfl rfl) rfl rfl ?_
 refine reg_nil ?_
 refine fn_next ?_
 refine cw_seq ?_
 refine cw_reg ?_
 refine ry (y_ld rfl rfl kfruns1_1 (H3.cell (i := 0) rfl rfl)) rfl rfl ?_
 refine reg_op (op_call (CloneB _ _ _ (vi .u8 bs) _ (hb.below H3.base) (by rw [vi_len]; omega) vi_one (by omega)) rfl kfruns1_2 ⟨rfl, trivial⟩) rfl rfl ?_
 rintro _ w5 ⟨A7, c8, rfl, k4⟩
 have H6 := H3.call k4
 refine reg_op (op_st (i := 1) (vs := [.slice _ _ _]) H6 rfl rfl rfl rfl rfl kfruns1_3 rfl rfl rfl) rfl rfl ?_
 rintro _ w9 H10
 refine reg_nil ?_
 refine fn_next ?_
 refine cw_seq ?_
 refine cw_seq ?_
 refine cw_reg ?_
 refine ry (y_mov rfl rfl) rfl rfl ?_
 refine reg_op (op_call (runsOf A n cap _) rfl kfruns1_4 ⟨rfl, trivial⟩) rfl rfl ?_
 rintro _ w12 ⟨b14, rfl, k11⟩
 have H13 := H10.call k11
 refine reg_nil ?_
 refine fn_next ?_
 refine cw_block ?_
 rw [show bs = bs ++ runsB (rvals []) from (List.append_nil _).symm] at H13
 refine cw_runs hr hl hn hI (p := 10) (t := 5) (fun pre l => ∃ (A' : Option Addr) (c : Nat), l = [Ob.row A' (m + (runsB (rvals pre)).length) c (vi .u8 (bs ++ runsB (rvals pre))) 5 1, Ob.blk b1 [.slice A' (m + (runsB (rvals pre)).length) c] 22]) (fun pre l h => by obtain ⟨_, _, rfl⟩ := h; rfl) H13 ⟨_, _, rfl⟩ rfl rfl ?_ ?_ ?_
 ·skip
  rintro rd pre x wA l ⟨A3, c3, rfl⟩ HA
  refine cwI_reg rfl ?_
  refine reg_op (op_alloc HA rfl kfruns1_5) rfl rfl ?_
  rintro _ w16 ⟨b15, rfl, H17⟩
  refine reg_op (op_st (i := 0) (vs := [.int _ _, .int _ _]) H17 rfl rfl rfl rfl rfl kfruns1_6 rfl rfl rfl) rfl rfl ?_
  rintro _ w18 H19
  refine reg_nil ?_
  exact fun a ha => ⟨rfl, rfl, _, ha, H19⟩
 ·skip
  rintro rd pre x wB l b5 ⟨A3, c3, rfl⟩ hlt HB
  have hb1 := rv_len hlt
  have hb3 := (runB_len (k := x.1.1) (z := x.1.2)).2
  refine cwI_block ?_
  refine cwI_drawT HB [1] (.alt (.step 0 (.step 2 (.step 3 (.step 4 (.leaf))))) (.step 2 (.step 0 (.step 3 (.step 4 (.leaf)))))) (fun X HX => (HX.pick (m := [_, _, _]) [0, 1, 2] rfl (by decide))) (by kernel_rfl) (by kernel_rfl) (by rfl) (by kernel_rfl) ?_
  simp only [pick, List.getElem?_cons_succ, List.getElem?_cons_zero]
  refine hk_y (fun Y HY => y_ldb (i := 1) (cs := [_, _]) HY rfl rfl kfruns1_7 rfl rfl) rfl rfl ?_
  refine hkt_nil [11, 13, 14] (fun M wl => ∃ (A' : Option Addr) (c' : Nat), M = [] ∧ HS w wl [Ob.abs (othersAb wB w.heap.size), kOb b14 A n cap, Ob.row A' (m + (runsB (rvals pre)).length + (runB x.1.1 x.1.2).length) c' (vi .u8 (bs ++ runsB (rvals pre)) ++ vi .u8 (runB x.1.1 x.1.2)) 5 1, Ob.blk b1 [.slice A' (m + (runsB (rvals pre)).length + (runB x.1.1 x.1.2).length) c'] 22]) (fun wX HX => ?_) ?_
  ·skip
   refine tt_alt ?_ ?_
   ·skip
    refine tt_op rfl (Yd.op (y_ld rfl rfl kfruns1_1 (HX.cell (i := 4) rfl rfl))) rfl rfl ?_
    rintro _ _ ⟨rfl, rfl⟩
    refine ⟨(HX.pick (m := [_, _, _]) [0, 1, 2] rfl (by decide)), fun w20 e22 => ?_⟩
    have H21 := HX.ext e22
    refine tt_op rfl (op_call (runBytes x.1.1 x.1.2 _ x.2.1 x.2.2) rfl kfruns1_8 ⟨rfl, trivial⟩) rfl rfl ?_
    rintro _ w24 ⟨A26, c27, rfl, k23⟩
    have H25 := H21.call k23
    refine ⟨(H25.pick (m := [_, _, _]) [1, 2, 3] rfl (by decide)), fun w28 e30 => ?_⟩
    have H29 := H25.ext e30
    refine tt_op rfl (op_app (i := 4) H29 rfl rfl rfl rfl (H29.rd (i := 0) rfl) (by rw [vi_len, Nat.mul_one]) (vi_one) Tryz.underlying22 kfruns1_9 rfl rfl (by unfold maxLen; omega) (by omega)) rfl rfl ?_
    rintro _ w33 ⟨A31, c32, rfl, H34⟩
    refine ⟨(H34.pick (m := [_, _, _]) [1, 2, 3] rfl (by decide)), fun w35 e37 => ?_⟩
    have H36 := H34.ext e37
    refine tt_op rfl (op_st (i := 5) (vs := [.slice _ _ _]) H36 rfl rfl rfl rfl rfl kfruns1_3 rfl rfl rfl) rfl rfl ?_
    rintro _ w38 H39
    refine ⟨(H39.pick (m := [_, _, _]) [1, 2, 3] rfl (by decide)), fun w40 e42 => ?_⟩
    have H41 := H39.ext e42
    exact tt_leaf ⟨_, _, rfl, (H41.pick (m := [_, _, _, _]) [1, 3, 4, 5] rfl (by decide))⟩ trivial (by repeat (first | exact kp_refl | refine kp_app rfl rfl ?_ | refine kp_cons rfl ?_))
   refine tt_op rfl (op_call (runBytes x.1.1 x.1.2 _ x.2.1 x.2.2) rfl kfruns1_8 ⟨rfl, trivial⟩) rfl rfl ?_
   rintro _ w44 ⟨A46, c47, rfl, k43⟩
   have H45 := HX.call k43
   refine ⟨(H45.pick (m := [_, _, _]) [1, 2, 3] rfl (by decide)), fun w48 e50 => ?_⟩
   have H49 := H45.ext e50
   refine tt_op rfl (Yd.op (y_ld rfl rfl kfruns1_1 (H49.cell (i := 5) rfl rfl))) rfl rfl ?_
   rintro _ _ ⟨rfl, rfl⟩
   refine ⟨(H49.pick (m := [_, _, _]) [1, 2, 3] rfl (by decide)), fun w51 e53 => ?_⟩
   have H52 := H49.ext e53
   refine tt_op rfl (op_app (i := 4) H52 rfl rfl rfl rfl (H52.rd (i := 0) rfl) (by rw [vi_len, Nat.mul_one]) (vi_one) Tryz.underlying22 kfruns1_9 rfl rfl (by unfold maxLen; omega) (by omega)) rfl rfl ?_
   rintro _ w56 ⟨A54, c55, rfl, H57⟩
   refine ⟨(H57.pick (m := [_, _, _]) [1, 2, 3] rfl (by decide)), fun w58 e60 => ?_⟩
   have H59 := H57.ext e60
   refine tt_op rfl (op_st (i := 5) (vs := [.slice _ _ _]) H59 rfl rfl rfl rfl rfl kfruns1_3 rfl rfl rfl) rfl rfl ?_
   rintro _ w61 H62
   refine ⟨(H62.pick (m := [_, _, _]) [1, 2, 3] rfl (by decide)), fun w63 e65 => ?_⟩
   have H64 := H62.ext e65
   exact tt_leaf ⟨_, _, rfl, (H64.pick (m := [_, _, _, _]) [1, 3, 4, 5] rfl (by decide))⟩ trivial (by repeat (first | exact kp_refl | refine kp_app rfl rfl ?_ | refine kp_cons rfl ?_))
  ·skip
   rintro M w67 ⟨A7, c7, rfl, H66⟩
   refine fn_block ?_
   rw [← vi_app, List.append_assoc, ← rv_snoc, show m + (runsB (rvals pre)).length + (runB x.1.1 x.1.2).length = m + (runsB (rvals (pre ++ [x]))).length by rw [rv_snoc, List.length_append, Nat.add_assoc]] at H66
   exact fun a ha => ⟨rfl, _, ⟨_, _, rfl⟩, H66⟩
 ·skip
  rintro D xs wD l hxs ⟨A3, c3, rfl⟩ HD HE hDk
  rw [hxs] at HD HE
  refine fd_block ?_
  refine fd_next ?_
  refine cd_seq ?_
  refine cd_reg ?_
  refine rd_yd (y_ld rfl rfl kfruns1_1 (HD.cell (i := 2) rfl rfl)) rfl rfl ?_
  refine rd_yd (y_asg rfl rfl) rfl rfl ?_
  refine cd_end ?_
  refine fd_next ?_
  refine cd_ret ?_
  exact fun a ha => mark_ret ha rfl rfl hDk ⟨_, _, rfl, HE.pick (m := [_]) [1] rfl (by decide)⟩

end Go.Proofs.YtbnjbgcadkdljaaGreatDoor
