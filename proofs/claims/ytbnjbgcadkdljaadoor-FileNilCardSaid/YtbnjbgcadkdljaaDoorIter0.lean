/- Layer 5: the iterator. -/
import Derived.Test.YtbnjbgcadkdljaaDoorPlain5
set_option linter.unusedVariables false
set_option linter.unusedSimpArgs false
namespace Go.Proofs.YtbnjbgcadkdljaaDoor
open Go Go.RowKit
theorem kfiter0_1 : oneB Tryd.prog 39 = true := by kernel_rfl
theorem kfiter0_2 : elB Tryd.prog 39 1 = true := by kernel_rfl
theorem kfiter0_3 : oneB Tryd.prog 2 = true := by kernel_rfl
theorem kfiter0_4 : (Tryd.prog.info? 104).bind (fun i => i.zero.map Value.cells) = some (List.toArray [(.int .i64 0), (.int .i64 0)]) := by kernel_rfl
theorem kfiter0_5 : szB Tryd.prog 104 2 = true := by kernel_rfl
theorem kfiter0_6 : fldB Tryd.prog 104 1 1 = true := by kernel_rfl
theorem kfiter0_7 : szB Tryd.prog 2 1 = true := by kernel_rfl
theorem kfiter0_8 : aggB Tryd.prog 104 2 = true := by kernel_rfl
/-- a run that can be -/
abbrev Run := { r : Nat × Int // r.1 ≤ 2000000 ∧ -9223372036854775808 ≤ r.2 ∧ r.2 ≤ 9223372036854775807 }
abbrev rvals (l : List Run) : List (Nat × Int) := l.map (·.1)
def runV (r : Run) : Value := .agg #[.int .i64 (r.1.1 : Int), .int .i64 r.1.2]
/-- what the iterator wants kept -/
def ItK (w00 : World) (kb : Nat) (A B : World) : Prop := Below w00.heap.size A B ∧ (∀ v, Rd A (some ⟨kb, 0, none⟩) [v] → Rd B (some ⟨kb, 0, none⟩) [v])
theorem grown_of {w w' : World} (h : Below w.heap.size w w') : w.grownBy w' none := ⟨h.os, h.tape, h.output, h.size, fun k hk _ => h.block k hk⟩
theorem pre_lt {pre : List Run} {x : Nat × Int} {t l : List (Nat × Int)} (h : rvals pre ++ x :: t = l) : pre.length < l.length := by
  rw [← h]; simp only [List.length_append, List.length_map, List.length_cons]; omega
theorem pre_next {pre : List Run} {x : Run} {y : Nat × Int} {s t l : List (Nat × Int)} (h : rvals pre ++ s = l) (e : s = y :: t) (hx : x.1 = y) : rvals (pre ++ [x]) ++ t = l := by
  subst e; subst hx; rw [← h]; simp

set_option maxRecDepth 100000 in
set_option maxHeartbeats 1000000 in
theorem iterOf0 (w00 : World) (kb n cap l N : Nat) (A : Option Addr) (zs : List Int) (J Jx : List Run → World → Prop) (w : World) (hr : Rd w00 A (vi .i64 zs)) (hl : zs.length = n) (hn : n ≤ 2000000) (hI : allI zs) (hk0 : Rd w (some ⟨kb, 0, none⟩) [.slice A n cap]) (hb0 : Below w00.heap.size w00 w) (hN : (rnl zs 0).length = N) (hJ : AbidesFrom w.heap.size J)
    (hY : ∀ pre (x : Run) W1, J pre W1 → pre.length < (rnl zs 0).length → YieldAt Fence.wide (3 - 1) Tryd.prog l #[runV x] W1 fun e W' => (e = .returned (.bool true) ∧ J (pre ++ [x]) W' ∧ ItK w00 kb W1 W') ∨ (e = .returned (.bool false) ∧ Jx (pre ++ [x]) W')) (h0 : J [] w) :
    Ret Tryd.prog 58 [.func (.yield l) #[] #[], .pointer (some ⟨kb, 0, none⟩)] w (fun v w' => (∃ xs : List Run, rvals xs = rnl zs 0 ∧ J xs w') ∨ (∃ pre, Jx pre w')) := by
 refine ret_enter Tryd.func58 rfl rfl rfl ?_
 have H0 := HS.start w
 refine cw_seq ?_
 refine cw_reg ?_
 refine ry (y_asg rfl rfl) rfl rfl ?_
 refine reg_nil ?_
 refine fn_next ?_
 refine cw_block ?_
 refine cw_loopJ [3, 4, 5, 6, 7, 8, 9, 10, 11, 12, 13, 14, 15, 16, 17, 18, 19, 20, 21, 22, 23, 24, 25, 26, 27, 28, 29, 30, 31, 32, 33, 34, 35, 36, 37, 38, 39, 40, 41] (fun M wl ml => ∃ (i : Nat) (pre : List Run), M = [(3, .int .i64 (i : Int))] ∧ HS wl wl [] ∧ (J pre wl) ∧ (Rd wl (some ⟨kb, 0, none⟩) [.slice A n cap]) ∧ (Below w00.heap.size w00 wl) ∧ (rvals pre ++ rnl (zs.drop i) 0 = rnl zs 0) ∧ (i ≤ n) ∧ ml = n + 1 - i) ⟨0, [], rfl, HS.start _, h0, hk0, hb0, rfl, Nat.zero_le _, rfl⟩ ⟨rfl, trivial⟩ ?_
 rintro M w1 m3 ⟨i, pre, rfl, H2, hJ0, hkl, hbl, hpre, hin, rfl⟩
 have hrl := hr.below hbl
 refine cw_seq ?_
 refine cw_seq ?_
 refine cw_reg ?_
 refine ry (y_mov rfl rfl) rfl rfl ?_
 refine ry (y_ldr (k := 0) (hkl.below H2.base) rfl rfl kfiter0_1 (rfl)) rfl rfl ?_
 refine ry (y_len rfl Tryd.underlying39 rfl) rfl rfl ?_
 refine ry (y_lss rfl rfl rfl) rfl rfl ?_
 refine reg_nil ?_
 refine fn_next ?_
 refine cw_condd rfl (fun h4 => ?_) (fun h4 => ?_)
 ·skip
  refine cw_skip ?_
  refine fn_next ?_
  refine cw_block ?_
  refine cw_seq ?_
  refine cw_reg ?_
  refine ry (y_mov rfl rfl) rfl rfl ?_
  refine ry (y_asg rfl rfl) rfl rfl ?_
  refine reg_nil ?_
  refine fn_next ?_
  refine cw_seq ?_
  refine cw_block ?_
  refine cw_loopJ [3, 11, 12, 13, 14, 15, 16, 17, 18, 19, 20, 21, 22, 23] (fun M wl ml => ∃ (j : Nat), M = [(3, .int .i64 (j : Int))] ∧ HS w1 wl [] ∧ (i ≤ j) ∧ (j ≤ n) ∧ (rnl (zs.drop i) 0 = rnl (zs.drop j) (j - i)) ∧ ml = n + 1 - j) ⟨i, rfl, H2, Nat.le_refl _, hin, by rw [Nat.sub_self], rfl⟩ ⟨rfl, trivial⟩ ?_
  rintro M w5 m7 ⟨j, rfl, H6, hij, hjn, hrj, rfl⟩
  refine cw_seq ?_
  refine cw_seq ?_
  refine cw_reg ?_
  refine ry (y_mov rfl rfl) rfl rfl ?_
  refine ry (y_ldr (k := 0) (hkl.below H6.base) rfl rfl kfiter0_1 (rfl)) rfl rfl ?_
  refine ry (y_len rfl Tryd.underlying39 rfl) rfl rfl ?_
  refine ry (y_lss rfl rfl rfl) rfl rfl ?_
  refine ry (y_mov rfl rfl) rfl rfl ?_
  refine rg_splitd (d := 15) rfl (fun h8 => ?_) (fun h8 => ?_)
  ·skip
   have gz := vi_get (k := .i64) (zs := zs) (i := j) (by omega)
   refine rgy (y_ldr (k := 0) (hkl.below H6.base) rfl rfl kfiter0_1 (rfl)) rfl rfl rfl rfl ?_
   refine rgy (y_mov rfl rfl) rfl rfl rfl rfl ?_
   refine rgy (y_iar (hrl.below H6.base) rfl rfl rfl kfiter0_2 (rfl) (by omega) (Nat.mul_one _) (gz)) rfl rfl rfl rfl ?_
   refine rgy (y_ldr (hrl.below H6.base) rfl rfl kfiter0_3 (gz)) rfl rfl rfl rfl ?_
   refine rgy (y_eql rfl rfl rfl) rfl rfl rfl rfl ?_
   refine ry (y_pick rfl rfl rfl) rfl rfl ?_
   refine reg_nil ?_
   refine fn_next ?_
   refine cw_condd rfl (fun hz => ?_) (fun hz => ?_)
   ·skip
    refine cw_skip ?_
    refine fn_next ?_
    refine cw_block ?_
    refine cw_reg ?_
    refine ry (y_mov rfl rfl) rfl rfl ?_
    refine ry (y_add rfl rfl rfl (wi (by omega))) rfl rfl ?_
    refine ry (y_asg rfl rfl) rfl rfl ?_
    refine reg_nil ?_
    refine fn_block ?_
    refine fn_roundJ ⟨j + 1, rfl, H6, by omega, by omega, by rw [hrj, rn_drop_zero (by omega) hz]; congr 1; omega, rfl⟩ ⟨rfl, trivial⟩ (by omega) (by repeat (first | exact kp_refl | refine kp_app rfl rfl ?_ | refine kp_cons rfl ?_)) rfl
   ·skip
    have hflz : ¬ (j < zs.length ∧ nth zs j = 0) := fun q => hz q.2
    refine cw_exit ?_
    refine fn_then_exit (fn_then_exit (fn_block_exit ?_))
    refine fn_next ?_
    refine cw_seq ?_
    refine cw_reg ?_
    refine ry (y_mov rfl rfl) rfl rfl ?_
    refine ry (y_mov rfl rfl) rfl rfl ?_
    refine ry (y_sub rfl rfl rfl (wi (by omega))) rfl rfl ?_
    refine ry (y_build (places := [(0, 1), (1, 1)]) (parts := [(0, _)]) (vs := [(0, _)]) (cs := [.int _ _, .int _ _]) rfl Tryd.underlying104 (by kernel_rfl) kfiter0_4 rfl ⟨rfl, trivial⟩ rfl) rfl rfl ?_
    refine reg_op (op_alloc H6 rfl kfiter0_4) rfl rfl ?_
    rintro _ w11 ⟨b10, rfl, H12⟩
    refine reg_op (op_st (i := 0) (vs := [.int _ _, .int _ _]) H12 rfl rfl rfl rfl rfl kfiter0_5 rfl rfl rfl) rfl rfl ?_
    rintro _ w13 H14
    refine reg_nil ?_
    refine fn_next ?_
    refine cw_seq ?_
    refine cw_seq ?_
    refine cw_reg ?_
    refine ry (y_mov rfl rfl) rfl rfl ?_
    refine ry (y_mov rfl rfl) rfl rfl ?_
    refine ry (y_eql rfl rfl rfl) rfl rfl ?_
    refine reg_nil ?_
    refine fn_next ?_
    refine cw_condd rfl (fun h15 => ?_) (fun h15 => ?_)
    ·skip
     have hji : j = i := by omega
     have hzI : -9223372036854775808 ≤ nth zs j ∧ nth zs j ≤ 9223372036854775807 := by rw [nth_lt (by omega)]; exact hI _ (List.getElem_mem _)
     have hfl : rnl (zs.drop i) 0 = (j - i, nth zs j) :: rnl (zs.drop (j + 1)) 0 := by rw [hji, Nat.sub_self]; exact rn_drop_rest (by omega) (hji ▸ hz)
     refine cw_seq ?_
     refine cw_reg ?_
     refine ry (y_ldr (k := 0) (hkl.below H14.base) rfl rfl kfiter0_1 (rfl)) rfl rfl ?_
     refine ry (y_mov rfl rfl) rfl rfl ?_
     refine ry (y_iar (hrl.below H14.base) rfl rfl rfl kfiter0_2 (rfl) (by omega) (Nat.mul_one _) (gz)) rfl rfl ?_
     refine ry (y_ldr (hrl.below H14.base) rfl rfl kfiter0_3 (gz)) rfl rfl ?_
     refine ry (y_fa rfl rfl kfiter0_6 rfl) rfl rfl ?_
     refine reg_op (op_st (i := 0) (vs := [.int _ _]) H14 rfl rfl rfl rfl rfl kfiter0_7 rfl rfl rfl) rfl rfl ?_
     rintro _ w16 H17
     refine reg_nil ?_
     refine fn_next ?_
     refine cw_reg ?_
     refine ry (y_mov rfl rfl) rfl rfl ?_
     refine ry (y_add rfl rfl rfl (wi (by omega))) rfl rfl ?_
     refine ry (y_asg rfl rfl) rfl rfl ?_
     refine reg_nil ?_
     refine fn_next ?_
     refine cw_seq ?_
     rw [show (j : Int) - (i : Int) = ((j - i : Nat) : Int) by omega] at H17
     have hJw := hJ pre _ _ none hJ0 (grown_of H17.base) (fun r e => by cases e)
     have hxr : j - i ≤ 2000000 ∧ -9223372036854775808 ≤ (nth zs j : Int) ∧ (nth zs j : Int) ≤ 9223372036854775807 := ⟨by omega, hzI⟩
     have hy := hY pre ⟨(j - i, nth zs j), hxr⟩ _ hJw (pre_lt (hfl ▸ hpre))
     refine cw_regW (m := 3) ?_
     refine rw_yd (y_mov rfl rfl) rfl rfl rfl ?_
     refine rw_yd (y_ldb (i := 0) (cs := [_, _]) H17 rfl rfl kfiter0_8 rfl rfl) rfl rfl rfl ?_
     refine rw_yield (xs := [_]) (vs := [runV ⟨(j - i, nth zs j), hxr⟩]) rfl rfl ⟨rfl, trivial⟩ hy (fun e w' h => by rcases h with ⟨h, _⟩ | ⟨h, _⟩ <;> exact ⟨_, h⟩) rfl rfl ?_
     rintro v w9 (⟨hv, hJ1, hk1⟩ | ⟨hv, hJx1⟩)
     ·skip
      obtain rfl : v = .bool true := by injection hv
      refine rw_yd (y_not rfl rfl) rfl rfl rfl ?_
      refine rw_nil ?_
      have hkl1 := hk1.2 _ (hkl.below H17.base)
      have hbl1 : Below w00.heap.size w00 w9 := (hbl.trans (H17.base.mono hbl.size)).trans hk1.1
      refine fn_next ?_
      refine cw_condf rfl ?_
      refine cw_skip ?_
      refine fn_block ?_
      refine fn_roundJ ⟨j + 1, _, rfl, HS.start _, hJ1, hkl1, hbl1, pre_next hpre hfl rfl, by omega, rfl⟩ ⟨rfl, trivial⟩ (by omega) (by repeat (first | exact kp_refl | refine kp_app rfl rfl ?_ | refine kp_cons rfl ?_)) rfl
     ·skip
      obtain rfl : v = .bool false := by injection hv
      refine rw_yd (y_not rfl rfl) rfl rfl rfl ?_
      refine rw_nil ?_
      refine fn_next ?_
      refine cw_condt rfl ?_
      refine cw_ret ?_
      refine fn_block_ret (fn_then_ret (fn_block_ret ?_))
      refine fn_retn (vs := []) rfl trivial rfl ?_
      exact .inr ⟨_, hJx1⟩
    ·skip
     have hfl : rnl (zs.drop i) 0 = (j - i, 0) :: rnl (zs.drop j) 0 := by
       obtain ⟨k, hk⟩ : ∃ k, j - i = k + 1 := ⟨j - i - 1, by omega⟩
       rw [hrj, hk]; exact rn_drop_flush hflz
     refine cw_skip ?_
     refine fn_next ?_
     refine cw_seq ?_
     rw [show (j : Int) - (i : Int) = ((j - i : Nat) : Int) by omega] at H14
     have hJw := hJ pre _ _ none hJ0 (grown_of H14.base) (fun r e => by cases e)
     have hxr : j - i ≤ 2000000 ∧ -9223372036854775808 ≤ (0 : Int) ∧ (0 : Int) ≤ 9223372036854775807 := by omega
     have hy := hY pre ⟨(j - i, 0), hxr⟩ _ hJw (pre_lt (hfl ▸ hpre))
     refine cw_regW (m := 3) ?_
     refine rw_yd (y_mov rfl rfl) rfl rfl rfl ?_
     refine rw_yd (y_ldb (i := 0) (cs := [_, _]) H14 rfl rfl kfiter0_8 rfl rfl) rfl rfl rfl ?_
     refine rw_yield (xs := [_]) (vs := [runV ⟨(j - i, 0), hxr⟩]) rfl rfl ⟨rfl, trivial⟩ hy (fun e w' h => by rcases h with ⟨h, _⟩ | ⟨h, _⟩ <;> exact ⟨_, h⟩) rfl rfl ?_
     rintro v w9 (⟨hv, hJ1, hk1⟩ | ⟨hv, hJx1⟩)
     ·skip
      obtain rfl : v = .bool true := by injection hv
      refine rw_yd (y_not rfl rfl) rfl rfl rfl ?_
      refine rw_nil ?_
      have hkl1 := hk1.2 _ (hkl.below H14.base)
      have hbl1 : Below w00.heap.size w00 w9 := (hbl.trans (H14.base.mono hbl.size)).trans hk1.1
      refine fn_next ?_
      refine cw_condf rfl ?_
      refine cw_skip ?_
      refine fn_block ?_
      refine fn_roundJ ⟨j, _, rfl, HS.start _, hJ1, hkl1, hbl1, pre_next hpre hfl rfl, by omega, rfl⟩ ⟨rfl, trivial⟩ (by omega) (by repeat (first | exact kp_refl | refine kp_app rfl rfl ?_ | refine kp_cons rfl ?_)) rfl
     ·skip
      obtain rfl : v = .bool false := by injection hv
      refine rw_yd (y_not rfl rfl) rfl rfl rfl ?_
      refine rw_nil ?_
      refine fn_next ?_
      refine cw_condt rfl ?_
      refine cw_ret ?_
      refine fn_block_ret (fn_then_ret (fn_block_ret ?_))
      refine fn_retn (vs := []) rfl trivial rfl ?_
      exact .inr ⟨_, hJx1⟩
  ·skip
   have hflz : ¬ (j < zs.length ∧ nth zs j = 0) := fun q => by omega
   refine rg_off rfl rfl rfl rfl rfl ?_
   refine rg_off rfl rfl rfl rfl rfl ?_
   refine rg_off rfl rfl rfl rfl rfl ?_
   refine rg_off rfl rfl rfl rfl rfl ?_
   refine rg_off rfl rfl rfl rfl rfl ?_
   refine ry (y_pick rfl rfl rfl) rfl rfl ?_
   refine reg_nil ?_
   refine fn_next ?_
   refine cw_condf rfl ?_
   refine cw_exit ?_
   refine fn_then_exit (fn_then_exit (fn_block_exit ?_))
   refine fn_next ?_
   refine cw_seq ?_
   refine cw_reg ?_
   refine ry (y_mov rfl rfl) rfl rfl ?_
   refine ry (y_mov rfl rfl) rfl rfl ?_
   refine ry (y_sub rfl rfl rfl (wi (by omega))) rfl rfl ?_
   refine ry (y_build (places := [(0, 1), (1, 1)]) (parts := [(0, _)]) (vs := [(0, _)]) (cs := [.int _ _, .int _ _]) rfl Tryd.underlying104 (by kernel_rfl) kfiter0_4 rfl ⟨rfl, trivial⟩ rfl) rfl rfl ?_
   refine reg_op (op_alloc H6 rfl kfiter0_4) rfl rfl ?_
   rintro _ w19 ⟨b18, rfl, H20⟩
   refine reg_op (op_st (i := 0) (vs := [.int _ _, .int _ _]) H20 rfl rfl rfl rfl rfl kfiter0_5 rfl rfl rfl) rfl rfl ?_
   rintro _ w21 H22
   refine reg_nil ?_
   refine fn_next ?_
   refine cw_seq ?_
   refine cw_seq ?_
   refine cw_reg ?_
   refine ry (y_mov rfl rfl) rfl rfl ?_
   refine ry (y_mov rfl rfl) rfl rfl ?_
   refine ry (y_eql rfl rfl rfl) rfl rfl ?_
   refine reg_nil ?_
   refine fn_next ?_
   refine cw_condd rfl (fun h23 => ?_) (fun h23 => ?_)
   · exfalso; omega
   ·skip
    have hfl : rnl (zs.drop i) 0 = (j - i, 0) :: rnl (zs.drop j) 0 := by
      obtain ⟨k, hk⟩ : ∃ k, j - i = k + 1 := ⟨j - i - 1, by omega⟩
      rw [hrj, hk]; exact rn_drop_flush hflz
    refine cw_skip ?_
    refine fn_next ?_
    refine cw_seq ?_
    rw [show (j : Int) - (i : Int) = ((j - i : Nat) : Int) by omega] at H22
    have hJw := hJ pre _ _ none hJ0 (grown_of H22.base) (fun r e => by cases e)
    have hxr : j - i ≤ 2000000 ∧ -9223372036854775808 ≤ (0 : Int) ∧ (0 : Int) ≤ 9223372036854775807 := by omega
    have hy := hY pre ⟨(j - i, 0), hxr⟩ _ hJw (pre_lt (hfl ▸ hpre))
    refine cw_regW (m := 3) ?_
    refine rw_yd (y_mov rfl rfl) rfl rfl rfl ?_
    refine rw_yd (y_ldb (i := 0) (cs := [_, _]) H22 rfl rfl kfiter0_8 rfl rfl) rfl rfl rfl ?_
    refine rw_yield (xs := [_]) (vs := [runV ⟨(j - i, 0), hxr⟩]) rfl rfl ⟨rfl, trivial⟩ hy (fun e w' h => by rcases h with ⟨h, _⟩ | ⟨h, _⟩ <;> exact ⟨_, h⟩) rfl rfl ?_
    rintro v w9 (⟨hv, hJ1, hk1⟩ | ⟨hv, hJx1⟩)
    ·skip
     obtain rfl : v = .bool true := by injection hv
     refine rw_yd (y_not rfl rfl) rfl rfl rfl ?_
     refine rw_nil ?_
     have hkl1 := hk1.2 _ (hkl.below H22.base)
     have hbl1 : Below w00.heap.size w00 w9 := (hbl.trans (H22.base.mono hbl.size)).trans hk1.1
     refine fn_next ?_
     refine cw_condf rfl ?_
     refine cw_skip ?_
     refine fn_block ?_
     refine fn_roundJ ⟨j, _, rfl, HS.start _, hJ1, hkl1, hbl1, pre_next hpre hfl rfl, by omega, rfl⟩ ⟨rfl, trivial⟩ (by omega) (by repeat (first | exact kp_refl | refine kp_app rfl rfl ?_ | refine kp_cons rfl ?_)) rfl
    ·skip
     obtain rfl : v = .bool false := by injection hv
     refine rw_yd (y_not rfl rfl) rfl rfl rfl ?_
     refine rw_nil ?_
     refine fn_next ?_
     refine cw_condt rfl ?_
     refine cw_ret ?_
     refine fn_block_ret (fn_then_ret (fn_block_ret ?_))
     refine fn_retn (vs := []) rfl trivial rfl ?_
     exact .inr ⟨_, hJx1⟩
 ·skip
  refine cw_exit ?_
  refine fn_then_exit (fn_then_exit (fn_block_exit ?_))
  refine fn_normal ?_
  refine fn_retn (vs := []) rfl trivial rfl ?_
  exact .inl ⟨pre, by rw [← hpre, List.drop_of_length_le (by omega)]; simp [rnl], hJ0⟩

theorem iterOf (w00 w : World) (kb n cap : Nat) (A : Option Addr) (zs : List Int) (hr : Rd w00 A (vi .i64 zs)) (hl : zs.length = n) (hn : n ≤ 2000000) (hI : allI zs) (hkw : Rd w (some ⟨kb, 0, none⟩) [.slice A n cap]) (hbw : Below w00.heap.size w00 w) :
    SeqStopsK Fence.wide 3 Tryd.prog 58 #[.pointer (some ⟨kb, 0, none⟩)] (fun r : Run => #[runV r]) (ItK w00 kb) (fun xs => rvals xs = rnl zs 0) (fun _ => True) (rnl zs 0).length w := fun l J Jx W hB hJ hJx hY h0 => by
  have hk0 := hkw.below hB
  have hb0 : Below w00.heap.size w00 W := hbw.trans (hB.mono hbw.size)
  refine callsIn_wide.2 ?_
  rw [show (#[.func (.yield l) #[] #[]] ++ #[.pointer (some ⟨kb, 0, none⟩)] : Array Value) = [.func (.yield l) #[] #[], .pointer (some ⟨kb, 0, none⟩)].toArray from by simp]
  refine Calls.mono (iterOf0 w00 kb n cap l _ A zs J Jx W hr hl hn hI hk0 hb0 rfl hJ hY h0) ?_
  rintro e w' ⟨v, he, h | ⟨pre, h⟩⟩
  · exact ⟨⟨v, he⟩, .inl h⟩
  · exact ⟨⟨v, he⟩, .inr ⟨pre, trivial, h⟩⟩

end Go.Proofs.YtbnjbgcadkdljaaDoor
