/- Layers 2 and 5: the references. -/
import Derived.Test.YtbnjbgcadkdljaaRuns2
set_option linter.unusedVariables false
set_option linter.unusedSimpArgs false
namespace Go.Proofs.Ytbnjbgcadkdljaa
open Go Go.RowKit
theorem kfref5_1 : (Try.prog.info? 5).map (fun i => (i.size, i.zero.map Value.cells)) = some (1, some (List.toArray [(.int .u8 0)])) := by kernel_rfl
theorem kfref5_2 : (Try.prog.info? 5).map (fun i => (i.zero.map (·.cells.toList), i.size, i.bytes)) = some (some [(.int .u8 0)], 1, 1) := by kernel_rfl
theorem kfref5_3 : elB Try.prog 27 1 = true := by kernel_rfl
theorem kfref5_4 : oneB Try.prog 5 = true := by kernel_rfl
theorem kfref5_5 : elB Try.prog 23 1 = true := by kernel_rfl
theorem kfref5_6 : oneB Try.prog 2 = true := by kernel_rfl
theorem kfref5_7 : callB Try.prog 33 = true := by kernel_rfl
theorem kfref5_8 : callB Try.prog 32 = true := by kernel_rfl
theorem w128 {k : Nat} (h : k + 1 ≤ 9) : IntKind.u64.wrap ((128 : Int) ^ k * 128) = 128 ^ (k + 1) := by
  have := leb_fits (i := k + 1) (by omega) (c := 1) (by decide) (fun _ => by decide)
  rw [Int.one_mul] at this
  rw [← Int.pow_succ, u64w]; omega
theorem rfrom_bd {zs out : List Int} {i : Nat} (h : out ++ rfrom zs i = rfrom zs 0) : out.length ≤ 11 * zs.length := by
  have h1 := congrArg List.length h
  rw [List.length_append, rfrom_0] at h1
  have h2 := runsB_len (rn zs 0)
  have h3 := (rn_len zs 0).2 rfl
  omega
theorem vi_rep1 {out : List Int} {m : Nat} : vi .i64 (out ++ List.replicate m 0) ++ [.int .i64 0] = vi .i64 (out ++ List.replicate (m + 1) 0) := by
  rw [vi_push, List.append_assoc, List.replicate_succ']

theorem leb_le {f : Nat} (h : f ≤ 9) : (2 : Int) * 128 ^ f ≤ 18446744073709551616 := by
  have := leb_fits h (c := 1) (by decide) (fun _ => by decide)
  have : f = 0 ∨ f = 1 ∨ f = 2 ∨ f = 3 ∨ f = 4 ∨ f = 5 ∨ f = 6 ∨ f = 7 ∨ f = 8 ∨ f = 9 := by omega
  rcases this with rfl | rfl | rfl | rfl | rfl | rfl | rfl | rfl | rfl | rfl <;> decide

set_option maxRecDepth 100000 in
theorem refBytes2 (u : Int) (w : World) (hu : 0 ≤ u ∧ u < 2 * 128 ^ 9) :
    Ret Try.prog 32 [.int .u64 u] w (fun z w' => ∃ A c, z = .slice A (lebD u).length c ∧ HS w w' [.row A (lebD u).length c (vi .u8 (lebD u)) 5 1]) := by
 refine ret_enter Try.func32 rfl rfl rfl ?_
 have H0 := HS.start w
 refine cw_seq ?_
 refine cw_reg ?_
 refine ry (y_asg rfl rfl) rfl rfl ?_
 refine reg_nil ?_
 refine fn_next ?_
 refine cw_seq ?_
 refine cw_reg ?_
 refine reg_op (op_lit (parts := []) (vs := []) (cs := []) H0 rfl Try.underlying27 kfref5_1 rfl trivial rfl rfl) rfl rfl ?_
 rintro _ w2 ⟨b1, rfl, H3⟩
 have H4 := H3.asrow (m := 0) (size := 1) rfl (by decide)
 refine ry (y_asg rfl rfl) rfl rfl ?_
 refine reg_nil ?_
 refine fn_next ?_
 refine cw_seq ?_
 refine cw_block ?_
 refine cw_loopJ [0, 3, 5, 6, 7, 8, 9, 10, 11, 12, 13, 14, 15] (fun M wl ml => ∃ (f : Nat) (v : Int) (pre : List Int) (A : Option Addr) (cap : Nat), M = [(0, .int .u64 v), (3, .slice A pre.length cap)] ∧ HS w wl [Ob.row A pre.length cap (vi .u8 pre) 5 1] ∧ (f ≤ 9) ∧ (0 ≤ v ∧ v < 2 * 128 ^ f) ∧ (pre ++ lebL f v = lebL 9 u) ∧ (pre.length + f ≤ 9) ∧ ml = f + 1) ⟨9, u, [], _, _, rfl, H4, Nat.le_refl _, hu, rfl, Nat.le_refl _, rfl⟩ ⟨rfl, rfl, trivial⟩ ?_
 rintro M w5 m7 ⟨f, v, pre, A, cap, rfl, H6, hp0, hp1, hp2, hp3, rfl⟩
 refine cw_seq ?_
 refine cw_seq ?_
 refine cw_reg ?_
 refine ry (y_mov rfl rfl) rfl rfl ?_
 refine ry (y_gtr rfl rfl rfl) rfl rfl ?_
 refine reg_nil ?_
 refine fn_next ?_
 refine cw_condd rfl (fun h8 => ?_) (fun h8 => ?_)
 ·skip
  have hvb : v < 18446744073709551616 := by have h1 := leb_le hp0; have := hp1.2; omega
  have hv : ¬ v < 128 := by omega
  obtain ⟨g, rfl, hg2⟩ := fuel_pos hp1.2 hv
  refine cw_skip ?_
  refine fn_next ?_
  refine cw_block ?_
  refine cw_seq ?_
  refine cw_reg ?_
  refine ry (y_mov rfl rfl) rfl rfl ?_
  refine ry (y_mov rfl rfl) rfl rfl ?_
  refine ry (y_rem rfl rfl rfl (by omega) (tmn (by omega) rfl)) rfl rfl ?_
  refine ry (y_conv rfl Try.underlying49 Try.underlying5 rfl (wu8 (by omega))) rfl rfl ?_
  refine ry (y_add rfl rfl rfl (wu8 (by omega))) rfl rfl ?_
  refine reg_op (op_lit (parts := [(0, _)]) (vs := [(0, _)]) (cs := [.int _ _]) H6 rfl Try.underlying27 kfref5_1 rfl ⟨rfl, trivial⟩ rfl rfl) rfl rfl ?_
  rintro _ w10 ⟨b9, rfl, H11⟩
  have H12 := H11.asrow (m := 1) (size := 1) rfl (by decide)
  refine reg_op (op_app (i := 1) (ys := [.int .u8 (v % 128 + 128)]) H12 rfl rfl rfl rfl (H12.rd (i := 0) rfl) (rfl) (rfl) Try.underlying27 kfref5_2 rfl rfl (by unfold maxLen; omega) (by omega)) rfl rfl ?_
  rintro _ w15 ⟨A13, c14, rfl, H16⟩
  refine ry (y_asg rfl rfl) rfl rfl ?_
  refine reg_nil ?_
  refine fn_next ?_
  refine cw_reg ?_
  refine ry (y_mov rfl rfl) rfl rfl ?_
  refine ry (y_quo rfl rfl rfl (by omega) (tdq (by omega) (wu64 (by omega)))) rfl rfl ?_
  refine ry (y_asg rfl rfl) rfl rfl ?_
  refine reg_nil ?_
  refine fn_block ?_
  have hpl : pre.length + 1 = (pre ++ [v % 128 + 128]).length := by rw [List.length_append]; rfl
  rw [vi_push, hpl] at H16
  refine fn_roundJ ⟨g, _, pre ++ [v % 128 + 128], _, _, rfl, (H16.pick (m := [_]) [1] rfl (by decide)), by omega, ⟨by omega, hg2⟩, by rw [List.append_assoc, ← hp2, lebL_more hv]; rfl, by rw [List.length_append]; show pre.length + 1 + g ≤ 9; omega, rfl⟩ ⟨rfl, by rw [← hpl]; rfl, trivial⟩ (by omega) (by repeat (first | exact kp_refl | refine kp_app rfl rfl ?_ | refine kp_cons rfl ?_)) rfl
 ·skip
  have hvb : v < 18446744073709551616 := by have h1 := leb_le hp0; have := hp1.2; omega
  have hv : v < 128 := by omega
  refine cw_exit ?_
  refine fn_then_exit (fn_then_exit (fn_block_exit ?_))
  refine fn_next ?_
  refine cw_seq ?_
  refine cw_reg ?_
  refine ry (y_mov rfl rfl) rfl rfl ?_
  refine ry (y_mov rfl rfl) rfl rfl ?_
  refine ry (y_conv rfl Try.underlying49 Try.underlying5 rfl (wu8 (by omega))) rfl rfl ?_
  refine reg_op (op_lit (parts := [(0, _)]) (vs := [(0, _)]) (cs := [.int _ _]) H6 rfl Try.underlying27 kfref5_1 rfl ⟨rfl, trivial⟩ rfl rfl) rfl rfl ?_
  rintro _ w18 ⟨b17, rfl, H19⟩
  have H20 := H19.asrow (m := 1) (size := 1) rfl (by decide)
  refine reg_op (op_app (i := 1) (ys := [.int .u8 v]) H20 rfl rfl rfl rfl (H20.rd (i := 0) rfl) (rfl) (rfl) Try.underlying27 kfref5_2 rfl rfl (by unfold maxLen; omega) (by omega)) rfl rfl ?_
  rintro _ w23 ⟨A21, c22, rfl, H24⟩
  refine ry (y_asg rfl rfl) rfl rfl ?_
  refine reg_nil ?_
  refine fn_next ?_
  refine cw_ret ?_
  refine fn_ret1 rfl rfl ?_
  rw [vi_push, ← lebL_end (f := f) hv, hp2] at H24
  have hln : pre.length + 1 = (lebL 9 u).length := by rw [← hp2, lebL_end hv, List.length_append]; rfl
  rw [hln] at H24
  unfold lebD
  exact ⟨_, _, by rw [← hln], (H24.pick (m := [_]) [1] rfl (by decide))⟩

set_option maxRecDepth 100000 in
theorem refFold (z : Int) (w : World) (hz : -9223372036854775808 ≤ z ∧ z ≤ 9223372036854775807) :
    Ret Try.prog 33 [.int .i64 z] w (fun v w' => v = .int .u64 (foldU z) ∧ Below w.heap.size w w') := by
 refine ret_enter Try.func33 rfl rfl rfl ?_
 have H0 := HS.start w
 refine cw_seq ?_
 refine cw_reg ?_
 refine ry (y_asg rfl rfl) rfl rfl ?_
 refine reg_nil ?_
 refine fn_next ?_
 refine cw_seq ?_
 refine cw_seq ?_
 refine cw_reg ?_
 refine ry (y_mov rfl rfl) rfl rfl ?_
 refine ry (y_geq rfl rfl rfl) rfl rfl ?_
 refine reg_nil ?_
 refine fn_next ?_
 refine cw_condd rfl (fun h1 => ?_) (fun h1 => ?_)
 ·skip
  refine cw_seq ?_
  refine cw_reg ?_
  refine ry (y_mov rfl rfl) rfl rfl ?_
  refine ry (y_conv rfl Try.underlying2 Try.underlying49 rfl (wu64 (by omega))) rfl rfl ?_
  refine ry (y_mul rfl rfl rfl (wu64 (by omega))) rfl rfl ?_
  refine ry (y_asg rfl rfl) rfl rfl ?_
  refine reg_nil ?_
  refine fn_next ?_
  refine cw_ret ?_
  refine fn_then_ret ?_
  refine fn_ret1 rfl rfl ?_
  exact ⟨by unfold foldU; rw [if_neg (by omega)], H0.base⟩
 ·skip
  refine cw_skip ?_
  refine fn_next ?_
  refine cw_seq ?_
  refine cw_reg ?_
  refine ry (y_mov rfl rfl) rfl rfl ?_
  refine ry (y_add rfl rfl rfl (wi (by omega))) rfl rfl ?_
  refine ry (y_neg rfl rfl (wi (by omega))) rfl rfl ?_
  refine ry (y_conv rfl Try.underlying2 Try.underlying49 rfl (wu64 (by omega))) rfl rfl ?_
  refine ry (y_mul rfl rfl rfl (wu64 (by omega))) rfl rfl ?_
  refine ry (y_add rfl rfl rfl (wu64 (by omega))) rfl rfl ?_
  refine ry (y_asg rfl rfl) rfl rfl ?_
  refine reg_nil ?_
  refine fn_next ?_
  refine cw_ret ?_
  refine fn_ret1 rfl rfl ?_
  exact ⟨by unfold foldU; rw [if_pos (by omega)]; congr 1; omega, H0.base⟩

set_option maxRecDepth 100000 in
theorem refUnfold (u : Int) (w : World) (hu : 0 ≤ u ∧ u < 18446744073709551616) :
    Ret Try.prog 30 [.int .u64 u] w (fun v w' => v = .int .i64 (unfoldU u) ∧ Below w.heap.size w w') := by
 refine ret_enter Try.func30 rfl rfl rfl ?_
 have H0 := HS.start w
 refine cw_seq ?_
 refine cw_reg ?_
 refine ry (y_asg rfl rfl) rfl rfl ?_
 refine reg_nil ?_
 refine fn_next ?_
 refine cw_seq ?_
 refine cw_seq ?_
 refine cw_reg ?_
 refine ry (y_mov rfl rfl) rfl rfl ?_
 refine ry (y_rem rfl rfl rfl (by omega) (tmn (by omega) rfl)) rfl rfl ?_
 refine ry (y_eql rfl rfl rfl) rfl rfl ?_
 refine reg_nil ?_
 refine fn_next ?_
 refine cw_condd rfl (fun h1 => ?_) (fun h1 => ?_)
 ·skip
  refine cw_seq ?_
  refine cw_reg ?_
  refine ry (y_mov rfl rfl) rfl rfl ?_
  refine ry (y_quo rfl rfl rfl (by omega) (tdq (by omega) (wu64 (by omega)))) rfl rfl ?_
  refine ry (y_conv rfl Try.underlying49 Try.underlying2 rfl (wi (by omega))) rfl rfl ?_
  refine ry (y_asg rfl rfl) rfl rfl ?_
  refine reg_nil ?_
  refine fn_next ?_
  refine cw_ret ?_
  refine fn_then_ret ?_
  refine fn_ret1 rfl rfl ?_
  exact ⟨by unfold unfoldU; rw [if_pos (by omega)], H0.base⟩
 ·skip
  refine cw_skip ?_
  refine fn_next ?_
  refine cw_seq ?_
  refine cw_reg ?_
  refine ry (y_mov rfl rfl) rfl rfl ?_
  refine ry (y_quo rfl rfl rfl (by omega) (tdq (by omega) (wu64 (by omega)))) rfl rfl ?_
  refine ry (y_conv rfl Try.underlying49 Try.underlying2 rfl (wi (by omega))) rfl rfl ?_
  refine ry (y_neg rfl rfl (wi (by omega))) rfl rfl ?_
  refine ry (y_sub rfl rfl rfl (wi (by omega))) rfl rfl ?_
  refine ry (y_asg rfl rfl) rfl rfl ?_
  refine reg_nil ?_
  refine fn_next ?_
  refine cw_ret ?_
  refine fn_ret1 rfl rfl ?_
  exact ⟨by unfold unfoldU; rw [if_neg (by omega)]; congr 1; omega, H0.base⟩

set_option maxRecDepth 100000 in
set_option maxHeartbeats 1000000 in
theorem refGet2 (A : Option Addr) (n cap a : Nat) (bs : List Int) (w : World) (hb : Rd w A (vi .u8 bs)) (hbl : bs.length = n) (hcap : n ≤ cap) (hB : okB bs) (ha : a ≤ n) (hn : n ≤ 100000000) :
    Ret Try.prog 29 [.slice A n cap, .int .i64 (a : Int)] w (fun v w' => ∃ u x e, v = .tuple #[.int .u64 u, .int .i64 x, .int .i64 e] ∧ lebQ bs a u x e ∧ Below w.heap.size w w') := by
 refine ret_enter Try.func29 rfl rfl rfl ?_
 have H0 := HS.start w
 refine cw_seq ?_
 refine cw_reg ?_
 refine ry (y_asg rfl rfl) rfl rfl ?_
 refine ry (y_asg rfl rfl) rfl rfl ?_
 refine ry (y_asg rfl rfl) rfl rfl ?_
 refine reg_nil ?_
 refine fn_next ?_
 refine cw_seq ?_
 refine cw_seq ?_
 refine cw_reg ?_
 refine ry (y_mov rfl rfl) rfl rfl ?_
 refine ry (y_lss rfl rfl rfl) rfl rfl ?_
 refine ry (y_mov rfl rfl) rfl rfl ?_
 refine rg_splitd (d := 13) rfl (fun h1 => ?_) (fun h1 => ?_)
 · exfalso; omega
 ·skip
  refine rgy (y_mov rfl rfl) rfl rfl rfl rfl ?_
  refine rgy (y_mov rfl rfl) rfl rfl rfl rfl ?_
  refine rgy (y_len rfl Try.underlying27 rfl) rfl rfl rfl rfl ?_
  refine rgy (y_gtr rfl rfl rfl) rfl rfl rfl rfl ?_
  refine ry (y_pick rfl rfl rfl) rfl rfl ?_
  refine reg_nil ?_
  refine fn_next ?_
  refine cw_condd rfl (fun h2 => ?_) (fun h2 => ?_)
  · exfalso; omega
  ·skip
   refine cw_skip ?_
   refine fn_next ?_
   refine cw_seq ?_
   refine cw_reg ?_
   refine ry (y_asg rfl rfl) rfl rfl ?_
   refine reg_nil ?_
   refine fn_next ?_
   refine cw_seq ?_
   refine cw_reg ?_
   refine ry (y_asg rfl rfl) rfl rfl ?_
   refine reg_nil ?_
   refine fn_next ?_
   refine cw_seq ?_
   refine cw_seq ?_
   refine cw_reg ?_
   refine ry (y_asg rfl rfl) rfl rfl ?_
   refine reg_nil ?_
   refine fn_next ?_
   refine cw_block ?_
   refine cw_loopJ [4, 5, 6, 7, 8, 9, 10, 19, 20, 21, 22, 23, 24, 25, 26, 27, 28, 29, 30, 31, 32, 33, 34, 35, 36, 37, 38, 39, 40, 41, 42, 43, 44, 45, 46, 47, 48, 49, 50, 51, 52, 53, 54, 55, 56, 57, 58, 59, 60, 61, 62, 63, 64] (fun M wl ml => ∃ (i : Nat) (u : Int), M = [(9, .int .i64 (i : Int)), (7, .int .u64 u), (8, .int .u64 (128 ^ i))] ∧ HS w wl [] ∧ (i ≤ 9) ∧ (0 ≤ u ∧ u < 128 ^ i) ∧ (lacc 0 0 (bs.drop a) = lacc i u (bs.drop (a + i))) ∧ ml = 11 - i) ⟨0, 0, rfl, H0, by omega, by decide, by rw [Nat.add_zero], rfl⟩ ⟨rfl, rfl, rfl, trivial⟩ ?_
   rintro M w3 m5 ⟨i, u, rfl, H4, hi9, hu, hl, rfl⟩
   refine cw_seq ?_
   refine cw_seq ?_
   refine cw_reg ?_
   refine ry (y_mov rfl rfl) rfl rfl ?_
   refine ry (y_lss rfl rfl rfl) rfl rfl ?_
   refine reg_nil ?_
   refine fn_next ?_
   refine cw_condd rfl (fun h6 => ?_) (fun h6 => ?_)
   ·skip
    refine cw_skip ?_
    refine fn_next ?_
    refine cw_seq ?_
    refine cw_block ?_
    refine cw_seq ?_
    refine cw_seq ?_
    refine cw_reg ?_
    refine ry (y_mov rfl rfl) rfl rfl ?_
    refine ry (y_len rfl Try.underlying27 rfl) rfl rfl ?_
    refine ry (y_mov rfl rfl) rfl rfl ?_
    refine ry (y_sub rfl rfl rfl (wi (by omega))) rfl rfl ?_
    refine ry (y_mov rfl rfl) rfl rfl ?_
    refine ry (y_leq rfl rfl rfl) rfl rfl ?_
    refine reg_nil ?_
    refine fn_next ?_
    refine cw_condd rfl (fun h7 => ?_) (fun h7 => ?_)
    ·skip
     refine cw_seq ?_
     refine cw_reg ?_
     refine ry (y_asg rfl rfl) rfl rfl ?_
     refine ry (y_asg rfl rfl) rfl rfl ?_
     refine ry (y_asg rfl rfl) rfl rfl ?_
     refine reg_nil ?_
     refine fn_next ?_
     refine cw_ret ?_
     refine fn_then_ret (fn_block_ret (fn_then_ret (fn_then_ret (fn_block_ret (fn_then_ret ?_)))))
     refine fn_retn (vs := [_, _, _]) rfl ⟨rfl, rfl, rfl, trivial⟩ rfl ?_
     exact ⟨_, _, _, rfl, lebQ_err (by rw [hl, lacc_end i u (by omega)]) (by decide), H4.base⟩
    ·skip
     have gz := vi_get (k := .u8) (zs := bs) (i := a + i) (by omega)
     have hcb := okB_nth hB (i := a + i) (by omega)
     refine cw_skip ?_
     refine fn_next ?_
     refine cw_seq ?_
     refine cw_reg ?_
     refine ry (y_mov rfl rfl) rfl rfl ?_
     refine ry (y_mov rfl rfl) rfl rfl ?_
     refine ry (y_mov rfl rfl) rfl rfl ?_
     refine ry (y_add rfl rfl rfl (wi (by omega))) rfl rfl ?_
     refine ry (y_iar (hb.below H4.base) rfl rfl rfl kfref5_3 (rfl) (by omega) (Nat.mul_one _) (gz)) rfl rfl ?_
     refine ry (y_ldr (hb.below H4.base) rfl rfl kfref5_4 (gz)) rfl rfl ?_
     refine ry (y_asg rfl rfl) rfl rfl ?_
     refine reg_nil ?_
     refine fn_next ?_
     refine cw_seq ?_
     refine cw_seq ?_
     refine cw_reg ?_
     refine ry (y_mov rfl rfl) rfl rfl ?_
     refine ry (y_eql rfl rfl rfl) rfl rfl ?_
     refine ry (y_mov rfl rfl) rfl rfl ?_
     refine rg_splitd (d := 37) rfl (fun h8 => ?_) (fun h8 => ?_)
     ·skip
      refine rgy (y_mov rfl rfl) rfl rfl rfl rfl ?_
      refine rgy (y_gtr rfl rfl rfl) rfl rfl rfl rfl ?_
      refine ry (y_pick rfl rfl rfl) rfl rfl ?_
      refine ry (y_mov rfl rfl) rfl rfl ?_
      refine rg_splitd (d := 41) rfl (fun h9 => ?_) (fun h9 => ?_)
      ·skip
       refine rg_off rfl rfl rfl rfl rfl ?_
       refine rg_off rfl rfl rfl rfl rfl ?_
       refine rg_off rfl rfl rfl rfl rfl ?_
       refine rg_offu rfl rfl rfl rfl ?_
       refine rg_offu rfl rfl rfl rfl ?_
       refine rg_off rfl rfl rfl rfl rfl ?_
       refine ry (y_pick rfl rfl rfl) rfl rfl ?_
       refine reg_nil ?_
       refine fn_next ?_
       refine cw_condt rfl ?_
       refine cw_seq ?_
       refine cw_reg ?_
       refine ry (y_asg rfl rfl) rfl rfl ?_
       refine ry (y_asg rfl rfl) rfl rfl ?_
       refine ry (y_asg rfl rfl) rfl rfl ?_
       refine reg_nil ?_
       refine fn_next ?_
       refine cw_ret ?_
       refine fn_then_ret (fn_block_ret (fn_then_ret (fn_then_ret (fn_block_ret (fn_then_ret ?_)))))
       refine fn_retn (vs := [_, _, _]) rfl ⟨rfl, rfl, rfl, trivial⟩ rfl ?_
       exact ⟨_, _, _, rfl, lebQ_err (by rw [hl, lacc_step i u (by omega), if_pos (by omega)]) (by decide), H4.base⟩
      ·skip
       refine rgy (y_mov rfl rfl) rfl rfl rfl rfl ?_
       refine rgy (y_gtr rfl rfl rfl) rfl rfl rfl rfl ?_
       refine rgy (y_mov rfl rfl) rfl rfl rfl rfl ?_
       refine rg_splitd (d := 44) rfl (fun h10 => ?_) (fun h10 => ?_)
       ·skip
        refine rgy (y_mov rfl rfl) rfl rfl rfl rfl ?_
        refine rgy (y_eql rfl rfl rfl) rfl rfl rfl rfl ?_
        refine rgy (y_pick rfl rfl rfl) rfl rfl rfl rfl ?_
        refine ry (y_pick rfl rfl rfl) rfl rfl ?_
        refine reg_nil ?_
        refine fn_next ?_
        refine cw_condd rfl (fun h11 => ?_) (fun h11 => ?_)
        ·skip
         refine cw_seq ?_
         refine cw_reg ?_
         refine ry (y_asg rfl rfl) rfl rfl ?_
         refine ry (y_asg rfl rfl) rfl rfl ?_
         refine ry (y_asg rfl rfl) rfl rfl ?_
         refine reg_nil ?_
         refine fn_next ?_
         refine cw_ret ?_
         refine fn_then_ret (fn_block_ret (fn_then_ret (fn_then_ret (fn_block_ret (fn_then_ret ?_)))))
         refine fn_retn (vs := [_, _, _]) rfl ⟨rfl, rfl, rfl, trivial⟩ rfl ?_
         exact ⟨_, _, _, rfl, lebQ_err (by rw [hl, lacc_step i u (by omega), if_pos (by omega)]) (by decide), H4.base⟩
        ·skip
         refine cw_skip ?_
         refine fn_next ?_
         refine cw_seq ?_
         refine cw_reg ?_
         refine ry (y_mov rfl rfl) rfl rfl ?_
         refine ry (y_mov rfl rfl) rfl rfl ?_
         refine ry (y_rem rfl rfl rfl (by omega) (tmn (by omega) rfl)) rfl rfl ?_
         refine ry (y_conv rfl Try.underlying5 Try.underlying49 rfl (wu64 (by omega))) rfl rfl ?_
         refine ry (y_mov rfl rfl) rfl rfl ?_
         refine ry (y_mul rfl rfl rfl (wu64 (leb_fits hi9 ⟨by omega, by omega⟩ (fun _ => by omega)))) rfl rfl ?_
         refine ry (y_add rfl rfl rfl (wu64 (by have := leb_fits hi9 (c := nth bs (a + i) % 128) ⟨by omega, by omega⟩ (fun _ => by omega); have := leb_fits1 hi9 (c := nth bs (a + i) % 128) ⟨by omega, by omega⟩ (fun _ => by omega); omega))) rfl rfl ?_
         refine ry (y_asg rfl rfl) rfl rfl ?_
         refine reg_nil ?_
         refine fn_next ?_
         refine cw_seq ?_
         refine cw_reg ?_
         refine ry (y_mov rfl rfl) rfl rfl ?_
         refine ry (y_mul rfl rfl rfl (rfl)) rfl rfl ?_
         refine ry (y_asg rfl rfl) rfl rfl ?_
         refine reg_nil ?_
         refine fn_next ?_
         refine cw_seq ?_
         refine cw_reg ?_
         refine ry (y_mov rfl rfl) rfl rfl ?_
         refine ry (y_lss rfl rfl rfl) rfl rfl ?_
         refine reg_nil ?_
         refine fn_next ?_
         refine cw_condd rfl (fun h12 => ?_) (fun h12 => ?_)
         ·skip
          refine cw_seq ?_
          refine cw_reg ?_
          refine ry (y_mov rfl rfl) rfl rfl ?_
          refine ry (y_mov rfl rfl) rfl rfl ?_
          refine ry (y_mov rfl rfl) rfl rfl ?_
          refine ry (y_add rfl rfl rfl (wi (by omega))) rfl rfl ?_
          refine ry (y_add rfl rfl rfl (wi (by omega))) rfl rfl ?_
          refine ry (y_asg rfl rfl) rfl rfl ?_
          refine ry (y_asg rfl rfl) rfl rfl ?_
          refine ry (y_asg rfl rfl) rfl rfl ?_
          refine reg_nil ?_
          refine fn_next ?_
          refine cw_ret ?_
          refine fn_block_ret (fn_then_ret (fn_then_ret (fn_block_ret (fn_then_ret ?_))))
          refine fn_retn (vs := [_, _, _]) rfl ⟨rfl, rfl, rfl, trivial⟩ rfl ?_
          exact ⟨_, _, _, rfl, .inl ⟨i + 1, by rw [hl, lacc_step i u (by omega), if_neg (by omega), if_pos (by omega)]; rw [show nth bs (a + i) % 128 = nth bs (a + i) by omega], by omega, rfl⟩, H4.base⟩
         ·skip
          have hmod : nth bs (a + i) % 128 = nth bs (a + i) - 128 := by omega
          refine cw_skip ?_
          refine fn_block ?_
          refine fn_next ?_
          refine cw_reg ?_
          refine ry (y_mov rfl rfl) rfl rfl ?_
          refine ry (y_add rfl rfl rfl (wi (by omega))) rfl rfl ?_
          refine ry (y_asg rfl rfl) rfl rfl ?_
          refine reg_nil ?_
          refine fn_roundJ ⟨i + 1, u + nth bs (a + i) % 128 * 128 ^ i, rfl, H4, by omega, by rw [hmod]; exact lacc_bd hu ⟨by omega, by omega⟩, by rw [hl, lacc_step i u (by omega), if_neg (by omega), if_neg (by omega), hmod, Nat.add_assoc], rfl⟩ ⟨rfl, rfl, by rw [w128 (by omega)]; rfl, trivial⟩ (by omega) (by repeat (first | exact kp_refl | refine kp_app rfl rfl ?_ | refine kp_cons rfl ?_)) rfl
       ·skip
        refine rg_off rfl rfl rfl rfl rfl ?_
        refine rg_off rfl rfl rfl rfl rfl ?_
        refine rgy (y_pick rfl rfl rfl) rfl rfl rfl rfl ?_
        refine ry (y_pick rfl rfl rfl) rfl rfl ?_
        refine reg_nil ?_
        refine fn_next ?_
        refine cw_condf rfl ?_
        refine cw_skip ?_
        refine fn_next ?_
        refine cw_seq ?_
        refine cw_reg ?_
        refine ry (y_mov rfl rfl) rfl rfl ?_
        refine ry (y_mov rfl rfl) rfl rfl ?_
        refine ry (y_rem rfl rfl rfl (by omega) (tmn (by omega) rfl)) rfl rfl ?_
        refine ry (y_conv rfl Try.underlying5 Try.underlying49 rfl (wu64 (by omega))) rfl rfl ?_
        refine ry (y_mov rfl rfl) rfl rfl ?_
        refine ry (y_mul rfl rfl rfl (wu64 (leb_fits hi9 ⟨by omega, by omega⟩ (fun _ => by omega)))) rfl rfl ?_
        refine ry (y_add rfl rfl rfl (wu64 (by have := leb_fits hi9 (c := nth bs (a + i) % 128) ⟨by omega, by omega⟩ (fun _ => by omega); have := leb_fits1 hi9 (c := nth bs (a + i) % 128) ⟨by omega, by omega⟩ (fun _ => by omega); omega))) rfl rfl ?_
        refine ry (y_asg rfl rfl) rfl rfl ?_
        refine reg_nil ?_
        refine fn_next ?_
        refine cw_seq ?_
        refine cw_reg ?_
        refine ry (y_mov rfl rfl) rfl rfl ?_
        refine ry (y_mul rfl rfl rfl (rfl)) rfl rfl ?_
        refine ry (y_asg rfl rfl) rfl rfl ?_
        refine reg_nil ?_
        refine fn_next ?_
        refine cw_seq ?_
        refine cw_reg ?_
        refine ry (y_mov rfl rfl) rfl rfl ?_
        refine ry (y_lss rfl rfl rfl) rfl rfl ?_
        refine reg_nil ?_
        refine fn_next ?_
        refine cw_condd rfl (fun h13 => ?_) (fun h13 => ?_)
        ·skip
         refine cw_seq ?_
         refine cw_reg ?_
         refine ry (y_mov rfl rfl) rfl rfl ?_
         refine ry (y_mov rfl rfl) rfl rfl ?_
         refine ry (y_mov rfl rfl) rfl rfl ?_
         refine ry (y_add rfl rfl rfl (wi (by omega))) rfl rfl ?_
         refine ry (y_add rfl rfl rfl (wi (by omega))) rfl rfl ?_
         refine ry (y_asg rfl rfl) rfl rfl ?_
         refine ry (y_asg rfl rfl) rfl rfl ?_
         refine ry (y_asg rfl rfl) rfl rfl ?_
         refine reg_nil ?_
         refine fn_next ?_
         refine cw_ret ?_
         refine fn_block_ret (fn_then_ret (fn_then_ret (fn_block_ret (fn_then_ret ?_))))
         refine fn_retn (vs := [_, _, _]) rfl ⟨rfl, rfl, rfl, trivial⟩ rfl ?_
         exact ⟨_, _, _, rfl, .inl ⟨i + 1, by rw [hl, lacc_step i u (by omega), if_neg (by omega), if_pos (by omega)]; rw [show nth bs (a + i) % 128 = nth bs (a + i) by omega], by omega, rfl⟩, H4.base⟩
        ·skip
         have hmod : nth bs (a + i) % 128 = nth bs (a + i) - 128 := by omega
         refine cw_skip ?_
         refine fn_block ?_
         refine fn_next ?_
         refine cw_reg ?_
         refine ry (y_mov rfl rfl) rfl rfl ?_
         refine ry (y_add rfl rfl rfl (wi (by omega))) rfl rfl ?_
         refine ry (y_asg rfl rfl) rfl rfl ?_
         refine reg_nil ?_
         refine fn_roundJ ⟨i + 1, u + nth bs (a + i) % 128 * 128 ^ i, rfl, H4, by omega, by rw [hmod]; exact lacc_bd hu ⟨by omega, by omega⟩, by rw [hl, lacc_step i u (by omega), if_neg (by omega), if_neg (by omega), hmod, Nat.add_assoc], rfl⟩ ⟨rfl, rfl, by rw [w128 (by omega)]; rfl, trivial⟩ (by omega) (by repeat (first | exact kp_refl | refine kp_app rfl rfl ?_ | refine kp_cons rfl ?_)) rfl
     ·skip
      refine rg_off rfl rfl rfl rfl rfl ?_
      refine rg_off rfl rfl rfl rfl rfl ?_
      refine ry (y_pick rfl rfl rfl) rfl rfl ?_
      refine ry (y_mov rfl rfl) rfl rfl ?_
      refine rgy (y_mov rfl rfl) rfl rfl rfl rfl ?_
      refine rgy (y_gtr rfl rfl rfl) rfl rfl rfl rfl ?_
      refine rgy (y_mov rfl rfl) rfl rfl rfl rfl ?_
      refine rg_splitd (d := 44) rfl (fun h14 => ?_) (fun h14 => ?_)
      ·skip
       refine rgy (y_mov rfl rfl) rfl rfl rfl rfl ?_
       refine rgy (y_eql rfl rfl rfl) rfl rfl rfl rfl ?_
       refine rgy (y_pick rfl rfl rfl) rfl rfl rfl rfl ?_
       refine ry (y_pick rfl rfl rfl) rfl rfl ?_
       refine reg_nil ?_
       refine fn_next ?_
       refine cw_condd rfl (fun h15 => ?_) (fun h15 => ?_)
       ·skip
        refine cw_seq ?_
        refine cw_reg ?_
        refine ry (y_asg rfl rfl) rfl rfl ?_
        refine ry (y_asg rfl rfl) rfl rfl ?_
        refine ry (y_asg rfl rfl) rfl rfl ?_
        refine reg_nil ?_
        refine fn_next ?_
        refine cw_ret ?_
        refine fn_then_ret (fn_block_ret (fn_then_ret (fn_then_ret (fn_block_ret (fn_then_ret ?_)))))
        refine fn_retn (vs := [_, _, _]) rfl ⟨rfl, rfl, rfl, trivial⟩ rfl ?_
        exact ⟨_, _, _, rfl, lebQ_err (by rw [hl, lacc_step i u (by omega), if_pos (by omega)]) (by decide), H4.base⟩
       ·skip
        refine cw_skip ?_
        refine fn_next ?_
        refine cw_seq ?_
        refine cw_reg ?_
        refine ry (y_mov rfl rfl) rfl rfl ?_
        refine ry (y_mov rfl rfl) rfl rfl ?_
        refine ry (y_rem rfl rfl rfl (by omega) (tmn (by omega) rfl)) rfl rfl ?_
        refine ry (y_conv rfl Try.underlying5 Try.underlying49 rfl (wu64 (by omega))) rfl rfl ?_
        refine ry (y_mov rfl rfl) rfl rfl ?_
        refine ry (y_mul rfl rfl rfl (wu64 (leb_fits hi9 ⟨by omega, by omega⟩ (fun _ => by omega)))) rfl rfl ?_
        refine ry (y_add rfl rfl rfl (wu64 (by have := leb_fits hi9 (c := nth bs (a + i) % 128) ⟨by omega, by omega⟩ (fun _ => by omega); have := leb_fits1 hi9 (c := nth bs (a + i) % 128) ⟨by omega, by omega⟩ (fun _ => by omega); omega))) rfl rfl ?_
        refine ry (y_asg rfl rfl) rfl rfl ?_
        refine reg_nil ?_
        refine fn_next ?_
        refine cw_seq ?_
        refine cw_reg ?_
        refine ry (y_mov rfl rfl) rfl rfl ?_
        refine ry (y_mul rfl rfl rfl (rfl)) rfl rfl ?_
        refine ry (y_asg rfl rfl) rfl rfl ?_
        refine reg_nil ?_
        refine fn_next ?_
        refine cw_seq ?_
        refine cw_reg ?_
        refine ry (y_mov rfl rfl) rfl rfl ?_
        refine ry (y_lss rfl rfl rfl) rfl rfl ?_
        refine reg_nil ?_
        refine fn_next ?_
        refine cw_condd rfl (fun h16 => ?_) (fun h16 => ?_)
        ·skip
         refine cw_seq ?_
         refine cw_reg ?_
         refine ry (y_mov rfl rfl) rfl rfl ?_
         refine ry (y_mov rfl rfl) rfl rfl ?_
         refine ry (y_mov rfl rfl) rfl rfl ?_
         refine ry (y_add rfl rfl rfl (wi (by omega))) rfl rfl ?_
         refine ry (y_add rfl rfl rfl (wi (by omega))) rfl rfl ?_
         refine ry (y_asg rfl rfl) rfl rfl ?_
         refine ry (y_asg rfl rfl) rfl rfl ?_
         refine ry (y_asg rfl rfl) rfl rfl ?_
         refine reg_nil ?_
         refine fn_next ?_
         refine cw_ret ?_
         refine fn_block_ret (fn_then_ret (fn_then_ret (fn_block_ret (fn_then_ret ?_))))
         refine fn_retn (vs := [_, _, _]) rfl ⟨rfl, rfl, rfl, trivial⟩ rfl ?_
         exact ⟨_, _, _, rfl, .inl ⟨i + 1, by rw [hl, lacc_step i u (by omega), if_neg (by omega), if_pos (by omega)]; rw [show nth bs (a + i) % 128 = nth bs (a + i) by omega], by omega, rfl⟩, H4.base⟩
        ·skip
         have hmod : nth bs (a + i) % 128 = nth bs (a + i) - 128 := by omega
         refine cw_skip ?_
         refine fn_block ?_
         refine fn_next ?_
         refine cw_reg ?_
         refine ry (y_mov rfl rfl) rfl rfl ?_
         refine ry (y_add rfl rfl rfl (wi (by omega))) rfl rfl ?_
         refine ry (y_asg rfl rfl) rfl rfl ?_
         refine reg_nil ?_
         refine fn_roundJ ⟨i + 1, u + nth bs (a + i) % 128 * 128 ^ i, rfl, H4, by omega, by rw [hmod]; exact lacc_bd hu ⟨by omega, by omega⟩, by rw [hl, lacc_step i u (by omega), if_neg (by omega), if_neg (by omega), hmod, Nat.add_assoc], rfl⟩ ⟨rfl, rfl, by rw [w128 (by omega)]; rfl, trivial⟩ (by omega) (by repeat (first | exact kp_refl | refine kp_app rfl rfl ?_ | refine kp_cons rfl ?_)) rfl
      ·skip
       refine rg_off rfl rfl rfl rfl rfl ?_
       refine rg_off rfl rfl rfl rfl rfl ?_
       refine rgy (y_pick rfl rfl rfl) rfl rfl rfl rfl ?_
       refine ry (y_pick rfl rfl rfl) rfl rfl ?_
       refine reg_nil ?_
       refine fn_next ?_
       refine cw_condf rfl ?_
       refine cw_skip ?_
       refine fn_next ?_
       refine cw_seq ?_
       refine cw_reg ?_
       refine ry (y_mov rfl rfl) rfl rfl ?_
       refine ry (y_mov rfl rfl) rfl rfl ?_
       refine ry (y_rem rfl rfl rfl (by omega) (tmn (by omega) rfl)) rfl rfl ?_
       refine ry (y_conv rfl Try.underlying5 Try.underlying49 rfl (wu64 (by omega))) rfl rfl ?_
       refine ry (y_mov rfl rfl) rfl rfl ?_
       refine ry (y_mul rfl rfl rfl (wu64 (leb_fits hi9 ⟨by omega, by omega⟩ (fun _ => by omega)))) rfl rfl ?_
       refine ry (y_add rfl rfl rfl (wu64 (by have := leb_fits hi9 (c := nth bs (a + i) % 128) ⟨by omega, by omega⟩ (fun _ => by omega); have := leb_fits1 hi9 (c := nth bs (a + i) % 128) ⟨by omega, by omega⟩ (fun _ => by omega); omega))) rfl rfl ?_
       refine ry (y_asg rfl rfl) rfl rfl ?_
       refine reg_nil ?_
       refine fn_next ?_
       refine cw_seq ?_
       refine cw_reg ?_
       refine ry (y_mov rfl rfl) rfl rfl ?_
       refine ry (y_mul rfl rfl rfl (rfl)) rfl rfl ?_
       refine ry (y_asg rfl rfl) rfl rfl ?_
       refine reg_nil ?_
       refine fn_next ?_
       refine cw_seq ?_
       refine cw_reg ?_
       refine ry (y_mov rfl rfl) rfl rfl ?_
       refine ry (y_lss rfl rfl rfl) rfl rfl ?_
       refine reg_nil ?_
       refine fn_next ?_
       refine cw_condd rfl (fun h17 => ?_) (fun h17 => ?_)
       ·skip
        refine cw_seq ?_
        refine cw_reg ?_
        refine ry (y_mov rfl rfl) rfl rfl ?_
        refine ry (y_mov rfl rfl) rfl rfl ?_
        refine ry (y_mov rfl rfl) rfl rfl ?_
        refine ry (y_add rfl rfl rfl (wi (by omega))) rfl rfl ?_
        refine ry (y_add rfl rfl rfl (wi (by omega))) rfl rfl ?_
        refine ry (y_asg rfl rfl) rfl rfl ?_
        refine ry (y_asg rfl rfl) rfl rfl ?_
        refine ry (y_asg rfl rfl) rfl rfl ?_
        refine reg_nil ?_
        refine fn_next ?_
        refine cw_ret ?_
        refine fn_block_ret (fn_then_ret (fn_then_ret (fn_block_ret (fn_then_ret ?_))))
        refine fn_retn (vs := [_, _, _]) rfl ⟨rfl, rfl, rfl, trivial⟩ rfl ?_
        exact ⟨_, _, _, rfl, .inl ⟨i + 1, by rw [hl, lacc_step i u (by omega), if_neg (by omega), if_pos (by omega)]; rw [show nth bs (a + i) % 128 = nth bs (a + i) by omega], by omega, rfl⟩, H4.base⟩
       ·skip
        have hmod : nth bs (a + i) % 128 = nth bs (a + i) - 128 := by omega
        refine cw_skip ?_
        refine fn_block ?_
        refine fn_next ?_
        refine cw_reg ?_
        refine ry (y_mov rfl rfl) rfl rfl ?_
        refine ry (y_add rfl rfl rfl (wi (by omega))) rfl rfl ?_
        refine ry (y_asg rfl rfl) rfl rfl ?_
        refine reg_nil ?_
        refine fn_roundJ ⟨i + 1, u + nth bs (a + i) % 128 * 128 ^ i, rfl, H4, by omega, by rw [hmod]; exact lacc_bd hu ⟨by omega, by omega⟩, by rw [hl, lacc_step i u (by omega), if_neg (by omega), if_neg (by omega), hmod, Nat.add_assoc], rfl⟩ ⟨rfl, rfl, by rw [w128 (by omega)]; rfl, trivial⟩ (by omega) (by repeat (first | exact kp_refl | refine kp_app rfl rfl ?_ | refine kp_cons rfl ?_)) rfl
   · exfalso; omega

set_option maxRecDepth 100000 in
set_option maxHeartbeats 1000000 in
theorem refBytes5 (A : Option Addr) (n cap : Nat) (zs : List Int) (w : World) (hr : Rd w A (vi .i64 zs)) (hl : zs.length = n) (hn : n ≤ 2000000) (hI : allI zs) :
    Ret Try.prog 15 [.slice A n cap] w (fun v w' => ∃ A' c, v = .slice A' (runsB (rn zs 0)).length c ∧ HS w w' [.row A' (runsB (rn zs 0)).length c (vi .u8 (runsB (rn zs 0))) 5 1]) := by
 refine ret_enter Try.func15 rfl rfl rfl ?_
 have H0 := HS.start w
 refine cw_seq ?_
 refine cw_reg ?_
 refine ry (y_asg rfl rfl) rfl rfl ?_
 refine reg_nil ?_
 refine fn_next ?_
 refine cw_seq ?_
 refine cw_reg ?_
 refine reg_op (op_lit (parts := []) (vs := []) (cs := []) H0 rfl Try.underlying27 kfref5_1 rfl trivial rfl rfl) rfl rfl ?_
 rintro _ w2 ⟨b1, rfl, H3⟩
 have H4 := H3.asrow (m := 0) (size := 1) rfl (by decide)
 refine ry (y_asg rfl rfl) rfl rfl ?_
 refine reg_nil ?_
 refine fn_next ?_
 refine cw_seq ?_
 refine cw_seq ?_
 refine cw_reg ?_
 refine ry (y_asg rfl rfl) rfl rfl ?_
 refine reg_nil ?_
 refine fn_next ?_
 refine cw_block ?_
 refine cw_loopJ [3, 4, 5, 7, 8, 9, 10, 11, 12, 13, 14, 15, 16, 17, 18, 19, 20, 21, 22, 23, 24, 25, 26, 27, 28, 29, 30, 31, 32, 33, 34, 35, 36, 37, 38, 39, 40, 41, 42, 43, 44, 45, 46, 47, 48, 49, 50, 51, 52, 53, 54, 55, 56, 57, 58, 59, 60, 61] (fun M wl ml => ∃ (i : Nat) (out : List Int) (A1 : Option Addr) (cap1 : Nat), M = [(4, .int .i64 (i : Int)), (3, .slice A1 out.length cap1)] ∧ HS w wl [Ob.row A1 out.length cap1 (vi .u8 out) 5 1] ∧ (i ≤ n) ∧ (out ++ rfrom zs i = rfrom zs 0) ∧ ml = n + 1 - i) ⟨0, [], _, _, rfl, H4, Nat.zero_le _, rfl, rfl⟩ ⟨rfl, rfl, trivial⟩ ?_
 rintro M w5 m7 ⟨i, out, A1, cap1, rfl, H6, hin, hout, rfl⟩
 have hob := rfrom_bd hout
 refine cw_seq ?_
 refine cw_seq ?_
 refine cw_reg ?_
 refine ry (y_mov rfl rfl) rfl rfl ?_
 refine ry (y_mov rfl rfl) rfl rfl ?_
 refine ry (y_len rfl Try.underlying23 rfl) rfl rfl ?_
 refine ry (y_lss rfl rfl rfl) rfl rfl ?_
 refine reg_nil ?_
 refine fn_next ?_
 refine cw_condd rfl (fun h8 => ?_) (fun h8 => ?_)
 ·skip
  have gz := vi_get (k := .i64) (zs := zs) (i := i) (by omega)
  have hzI : -9223372036854775808 ≤ nth zs i ∧ nth zs i ≤ 9223372036854775807 := hI _ (nth_mem (by omega))
  refine cw_skip ?_
  refine fn_next ?_
  refine cw_seq ?_
  refine cw_block ?_
  refine cw_seq ?_
  refine cw_seq ?_
  refine cw_reg ?_
  refine ry (y_mov rfl rfl) rfl rfl ?_
  refine ry (y_mov rfl rfl) rfl rfl ?_
  refine ry (y_iar (hr.below H6.base) rfl rfl rfl kfref5_5 (rfl) (by omega) (Nat.mul_one _) (gz)) rfl rfl ?_
  refine ry (y_ldr (hr.below H6.base) rfl rfl kfref5_6 (gz)) rfl rfl ?_
  refine ry (y_neq rfl rfl rfl) rfl rfl ?_
  refine reg_nil ?_
  refine fn_next ?_
  refine cw_condd rfl (fun hz0 => ?_) (fun hz0 => ?_)
  ·skip
   have hob3 : out.length + (lebD (foldU (nth zs i))).length ≤ 11 * zs.length := by have h1 := rfrom_bd (zs := zs) (out := out ++ lebD (foldU (nth zs i))) (i := i + 1) (by rw [List.append_assoc, ← rfrom_rest (by omega) hz0, hout]); rw [List.length_append] at h1; exact h1
   refine cw_seq ?_
   refine cw_reg ?_
   refine ry (y_mov rfl rfl) rfl rfl ?_
   refine ry (y_mov rfl rfl) rfl rfl ?_
   refine ry (y_mov rfl rfl) rfl rfl ?_
   refine ry (y_iar (hr.below H6.base) rfl rfl rfl kfref5_5 (rfl) (by omega) (Nat.mul_one _) (gz)) rfl rfl ?_
   refine ry (y_ldr (hr.below H6.base) rfl rfl kfref5_6 (gz)) rfl rfl ?_
   refine reg_op (op_call (refFold (nth zs i) _ hzI) rfl kfref5_7 ⟨rfl, trivial⟩) rfl rfl ?_
   rintro _ w11 ⟨rfl, e10⟩
   have H12 := H6.ext e10
   refine reg_op (op_call (refBytes2 (foldU (nth zs i)) _ (fold_rng hzI)) rfl kfref5_8 ⟨rfl, trivial⟩) rfl rfl ?_
   rintro _ w14 ⟨A16, c17, rfl, k13⟩
   have H15 := H12.call k13
   refine reg_op (op_app (i := 1) H15 rfl rfl rfl rfl (H15.rd (i := 0) rfl) (by rw [vi_len, Nat.mul_one]) (vi_one) Try.underlying27 kfref5_2 rfl rfl (by unfold maxLen; omega) (by omega)) rfl rfl ?_
   rintro _ w20 ⟨A18, c19, rfl, H21⟩
   refine ry (y_asg rfl rfl) rfl rfl ?_
   refine reg_nil ?_
   refine fn_next ?_
   refine cw_exit ?_
   refine fn_then_exit (fn_block_exit ?_)
   refine fn_next ?_
   refine cw_reg ?_
   refine ry (y_mov rfl rfl) rfl rfl ?_
   refine ry (y_add rfl rfl rfl (wi (by omega))) rfl rfl ?_
   refine ry (y_asg rfl rfl) rfl rfl ?_
   refine reg_nil ?_
   have hpl : out.length + (lebD (foldU (nth zs i))).length = (out ++ lebD (foldU (nth zs i))).length := by rw [List.length_append]
   rw [← vi_app, hpl] at H21
   refine fn_roundJ ⟨i + 1, out ++ lebD (foldU (nth zs i)), _, _, rfl, (H21.pick (m := [_]) [1] rfl (by decide)), by omega, by rw [List.append_assoc, ← rfrom_rest (by omega) hz0, hout], rfl⟩ ⟨rfl, by rw [← hpl]; rfl, trivial⟩ (by omega) (by repeat (first | exact kp_refl | refine kp_app rfl rfl ?_ | refine kp_cons rfl ?_)) rfl
  ·skip
   refine cw_skip ?_
   refine fn_next ?_
   refine cw_seq ?_
   refine cw_seq ?_
   refine cw_reg ?_
   refine ry (y_mov rfl rfl) rfl rfl ?_
   refine ry (y_gtr rfl rfl rfl) rfl rfl ?_
   refine ry (y_mov rfl rfl) rfl rfl ?_
   refine rg_splitd (d := 28) rfl (fun h22 => ?_) (fun h22 => ?_)
   ·skip
    have gp := vi_get (k := .i64) (zs := zs) (i := i - 1) (by omega)
    refine rgy (y_mov rfl rfl) rfl rfl rfl rfl ?_
    refine rgy (y_mov rfl rfl) rfl rfl rfl rfl ?_
    refine rgy (y_sub rfl rfl rfl (wi (by omega))) rfl rfl rfl rfl ?_
    refine rgy (y_iar (hr.below H6.base) rfl rfl rfl kfref5_5 (show (i : Int) - 1 = ((i - 1 : Nat) : Int) by omega) (by omega) (Nat.mul_one _) (gp)) rfl rfl rfl rfl ?_
    refine rgy (y_ldr (hr.below H6.base) rfl rfl kfref5_6 (gp)) rfl rfl rfl rfl ?_
    refine rgy (y_eql rfl rfl rfl) rfl rfl rfl rfl ?_
    refine ry (y_pick rfl rfl rfl) rfl rfl ?_
    refine reg_nil ?_
    refine fn_next ?_
    refine cw_condd rfl (fun h23 => ?_) (fun h23 => ?_)
    ·skip
     refine cw_exit ?_
     refine fn_then_exit (fn_block_exit ?_)
     refine fn_next ?_
     refine cw_reg ?_
     refine ry (y_mov rfl rfl) rfl rfl ?_
     refine ry (y_add rfl rfl rfl (wi (by omega))) rfl rfl ?_
     refine ry (y_asg rfl rfl) rfl rfl ?_
     refine reg_nil ?_
     refine fn_roundJ ⟨i + 1, out, _, _, rfl, H6, by omega, by rw [← rfrom_skip (by omega) (by omega) ⟨by omega, by omega⟩, hout], rfl⟩ ⟨rfl, rfl, trivial⟩ (by omega) (by repeat (first | exact kp_refl | refine kp_app rfl rfl ?_ | refine kp_cons rfl ?_)) rfl
    ·skip
     refine cw_skip ?_
     refine fn_next ?_
     refine cw_seq ?_
     refine cw_reg ?_
     refine ry (y_asg rfl rfl) rfl rfl ?_
     refine reg_nil ?_
     refine fn_next ?_
     refine cw_seq ?_
     refine cw_block ?_
     refine cw_loopJ [5, 36, 37, 38, 39, 40, 41, 42, 43, 44, 45, 46, 47, 48, 49, 50, 51, 52] (fun M wl ml => ∃ (k : Nat), M = [(5, .int .i64 (k : Int))] ∧ HS w wl [Ob.row A1 out.length cap1 (vi .u8 out) 5 1] ∧ (i + k ≤ n) ∧ (rn (zs.drop i) 0 = rn (zs.drop (i + k)) k) ∧ (dz (zs.drop i) = dz (zs.drop (i + k))) ∧ ml = n + 1 - k) ⟨0, rfl, H6, by omega, rfl, rfl, rfl⟩ ⟨rfl, trivial⟩ ?_
     rintro M w24 m26 ⟨k, rfl, H25, hkn, hrk, hdk, rfl⟩
     refine cw_seq ?_
     refine cw_seq ?_
     refine cw_reg ?_
     refine ry (y_mov rfl rfl) rfl rfl ?_
     refine ry (y_mov rfl rfl) rfl rfl ?_
     refine ry (y_add rfl rfl rfl (wi (by omega))) rfl rfl ?_
     refine ry (y_mov rfl rfl) rfl rfl ?_
     refine ry (y_len rfl Try.underlying23 rfl) rfl rfl ?_
     refine ry (y_lss rfl rfl rfl) rfl rfl ?_
     refine ry (y_mov rfl rfl) rfl rfl ?_
     refine rg_splitd (d := 42) rfl (fun h27 => ?_) (fun h27 => ?_)
     ·skip
      have gk := vi_get (k := .i64) (zs := zs) (i := i + k) (by omega)
      refine rgy (y_mov rfl rfl) rfl rfl rfl rfl ?_
      refine rgy (y_mov rfl rfl) rfl rfl rfl rfl ?_
      refine rgy (y_mov rfl rfl) rfl rfl rfl rfl ?_
      refine rgy (y_add rfl rfl rfl (wi (by omega))) rfl rfl rfl rfl ?_
      refine rgy (y_iar (hr.below H25.base) rfl rfl rfl kfref5_5 (rfl) (by omega) (Nat.mul_one _) (gk)) rfl rfl rfl rfl ?_
      refine rgy (y_ldr (hr.below H25.base) rfl rfl kfref5_6 (gk)) rfl rfl rfl rfl ?_
      refine rgy (y_eql rfl rfl rfl) rfl rfl rfl rfl ?_
      refine ry (y_pick rfl rfl rfl) rfl rfl ?_
      refine reg_nil ?_
      refine fn_next ?_
      refine cw_condd rfl (fun hzk => ?_) (fun hzk => ?_)
      ·skip
       refine cw_skip ?_
       refine fn_next ?_
       refine cw_block ?_
       refine cw_reg ?_
       refine ry (y_mov rfl rfl) rfl rfl ?_
       refine ry (y_add rfl rfl rfl (wi (by omega))) rfl rfl ?_
       refine ry (y_asg rfl rfl) rfl rfl ?_
       refine reg_nil ?_
       refine fn_block ?_
       refine fn_roundJ ⟨k + 1, rfl, H25, by omega, by rw [hrk, rn_drop_zero (by omega) hzk]; rfl, by rw [hdk, dz_zero (by omega) hzk]; rfl, rfl⟩ ⟨rfl, trivial⟩ (by omega) (by repeat (first | exact kp_refl | refine kp_app rfl rfl ?_ | refine kp_cons rfl ?_)) rfl
      ·skip
       obtain ⟨hk1, hrr⟩ := rfrom_run (zs := zs) (i := i) (k := k) (by omega) (by omega) hrk hdk (by omega) (by omega)
       have hob2 : out.length + 1 + (lebD ((k : Int) - 1)).length ≤ 11 * zs.length := by have h1 := rfrom_bd (zs := zs) (out := out ++ 0 :: lebD ((k : Int) - 1)) (i := i + 1) (by rw [List.append_assoc, ← hrr, hout]); simp only [List.length_append, List.length_cons] at h1; omega
       refine cw_exit ?_
       refine fn_then_exit (fn_then_exit (fn_block_exit ?_))
       refine fn_next ?_
       refine cw_seq ?_
       refine cw_reg ?_
       refine ry (y_mov rfl rfl) rfl rfl ?_
       refine reg_op (op_lit (parts := [(0, _)]) (vs := [(0, _)]) (cs := [.int _ _]) H25 rfl Try.underlying27 kfref5_1 rfl ⟨rfl, trivial⟩ rfl rfl) rfl rfl ?_
       rintro _ w30 ⟨b29, rfl, H31⟩
       have H32 := H31.asrow (m := 1) (size := 1) rfl (by decide)
       refine reg_op (op_app (i := 1) (ys := [.int .u8 0]) H32 rfl rfl rfl rfl (H32.rd (i := 0) rfl) (rfl) (rfl) Try.underlying27 kfref5_2 rfl rfl (by unfold maxLen; omega) (by omega)) rfl rfl ?_
       rintro _ w35 ⟨A33, c34, rfl, H36⟩
       refine ry (y_asg rfl rfl) rfl rfl ?_
       refine reg_nil ?_
       refine fn_next ?_
       refine cw_reg ?_
       refine ry (y_mov rfl rfl) rfl rfl ?_
       refine ry (y_mov rfl rfl) rfl rfl ?_
       refine ry (y_sub rfl rfl rfl (wi (by omega))) rfl rfl ?_
       refine ry (y_conv rfl Try.underlying3 Try.underlying49 rfl (wu64 (by omega))) rfl rfl ?_
       refine reg_op (op_call (refBytes2 (((k : Int) - 1)) _ (⟨by omega, by omega⟩)) rfl kfref5_8 ⟨rfl, trivial⟩) rfl rfl ?_
       rintro _ w38 ⟨A40, c41, rfl, k37⟩
       have H39 := H36.call k37
       refine reg_op (op_app (i := 2) H39 rfl rfl rfl rfl (H39.rd (i := 0) rfl) (by rw [vi_len, Nat.mul_one]) (vi_one) Try.underlying27 kfref5_2 rfl rfl (by unfold maxLen; omega) (by omega)) rfl rfl ?_
       rintro _ w44 ⟨A42, c43, rfl, H45⟩
       refine ry (y_asg rfl rfl) rfl rfl ?_
       refine reg_nil ?_
       refine fn_block ?_
       refine fn_next ?_
       refine cw_reg ?_
       refine ry (y_mov rfl rfl) rfl rfl ?_
       refine ry (y_add rfl rfl rfl (wi (by omega))) rfl rfl ?_
       refine ry (y_asg rfl rfl) rfl rfl ?_
       refine reg_nil ?_
       have hpl : out.length + 1 + (lebD ((k : Int) - 1)).length = (out ++ 0 :: lebD ((k : Int) - 1)).length := by simp only [List.length_append, List.length_cons]; omega
       rw [vi_push, ← vi_app, hpl, List.append_assoc, List.singleton_append] at H45
       refine fn_roundJ ⟨i + 1, out ++ 0 :: lebD ((k : Int) - 1), _, _, rfl, (H45.pick (m := [_]) [2] rfl (by decide)), by omega, by rw [List.append_assoc, ← hrr, hout], rfl⟩ ⟨rfl, by rw [← hpl]; rfl, trivial⟩ (by omega) (by repeat (first | exact kp_refl | refine kp_app rfl rfl ?_ | refine kp_cons rfl ?_)) rfl
     ·skip
      obtain ⟨hk1, hrr⟩ := rfrom_run (zs := zs) (i := i) (k := k) (by omega) (by omega) hrk hdk (by omega) (by omega)
      have hob2 : out.length + 1 + (lebD ((k : Int) - 1)).length ≤ 11 * zs.length := by have h1 := rfrom_bd (zs := zs) (out := out ++ 0 :: lebD ((k : Int) - 1)) (i := i + 1) (by rw [List.append_assoc, ← hrr, hout]); simp only [List.length_append, List.length_cons] at h1; omega
      refine rg_off rfl rfl rfl rfl rfl ?_
      refine rg_off rfl rfl rfl rfl rfl ?_
      refine rg_off rfl rfl rfl rfl rfl ?_
      refine rg_off rfl rfl rfl rfl rfl ?_
      refine rg_off rfl rfl rfl rfl rfl ?_
      refine rg_off rfl rfl rfl rfl rfl ?_
      refine rg_off rfl rfl rfl rfl rfl ?_
      refine ry (y_pick rfl rfl rfl) rfl rfl ?_
      refine reg_nil ?_
      refine fn_next ?_
      refine cw_condf rfl ?_
      refine cw_exit ?_
      refine fn_then_exit (fn_then_exit (fn_block_exit ?_))
      refine fn_next ?_
      refine cw_seq ?_
      refine cw_reg ?_
      refine ry (y_mov rfl rfl) rfl rfl ?_
      refine reg_op (op_lit (parts := [(0, _)]) (vs := [(0, _)]) (cs := [.int _ _]) H25 rfl Try.underlying27 kfref5_1 rfl ⟨rfl, trivial⟩ rfl rfl) rfl rfl ?_
      rintro _ w47 ⟨b46, rfl, H48⟩
      have H49 := H48.asrow (m := 1) (size := 1) rfl (by decide)
      refine reg_op (op_app (i := 1) (ys := [.int .u8 0]) H49 rfl rfl rfl rfl (H49.rd (i := 0) rfl) (rfl) (rfl) Try.underlying27 kfref5_2 rfl rfl (by unfold maxLen; omega) (by omega)) rfl rfl ?_
      rintro _ w52 ⟨A50, c51, rfl, H53⟩
      refine ry (y_asg rfl rfl) rfl rfl ?_
      refine reg_nil ?_
      refine fn_next ?_
      refine cw_reg ?_
      refine ry (y_mov rfl rfl) rfl rfl ?_
      refine ry (y_mov rfl rfl) rfl rfl ?_
      refine ry (y_sub rfl rfl rfl (wi (by omega))) rfl rfl ?_
      refine ry (y_conv rfl Try.underlying3 Try.underlying49 rfl (wu64 (by omega))) rfl rfl ?_
      refine reg_op (op_call (refBytes2 (((k : Int) - 1)) _ (⟨by omega, by omega⟩)) rfl kfref5_8 ⟨rfl, trivial⟩) rfl rfl ?_
      rintro _ w55 ⟨A57, c58, rfl, k54⟩
      have H56 := H53.call k54
      refine reg_op (op_app (i := 2) H56 rfl rfl rfl rfl (H56.rd (i := 0) rfl) (by rw [vi_len, Nat.mul_one]) (vi_one) Try.underlying27 kfref5_2 rfl rfl (by unfold maxLen; omega) (by omega)) rfl rfl ?_
      rintro _ w61 ⟨A59, c60, rfl, H62⟩
      refine ry (y_asg rfl rfl) rfl rfl ?_
      refine reg_nil ?_
      refine fn_block ?_
      refine fn_next ?_
      refine cw_reg ?_
      refine ry (y_mov rfl rfl) rfl rfl ?_
      refine ry (y_add rfl rfl rfl (wi (by omega))) rfl rfl ?_
      refine ry (y_asg rfl rfl) rfl rfl ?_
      refine reg_nil ?_
      have hpl : out.length + 1 + (lebD ((k : Int) - 1)).length = (out ++ 0 :: lebD ((k : Int) - 1)).length := by simp only [List.length_append, List.length_cons]; omega
      rw [vi_push, ← vi_app, hpl, List.append_assoc, List.singleton_append] at H62
      refine fn_roundJ ⟨i + 1, out ++ 0 :: lebD ((k : Int) - 1), _, _, rfl, (H62.pick (m := [_]) [2] rfl (by decide)), by omega, by rw [List.append_assoc, ← hrr, hout], rfl⟩ ⟨rfl, by rw [← hpl]; rfl, trivial⟩ (by omega) (by repeat (first | exact kp_refl | refine kp_app rfl rfl ?_ | refine kp_cons rfl ?_)) rfl
   ·skip
    refine rg_off rfl rfl rfl rfl rfl ?_
    refine rg_off rfl rfl rfl rfl rfl ?_
    refine rg_off rfl rfl rfl rfl rfl ?_
    refine rg_off rfl rfl rfl rfl rfl ?_
    refine rg_off rfl rfl rfl rfl rfl ?_
    refine rg_off rfl rfl rfl rfl rfl ?_
    refine ry (y_pick rfl rfl rfl) rfl rfl ?_
    refine reg_nil ?_
    refine fn_next ?_
    refine cw_condf rfl ?_
    refine cw_skip ?_
    refine fn_next ?_
    refine cw_seq ?_
    refine cw_reg ?_
    refine ry (y_asg rfl rfl) rfl rfl ?_
    refine reg_nil ?_
    refine fn_next ?_
    refine cw_seq ?_
    refine cw_block ?_
    refine cw_loopJ [5, 36, 37, 38, 39, 40, 41, 42, 43, 44, 45, 46, 47, 48, 49, 50, 51, 52] (fun M wl ml => ∃ (k : Nat), M = [(5, .int .i64 (k : Int))] ∧ HS w wl [Ob.row A1 out.length cap1 (vi .u8 out) 5 1] ∧ (i + k ≤ n) ∧ (rn (zs.drop i) 0 = rn (zs.drop (i + k)) k) ∧ (dz (zs.drop i) = dz (zs.drop (i + k))) ∧ ml = n + 1 - k) ⟨0, rfl, H6, by omega, rfl, rfl, rfl⟩ ⟨rfl, trivial⟩ ?_
    rintro M w63 m65 ⟨k, rfl, H64, hkn, hrk, hdk, rfl⟩
    refine cw_seq ?_
    refine cw_seq ?_
    refine cw_reg ?_
    refine ry (y_mov rfl rfl) rfl rfl ?_
    refine ry (y_mov rfl rfl) rfl rfl ?_
    refine ry (y_add rfl rfl rfl (wi (by omega))) rfl rfl ?_
    refine ry (y_mov rfl rfl) rfl rfl ?_
    refine ry (y_len rfl Try.underlying23 rfl) rfl rfl ?_
    refine ry (y_lss rfl rfl rfl) rfl rfl ?_
    refine ry (y_mov rfl rfl) rfl rfl ?_
    refine rg_splitd (d := 42) rfl (fun h66 => ?_) (fun h66 => ?_)
    ·skip
     have gk := vi_get (k := .i64) (zs := zs) (i := i + k) (by omega)
     refine rgy (y_mov rfl rfl) rfl rfl rfl rfl ?_
     refine rgy (y_mov rfl rfl) rfl rfl rfl rfl ?_
     refine rgy (y_mov rfl rfl) rfl rfl rfl rfl ?_
     refine rgy (y_add rfl rfl rfl (wi (by omega))) rfl rfl rfl rfl ?_
     refine rgy (y_iar (hr.below H64.base) rfl rfl rfl kfref5_5 (rfl) (by omega) (Nat.mul_one _) (gk)) rfl rfl rfl rfl ?_
     refine rgy (y_ldr (hr.below H64.base) rfl rfl kfref5_6 (gk)) rfl rfl rfl rfl ?_
     refine rgy (y_eql rfl rfl rfl) rfl rfl rfl rfl ?_
     refine ry (y_pick rfl rfl rfl) rfl rfl ?_
     refine reg_nil ?_
     refine fn_next ?_
     refine cw_condd rfl (fun hzk => ?_) (fun hzk => ?_)
     ·skip
      refine cw_skip ?_
      refine fn_next ?_
      refine cw_block ?_
      refine cw_reg ?_
      refine ry (y_mov rfl rfl) rfl rfl ?_
      refine ry (y_add rfl rfl rfl (wi (by omega))) rfl rfl ?_
      refine ry (y_asg rfl rfl) rfl rfl ?_
      refine reg_nil ?_
      refine fn_block ?_
      refine fn_roundJ ⟨k + 1, rfl, H64, by omega, by rw [hrk, rn_drop_zero (by omega) hzk]; rfl, by rw [hdk, dz_zero (by omega) hzk]; rfl, rfl⟩ ⟨rfl, trivial⟩ (by omega) (by repeat (first | exact kp_refl | refine kp_app rfl rfl ?_ | refine kp_cons rfl ?_)) rfl
     ·skip
      obtain ⟨hk1, hrr⟩ := rfrom_run (zs := zs) (i := i) (k := k) (by omega) (by omega) hrk hdk (by omega) (by omega)
      have hob2 : out.length + 1 + (lebD ((k : Int) - 1)).length ≤ 11 * zs.length := by have h1 := rfrom_bd (zs := zs) (out := out ++ 0 :: lebD ((k : Int) - 1)) (i := i + 1) (by rw [List.append_assoc, ← hrr, hout]); simp only [List.length_append, List.length_cons] at h1; omega
      refine cw_exit ?_
      refine fn_then_exit (fn_then_exit (fn_block_exit ?_))
      refine fn_next ?_
      refine cw_seq ?_
      refine cw_reg ?_
      refine ry (y_mov rfl rfl) rfl rfl ?_
      refine reg_op (op_lit (parts := [(0, _)]) (vs := [(0, _)]) (cs := [.int _ _]) H64 rfl Try.underlying27 kfref5_1 rfl ⟨rfl, trivial⟩ rfl rfl) rfl rfl ?_
      rintro _ w69 ⟨b68, rfl, H70⟩
      have H71 := H70.asrow (m := 1) (size := 1) rfl (by decide)
      refine reg_op (op_app (i := 1) (ys := [.int .u8 0]) H71 rfl rfl rfl rfl (H71.rd (i := 0) rfl) (rfl) (rfl) Try.underlying27 kfref5_2 rfl rfl (by unfold maxLen; omega) (by omega)) rfl rfl ?_
      rintro _ w74 ⟨A72, c73, rfl, H75⟩
      refine ry (y_asg rfl rfl) rfl rfl ?_
      refine reg_nil ?_
      refine fn_next ?_
      refine cw_reg ?_
      refine ry (y_mov rfl rfl) rfl rfl ?_
      refine ry (y_mov rfl rfl) rfl rfl ?_
      refine ry (y_sub rfl rfl rfl (wi (by omega))) rfl rfl ?_
      refine ry (y_conv rfl Try.underlying3 Try.underlying49 rfl (wu64 (by omega))) rfl rfl ?_
      refine reg_op (op_call (refBytes2 (((k : Int) - 1)) _ (⟨by omega, by omega⟩)) rfl kfref5_8 ⟨rfl, trivial⟩) rfl rfl ?_
      rintro _ w77 ⟨A79, c80, rfl, k76⟩
      have H78 := H75.call k76
      refine reg_op (op_app (i := 2) H78 rfl rfl rfl rfl (H78.rd (i := 0) rfl) (by rw [vi_len, Nat.mul_one]) (vi_one) Try.underlying27 kfref5_2 rfl rfl (by unfold maxLen; omega) (by omega)) rfl rfl ?_
      rintro _ w83 ⟨A81, c82, rfl, H84⟩
      refine ry (y_asg rfl rfl) rfl rfl ?_
      refine reg_nil ?_
      refine fn_block ?_
      refine fn_next ?_
      refine cw_reg ?_
      refine ry (y_mov rfl rfl) rfl rfl ?_
      refine ry (y_add rfl rfl rfl (wi (by omega))) rfl rfl ?_
      refine ry (y_asg rfl rfl) rfl rfl ?_
      refine reg_nil ?_
      have hpl : out.length + 1 + (lebD ((k : Int) - 1)).length = (out ++ 0 :: lebD ((k : Int) - 1)).length := by simp only [List.length_append, List.length_cons]; omega
      rw [vi_push, ← vi_app, hpl, List.append_assoc, List.singleton_append] at H84
      refine fn_roundJ ⟨i + 1, out ++ 0 :: lebD ((k : Int) - 1), _, _, rfl, (H84.pick (m := [_]) [2] rfl (by decide)), by omega, by rw [List.append_assoc, ← hrr, hout], rfl⟩ ⟨rfl, by rw [← hpl]; rfl, trivial⟩ (by omega) (by repeat (first | exact kp_refl | refine kp_app rfl rfl ?_ | refine kp_cons rfl ?_)) rfl
    ·skip
     obtain ⟨hk1, hrr⟩ := rfrom_run (zs := zs) (i := i) (k := k) (by omega) (by omega) hrk hdk (by omega) (by omega)
     have hob2 : out.length + 1 + (lebD ((k : Int) - 1)).length ≤ 11 * zs.length := by have h1 := rfrom_bd (zs := zs) (out := out ++ 0 :: lebD ((k : Int) - 1)) (i := i + 1) (by rw [List.append_assoc, ← hrr, hout]); simp only [List.length_append, List.length_cons] at h1; omega
     refine rg_off rfl rfl rfl rfl rfl ?_
     refine rg_off rfl rfl rfl rfl rfl ?_
     refine rg_off rfl rfl rfl rfl rfl ?_
     refine rg_off rfl rfl rfl rfl rfl ?_
     refine rg_off rfl rfl rfl rfl rfl ?_
     refine rg_off rfl rfl rfl rfl rfl ?_
     refine rg_off rfl rfl rfl rfl rfl ?_
     refine ry (y_pick rfl rfl rfl) rfl rfl ?_
     refine reg_nil ?_
     refine fn_next ?_
     refine cw_condf rfl ?_
     refine cw_exit ?_
     refine fn_then_exit (fn_then_exit (fn_block_exit ?_))
     refine fn_next ?_
     refine cw_seq ?_
     refine cw_reg ?_
     refine ry (y_mov rfl rfl) rfl rfl ?_
     refine reg_op (op_lit (parts := [(0, _)]) (vs := [(0, _)]) (cs := [.int _ _]) H64 rfl Try.underlying27 kfref5_1 rfl ⟨rfl, trivial⟩ rfl rfl) rfl rfl ?_
     rintro _ w86 ⟨b85, rfl, H87⟩
     have H88 := H87.asrow (m := 1) (size := 1) rfl (by decide)
     refine reg_op (op_app (i := 1) (ys := [.int .u8 0]) H88 rfl rfl rfl rfl (H88.rd (i := 0) rfl) (rfl) (rfl) Try.underlying27 kfref5_2 rfl rfl (by unfold maxLen; omega) (by omega)) rfl rfl ?_
     rintro _ w91 ⟨A89, c90, rfl, H92⟩
     refine ry (y_asg rfl rfl) rfl rfl ?_
     refine reg_nil ?_
     refine fn_next ?_
     refine cw_reg ?_
     refine ry (y_mov rfl rfl) rfl rfl ?_
     refine ry (y_mov rfl rfl) rfl rfl ?_
     refine ry (y_sub rfl rfl rfl (wi (by omega))) rfl rfl ?_
     refine ry (y_conv rfl Try.underlying3 Try.underlying49 rfl (wu64 (by omega))) rfl rfl ?_
     refine reg_op (op_call (refBytes2 (((k : Int) - 1)) _ (⟨by omega, by omega⟩)) rfl kfref5_8 ⟨rfl, trivial⟩) rfl rfl ?_
     rintro _ w94 ⟨A96, c97, rfl, k93⟩
     have H95 := H92.call k93
     refine reg_op (op_app (i := 2) H95 rfl rfl rfl rfl (H95.rd (i := 0) rfl) (by rw [vi_len, Nat.mul_one]) (vi_one) Try.underlying27 kfref5_2 rfl rfl (by unfold maxLen; omega) (by omega)) rfl rfl ?_
     rintro _ w100 ⟨A98, c99, rfl, H101⟩
     refine ry (y_asg rfl rfl) rfl rfl ?_
     refine reg_nil ?_
     refine fn_block ?_
     refine fn_next ?_
     refine cw_reg ?_
     refine ry (y_mov rfl rfl) rfl rfl ?_
     refine ry (y_add rfl rfl rfl (wi (by omega))) rfl rfl ?_
     refine ry (y_asg rfl rfl) rfl rfl ?_
     refine reg_nil ?_
     have hpl : out.length + 1 + (lebD ((k : Int) - 1)).length = (out ++ 0 :: lebD ((k : Int) - 1)).length := by simp only [List.length_append, List.length_cons]; omega
     rw [vi_push, ← vi_app, hpl, List.append_assoc, List.singleton_append] at H101
     refine fn_roundJ ⟨i + 1, out ++ 0 :: lebD ((k : Int) - 1), _, _, rfl, (H101.pick (m := [_]) [2] rfl (by decide)), by omega, by rw [List.append_assoc, ← hrr, hout], rfl⟩ ⟨rfl, by rw [← hpl]; rfl, trivial⟩ (by omega) (by repeat (first | exact kp_refl | refine kp_app rfl rfl ?_ | refine kp_cons rfl ?_)) rfl
 ·skip
  refine cw_exit ?_
  refine fn_then_exit (fn_then_exit (fn_block_exit ?_))
  refine fn_next ?_
  refine cw_seq ?_
  refine cw_reg ?_
  refine ry (y_mov rfl rfl) rfl rfl ?_
  refine ry (y_asg rfl rfl) rfl rfl ?_
  refine reg_nil ?_
  refine fn_next ?_
  refine cw_ret ?_
  refine fn_ret1 rfl rfl ?_
  have hfin : out = runsB (rn zs 0) := by rw [← rfrom_0, ← hout, show i = zs.length by omega]; simp [rfrom, dz, rn, runsB]
  rw [hfin] at H6
  exact ⟨_, _, by rw [hfin], (H6.pick (m := [_]) [0] rfl (by decide))⟩

end Go.Proofs.Ytbnjbgcadkdljaa
