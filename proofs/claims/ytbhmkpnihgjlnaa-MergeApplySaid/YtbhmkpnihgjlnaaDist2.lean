/- Layer 43: the library's functions; how far, how near, the farthest one. -/
import Derived.Test.YtbhmkpnihgjlnaaDist1
import Derived.Test.YtbhmkpnihgjlnaaPlain43d
set_option linter.unusedVariables false
set_option linter.unusedSimpArgs false
namespace Go.Proofs.Ytbhmkpnihgjlnaa
open Go Go.RowKit
theorem kfdist2_1 : callB Try.prog 123 = true := by kernel_rfl
theorem kfdist2_2 : callB Try.prog 92 = true := by kernel_rfl
theorem kfdist2_3 : (Try.prog.info? 2).map (fun i => (i.zero.map (·.cells.toList), i.size, i.bytes)) = some (some [(.int .i64 0)], 1, 8) := by kernel_rfl
theorem kfdist2_4 : (Try.prog.info? 2).map (·.size) = some 1 := by kernel_rfl
theorem kfdist2_5 : elB Try.prog 22 1 = true := by kernel_rfl
theorem kfdist2_6 : oneB Try.prog 2 = true := by kernel_rfl
theorem kfdist2_7 : elB Try.prog 35 2 = true := by kernel_rfl
theorem kfdist2_8 : aggB Try.prog 46 2 = true := by kernel_rfl
theorem kfdist2_9 : seqB Try.prog 46 2 = true := by kernel_rfl
theorem kfdist2_10 : callB Try.prog 55 = true := by kernel_rfl
theorem kfdist2_11 : (Try.prog.info? 93).bind (fun i => i.zero.map Value.cells) = some (List.toArray [(.int .i64 0), (.slice none 0 0)]) := by kernel_rfl
theorem kfdist2_12 : szB Try.prog 93 2 = true := by kernel_rfl
theorem kfdist2_13 : aggB Try.prog 93 2 = true := by kernel_rfl
theorem kfdist2_14 : callB Try.prog 56 = true := by kernel_rfl
theorem kfdist2_15 : (Try.prog.info? 2).map (fun i => (i.size, i.zero.map Value.cells)) = some (1, some (List.toArray [(.int .i64 0)])) := by kernel_rfl
theorem kfdist2_16 : fldB Try.prog 93 1 1 = true := by kernel_rfl
theorem kfdist2_17 : oneB Try.prog 22 = true := by kernel_rfl
theorem kfdist2_18 : callB Try.prog 57 = true := by kernel_rfl
theorem kfdist2_19 : callB Try.prog 69 = true := by kernel_rfl
theorem kfdist2_20 : (Try.prog.info? 46).map (fun i => (i.size, i.zero.map Value.cells)) = some (2, some (List.toArray [(.int .i64 0), (.int .i64 0)])) := by kernel_rfl
theorem kfdist2_21 : (Try.prog.info? 46).map (fun i => (i.zero.map (·.cells.toList), i.size, i.bytes)) = some (some [(.int .i64 0), (.int .i64 0)], 2, 16) := by kernel_rfl
theorem kfdist2_22 : (Try.prog.info? 46).bind (fun i => i.zero.map Value.cells) = some (List.toArray [(.int .i64 0), (.int .i64 0)]) := by kernel_rfl
theorem kfdist2_23 : szB Try.prog 46 2 = true := by kernel_rfl
theorem kfdist2_24 : callB Try.prog 70 = true := by kernel_rfl
theorem kfdist2_25 : callB Try.prog 71 = true := by kernel_rfl
theorem u64_and32 {n : Nat} (h : n ≤ 4294967295) : IntKind.u64.wrap (BitVec.ofInt IntKind.u64.bits (n : Int) &&& BitVec.ofInt IntKind.u64.bits 4294967295).toNat = (n : Int) := by
  have h1 : (BitVec.ofInt IntKind.u64.bits (n : Int) &&& BitVec.ofInt IntKind.u64.bits 4294967295).toNat = n := by
    rw [BitVec.toNat_and, BitVec.toNat_ofInt, BitVec.toNat_ofInt]
    show ((n : Int) % 18446744073709551616).toNat &&& (4294967295 % 18446744073709551616 : Int).toNat = _
    rw [show (4294967295 % 18446744073709551616 : Int).toNat = 2 ^ 32 - 1 from rfl, Nat.and_two_pow_sub_one_eq_mod]
    omega
  rw [h1]
  exact wu64 (by omega)
theorem u64_shr32 {n : Nat} (h : n ≤ 4294967295) : ((n : Nat) : Int).fdiv (2 ^ (min (32 : Int).toNat IntKind.u64.bits)) = 0 := by
  rw [Int.fdiv_eq_ediv_of_nonneg _ (by decide)]
  show (n : Int) / 4294967296 = 0
  omega
theorem vi_two {L : List Int} {x y : Int} : vi .i64 L ++ [.int .i64 x, .int .i64 y] = vi .i64 (L ++ [x, y]) := by rw [vi_app]; rfl
theorem rd_rep64 {w : World} {A : Option Addr} {u : Int} {zs : List Int} {c m cap : Nat} (h : Rd w A (vi .i64 (List.replicate c u ++ zs))) (hm : m ≤ c) : Rd w (subA A cap 0 1) (vi .i64 (List.replicate m u)) := by
  rw [subA_zero]
  intro j x hj
  refine h j x ?_
  have hl : j < m := by
    have := (List.getElem?_eq_some_iff.1 hj).1
    simpa [vi] using this
  unfold vi at *
  rw [List.getElem?_map, List.getElem?_append_left (by simp; omega)]
  rw [List.getElem?_map] at hj
  rw [List.getElem?_replicate, if_pos (by omega)]
  rw [List.getElem?_replicate, if_pos hl] at hj
  exact hj
theorem rep_put64 {u : Int} {c m n : Nat} (h : c + m ≤ n) : putL (vi .i64 (List.replicate c u ++ List.replicate (n - c) 0)) c (vi .i64 (List.replicate m u)) = vi .i64 (List.replicate (c + m) u ++ List.replicate (n - (c + m)) 0) := by
  rw [putL_vi (List.replicate c u ++ List.replicate (n - c) 0) (List.replicate m u) c (by simp; omega)]
  congr 1
  rw [List.take_left' (by simp), List.length_replicate, List.drop_append, List.drop_of_length_le (by simp), List.nil_append, List.drop_replicate, List.length_replicate, List.replicate_append_replicate]
  congr 2; omega
theorem rep_len64 {u : Int} {m : Nat} : (vi .i64 (List.replicate m u)).length = m := by simp [vi]

set_option maxRecDepth 100000 in
theorem mul64One (n : Nat) (w : World) (hn : n ≤ 4294967295) :
    Ret Try.prog 123 [.int .u64 1, .int .u64 (n : Int)] w (fun v w' => v = .tuple #[.int .u64 0, .int .u64 (n : Int)] ∧ Below w.heap.size w w') := by
 refine ret_enter Try.func123 rfl rfl rfl ?_
 have H0 := HS.start w
 refine cw_seq ?_
 refine cw_reg ?_
 refine ry (y_asg rfl rfl) rfl rfl ?_
 refine ry (y_asg rfl rfl) rfl rfl ?_
 refine reg_nil ?_
 refine fn_next ?_
 refine cw_seq ?_
 refine cw_reg ?_
 refine ry (y_mov rfl rfl) rfl rfl ?_
 refine ry (y_and rfl rfl rfl (show _ = (1 : Int) from by decide +kernel)) rfl rfl ?_
 refine ry (y_asg rfl rfl) rfl rfl ?_
 refine reg_nil ?_
 refine fn_next ?_
 refine cw_seq ?_
 refine cw_reg ?_
 refine ry (y_mov rfl rfl) rfl rfl ?_
 refine ry (y_shr rfl rfl rfl (by omega) (show _ = (0 : Int) from by decide +kernel)) rfl rfl ?_
 refine ry (y_asg rfl rfl) rfl rfl ?_
 refine reg_nil ?_
 refine fn_next ?_
 refine cw_seq ?_
 refine cw_reg ?_
 refine ry (y_mov rfl rfl) rfl rfl ?_
 refine ry (y_and rfl rfl rfl (u64_and32 hn)) rfl rfl ?_
 refine ry (y_asg rfl rfl) rfl rfl ?_
 refine reg_nil ?_
 refine fn_next ?_
 refine cw_seq ?_
 refine cw_reg ?_
 refine ry (y_mov rfl rfl) rfl rfl ?_
 refine ry (y_shr rfl rfl rfl (by omega) (u64_shr32 hn)) rfl rfl ?_
 refine ry (y_asg rfl rfl) rfl rfl ?_
 refine reg_nil ?_
 refine fn_next ?_
 refine cw_seq ?_
 refine cw_reg ?_
 refine ry (y_mov rfl rfl) rfl rfl ?_
 refine ry (y_mov rfl rfl) rfl rfl ?_
 refine ry (y_mul rfl rfl rfl (show _ = (n : Int) from (by rw [Int.one_mul]; exact wu64 (by omega)))) rfl rfl ?_
 refine ry (y_asg rfl rfl) rfl rfl ?_
 refine reg_nil ?_
 refine fn_next ?_
 refine cw_seq ?_
 refine cw_reg ?_
 refine ry (y_mov rfl rfl) rfl rfl ?_
 refine ry (y_mov rfl rfl) rfl rfl ?_
 refine ry (y_mul rfl rfl rfl (show _ = (0 : Int) from by rw [Int.zero_mul]; decide +kernel)) rfl rfl ?_
 refine ry (y_mov rfl rfl) rfl rfl ?_
 refine ry (y_shr rfl rfl rfl (by omega) (u64_shr32 hn)) rfl rfl ?_
 refine ry (y_add rfl rfl rfl (show _ = (0 : Int) from by decide +kernel)) rfl rfl ?_
 refine ry (y_asg rfl rfl) rfl rfl ?_
 refine reg_nil ?_
 refine fn_next ?_
 refine cw_seq ?_
 refine cw_reg ?_
 refine ry (y_mov rfl rfl) rfl rfl ?_
 refine ry (y_and rfl rfl rfl (show _ = (0 : Int) from by decide +kernel)) rfl rfl ?_
 refine ry (y_asg rfl rfl) rfl rfl ?_
 refine reg_nil ?_
 refine fn_next ?_
 refine cw_seq ?_
 refine cw_reg ?_
 refine ry (y_mov rfl rfl) rfl rfl ?_
 refine ry (y_shr rfl rfl rfl (by omega) (show _ = (0 : Int) from by decide +kernel)) rfl rfl ?_
 refine ry (y_asg rfl rfl) rfl rfl ?_
 refine reg_nil ?_
 refine fn_next ?_
 refine cw_seq ?_
 refine cw_reg ?_
 refine ry (y_mov rfl rfl) rfl rfl ?_
 refine ry (y_mov rfl rfl) rfl rfl ?_
 refine ry (y_mov rfl rfl) rfl rfl ?_
 refine ry (y_mul rfl rfl rfl (show _ = (0 : Int) from by decide +kernel)) rfl rfl ?_
 refine ry (y_add rfl rfl rfl (show _ = (0 : Int) from by decide +kernel)) rfl rfl ?_
 refine ry (y_asg rfl rfl) rfl rfl ?_
 refine reg_nil ?_
 refine fn_next ?_
 refine cw_seq ?_
 refine cw_reg ?_
 refine ry (y_mov rfl rfl) rfl rfl ?_
 refine ry (y_mov rfl rfl) rfl rfl ?_
 refine ry (y_mul rfl rfl rfl (show _ = (0 : Int) from by decide +kernel)) rfl rfl ?_
 refine ry (y_mov rfl rfl) rfl rfl ?_
 refine ry (y_add rfl rfl rfl (show _ = (0 : Int) from by decide +kernel)) rfl rfl ?_
 refine ry (y_mov rfl rfl) rfl rfl ?_
 refine ry (y_shr rfl rfl rfl (by omega) (show _ = (0 : Int) from by decide +kernel)) rfl rfl ?_
 refine ry (y_add rfl rfl rfl (show _ = (0 : Int) from by decide +kernel)) rfl rfl ?_
 refine ry (y_asg rfl rfl) rfl rfl ?_
 refine reg_nil ?_
 refine fn_next ?_
 refine cw_seq ?_
 refine cw_reg ?_
 refine ry (y_mov rfl rfl) rfl rfl ?_
 refine ry (y_mov rfl rfl) rfl rfl ?_
 refine ry (y_mul rfl rfl rfl (show _ = (n : Int) from (by rw [Int.one_mul]; exact wu64 (by omega)))) rfl rfl ?_
 refine ry (y_asg rfl rfl) rfl rfl ?_
 refine reg_nil ?_
 refine fn_next ?_
 refine cw_ret ?_
 refine fn_retn (vs := [_, _]) rfl ⟨rfl, rfl, trivial⟩ rfl ?_
 exact ⟨rfl, H0.base⟩

set_option maxRecDepth 100000 in
theorem mulOne (n : Nat) (w : World) (hn : n ≤ 4294967295) :
    Ret Try.prog 92 [.int .u64 1, .int .u64 (n : Int)] w (fun v w' => v = .tuple #[.int .u64 0, .int .u64 (n : Int)] ∧ Below w.heap.size w w') := by
 refine ret_enter Try.func92 rfl rfl rfl ?_
 have H0 := HS.start w
 refine cw_seq ?_
 refine cw_reg ?_
 refine ry (y_asg rfl rfl) rfl rfl ?_
 refine ry (y_asg rfl rfl) rfl rfl ?_
 refine reg_nil ?_
 refine fn_next ?_
 refine cw_seq ?_
 refine cw_condf rfl ?_
 refine cw_skip ?_
 refine fn_next ?_
 refine cw_seq ?_
 refine cw_reg ?_
 refine ry (y_mov rfl rfl) rfl rfl ?_
 refine ry (y_mov rfl rfl) rfl rfl ?_
 refine reg_op (op_call (mul64One n _ hn) rfl kfdist2_1 ⟨rfl, rfl, trivial⟩) rfl rfl ?_
 rintro _ w2 ⟨rfl, e1⟩
 have H3 := H0.ext e1
 refine ry (y_mov rfl rfl) rfl rfl ?_
 refine ry (y_ext rfl rfl rfl) rfl rfl ?_
 refine ry (y_ext rfl rfl rfl) rfl rfl ?_
 refine ry (y_asg rfl rfl) rfl rfl ?_
 refine ry (y_asg rfl rfl) rfl rfl ?_
 refine reg_nil ?_
 refine fn_next ?_
 refine cw_seq ?_
 refine cw_reg ?_
 refine ry (y_mov rfl rfl) rfl rfl ?_
 refine ry (y_mov rfl rfl) rfl rfl ?_
 refine ry (y_asg rfl rfl) rfl rfl ?_
 refine ry (y_asg rfl rfl) rfl rfl ?_
 refine reg_nil ?_
 refine fn_next ?_
 refine cw_ret ?_
 refine fn_retn (vs := [_, _]) rfl ⟨rfl, rfl, trivial⟩ rfl ?_
 exact ⟨rfl, H3.base⟩

set_option maxRecDepth 100000 in
theorem repeat64 (A : Option Addr) (c0 n : Nat) (u : Int) (w : World) (h : Rd w A (vi .i64 [u])) (hn : n ≤ 1048576) (h0 : 1 ≤ n) :
    Ret Try.prog 57 [.slice A 1 c0, .int .i64 (n : Int)] w (fun v w' => ∃ A' cap', v = .slice A' n cap' ∧ HS w w' [.row A' n cap' (vi .i64 (List.replicate n u)) 2 1]) := by
 refine ret_enter Try.func57 rfl rfl rfl ?_
 have H0 := HS.start w
 refine cw_seq ?_
 refine cw_reg ?_
 refine ry (y_asg rfl rfl) rfl rfl ?_
 refine reg_nil ?_
 refine fn_next ?_
 refine cw_seq ?_
 refine cw_seq ?_
 refine cw_reg ?_
 refine ry (y_mov rfl rfl) rfl rfl ?_
 refine ry (y_lss rfl rfl rfl) rfl rfl ?_
 refine reg_nil ?_
 refine fn_next ?_
 refine cw_condd rfl (fun h1 => ?_) (fun h1 => ?_)
 · exfalso; omega
 ·skip
  refine cw_skip ?_
  refine fn_next ?_
  refine cw_seq ?_
  refine cw_reg ?_
  refine ry (y_mov rfl rfl) rfl rfl ?_
  refine ry (y_len rfl Try.underlying22 rfl) rfl rfl ?_
  refine ry (y_conv rfl Try.underlying3 Try.underlying134 rfl (wu64 (by omega))) rfl rfl ?_
  refine ry (y_mov rfl rfl) rfl rfl ?_
  refine ry (y_conv rfl Try.underlying3 Try.underlying134 rfl (wu64 (by omega))) rfl rfl ?_
  refine reg_op (op_call (mulOne n _ (by omega)) rfl kfdist2_2 ⟨rfl, rfl, trivial⟩) rfl rfl ?_
  rintro _ w3 ⟨rfl, e2⟩
  have H4 := H0.ext e2
  refine ry (y_mov rfl rfl) rfl rfl ?_
  refine ry (y_ext rfl rfl rfl) rfl rfl ?_
  refine ry (y_ext rfl rfl rfl) rfl rfl ?_
  refine ry (y_asg rfl rfl) rfl rfl ?_
  refine ry (y_asg rfl rfl) rfl rfl ?_
  refine reg_nil ?_
  refine fn_next ?_
  refine cw_seq ?_
  refine cw_seq ?_
  refine cw_reg ?_
  refine ry (y_mov rfl rfl) rfl rfl ?_
  refine ry (y_gtr rfl rfl rfl) rfl rfl ?_
  refine ry (y_mov rfl rfl) rfl rfl ?_
  refine rg_splitd (d := 23) rfl (fun h5 => ?_) (fun h5 => ?_)
  · exfalso; omega
  ·skip
   refine rgy (y_mov rfl rfl) rfl rfl rfl rfl ?_
   refine rgy (y_gtr rfl rfl rfl) rfl rfl rfl rfl ?_
   refine ry (y_pick rfl rfl rfl) rfl rfl ?_
   refine reg_nil ?_
   refine fn_next ?_
   refine cw_condd rfl (fun h6 => ?_) (fun h6 => ?_)
   · exfalso; omega
   ·skip
    refine cw_skip ?_
    refine fn_next ?_
    refine cw_seq ?_
    refine cw_reg ?_
    refine ry (y_mov rfl rfl) rfl rfl ?_
    refine ry (y_conv rfl Try.underlying134 Try.underlying3 rfl (wi (by omega))) rfl rfl ?_
    refine reg_op (op_make (m := n) H4 rfl rfl rfl (rfl) (rfl) Try.underlying22 kfdist2_3 (by omega) (by unfold maxLen; omega)) rfl rfl ?_
    rintro _ w8 ⟨b7, rfl, H9⟩
    refine ry (y_asg rfl rfl) rfl rfl ?_
    refine reg_nil ?_
    refine fn_next ?_
    refine cw_seq ?_
    refine cw_reg ?_
    refine ry (y_mov rfl rfl) rfl rfl ?_
    refine ry (y_mov rfl rfl) rfl rfl ?_
    refine reg_op (op_copy (i := 0) (lo := 0) (cs := vi .i64 (List.replicate 1 u)) H9 rfl (by rw [subA_zero]; rfl) rfl rfl Try.underlying22 kfdist2_4 (h.below H9.base) (by rw [rep_len64]; show 1 = min 1 n; omega) (by rw [rep_len64]; omega) (by omega) (by rw [rep_len64, vi_zero]; simp [vi]; omega) (rfl) rfl) rfl rfl ?_
    rintro _ w10 ⟨rfl, H11⟩
    rw [vi_zero, show List.replicate n (0 : Int) = List.replicate 0 u ++ List.replicate (n - 0) 0 by simp, rep_put64 (by omega), Nat.zero_add] at H11
    refine ry (y_asg rfl rfl) rfl rfl ?_
    refine reg_nil ?_
    refine fn_next ?_
    refine cw_seq ?_
    refine cw_block ?_
    refine cw_loopJ [8, 34, 35, 36, 37, 38, 39, 40, 41, 42, 43, 44, 45, 46] (fun M wl ml => ∃ (c : Nat), M = [(8, .int .i64 (c : Int))] ∧ HS w wl [Ob.row (some ⟨b7, 0, none⟩) n n (vi .i64 (List.replicate c u ++ List.replicate (n - c) 0)) 2 1] ∧ (1 ≤ c ∧ c ≤ n) ∧ ml = n - c) ⟨1, rfl, H11, ⟨by omega, by omega⟩, rfl⟩ ⟨rfl, trivial⟩ ?_
    rintro M w12 m14 ⟨c, rfl, H13, hp0, rfl⟩
    refine cw_seq ?_
    refine cw_seq ?_
    refine cw_reg ?_
    refine ry (y_mov rfl rfl) rfl rfl ?_
    refine ry (y_mov rfl rfl) rfl rfl ?_
    refine ry (y_len rfl Try.underlying22 rfl) rfl rfl ?_
    refine ry (y_lss rfl rfl rfl) rfl rfl ?_
    refine reg_nil ?_
    refine fn_next ?_
    refine cw_condd rfl (fun h15 => ?_) (fun h15 => ?_)
    ·skip
     refine cw_skip ?_
     refine fn_next ?_
     refine cw_block ?_
     refine cw_draw H13 [0, 1, 2, 3, 4, 5, 6] [7, 8, 9] (fun X HX => (HX.pick (m := []) [] rfl (by decide))) (by kernel_rfl) (by kernel_rfl) (by rfl) ?_
     simp only [pick, List.getElem?_cons_succ, List.getElem?_cons_zero]
     refine hk_y (fun Y HY => y_mov rfl rfl) rfl rfl ?_
     refine hk_y (fun Y HY => y_mov rfl rfl) rfl rfl ?_
     refine hk_y (fun Y HY => y_mov rfl rfl) rfl rfl ?_
     refine hk_y (fun Y HY => y_sl rfl rfl rfl kfdist2_5 (rfl) (by omega)) rfl rfl ?_
     refine hk_y (fun Y HY => y_mov rfl rfl) rfl rfl ?_
     refine hk_y (fun Y HY => y_mov rfl rfl) rfl rfl ?_
     refine hk_y (fun Y HY => y_sh rfl rfl rfl kfdist2_5 (rfl) (by omega)) rfl rfl ?_
     refine hk_nil ?_
     intro w16 H17
     have hsrc := fun cap => rd_rep64 (cap := cap) (m := min c (n - c)) (H17.rd (i := 0) rfl) (by omega)
     refine tv_op (op_copy (i := 0) (lo := c) (cs := vi .i64 (List.replicate (min c (n - c)) u)) H17 rfl (rfl) rfl rfl Try.underlying22 kfdist2_4 (hsrc _) (by rw [rep_len64] <;> rfl) (by rw [rep_len64]; omega) (by omega) (by rw [rep_len64, vi_len]; simp <;> omega) (vi_one) rfl) rfl rfl ?_
     rintro _ w18 ⟨rfl, H19⟩
     rw [rep_put64 (by omega)] at H19
     have hrl := rep_len64 (u := u) (m := min c (n - c))
     refine ⟨(H19.pick (m := []) [] rfl (by decide)), fun w20 e22 => ?_⟩
     have H21 := H19.ext e22
     refine tv_op (Yd.op (y_add rfl rfl rfl (wi (by omega)))) rfl rfl ?_
     rintro _ _ ⟨rfl, rfl⟩
     refine ⟨(H21.pick (m := []) [] rfl (by decide)), fun w23 e25 => ?_⟩
     have H24 := H21.ext e25
     refine tv_op (Yd.op (y_asg rfl rfl)) rfl rfl ?_
     rintro _ _ ⟨rfl, rfl⟩
     refine ⟨(H24.pick (m := []) [] rfl (by decide)), fun w26 e28 => ?_⟩
     have H27 := H24.ext e28
     refine tv_nil ?_
     refine fn_block ?_
     refine fn_roundJ ⟨c + min c (n - c), rfl, H27, ⟨by omega, by omega⟩, rfl⟩ ⟨si (by rw [rep_len64]; omega), trivial⟩ (by omega) (by repeat (first | exact kp_refl | refine kp_app rfl rfl ?_ | refine kp_cons rfl ?_)) rfl
    ·skip
     obtain rfl : c = n := by omega
     refine cw_exit ?_
     refine fn_then_exit (fn_then_exit (fn_block_exit ?_))
     refine fn_next ?_
     refine cw_seq ?_
     refine cw_reg ?_
     refine ry (y_mov rfl rfl) rfl rfl ?_
     refine ry (y_asg rfl rfl) rfl rfl ?_
     refine reg_nil ?_
     refine fn_next ?_
     refine cw_ret ?_
     refine fn_ret1 rfl rfl ?_
     simp only [Nat.sub_self, List.replicate_zero, List.append_nil] at H13
     exact ⟨_, _, rfl, H13⟩

set_option maxRecDepth 100000 in
theorem max64 (A : Option Addr) (n cap : Nat) (D : List Int) (w : World) (hr : Rd w A (vi .i64 D)) (hl : D.length = n) (hn : n ≤ 1048576) (h0 : 1 ≤ n) :
    Ret Try.prog 70 [.slice A n cap] w (fun v w' => v = .int .i64 (maxL D n) ∧ Below w.heap.size w w') := by
 have hg0 := vi_get (k := .i64) (zs := D) (i := 0) (by omega)
 refine ret_enter Try.func70 rfl rfl rfl ?_
 have H0 := HS.start w
 refine cw_seq ?_
 refine cw_reg ?_
 refine ry (y_asg rfl rfl) rfl rfl ?_
 refine reg_nil ?_
 refine fn_next ?_
 refine cw_seq ?_
 refine cw_seq ?_
 refine cw_reg ?_
 refine ry (y_mov rfl rfl) rfl rfl ?_
 refine ry (y_len rfl Try.underlying22 rfl) rfl rfl ?_
 refine ry (y_lss rfl rfl rfl) rfl rfl ?_
 refine reg_nil ?_
 refine fn_next ?_
 refine cw_condd rfl (fun h1 => ?_) (fun h1 => ?_)
 · exfalso; omega
 ·skip
  refine cw_skip ?_
  refine fn_next ?_
  refine cw_seq ?_
  refine cw_reg ?_
  refine ry (y_mov rfl rfl) rfl rfl ?_
  refine ry (y_iar (i := 0) (hr.below H0.base) rfl rfl rfl kfdist2_5 (rfl) (by omega) (Nat.mul_one _) (hg0)) rfl rfl ?_
  refine ry (y_ldr (hr.below H0.base) rfl rfl kfdist2_6 (hg0)) rfl rfl ?_
  refine ry (y_asg rfl rfl) rfl rfl ?_
  refine reg_nil ?_
  refine fn_next ?_
  refine cw_seq ?_
  refine cw_seq ?_
  refine cw_reg ?_
  refine ry (y_asg rfl rfl) rfl rfl ?_
  refine reg_nil ?_
  refine fn_next ?_
  refine cw_block ?_
  refine cw_loopJ [3, 4, 12, 13, 14, 15, 16, 17, 18, 19, 20, 21, 22, 23] (fun M wl ml => ∃ (i : Nat), M = [(3, .int .i64 (maxL D i)), (4, .int .i64 (i : Int))] ∧ HS w wl [] ∧ (1 ≤ i ∧ i ≤ n) ∧ ml = n - i) ⟨1, rfl, H0, ⟨by omega, by omega⟩, rfl⟩ ⟨rfl, rfl, trivial⟩ ?_
  rintro M w2 m4 ⟨i, rfl, H3, hp0, rfl⟩
  refine cw_seq ?_
  refine cw_seq ?_
  refine cw_reg ?_
  refine ry (y_mov rfl rfl) rfl rfl ?_
  refine ry (y_mov rfl rfl) rfl rfl ?_
  refine ry (y_len rfl Try.underlying22 rfl) rfl rfl ?_
  refine ry (y_lss rfl rfl rfl) rfl rfl ?_
  refine reg_nil ?_
  refine fn_next ?_
  refine cw_condd rfl (fun h5 => ?_) (fun h5 => ?_)
  ·skip
   have hgi := vi_get (k := .i64) (zs := D) (i := i) (by omega)
   refine cw_skip ?_
   refine fn_next ?_
   refine cw_seq ?_
   refine cw_block ?_
   refine cw_reg ?_
   refine ry (y_mov rfl rfl) rfl rfl ?_
   refine ry (y_mov rfl rfl) rfl rfl ?_
   refine ry (y_mov rfl rfl) rfl rfl ?_
   refine ry (y_iar (hr.below H3.base) rfl rfl rfl kfdist2_5 (rfl) (by omega) (Nat.mul_one _) (hgi)) rfl rfl ?_
   refine ry (y_ldr (hr.below H3.base) rfl rfl kfdist2_6 (hgi)) rfl rfl ?_
   refine ry (y_max rfl rfl rfl) rfl rfl ?_
   refine ry (y_asg rfl rfl) rfl rfl ?_
   refine reg_nil ?_
   refine fn_block ?_
   refine fn_next ?_
   refine cw_reg ?_
   refine ry (y_mov rfl rfl) rfl rfl ?_
   refine ry (y_add rfl rfl rfl (wi (by omega))) rfl rfl ?_
   refine ry (y_asg rfl rfl) rfl rfl ?_
   refine reg_nil ?_
   refine fn_roundJ ⟨i + 1, rfl, H3, ⟨by omega, by omega⟩, rfl⟩ ⟨si (maxL_succ hp0.1), rfl, trivial⟩ (by omega) (by repeat (first | exact kp_refl | refine kp_app rfl rfl ?_ | refine kp_cons rfl ?_)) rfl
  ·skip
   obtain rfl : i = n := by omega
   refine cw_exit ?_
   refine fn_then_exit (fn_then_exit (fn_block_exit ?_))
   refine fn_next ?_
   refine cw_seq ?_
   refine cw_reg ?_
   refine ry (y_mov rfl rfl) rfl rfl ?_
   refine ry (y_asg rfl rfl) rfl rfl ?_
   refine reg_nil ?_
   refine fn_next ?_
   refine cw_ret ?_
   refine fn_ret1 rfl rfl ?_
   exact ⟨rfl, H3.base⟩

set_option maxRecDepth 100000 in
theorem index64 (A : Option Addr) (n cap : Nat) (D : List Int) (w : World) (hr : Rd w A (vi .i64 D)) (hl : D.length = n) (hn : n ≤ 1048576) (h0 : 1 ≤ n) :
    Ret Try.prog 71 [.slice A n cap, .int .i64 (maxL D n)] w (fun v w' => v = .int .i64 (amx D n : Int) ∧ Below w.heap.size w w') := by
 refine ret_enter Try.func71 rfl rfl rfl ?_
 have H0 := HS.start w
 refine cw_seq ?_
 refine cw_reg ?_
 refine ry (y_asg rfl rfl) rfl rfl ?_
 refine reg_nil ?_
 refine fn_next ?_
 refine cw_seq ?_
 refine cw_seq ?_
 refine cw_reg ?_
 refine ry (y_mov rfl rfl) rfl rfl ?_
 refine ry (y_len rfl Try.underlying22 rfl) rfl rfl ?_
 refine ry (y_mov rfl rfl) rfl rfl ?_
 refine reg_nil ?_
 refine fn_next ?_
 refine cw_block ?_
 refine cw_loopJ [4, 5, 8, 9, 10, 11, 12, 13, 14, 15, 16, 17, 18] (fun M wl ml => ∃ (i : Nat), M = [(8, .int .i64 (i : Int))] ∧ HS w wl [] ∧ (i ≤ n) ∧ (Hid (∀ j, j < i → nth D j ≠ maxL D n)) ∧ ml = n - i) ⟨0, rfl, H0, Nat.zero_le _, Lib.hid (fun j hj => absurd hj (Nat.not_lt_zero _)), rfl⟩ ⟨rfl, trivial⟩ ?_
 rintro M w1 m3 ⟨i, rfl, H2, hp0, hp1, rfl⟩
 refine cw_seq ?_
 refine cw_reg ?_
 refine ry (y_lss rfl rfl rfl) rfl rfl ?_
 refine reg_nil ?_
 refine fn_next ?_
 refine cw_seq ?_
 refine cw_condd rfl (fun h4 => ?_) (fun h4 => ?_)
 ·skip
  have hi : i < n := by omega
  have hgi := vi_get (k := .i64) (zs := D) (i := i) (by omega)
  refine cw_skip ?_
  refine fn_next ?_
  refine cw_seq ?_
  refine cw_block ?_
  refine cw_seq ?_
  refine cw_reg ?_
  refine ry (y_mov rfl rfl) rfl rfl ?_
  refine ry (y_asg rfl rfl) rfl rfl ?_
  refine reg_nil ?_
  refine fn_next ?_
  refine cw_seq ?_
  refine cw_reg ?_
  refine ry (y_mov rfl rfl) rfl rfl ?_
  refine ry (y_mov rfl rfl) rfl rfl ?_
  refine ry (y_mov rfl rfl) rfl rfl ?_
  refine ry (y_iar (hr.below H2.base) rfl rfl rfl kfdist2_5 (rfl) (by omega) (Nat.mul_one _) (hgi)) rfl rfl ?_
  refine ry (y_ldr (hr.below H2.base) rfl rfl kfdist2_6 (hgi)) rfl rfl ?_
  refine ry (y_eql rfl rfl rfl) rfl rfl ?_
  refine reg_nil ?_
  refine fn_next ?_
  refine cw_condd rfl (fun hne => ?_) (fun hne => ?_)
  ·skip
   refine cw_seq ?_
   refine cw_reg ?_
   refine ry (y_mov rfl rfl) rfl rfl ?_
   refine ry (y_asg rfl rfl) rfl rfl ?_
   refine reg_nil ?_
   refine fn_next ?_
   refine cw_ret ?_
   refine fn_block_ret (fn_then_ret (fn_then_ret (fn_block_ret (fn_then_ret ?_))))
   refine fn_ret1 rfl rfl ?_
   rw [amx_first hi hne.symm hp1.out]
   exact ⟨rfl, H2.base⟩
  ·skip
   refine cw_skip ?_
   refine fn_block ?_
   refine fn_next ?_
   refine cw_reg ?_
   refine ry (y_add rfl rfl rfl (wi (by omega))) rfl rfl ?_
   refine ry (y_mov rfl rfl) rfl rfl ?_
   refine reg_nil ?_
   refine fn_roundJ ⟨i + 1, rfl, H2, by omega, Lib.hid (fun j hj => (Nat.lt_or_eq_of_le (Nat.le_of_lt_succ hj)).elim (hp1.out j) (fun e => e ▸ fun q => hne q.symm)), rfl⟩ ⟨rfl, trivial⟩ (by omega) (by repeat (first | exact kp_refl | refine kp_app rfl rfl ?_ | refine kp_cons rfl ?_)) rfl
 ·skip
  obtain ⟨k, hk, hke⟩ := maxL_mem (L := D) (n := n) h0
  exact absurd hke (hp1.out k (by omega))

theorem two_cell {L : List Int} {i : Nat} (h : i * 2 + 1 < L.length) : ∀ j v, ([.int .i64 (nth L (i * 2)), .int .i64 (nth L (i * 2 + 1))] : List Value)[j]? = some v → (vi .i64 L)[i * 2 + j]? = some v
  | 0, v, e => by rw [Nat.add_zero, vi_get (by omega)]; exact e
  | 1, v, e => by rw [vi_get h]; exact e
  | j + 2, v, e => by simp at e

set_option maxRecDepth 100000 in
theorem sameCells (A : Option Addr) (n cap : Nat) (A2 : Option Addr) (cap2 : Nat) (L : List Int) (w : World) (r1 : Rd w A (vi .i64 L)) (r2 : Rd w A2 (vi .i64 L)) (hl : L.length = n * 2) (hn : n ≤ 1048576) :
    Ret Try.prog 24 [.slice A n cap, .slice A2 n cap2] w (fun z w' => z = .bool true ∧ Below w.heap.size w w') := by
 refine ret_enter Try.func24 rfl rfl rfl ?_
 have H0 := HS.start w
 refine cw_seq ?_
 refine cw_reg ?_
 refine ry (y_asg rfl rfl) rfl rfl ?_
 refine reg_nil ?_
 refine fn_next ?_
 refine cw_seq ?_
 refine cw_seq ?_
 refine cw_reg ?_
 refine ry (y_mov rfl rfl) rfl rfl ?_
 refine ry (y_len rfl Try.underlying35 rfl) rfl rfl ?_
 refine ry (y_mov rfl rfl) rfl rfl ?_
 refine ry (y_len rfl Try.underlying35 rfl) rfl rfl ?_
 refine ry (y_neq rfl rfl rfl) rfl rfl ?_
 refine reg_nil ?_
 refine fn_next ?_
 refine cw_condd rfl (fun h1 => ?_) (fun h1 => ?_)
 · exfalso; omega
 ·skip
  refine cw_skip ?_
  refine fn_next ?_
  refine cw_seq ?_
  refine cw_seq ?_
  refine cw_reg ?_
  refine ry (y_asg rfl rfl) rfl rfl ?_
  refine reg_nil ?_
  refine fn_next ?_
  refine cw_block ?_
  refine cw_loopJ [4, 5, 11, 12, 13, 14, 15, 16, 17, 18, 19, 20, 21, 22, 23, 24, 25] (fun M wl ml => ∃ (i : Nat), M = [(5, .int .i64 (i : Int))] ∧ HS w wl [] ∧ (i ≤ n) ∧ ml = n - i) ⟨0, rfl, H0, Nat.zero_le _, rfl⟩ ⟨rfl, trivial⟩ ?_
  rintro M w2 m4 ⟨i, rfl, H3, hp0, rfl⟩
  refine cw_seq ?_
  refine cw_seq ?_
  refine cw_reg ?_
  refine ry (y_mov rfl rfl) rfl rfl ?_
  refine ry (y_mov rfl rfl) rfl rfl ?_
  refine ry (y_len rfl Try.underlying35 rfl) rfl rfl ?_
  refine ry (y_lss rfl rfl rfl) rfl rfl ?_
  refine reg_nil ?_
  refine fn_next ?_
  refine cw_condd rfl (fun h5 => ?_) (fun h5 => ?_)
  ·skip
   have hg := vi_get (k := .i64) (zs := L) (i := i * 2) (by omega)
   have hc := two_cell (L := L) (i := i) (by omega)
   refine cw_skip ?_
   refine fn_next ?_
   refine cw_seq ?_
   refine cw_block ?_
   refine cw_seq ?_
   refine cw_draw H3 [0, 1, 2, 3, 4, 5, 6, 7, 8] [] (fun X HX => HX) (by kernel_rfl) (by kernel_rfl) (by rfl) ?_
   simp only [pick, List.getElem?_cons_succ, List.getElem?_cons_zero]
   refine hk_y (fun Y HY => y_mov rfl rfl) rfl rfl ?_
   refine hk_y (fun Y HY => y_mov rfl rfl) rfl rfl ?_
   refine hk_y (fun Y HY => y_iar (r1.below HY.base) rfl rfl rfl kfdist2_7 (rfl) (by omega) (rfl) (hg)) rfl rfl ?_
   refine hk_y (fun Y HY => y_ldra (cs := [_, _]) (r1.below HY.base) rfl rfl kfdist2_8 rfl (by decide) (hc)) rfl rfl ?_
   refine hk_y (fun Y HY => y_mov rfl rfl) rfl rfl ?_
   refine hk_y (fun Y HY => y_mov rfl rfl) rfl rfl ?_
   refine hk_y (fun Y HY => y_iar (r2.below HY.base) rfl rfl rfl kfdist2_7 (rfl) (by omega) (rfl) (hg)) rfl rfl ?_
   refine hk_y (fun Y HY => y_ldra (cs := [_, _]) (r2.below HY.base) rfl rfl kfdist2_8 rfl (by decide) (hc)) rfl rfl ?_
   refine hk_y (fun Y HY => y_seq (ks := [.i64, .i64]) (a := [nth L (i * 2), nth L (i * 2 + 1)]) (b := [nth L (i * 2), nth L (i * 2 + 1)]) rfl (.inr ⟨rfl, rfl⟩) kfdist2_9 rfl rfl rfl rfl rfl rfl rfl) rfl rfl ?_
   refine hk_nil ?_
   intro w6 H7
   refine tv_nil ?_
   refine fn_next ?_
   refine cw_condd rfl (fun h8 => ?_) (fun h8 => ?_)
   · exact absurd rfl h8
   ·skip
    refine cw_skip ?_
    refine fn_block ?_
    refine fn_next ?_
    refine cw_reg ?_
    refine ry (y_mov rfl rfl) rfl rfl ?_
    refine ry (y_add rfl rfl rfl (wi (by omega))) rfl rfl ?_
    refine ry (y_asg rfl rfl) rfl rfl ?_
    refine reg_nil ?_
    refine fn_roundJ ⟨i + 1, rfl, H7, by omega, rfl⟩ ⟨rfl, trivial⟩ (by omega) (by repeat (first | exact kp_refl | refine kp_app rfl rfl ?_ | refine kp_cons rfl ?_)) rfl
  ·skip
   refine cw_exit ?_
   refine fn_then_exit (fn_then_exit (fn_block_exit ?_))
   refine fn_next ?_
   refine cw_seq ?_
   refine cw_reg ?_
   refine ry (y_asg rfl rfl) rfl rfl ?_
   refine reg_nil ?_
   refine fn_next ?_
   refine cw_ret ?_
   refine fn_ret1 rfl rfl ?_
   exact ⟨rfl, H3.base⟩

set_option maxRecDepth 100000 in
theorem dTo (g a h : Nat) (V : List Int) (t : Int) (w : World) (R : GRd w g a h V) :
    Ret Try.prog 18 [.pointer (some ⟨g, 0, none⟩), .int .i64 t] w (fun z w' => ∃ A cap, z = .tuple #[.slice A (a * h) cap, .int .i64 0] ∧ HS w w' [.row A (a * h) cap (vi .i64 (toL V a t (a * h))) 2 1]) := by
 have hgv := R.gv
 have ha : 1 ≤ a := hgv.a1
 have hm := hgv.sz.mul
 refine ret_enter Try.func18 rfl rfl rfl ?_
 have H0 := HS.start w
 refine cw_seq ?_
 refine cw_reg ?_
 refine ry (y_asg rfl rfl) rfl rfl ?_
 refine ry (y_asg rfl rfl) rfl rfl ?_
 refine reg_nil ?_
 refine fn_next ?_
 refine cw_seq ?_
 refine cw_reg ?_
 refine ry (y_mov rfl rfl) rfl rfl ?_
 refine ry (y_mov rfl rfl) rfl rfl ?_
 refine reg_op (op_call (dOf g a h (V) t _ (R.below H0.base)) rfl kfdist2_10 ⟨rfl, rfl, trivial⟩) rfl rfl ?_
 rintro _ w2 ⟨A4, c5, D, rfl, k1, hok⟩
 have H3 := H0.call k1
 have hDl : D.length = a * h := hok.len.trans hgv.len
 refine ry (y_mov rfl rfl) rfl rfl ?_
 refine ry (y_ext rfl rfl rfl) rfl rfl ?_
 refine ry (y_ext rfl rfl rfl) rfl rfl ?_
 refine reg_op (op_alloc H3 rfl kfdist2_11) rfl rfl ?_
 rintro _ w7 ⟨b6, rfl, H8⟩
 refine reg_op (op_st (i := 0) (vs := [.int _ _, .slice _ _ _]) H8 rfl rfl rfl rfl rfl kfdist2_12 rfl rfl rfl) rfl rfl ?_
 rintro _ w9 H10
 refine ry (y_asg rfl rfl) rfl rfl ?_
 refine reg_nil ?_
 refine fn_next ?_
 refine cw_seq ?_
 refine cw_seq ?_
 refine cw_reg ?_
 refine ry (y_mov rfl rfl) rfl rfl ?_
 refine ry (y_neq rfl rfl rfl) rfl rfl ?_
 refine reg_nil ?_
 refine fn_next ?_
 refine cw_condf rfl ?_
 refine cw_skip ?_
 refine fn_next ?_
 refine cw_seq ?_
 refine cw_seq ?_
 refine cw_reg ?_
 refine ry (y_ldb (i := 0) (cs := [_, _]) H10 rfl rfl kfdist2_13 rfl rfl) rfl rfl ?_
 refine reg_op (op_call (dNone a (a * h) c5 A4 D _ (H10.rd (i := 1) rfl) hDl hm.1) rfl kfdist2_14 ⟨rfl, trivial⟩) rfl rfl ?_
 rintro _ w12 ⟨rfl, e11⟩
 have H13 := H10.ext e11
 refine reg_nil ?_
 refine fn_next ?_
 refine cw_condd rfl (fun h14 => ?_) (fun h14 => ?_)
 ·skip
  have hno := (hok.no hgv.sz hgv.len (show 0 < V.length by rw [hgv.len]; exact hm.1)).1 h14
  refine cw_seq ?_
  refine cw_reg ?_
  refine reg_op (op_lit (parts := [(0, _)]) (vs := [(0, _)]) (cs := [.int _ _]) H13 rfl Try.underlying22 kfdist2_15 rfl ⟨rfl, trivial⟩ rfl rfl) rfl rfl ?_
  rintro _ w16 ⟨b15, rfl, H17⟩
  have H18 := H17.asrow (m := 1) (size := 1) rfl (by decide)
  refine ry (y_fa rfl rfl kfdist2_16 rfl) rfl rfl ?_
  refine ry (y_ld rfl rfl kfdist2_17 (H18.cell (i := 1) rfl rfl)) rfl rfl ?_
  refine ry (y_len rfl Try.underlying22 rfl) rfl rfl ?_
  refine reg_op (op_call (repeat64 _ _ (a * h) (-1) _ (H18.rd (i := 0) rfl) hm.2 hm.1) rfl kfdist2_18 ⟨rfl, rfl, trivial⟩) rfl rfl ?_
  rintro _ w20 ⟨A22, c23, rfl, k19⟩
  have H21 := H18.call k19
  refine ry (y_asg rfl rfl) rfl rfl ?_
  refine ry (y_asg rfl rfl) rfl rfl ?_
  refine reg_nil ?_
  refine fn_next ?_
  refine cw_ret ?_
  refine fn_then_ret ?_
  refine fn_retn (vs := [_, _]) rfl ⟨rfl, rfl, trivial⟩ rfl ?_
  rw [← toF_none (a := a) hno] at H21
  exact ⟨_, _, rfl, (H21.pick (m := [_]) [0] rfl (by decide))⟩
 ·skip
  have hno : ¬ noS V t := fun q => h14 ((hok.no hgv.sz hgv.len (show 0 < V.length by rw [hgv.len]; exact hm.1)).2 q)
  have hDe := hok.list hgv.sz hgv.len hno
  rw [hDe] at H13
  refine cw_skip ?_
  refine fn_next ?_
  refine cw_seq ?_
  refine cw_reg ?_
  refine ry (y_fa rfl rfl kfdist2_16 rfl) rfl rfl ?_
  refine ry (y_ld rfl rfl kfdist2_17 (H13.cell (i := 0) rfl rfl)) rfl rfl ?_
  refine ry (y_asg rfl rfl) rfl rfl ?_
  refine ry (y_asg rfl rfl) rfl rfl ?_
  refine reg_nil ?_
  refine fn_next ?_
  refine cw_ret ?_
  refine fn_retn (vs := [_, _]) rfl ⟨rfl, rfl, trivial⟩ rfl ?_
  exact ⟨_, _, rfl, (H13.pick (m := [_]) [1] rfl (by decide))⟩

set_option maxRecDepth 100000 in
theorem dWithin0 (g a h : Nat) (V : List Int) (t m : Int) (w : World) (R : GRd w g a h V) :
    Ret Try.prog 34 [.pointer (some ⟨g, 0, none⟩), .int .i64 t, .int .i64 m] w (fun z w' => ∃ A cap D, z = .tuple #[.slice A (selN (nearD D m) (a * h)) cap, .int .i64 0] ∧ HS w w' [.row A (selN (nearD D m) (a * h)) cap (vi .i64 (selC a (nearD D m) (a * h))) 46 2] ∧ DOk V D a t) := by
 have hgv := R.gv
 have ha : 1 ≤ a := hgv.a1
 have hm := hgv.sz.mul
 refine ret_enter Try.func34 rfl rfl rfl ?_
 have H0 := HS.start w
 refine cw_seq ?_
 refine cw_reg ?_
 refine ry (y_asg rfl rfl) rfl rfl ?_
 refine ry (y_asg rfl rfl) rfl rfl ?_
 refine reg_nil ?_
 refine fn_next ?_
 refine cw_seq ?_
 refine cw_reg ?_
 refine ry (y_mov rfl rfl) rfl rfl ?_
 refine ry (y_mov rfl rfl) rfl rfl ?_
 refine reg_op (op_call (dOf g a h (V) t _ (R.below H0.base)) rfl kfdist2_10 ⟨rfl, rfl, trivial⟩) rfl rfl ?_
 rintro _ w2 ⟨A4, c5, D, rfl, k1, hok⟩
 have H3 := H0.call k1
 have hDl : D.length = a * h := hok.len.trans hgv.len
 refine ry (y_mov rfl rfl) rfl rfl ?_
 refine ry (y_ext rfl rfl rfl) rfl rfl ?_
 refine ry (y_ext rfl rfl rfl) rfl rfl ?_
 refine reg_op (op_alloc H3 rfl kfdist2_11) rfl rfl ?_
 rintro _ w7 ⟨b6, rfl, H8⟩
 refine reg_op (op_st (i := 0) (vs := [.int _ _, .slice _ _ _]) H8 rfl rfl rfl rfl rfl kfdist2_12 rfl rfl rfl) rfl rfl ?_
 rintro _ w9 H10
 refine ry (y_asg rfl rfl) rfl rfl ?_
 refine reg_nil ?_
 refine fn_next ?_
 refine cw_seq ?_
 refine cw_seq ?_
 refine cw_reg ?_
 refine ry (y_mov rfl rfl) rfl rfl ?_
 refine ry (y_neq rfl rfl rfl) rfl rfl ?_
 refine reg_nil ?_
 refine fn_next ?_
 refine cw_condf rfl ?_
 refine cw_skip ?_
 refine fn_next ?_
 refine cw_seq ?_
 refine cw_reg ?_
 refine ry (y_asg rfl rfl) rfl rfl ?_
 refine reg_nil ?_
 refine fn_next ?_
 refine cw_seq ?_
 refine cw_seq ?_
 refine cw_reg ?_
 refine ry (y_fa rfl rfl kfdist2_16 rfl) rfl rfl ?_
 refine ry (y_ld rfl rfl kfdist2_17 (H10.cell (i := 0) rfl rfl)) rfl rfl ?_
 refine ry (y_len rfl Try.underlying22 rfl) rfl rfl ?_
 refine ry (y_mov rfl rfl) rfl rfl ?_
 refine reg_nil ?_
 refine fn_next ?_
 refine cw_block ?_
 have H11 := H10.nilrow 46 2
 refine cw_loopJ [10, 11, 12, 25, 26, 27, 28, 29, 30, 31, 32, 33, 34, 35, 36, 37, 38, 39, 40, 41, 42, 43] (fun M wl ml => ∃ (i : Nat) (A' : Option Addr) (cap' : Nat), M = [(25, .int .i64 (i : Int)), (10, .slice A' (selN (nearD D m) i) cap')] ∧ HS w wl [Ob.row A' (selN (nearD D m) i) cap' (vi .i64 (selC a (nearD D m) i)) 46 2, Ob.row A4 (a * h) c5 (vi .i64 (D)) 2 1, Ob.blk b6 [.int .i64 (a : Int), .slice A4 (a * h) c5] 93] ∧ (i ≤ a * h) ∧ ml = a * h - i) ⟨0, _, _, rfl, (H11.pick (m := [_, _, _]) [0, 2, 1] rfl (by decide)), Nat.zero_le _, rfl⟩ ⟨rfl, rfl, trivial⟩ ?_
 rintro M w12 m14 ⟨i, A', cap', rfl, H13, hp0, rfl⟩
 refine cw_seq ?_
 refine cw_reg ?_
 refine ry (y_lss rfl rfl rfl) rfl rfl ?_
 refine reg_nil ?_
 refine fn_next ?_
 refine cw_seq ?_
 refine cw_condd rfl (fun h15 => ?_) (fun h15 => ?_)
 ·skip
  have hi : i < a * h := by omega
  have hgi := vi_get (k := .i64) (zs := D) (i := i) (by omega)
  refine cw_skip ?_
  refine fn_next ?_
  refine cw_seq ?_
  refine cw_block ?_
  refine cw_seq ?_
  refine cw_reg ?_
  refine ry (y_mov rfl rfl) rfl rfl ?_
  refine ry (y_iar (H13.rd (i := 1) rfl) rfl rfl rfl kfdist2_5 (rfl) (by omega) (Nat.mul_one _) (hgi)) rfl rfl ?_
  refine ry (y_ldr (H13.rd (i := 1) rfl) rfl rfl kfdist2_6 (hgi)) rfl rfl ?_
  refine ry (y_asg rfl rfl) rfl rfl ?_
  refine ry (y_asg rfl rfl) rfl rfl ?_
  refine reg_nil ?_
  refine fn_next ?_
  refine cw_seq ?_
  refine cw_reg ?_
  refine ry (y_mov rfl rfl) rfl rfl ?_
  refine ry (y_mov rfl rfl) rfl rfl ?_
  refine ry (y_leq rfl rfl rfl) rfl rfl ?_
  refine ry (y_mov rfl rfl) rfl rfl ?_
  refine rg_splitd (d := 33) rfl (fun h16 => ?_) (fun h16 => ?_)
  ·skip
   have c1 := h16
   refine rgy (y_mov rfl rfl) rfl rfl rfl rfl ?_
   refine rgy (y_lss rfl rfl rfl) rfl rfl rfl rfl ?_
   refine ry (y_pick rfl rfl rfl) rfl rfl ?_
   refine reg_nil ?_
   refine fn_next ?_
   refine cw_condd rfl (fun h17 => ?_) (fun h17 => ?_)
   ·skip
    have hp : nearD D m i = true := decide_eq_true ⟨c1, h17⟩
    refine cw_reg ?_
    refine ry (y_mov rfl rfl) rfl rfl ?_
    refine ry (y_ldb (i := 2) (cs := [_, _]) H13 rfl rfl kfdist2_13 rfl rfl) rfl rfl ?_
    refine ry (y_mov rfl rfl) rfl rfl ?_
    refine reg_op (op_call (dAt a i _ _ _ _ ha (by omega)) rfl kfdist2_19 ⟨rfl, rfl, trivial⟩) rfl rfl ?_
    rintro _ w19 ⟨rfl, e18⟩
    have H20 := H13.ext e18
    refine reg_op (op_lit (parts := [(0, _)]) (vs := [(0, _)]) (cs := [.int _ _, .int _ _]) H20 rfl Try.underlying35 kfdist2_20 rfl ⟨rfl, trivial⟩ rfl rfl) rfl rfl ?_
    rintro _ w22 ⟨b21, rfl, H23⟩
    have H24 := H23.asrow (m := 1) (size := 2) rfl (by decide)
    refine reg_op (op_app (i := 1) H24 rfl rfl rfl rfl (H24.rd (i := 0) rfl) (rfl) (rfl) Try.underlying35 kfdist2_21 rfl rfl (by have := selN_le (p := nearD D m) i; unfold maxLen; omega) (by have := selN_le (p := nearD D m) i; omega)) rfl rfl ?_
    rintro _ w27 ⟨A25, c26, rfl, H28⟩
    refine ry (y_asg rfl rfl) rfl rfl ?_
    refine reg_nil ?_
    refine fn_block ?_
    refine fn_next ?_
    refine cw_reg ?_
    refine ry (y_add rfl rfl rfl (wi (by omega))) rfl rfl ?_
    refine ry (y_mov rfl rfl) rfl rfl ?_
    refine reg_nil ?_
    first | rw [vi_two, selC_t hp, selN_t hp] at H28 | rw [selC_f hp, selN_f hp] at H28
    refine fn_roundJ ⟨i + 1, _, _, rfl, (H28.pick (m := [_, _, _]) [1, 2, 3] rfl (by decide)), by omega, rfl⟩ ⟨rfl, by first | rfl | (rw [← selN_t hp]; rfl) | (rw [← selN_f hp]; rfl), trivial⟩ (by omega) (by repeat (first | exact kp_refl | refine kp_app rfl rfl ?_ | refine kp_cons rfl ?_)) rfl
   ·skip
    have hp : ¬ nearD D m i = true := fun q => h17 (of_decide_eq_true q).2
    refine cw_skip ?_
    refine fn_block ?_
    refine fn_next ?_
    refine cw_reg ?_
    refine ry (y_add rfl rfl rfl (wi (by omega))) rfl rfl ?_
    refine ry (y_mov rfl rfl) rfl rfl ?_
    refine reg_nil ?_
    first | rw [vi_two, selC_t hp, selN_t hp] at H13 | rw [selC_f hp, selN_f hp] at H13
    refine fn_roundJ ⟨i + 1, _, _, rfl, H13, by omega, rfl⟩ ⟨rfl, by first | rfl | (rw [← selN_t hp]; rfl) | (rw [← selN_f hp]; rfl), trivial⟩ (by omega) (by repeat (first | exact kp_refl | refine kp_app rfl rfl ?_ | refine kp_cons rfl ?_)) rfl
  ·skip
   have hp : ¬ nearD D m i = true := fun q => h16 (of_decide_eq_true q).1
   refine rg_off rfl rfl rfl rfl rfl ?_
   refine rg_off rfl rfl rfl rfl rfl ?_
   refine ry (y_pick rfl rfl rfl) rfl rfl ?_
   refine reg_nil ?_
   refine fn_next ?_
   refine cw_condf rfl ?_
   refine cw_skip ?_
   refine fn_block ?_
   refine fn_next ?_
   refine cw_reg ?_
   refine ry (y_add rfl rfl rfl (wi (by omega))) rfl rfl ?_
   refine ry (y_mov rfl rfl) rfl rfl ?_
   refine reg_nil ?_
   first | rw [vi_two, selC_t hp, selN_t hp] at H13 | rw [selC_f hp, selN_f hp] at H13
   refine fn_roundJ ⟨i + 1, _, _, rfl, H13, by omega, rfl⟩ ⟨rfl, by first | rfl | (rw [← selN_t hp]; rfl) | (rw [← selN_f hp]; rfl), trivial⟩ (by omega) (by repeat (first | exact kp_refl | refine kp_app rfl rfl ?_ | refine kp_cons rfl ?_)) rfl
 ·skip
  have hie : i = a * h := by omega
  subst hie
  refine cw_exit ?_
  refine fn_then_exit (fn_then_exit (fn_block_exit ?_))
  refine fn_next ?_
  refine cw_seq ?_
  refine cw_reg ?_
  refine ry (y_mov rfl rfl) rfl rfl ?_
  refine ry (y_asg rfl rfl) rfl rfl ?_
  refine ry (y_asg rfl rfl) rfl rfl ?_
  refine reg_nil ?_
  refine fn_next ?_
  refine cw_ret ?_
  refine fn_retn (vs := [_, _]) rfl ⟨rfl, rfl, trivial⟩ rfl ?_
  exact ⟨_, _, _, rfl, (H13.pick (m := [_]) [0] rfl (by decide)), hok⟩

theorem dWithin (g a h : Nat) (V : List Int) (t m : Int) (w : World) (R : GRd w g a h V) : Ret Try.prog 34 [.pointer (some ⟨g, 0, none⟩), .int .i64 t, .int .i64 m] w (fun z w' => ∃ A cap, z = .tuple #[.slice A (selN (nearW (toL V a t (a * h)) m) (a * h)) cap, .int .i64 0] ∧ HS w w' [.row A (selN (nearW (toL V a t (a * h)) m) (a * h)) cap (vi .i64 (selC a (nearW (toL V a t (a * h)) m) (a * h))) 46 2]) :=
  (dWithin0 g a h V t m w R).mono fun z w' ⟨A, cap, D, h1, h2, h3⟩ => by
    obtain ⟨e1, e2⟩ := sel_congr (a := a) (near_eq (m := m) h3 R.gv.sz R.gv.len)
    rw [e2] at h1
    rw [e1, e2] at h2
    exact ⟨A, cap, h1, h2⟩

set_option maxRecDepth 100000 in
theorem dFar_no (g a h : Nat) (V : List Int) (t : Int) (w : World) (R : GRd w g a h V) (hno : noS V t) :
    Ret Try.prog 35 [.pointer (some ⟨g, 0, none⟩), .int .i64 t] w (fun z w' => z = .tuple #[.agg #[.int .i64 0, .int .i64 0], .int .i64 0, .bool false, .int .i64 0] ∧ Below w.heap.size w w') := by
 have hgv := R.gv
 have ha : 1 ≤ a := hgv.a1
 have hm := hgv.sz.mul
 refine ret_enter Try.func35 rfl rfl rfl ?_
 have H0 := HS.start w
 refine cw_seq ?_
 refine cw_reg ?_
 refine reg_op (op_alloc H0 rfl kfdist2_22) rfl rfl ?_
 rintro _ w2 ⟨b1, rfl, H3⟩
 refine ry (y_asg rfl rfl) rfl rfl ?_
 refine ry (y_asg rfl rfl) rfl rfl ?_
 refine ry (y_asg rfl rfl) rfl rfl ?_
 refine reg_nil ?_
 refine fn_next ?_
 refine cw_seq ?_
 refine cw_reg ?_
 refine ry (y_mov rfl rfl) rfl rfl ?_
 refine ry (y_mov rfl rfl) rfl rfl ?_
 refine reg_op (op_call (dOf g a h (V) t _ (R.below H3.base)) rfl kfdist2_10 ⟨rfl, rfl, trivial⟩) rfl rfl ?_
 rintro _ w5 ⟨A7, c8, D, rfl, k4, hok⟩
 have H6 := H3.call k4
 have hDl : D.length = a * h := hok.len.trans hgv.len
 refine ry (y_mov rfl rfl) rfl rfl ?_
 refine ry (y_ext rfl rfl rfl) rfl rfl ?_
 refine ry (y_ext rfl rfl rfl) rfl rfl ?_
 refine reg_op (op_alloc H6 rfl kfdist2_11) rfl rfl ?_
 rintro _ w10 ⟨b9, rfl, H11⟩
 refine reg_op (op_st (i := 0) (vs := [.int _ _, .slice _ _ _]) H11 rfl rfl rfl rfl rfl kfdist2_12 rfl rfl rfl) rfl rfl ?_
 rintro _ w12 H13
 refine ry (y_asg rfl rfl) rfl rfl ?_
 refine reg_nil ?_
 refine fn_next ?_
 refine cw_seq ?_
 refine cw_seq ?_
 refine cw_reg ?_
 refine ry (y_mov rfl rfl) rfl rfl ?_
 refine ry (y_neq rfl rfl rfl) rfl rfl ?_
 refine ry (y_mov rfl rfl) rfl rfl ?_
 refine rgy (y_ldb (i := 0) (cs := [_, _]) H13 rfl rfl kfdist2_13 rfl rfl) rfl rfl rfl rfl ?_
 refine rg_on rfl rfl rfl (op_call (dNone a (a * h) c8 A7 D _ (H13.rd (i := 1) rfl) hDl hm.1) rfl kfdist2_14 ⟨rfl, trivial⟩) rfl ?_
 rintro _ w15 ⟨rfl, e14⟩
 have H16 := H13.ext e14
 refine ry (y_pick rfl rfl rfl) rfl rfl ?_
 refine reg_nil ?_
 refine fn_next ?_
 refine cw_condd rfl (fun h17 => ?_) (fun h17 => ?_)
 ·skip
  refine cw_seq ?_
  refine cw_reg ?_
  refine ry (y_build (places := [(0, 1), (1, 1)]) (parts := []) (vs := []) (cs := [.int _ _, .int _ _]) rfl Try.underlying46 (by kernel_rfl) kfdist2_22 rfl trivial rfl) rfl rfl ?_
  refine ry (y_mov rfl rfl) rfl rfl ?_
  refine reg_op (op_st (i := 2) (vs := [.int _ _, .int _ _]) H16 rfl rfl rfl rfl rfl kfdist2_23 rfl rfl rfl) rfl rfl ?_
  rintro _ w18 H19
  refine ry (y_asg rfl rfl) rfl rfl ?_
  refine ry (y_asg rfl rfl) rfl rfl ?_
  refine ry (y_asg rfl rfl) rfl rfl ?_
  refine reg_nil ?_
  refine fn_next ?_
  refine cw_ret ?_
  refine fn_then_ret ?_
  refine fn_retn (vs := [_, _, _, _]) rfl ⟨⟨_, rfl, load_agg (cs := [_, _]) kfdist2_8 rfl fun j v hv => by rw [Nat.zero_add]; exact H19.cell (i := 2) rfl hv⟩, rfl, rfl, rfl, trivial⟩ rfl ?_
  exact ⟨rfl, H19.base⟩
 · exact absurd ((hok.no hgv.sz hgv.len (show 0 < V.length by rw [hgv.len]; exact hm.1)).2 hno) h17

set_option maxRecDepth 100000 in
theorem dFar_ok (g a h : Nat) (V : List Int) (t : Int) (w : World) (R : GRd w g a h V) (hno : ¬ noS V t) :
    Ret Try.prog 35 [.pointer (some ⟨g, 0, none⟩), .int .i64 t] w (fun z w' => z = .tuple #[.agg #[.int .i64 ((amx (toL V a t (a * h)) (a * h) % a : Nat) : Int), .int .i64 ((amx (toL V a t (a * h)) (a * h) / a : Nat) : Int)], .int .i64 (nth (toL V a t (a * h)) (amx (toL V a t (a * h)) (a * h))), .bool true, .int .i64 0] ∧ Below w.heap.size w w') := by
 have hgv := R.gv
 have ha : 1 ≤ a := hgv.a1
 have hm := hgv.sz.mul
 refine ret_enter Try.func35 rfl rfl rfl ?_
 have H0 := HS.start w
 refine cw_seq ?_
 refine cw_reg ?_
 refine reg_op (op_alloc H0 rfl kfdist2_22) rfl rfl ?_
 rintro _ w2 ⟨b1, rfl, H3⟩
 refine ry (y_asg rfl rfl) rfl rfl ?_
 refine ry (y_asg rfl rfl) rfl rfl ?_
 refine ry (y_asg rfl rfl) rfl rfl ?_
 refine reg_nil ?_
 refine fn_next ?_
 refine cw_seq ?_
 refine cw_reg ?_
 refine ry (y_mov rfl rfl) rfl rfl ?_
 refine ry (y_mov rfl rfl) rfl rfl ?_
 refine reg_op (op_call (dOf g a h (V) t _ (R.below H3.base)) rfl kfdist2_10 ⟨rfl, rfl, trivial⟩) rfl rfl ?_
 rintro _ w5 ⟨A7, c8, D, rfl, k4, hok⟩
 have H6 := H3.call k4
 have hDl : D.length = a * h := hok.len.trans hgv.len
 refine ry (y_mov rfl rfl) rfl rfl ?_
 refine ry (y_ext rfl rfl rfl) rfl rfl ?_
 refine ry (y_ext rfl rfl rfl) rfl rfl ?_
 refine reg_op (op_alloc H6 rfl kfdist2_11) rfl rfl ?_
 rintro _ w10 ⟨b9, rfl, H11⟩
 refine reg_op (op_st (i := 0) (vs := [.int _ _, .slice _ _ _]) H11 rfl rfl rfl rfl rfl kfdist2_12 rfl rfl rfl) rfl rfl ?_
 rintro _ w12 H13
 refine ry (y_asg rfl rfl) rfl rfl ?_
 refine reg_nil ?_
 refine fn_next ?_
 refine cw_seq ?_
 refine cw_seq ?_
 refine cw_reg ?_
 refine ry (y_mov rfl rfl) rfl rfl ?_
 refine ry (y_neq rfl rfl rfl) rfl rfl ?_
 refine ry (y_mov rfl rfl) rfl rfl ?_
 refine rgy (y_ldb (i := 0) (cs := [_, _]) H13 rfl rfl kfdist2_13 rfl rfl) rfl rfl rfl rfl ?_
 refine rg_on rfl rfl rfl (op_call (dNone a (a * h) c8 A7 D _ (H13.rd (i := 1) rfl) hDl hm.1) rfl kfdist2_14 ⟨rfl, trivial⟩) rfl ?_
 rintro _ w15 ⟨rfl, e14⟩
 have H16 := H13.ext e14
 refine ry (y_pick rfl rfl rfl) rfl rfl ?_
 refine reg_nil ?_
 refine fn_next ?_
 refine cw_condd rfl (fun h17 => ?_) (fun h17 => ?_)
 · exact absurd ((hok.no hgv.sz hgv.len (show 0 < V.length by rw [hgv.len]; exact hm.1)).1 h17) hno
 ·skip
  refine cw_skip ?_
  refine fn_next ?_
  refine cw_seq ?_
  refine cw_reg ?_
  refine ry (y_fa rfl rfl kfdist2_16 rfl) rfl rfl ?_
  refine ry (y_ld rfl rfl kfdist2_17 (H16.cell (i := 0) rfl rfl)) rfl rfl ?_
  refine reg_op (op_call (max64 A7 (a * h) c8 D _ (H16.rd (i := 1) rfl) hDl hm.2 hm.1) rfl kfdist2_24 ⟨rfl, trivial⟩) rfl rfl ?_
  rintro _ w19 ⟨rfl, e18⟩
  have H20 := H16.ext e18
  refine ry (y_asg rfl rfl) rfl rfl ?_
  refine reg_nil ?_
  refine fn_next ?_
  refine cw_seq ?_
  refine cw_draw H20 [0, 1, 2, 3, 4, 5, 6] [7, 8, 9, 10] (fun X HX => (HX.pick (m := [_, _]) [0, 1] rfl (by decide))) (by kernel_rfl) (by kernel_rfl) (by rfl) ?_
  simp only [pick, List.getElem?_cons_succ, List.getElem?_cons_zero]
  refine hk_y (fun Y HY => y_ldb (i := 0) (cs := [_, _]) HY rfl rfl kfdist2_13 rfl rfl) rfl rfl ?_
  refine hk_y (fun Y HY => y_fa rfl rfl kfdist2_16 rfl) rfl rfl ?_
  refine hk_y (fun Y HY => y_ld rfl rfl kfdist2_17 (HY.cell (i := 0) rfl rfl)) rfl rfl ?_
  refine hk_y (fun Y HY => y_mov rfl rfl) rfl rfl ?_
  refine hk_q (qy_call (fun Y HY => index64 A7 (a * h) c8 D _ (HY.rd (i := 1) rfl) hDl hm.2 hm.1) rfl kfdist2_25 ⟨rfl, rfl, trivial⟩) rfl rfl ?_
  refine hk_q (qy_call (fun Y HY => dAt a (amx D (a * h)) _ _ _ _ ha (by have := amx_lt (L := D) (n := a * h) hm.1; omega)) rfl kfdist2_19 ⟨rfl, rfl, trivial⟩) rfl rfl ?_
  refine hk_y (fun Y HY => y_mov rfl rfl) rfl rfl ?_
  refine hk_nil ?_
  intro w21 H22
  refine tv_op (op_st (i := 2) (vs := [.int _ _, .int _ _]) H22 rfl rfl rfl rfl rfl kfdist2_23 rfl rfl rfl) rfl rfl ?_
  rintro _ w23 H24
  refine ⟨(H24.pick (m := [_, _]) [0, 1] rfl (by decide)), fun w25 e27 => ?_⟩
  have H26 := H24.ext e27
  refine tv_op (Yd.op (y_asg rfl rfl)) rfl rfl ?_
  rintro _ _ ⟨rfl, rfl⟩
  refine ⟨(H26.pick (m := [_, _]) [0, 1] rfl (by decide)), fun w28 e30 => ?_⟩
  have H29 := H26.ext e30
  refine tv_op (Yd.op (y_asg rfl rfl)) rfl rfl ?_
  rintro _ _ ⟨rfl, rfl⟩
  refine ⟨(H29.pick (m := [_, _]) [0, 1] rfl (by decide)), fun w31 e33 => ?_⟩
  have H32 := H29.ext e33
  refine tv_op (Yd.op (y_asg rfl rfl)) rfl rfl ?_
  rintro _ _ ⟨rfl, rfl⟩
  refine ⟨(H32.pick (m := [_, _]) [0, 1] rfl (by decide)), fun w34 e36 => ?_⟩
  have H35 := H32.ext e36
  refine tv_nil ?_
  refine fn_next ?_
  refine cw_ret ?_
  refine fn_retn (vs := [_, _, _, _]) rfl ⟨⟨_, rfl, load_agg (cs := [_, _]) kfdist2_8 rfl fun j v hv => by rw [Nat.zero_add]; exact H35.cell (i := 2) rfl hv⟩, rfl, rfl, rfl, trivial⟩ rfl ?_
  rw [maxL_amx hm.1, hok.list hgv.sz hgv.len hno]
  exact ⟨rfl, H35.base⟩

end Go.Proofs.Ytbhmkpnihgjlnaa
