/- Layer 8: the library's functions on rows of int32. -/
import Derived.Test.YtkphmcaoioaglaaK9
set_option linter.unusedVariables false
set_option linter.unusedSimpArgs false
namespace Go.Proofs.Ytkphmcaoioaglaa
open Go Go.RowKit
theorem kfslab0_1 : callB Try.prog 130 = true := by kernel_rfl
theorem kfslab0_2 : callB Try.prog 126 = true := by kernel_rfl
theorem kfslab0_3 : (Try.prog.info? 21).map (fun i => (i.zero.map (·.cells.toList), i.size, i.bytes)) = some (some [(.int .i32 0)], 1, 4) := by kernel_rfl
theorem kfslab0_4 : (Try.prog.info? 21).map (·.size) = some 1 := by kernel_rfl
theorem kfslab0_5 : elB Try.prog 129 1 = true := by kernel_rfl
theorem kfslab0_6 : (Try.prog.info? 21).map (fun i => (i.size, i.zero.map Value.cells)) = some (1, some (List.toArray [(.int .i32 0)])) := by kernel_rfl
theorem kfslab0_7 : oneB Try.prog 21 = true := by kernel_rfl
theorem u64_one_and {n : Nat} (h : n ≤ 256) : IntKind.u64.wrap (BitVec.ofInt IntKind.u64.bits (n : Int) &&& BitVec.ofInt IntKind.u64.bits 4294967295).toNat = (n : Int) := by
  have : ∀ n : Nat, n < 257 → IntKind.u64.wrap (BitVec.ofInt IntKind.u64.bits (n : Int) &&& BitVec.ofInt IntKind.u64.bits 4294967295).toNat = (n : Int) := by decide +kernel
  exact this n (by omega)
theorem u64_shr {n : Nat} (h : n ≤ 256) : ((n : Nat) : Int).fdiv (2 ^ (min (32 : Int).toNat IntKind.u64.bits)) = 0 := by
  have : ∀ n : Nat, n < 257 → ((n : Nat) : Int).fdiv (2 ^ (min (32 : Int).toNat IntKind.u64.bits)) = 0 := by decide +kernel
  exact this n (by omega)
def mnI (V : List Int) : Nat → Int | 0 => nth V 0 | i + 1 => min (mnI V i) (nth V i)
def mxI (V : List Int) : Nat → Int | 0 => nth V 0 | i + 1 => max (mxI V i) (nth V i)
theorem mnI_one {V : List Int} : mnI V 1 = nth V 0 := by simp [mnI]
theorem mxI_one {V : List Int} : mxI V 1 = nth V 0 := by simp [mxI]
theorem rd_rep {w : World} {A : Option Addr} {u : Int} {zs : List Int} {c m cap : Nat} (h : Rd w A (vi .i32 (List.replicate c u ++ zs))) (hc : c ≤ cap) (hm : m ≤ c) : Rd w (subA A cap 0 1) (vi .i32 (List.replicate m u)) := by
  rw [subA_zero]
  intro j x hj
  refine h j x ?_
  have hl : j < m := by
    have := (List.getElem?_eq_some_iff.1 hj).1
    simpa [vi] using this
  unfold vi at *
  rw [List.getElem?_map, List.getElem?_append_left (by simp; omega)]
  rw [List.getElem?_map] at hj
  rw [List.getElem?_replicate, if_pos (by omega)]
  rw [List.getElem?_replicate, if_pos hl] at hj
  exact hj
theorem rep_put {u : Int} {c m n : Nat} (h : c + m ≤ n) : putL (vi .i32 (List.replicate c u ++ List.replicate (n - c) 0)) c (vi .i32 (List.replicate m u)) = vi .i32 (List.replicate (c + m) u ++ List.replicate (n - (c + m)) 0) := by
  rw [putL_vi (List.replicate c u ++ List.replicate (n - c) 0) (List.replicate m u) c (by simp; omega)]
  congr 1
  rw [List.take_left' (by simp), List.length_replicate, List.drop_append, List.drop_of_length_le (by simp), List.nil_append, List.drop_replicate, List.length_replicate, List.replicate_append_replicate]
  congr 2; omega
theorem rep_len {u : Int} {m : Nat} : (vi .i32 (List.replicate m u)).length = m := by simp [vi]

set_option maxRecDepth 100000 in
theorem Mul64_any (n : Nat) (w : World) (hn : n ≤ 256) :
    Ret Try.prog 130 [.int .u64 1, .int .u64 (n : Int)] w (fun v w' => v = .tuple #[.int .u64 0, .int .u64 (n : Int)] ∧ Below w.heap.size w w') := by
  refine ret_enter Try.func130 rfl rfl rfl ?_
  have H0 := HS.start w
  refine cw_seq ?_
  refine cw_reg ?_
  refine ry (y_asg rfl rfl) rfl rfl ?_
  refine ry (y_asg rfl rfl) rfl rfl ?_
  refine reg_nil ?_
  refine fn_next ?_
  refine cw_seq ?_
  refine cw_reg ?_
  refine ry (y_mov rfl rfl) rfl rfl ?_
  refine ry (y_and rfl rfl rfl (show _ = (1 : Int) from by decide +kernel)) rfl rfl ?_
  refine ry (y_asg rfl rfl) rfl rfl ?_
  refine reg_nil ?_
  refine fn_next ?_
  refine cw_seq ?_
  refine cw_reg ?_
  refine ry (y_mov rfl rfl) rfl rfl ?_
  refine ry (y_shr rfl rfl rfl (by omega) (show _ = (0 : Int) from by decide +kernel)) rfl rfl ?_
  refine ry (y_asg rfl rfl) rfl rfl ?_
  refine reg_nil ?_
  refine fn_next ?_
  refine cw_seq ?_
  refine cw_reg ?_
  refine ry (y_mov rfl rfl) rfl rfl ?_
  refine ry (y_and rfl rfl rfl (u64_one_and hn)) rfl rfl ?_
  refine ry (y_asg rfl rfl) rfl rfl ?_
  refine reg_nil ?_
  refine fn_next ?_
  refine cw_seq ?_
  refine cw_reg ?_
  refine ry (y_mov rfl rfl) rfl rfl ?_
  refine ry (y_shr rfl rfl rfl (by omega) (u64_shr hn)) rfl rfl ?_
  refine ry (y_asg rfl rfl) rfl rfl ?_
  refine reg_nil ?_
  refine fn_next ?_
  refine cw_seq ?_
  refine cw_reg ?_
  refine ry (y_mov rfl rfl) rfl rfl ?_
  refine ry (y_mov rfl rfl) rfl rfl ?_
  refine ry (y_mul rfl rfl rfl (show _ = (n : Int) from (by rw [Int.one_mul]; exact wu64 (by omega)))) rfl rfl ?_
  refine ry (y_asg rfl rfl) rfl rfl ?_
  refine reg_nil ?_
  refine fn_next ?_
  refine cw_seq ?_
  refine cw_reg ?_
  refine ry (y_mov rfl rfl) rfl rfl ?_
  refine ry (y_mov rfl rfl) rfl rfl ?_
  refine ry (y_mul rfl rfl rfl (show _ = (0 : Int) from by rw [Int.zero_mul]; decide +kernel)) rfl rfl ?_
  refine ry (y_mov rfl rfl) rfl rfl ?_
  refine ry (y_shr rfl rfl rfl (by omega) (u64_shr (by omega))) rfl rfl ?_
  refine ry (y_add rfl rfl rfl (show _ = (0 : Int) from by decide +kernel)) rfl rfl ?_
  refine ry (y_asg rfl rfl) rfl rfl ?_
  refine reg_nil ?_
  refine fn_next ?_
  refine cw_seq ?_
  refine cw_reg ?_
  refine ry (y_mov rfl rfl) rfl rfl ?_
  refine ry (y_and rfl rfl rfl (show _ = (0 : Int) from by decide +kernel)) rfl rfl ?_
  refine ry (y_asg rfl rfl) rfl rfl ?_
  refine reg_nil ?_
  refine fn_next ?_
  refine cw_seq ?_
  refine cw_reg ?_
  refine ry (y_mov rfl rfl) rfl rfl ?_
  refine ry (y_shr rfl rfl rfl (by omega) (show _ = (0 : Int) from by decide +kernel)) rfl rfl ?_
  refine ry (y_asg rfl rfl) rfl rfl ?_
  refine reg_nil ?_
  refine fn_next ?_
  refine cw_seq ?_
  refine cw_reg ?_
  refine ry (y_mov rfl rfl) rfl rfl ?_
  refine ry (y_mov rfl rfl) rfl rfl ?_
  refine ry (y_mov rfl rfl) rfl rfl ?_
  refine ry (y_mul rfl rfl rfl (show _ = (0 : Int) from by decide +kernel)) rfl rfl ?_
  refine ry (y_add rfl rfl rfl (show _ = (0 : Int) from by decide +kernel)) rfl rfl ?_
  refine ry (y_asg rfl rfl) rfl rfl ?_
  refine reg_nil ?_
  refine fn_next ?_
  refine cw_seq ?_
  refine cw_reg ?_
  refine ry (y_mov rfl rfl) rfl rfl ?_
  refine ry (y_mov rfl rfl) rfl rfl ?_
  refine ry (y_mul rfl rfl rfl (show _ = (0 : Int) from by decide +kernel)) rfl rfl ?_
  refine ry (y_mov rfl rfl) rfl rfl ?_
  refine ry (y_add rfl rfl rfl (show _ = (0 : Int) from by decide +kernel)) rfl rfl ?_
  refine ry (y_mov rfl rfl) rfl rfl ?_
  refine ry (y_shr rfl rfl rfl (by omega) (show _ = (0 : Int) from by decide +kernel)) rfl rfl ?_
  refine ry (y_add rfl rfl rfl (show _ = (0 : Int) from by decide +kernel)) rfl rfl ?_
  refine ry (y_asg rfl rfl) rfl rfl ?_
  refine reg_nil ?_
  refine fn_next ?_
  refine cw_seq ?_
  refine cw_reg ?_
  refine ry (y_mov rfl rfl) rfl rfl ?_
  refine ry (y_mov rfl rfl) rfl rfl ?_
  refine ry (y_mul rfl rfl rfl (show _ = (n : Int) from (by rw [Int.one_mul]; exact wu64 (by omega)))) rfl rfl ?_
  refine ry (y_asg rfl rfl) rfl rfl ?_
  refine reg_nil ?_
  refine fn_next ?_
  refine cw_ret ?_
  refine fn_retn (vs := [_, _]) rfl ⟨rfl, rfl, trivial⟩ rfl ?_
  exact ⟨rfl, H0.base⟩

set_option maxRecDepth 100000 in
theorem Mul_any (n : Nat) (w : World) (hn : n ≤ 256) :
    Ret Try.prog 126 [.int .u64 1, .int .u64 (n : Int)] w (fun v w' => v = .tuple #[.int .u64 0, .int .u64 (n : Int)] ∧ Below w.heap.size w w') := by
  refine ret_enter Try.func126 rfl rfl rfl ?_
  have H0 := HS.start w
  refine cw_seq ?_
  refine cw_reg ?_
  refine ry (y_asg rfl rfl) rfl rfl ?_
  refine ry (y_asg rfl rfl) rfl rfl ?_
  refine reg_nil ?_
  refine fn_next ?_
  refine cw_seq ?_
  refine cw_condf rfl ?_
  refine cw_skip ?_
  refine fn_next ?_
  refine cw_seq ?_
  refine cw_reg ?_
  refine ry (y_mov rfl rfl) rfl rfl ?_
  refine ry (y_mov rfl rfl) rfl rfl ?_
  refine reg_op (op_call (Mul64_any n _ hn) rfl kfslab0_1 ⟨rfl, rfl, trivial⟩) rfl rfl ?_
  rintro _ w2 ⟨rfl, e1⟩
  have H3 := H0.ext e1
  refine ry (y_mov rfl rfl) rfl rfl ?_
  refine ry (y_ext rfl rfl rfl) rfl rfl ?_
  refine ry (y_ext rfl rfl rfl) rfl rfl ?_
  refine ry (y_asg rfl rfl) rfl rfl ?_
  refine ry (y_asg rfl rfl) rfl rfl ?_
  refine reg_nil ?_
  refine fn_next ?_
  refine cw_seq ?_
  refine cw_reg ?_
  refine ry (y_mov rfl rfl) rfl rfl ?_
  refine ry (y_mov rfl rfl) rfl rfl ?_
  refine ry (y_asg rfl rfl) rfl rfl ?_
  refine ry (y_asg rfl rfl) rfl rfl ?_
  refine reg_nil ?_
  refine fn_next ?_
  refine cw_ret ?_
  refine fn_retn (vs := [_, _]) rfl ⟨rfl, rfl, trivial⟩ rfl ?_
  exact ⟨rfl, H3.base⟩

set_option maxRecDepth 100000 in
theorem RepeatR_any (A : Option Addr) (c0 n : Nat) (u : Int) (w : World) (h : Rd w A (vi .i32 [u])) (hn : n ≤ 256) (h0 : 1 ≤ n) :
    Ret Try.prog 119 [.slice A 1 c0, .int .i64 (n : Int)] w (fun v w' => ∃ A' cap', v = .slice A' n cap' ∧ HS w w' [.row A' n cap' (vi .i32 (List.replicate n u)) 21 1]) := by
  refine ret_enter Try.func119 rfl rfl rfl ?_
  have H0 := HS.start w
  refine cw_seq ?_
  refine cw_reg ?_
  refine ry (y_asg rfl rfl) rfl rfl ?_
  refine reg_nil ?_
  refine fn_next ?_
  refine cw_seq ?_
  refine cw_seq ?_
  refine cw_reg ?_
  refine ry (y_mov rfl rfl) rfl rfl ?_
  refine ry (y_lss rfl rfl rfl) rfl rfl ?_
  refine reg_nil ?_
  refine fn_next ?_
  refine cw_condd rfl (fun h1 => ?_) (fun h1 => ?_)
  · exfalso; omega
  · skip
    refine cw_skip ?_
    refine fn_next ?_
    refine cw_seq ?_
    refine cw_reg ?_
    refine ry (y_mov rfl rfl) rfl rfl ?_
    refine ry (y_len rfl Try.underlying129 rfl) rfl rfl ?_
    refine ry (y_conv rfl Try.underlying3 Try.underlying166 rfl (wu64 (by omega))) rfl rfl ?_
    refine ry (y_mov rfl rfl) rfl rfl ?_
    refine ry (y_conv rfl Try.underlying3 Try.underlying166 rfl (wu64 (by omega))) rfl rfl ?_
    refine reg_op (op_call (Mul_any n _ hn) rfl kfslab0_2 ⟨rfl, rfl, trivial⟩) rfl rfl ?_
    rintro _ w3 ⟨rfl, e2⟩
    have H4 := H0.ext e2
    refine ry (y_mov rfl rfl) rfl rfl ?_
    refine ry (y_ext rfl rfl rfl) rfl rfl ?_
    refine ry (y_ext rfl rfl rfl) rfl rfl ?_
    refine ry (y_asg rfl rfl) rfl rfl ?_
    refine ry (y_asg rfl rfl) rfl rfl ?_
    refine reg_nil ?_
    refine fn_next ?_
    refine cw_seq ?_
    refine cw_seq ?_
    refine cw_reg ?_
    refine ry (y_mov rfl rfl) rfl rfl ?_
    refine ry (y_gtr rfl rfl rfl) rfl rfl ?_
    refine ry (y_mov rfl rfl) rfl rfl ?_
    refine rg_splitd (d := 23) rfl (fun h5 => ?_) (fun h5 => ?_)
    · exfalso; omega
    · skip
      refine rgy (y_mov rfl rfl) rfl rfl rfl rfl ?_
      refine rgy (y_gtr rfl rfl rfl) rfl rfl rfl rfl ?_
      refine ry (y_pick rfl rfl rfl) rfl rfl ?_
      refine reg_nil ?_
      refine fn_next ?_
      refine cw_condd rfl (fun h6 => ?_) (fun h6 => ?_)
      · exfalso; omega
      · skip
        refine cw_skip ?_
        refine fn_next ?_
        refine cw_seq ?_
        refine cw_reg ?_
        refine ry (y_mov rfl rfl) rfl rfl ?_
        refine ry (y_conv rfl Try.underlying166 Try.underlying3 rfl (wi (by omega))) rfl rfl ?_
        refine reg_op (op_make (m := n) H4 rfl rfl rfl (rfl) (rfl) Try.underlying129 kfslab0_3 (by omega) (by unfold maxLen; omega)) rfl rfl ?_
        rintro _ w8 ⟨b7, rfl, H9⟩
        refine ry (y_asg rfl rfl) rfl rfl ?_
        refine reg_nil ?_
        refine fn_next ?_
        refine cw_seq ?_
        refine cw_reg ?_
        refine ry (y_mov rfl rfl) rfl rfl ?_
        refine ry (y_mov rfl rfl) rfl rfl ?_
        refine reg_op (op_copy (i := 0) (lo := 0) (cs := vi .i32 (List.replicate 1 u)) H9 rfl (by rw [subA_zero]; rfl) rfl rfl Try.underlying129 kfslab0_4 (h.below H9.base) (by rw [rep_len]; show 1 = min 1 n; omega) (by rw [rep_len]; omega) (by omega) (by rw [rep_len, vi_zero]; simp [vi]; omega) (rfl) rfl) rfl rfl ?_
        rintro _ w10 ⟨rfl, H11⟩
        rw [vi_zero, show List.replicate n (0 : Int) = List.replicate 0 u ++ List.replicate (n - 0) 0 by simp, rep_put (by omega), Nat.zero_add] at H11
        refine ry (y_asg rfl rfl) rfl rfl ?_
        refine reg_nil ?_
        refine fn_next ?_
        refine cw_seq ?_
        refine cw_block ?_
        refine cw_loopJ [8, 34, 35, 36, 37, 38, 39, 40, 41, 42, 43, 44, 45, 46] (fun M wl ml => ∃ (c : Nat), M = [(8, .int .i64 (c : Int))] ∧ HS w wl [Ob.row (some ⟨b7, 0, none⟩) n n (vi .i32 (List.replicate c u ++ List.replicate (n - c) 0)) 21 1] ∧ (1 ≤ c ∧ c ≤ n) ∧ ml = n - c) ⟨1, rfl, H11, ⟨by omega, by omega⟩, rfl⟩ ⟨rfl, trivial⟩ ?_
        rintro M w12 m14 ⟨c, rfl, H13, hp0, rfl⟩
        refine cw_seq ?_
        refine cw_seq ?_
        refine cw_reg ?_
        refine ry (y_mov rfl rfl) rfl rfl ?_
        refine ry (y_mov rfl rfl) rfl rfl ?_
        refine ry (y_len rfl Try.underlying129 rfl) rfl rfl ?_
        refine ry (y_lss rfl rfl rfl) rfl rfl ?_
        refine reg_nil ?_
        refine fn_next ?_
        refine cw_condd rfl (fun h15 => ?_) (fun h15 => ?_)
        · skip
          refine cw_skip ?_
          refine fn_next ?_
          refine cw_block ?_
          refine cw_draw H13 [0, 1, 2, 3, 4, 5, 6] [7, 8, 9] (fun X HX => (HX.pick (m := []) [] rfl (by decide))) (by kernel_rfl) (by kernel_rfl) (by rfl) ?_
          simp only [pick, List.getElem?_cons_succ, List.getElem?_cons_zero]
          refine hk_y (fun Y HY => y_mov rfl rfl) rfl rfl ?_
          refine hk_y (fun Y HY => y_mov rfl rfl) rfl rfl ?_
          refine hk_y (fun Y HY => y_mov rfl rfl) rfl rfl ?_
          refine hk_y (fun Y HY => y_sl rfl rfl rfl kfslab0_5 (rfl) (by omega)) rfl rfl ?_
          refine hk_y (fun Y HY => y_mov rfl rfl) rfl rfl ?_
          refine hk_y (fun Y HY => y_mov rfl rfl) rfl rfl ?_
          refine hk_y (fun Y HY => y_sh rfl rfl rfl kfslab0_5 (rfl) (by omega)) rfl rfl ?_
          refine hk_nil ?_
          intro w16 H17
          have hsrc := rd_rep (m := min c (n - c)) (H17.rd (i := 0) rfl) (show c ≤ n by omega) (by omega)
          refine tv_op (op_copy (i := 0) (lo := c) (cs := vi .i32 (List.replicate (min c (n - c)) u)) H17 rfl (rfl) rfl rfl Try.underlying129 kfslab0_4 (hsrc) (by rw [rep_len] <;> rfl) (by rw [rep_len]; omega) (by omega) (by rw [rep_len, vi_len]; simp <;> omega) (vi_one) rfl) rfl rfl ?_
          rintro _ w18 ⟨rfl, H19⟩
          rw [rep_put (by omega)] at H19
          have hrl := rep_len (u := u) (m := min c (n - c))
          refine ⟨(H19.pick (m := []) [] rfl (by decide)), fun w20 e22 => ?_⟩
          have H21 := H19.ext e22
          refine tv_op (Yd.op (y_add rfl rfl rfl (wi (by omega)))) rfl rfl ?_
          rintro _ _ ⟨rfl, rfl⟩
          refine ⟨(H21.pick (m := []) [] rfl (by decide)), fun w23 e25 => ?_⟩
          have H24 := H21.ext e25
          refine tv_op (Yd.op (y_asg rfl rfl)) rfl rfl ?_
          rintro _ _ ⟨rfl, rfl⟩
          refine ⟨(H24.pick (m := []) [] rfl (by decide)), fun w26 e28 => ?_⟩
          have H27 := H24.ext e28
          refine tv_nil ?_
          refine fn_block ?_
          refine fn_roundJ ⟨c + min c (n - c), rfl, H27, ⟨by omega, by omega⟩, rfl⟩ ⟨si (by rw [rep_len]; omega), trivial⟩ (by omega) (by repeat (first | exact kp_refl | refine kp_app rfl rfl ?_ | refine kp_cons rfl ?_)) rfl
        · skip
          obtain rfl : c = n := by omega
          refine cw_exit ?_
          refine fn_then_exit (fn_then_exit (fn_block_exit ?_))
          refine fn_next ?_
          refine cw_seq ?_
          refine cw_reg ?_
          refine ry (y_mov rfl rfl) rfl rfl ?_
          refine ry (y_asg rfl rfl) rfl rfl ?_
          refine reg_nil ?_
          refine fn_next ?_
          refine cw_ret ?_
          refine fn_ret1 rfl rfl ?_
          simp only [Nat.sub_self, List.replicate_zero, List.append_nil] at H13
          exact ⟨_, _, rfl, H13⟩

set_option maxRecDepth 100000 in
theorem CloneR_any (A : Option Addr) (n cap : Nat) (xs : List Value) (w : World) (h : Rd w A xs) (hl : xs.length = n * 1) (h1 : xs.all Value.oneCell' = true) (hn : n ≤ 256) :
    Ret Try.prog 89 [.slice A n cap] w (fun v w' => ∃ A' cap', v = .slice A' n cap' ∧ HS w w' [.row A' n cap' xs 21 1]) := by
  refine ret_enter Try.func89 rfl rfl rfl ?_
  have H0 := HS.start w
  refine cw_seq ?_
  refine cw_reg ?_
  refine ry (y_asg rfl rfl) rfl rfl ?_
  refine reg_nil ?_
  refine fn_next ?_
  refine cw_seq ?_
  refine cw_seq ?_
  refine cw_reg ?_
  refine ry (y_mov rfl rfl) rfl rfl ?_
  refine ry (y_eqlnil rfl Try.underlying129 rfl rfl) rfl rfl ?_
  refine reg_nil ?_
  refine fn_next ?_
  refine cw_cond rfl (fun hA => ?_) (fun hA => ?_)
  · skip
    obtain rfl := Option.isNone_iff_eq_none.1 hA
    obtain ⟨hz, hn⟩ := rd_zero h hl (by decide) rfl
    subst hz; subst hn
    refine cw_seq ?_
    refine cw_reg ?_
    refine ry (y_asg rfl rfl) rfl rfl ?_
    refine reg_nil ?_
    refine fn_next ?_
    refine cw_ret ?_
    refine fn_then_ret ?_
    refine fn_ret1 rfl rfl ?_
    exact ⟨none, 0, rfl, H0.nilrow _ _⟩
  · skip
    refine cw_skip ?_
    refine fn_next ?_
    refine cw_seq ?_
    refine cw_reg ?_
    refine reg_op (op_lit (parts := []) (vs := []) (cs := []) H0 rfl Try.underlying129 kfslab0_6 rfl trivial rfl rfl) rfl rfl ?_
    rintro _ w3 ⟨b2, rfl, H4⟩
    have H5 := H4.asrow (m := 0) (size := 1) rfl (by decide)
    refine ry (y_mov rfl rfl) rfl rfl ?_
    refine reg_op (op_app (i := 0) (k := 0) (m := n) (ys := xs) (size := 1) H5 rfl rfl rfl rfl (h.below H5.base) (hl) (h1) Try.underlying129 kfslab0_3 rfl rfl (by unfold maxLen; omega) (by omega)) rfl rfl ?_
    rintro _ w8 ⟨A6, c7, rfl, H9⟩
    refine ry (y_asg rfl rfl) rfl rfl ?_
    refine reg_nil ?_
    refine fn_next ?_
    refine cw_ret ?_
    refine fn_ret1 rfl rfl ?_
    simp only [Nat.zero_add, List.nil_append] at *
    exact ⟨_, _, rfl, H9⟩

set_option maxRecDepth 100000 in
theorem MinR_any (A : Option Addr) (n cap : Nat) (V : List Int) (w : World) (h : Rd w A (vi .i32 V)) (hl : V.length = n) (h0 : 1 ≤ n) (hn : n ≤ 256) :
    Ret Try.prog 91 [.slice A n cap] w (fun v w' => v = .int .i32 (mnI V n) ∧ Below w.heap.size w w') := by
  have hg0 := vi_get (k := .i32) (zs := V) (i := 0) (by omega)
  refine ret_enter Try.func91 rfl rfl rfl ?_
  have H0 := HS.start w
  refine cw_seq ?_
  refine cw_reg ?_
  refine ry (y_asg rfl rfl) rfl rfl ?_
  refine reg_nil ?_
  refine fn_next ?_
  refine cw_seq ?_
  refine cw_seq ?_
  refine cw_reg ?_
  refine ry (y_mov rfl rfl) rfl rfl ?_
  refine ry (y_len rfl Try.underlying129 rfl) rfl rfl ?_
  refine ry (y_lss rfl rfl rfl) rfl rfl ?_
  refine reg_nil ?_
  refine fn_next ?_
  refine cw_condd rfl (fun h1 => ?_) (fun h1 => ?_)
  · exfalso; omega
  · skip
    refine cw_skip ?_
    refine fn_next ?_
    refine cw_seq ?_
    refine cw_reg ?_
    refine ry (y_mov rfl rfl) rfl rfl ?_
    refine ry (y_iar (i := 0) (h.below H0.base) rfl rfl rfl kfslab0_5 (rfl) (by omega) (Nat.mul_one _) (hg0)) rfl rfl ?_
    refine ry (y_ldr (h.below H0.base) rfl rfl kfslab0_7 (hg0)) rfl rfl ?_
    refine ry (y_asg rfl rfl) rfl rfl ?_
    refine reg_nil ?_
    refine fn_next ?_
    refine cw_seq ?_
    refine cw_seq ?_
    refine cw_reg ?_
    refine ry (y_asg rfl rfl) rfl rfl ?_
    refine reg_nil ?_
    refine fn_next ?_
    refine cw_block ?_
    refine cw_loopJ [3, 4, 12, 13, 14, 15, 16, 17, 18, 19, 20, 21, 22, 23] (fun M wl ml => ∃ (i : Nat), M = [(3, .int .i32 (mnI V i)), (4, .int .i64 (i : Int))] ∧ HS w wl [] ∧ (1 ≤ i ∧ i ≤ n) ∧ ml = n - i) ⟨1, rfl, H0, ⟨by omega, by omega⟩, rfl⟩ ⟨si mnI_one.symm, rfl, trivial⟩ ?_
    rintro M w2 m4 ⟨i, rfl, H3, hp0, rfl⟩
    refine cw_seq ?_
    refine cw_seq ?_
    refine cw_reg ?_
    refine ry (y_mov rfl rfl) rfl rfl ?_
    refine ry (y_mov rfl rfl) rfl rfl ?_
    refine ry (y_len rfl Try.underlying129 rfl) rfl rfl ?_
    refine ry (y_lss rfl rfl rfl) rfl rfl ?_
    refine reg_nil ?_
    refine fn_next ?_
    refine cw_condd rfl (fun h5 => ?_) (fun h5 => ?_)
    · skip
      have hgi := vi_get (k := .i32) (zs := V) (i := i) (by omega)
      refine cw_skip ?_
      refine fn_next ?_
      refine cw_seq ?_
      refine cw_block ?_
      refine cw_reg ?_
      refine ry (y_mov rfl rfl) rfl rfl ?_
      refine ry (y_mov rfl rfl) rfl rfl ?_
      refine ry (y_mov rfl rfl) rfl rfl ?_
      refine ry (y_iar (h.below H3.base) rfl rfl rfl kfslab0_5 (rfl) (by omega) (Nat.mul_one _) (hgi)) rfl rfl ?_
      refine ry (y_ldr (h.below H3.base) rfl rfl kfslab0_7 (hgi)) rfl rfl ?_
      refine ry (y_min rfl rfl rfl) rfl rfl ?_
      refine ry (y_asg rfl rfl) rfl rfl ?_
      refine reg_nil ?_
      refine fn_block ?_
      refine fn_next ?_
      refine cw_reg ?_
      refine ry (y_mov rfl rfl) rfl rfl ?_
      refine ry (y_add rfl rfl rfl (wi (by omega))) rfl rfl ?_
      refine ry (y_asg rfl rfl) rfl rfl ?_
      refine reg_nil ?_
      refine fn_roundJ ⟨i + 1, rfl, H3, ⟨by omega, by omega⟩, rfl⟩ ⟨rfl, rfl, trivial⟩ (by omega) (by repeat (first | exact kp_refl | refine kp_app rfl rfl ?_ | refine kp_cons rfl ?_)) rfl
    · skip
      obtain rfl : i = n := by omega
      refine cw_exit ?_
      refine fn_then_exit (fn_then_exit (fn_block_exit ?_))
      refine fn_next ?_
      refine cw_seq ?_
      refine cw_reg ?_
      refine ry (y_mov rfl rfl) rfl rfl ?_
      refine ry (y_asg rfl rfl) rfl rfl ?_
      refine reg_nil ?_
      refine fn_next ?_
      refine cw_ret ?_
      refine fn_ret1 rfl rfl ?_
      exact ⟨rfl, H3.base⟩

set_option maxRecDepth 100000 in
theorem MaxR_any (A : Option Addr) (n cap : Nat) (V : List Int) (w : World) (h : Rd w A (vi .i32 V)) (hl : V.length = n) (h0 : 1 ≤ n) (hn : n ≤ 256) :
    Ret Try.prog 92 [.slice A n cap] w (fun v w' => v = .int .i32 (mxI V n) ∧ Below w.heap.size w w') := by
  have hg0 := vi_get (k := .i32) (zs := V) (i := 0) (by omega)
  refine ret_enter Try.func92 rfl rfl rfl ?_
  have H0 := HS.start w
  refine cw_seq ?_
  refine cw_reg ?_
  refine ry (y_asg rfl rfl) rfl rfl ?_
  refine reg_nil ?_
  refine fn_next ?_
  refine cw_seq ?_
  refine cw_seq ?_
  refine cw_reg ?_
  refine ry (y_mov rfl rfl) rfl rfl ?_
  refine ry (y_len rfl Try.underlying129 rfl) rfl rfl ?_
  refine ry (y_lss rfl rfl rfl) rfl rfl ?_
  refine reg_nil ?_
  refine fn_next ?_
  refine cw_condd rfl (fun h1 => ?_) (fun h1 => ?_)
  · exfalso; omega
  · skip
    refine cw_skip ?_
    refine fn_next ?_
    refine cw_seq ?_
    refine cw_reg ?_
    refine ry (y_mov rfl rfl) rfl rfl ?_
    refine ry (y_iar (i := 0) (h.below H0.base) rfl rfl rfl kfslab0_5 (rfl) (by omega) (Nat.mul_one _) (hg0)) rfl rfl ?_
    refine ry (y_ldr (h.below H0.base) rfl rfl kfslab0_7 (hg0)) rfl rfl ?_
    refine ry (y_asg rfl rfl) rfl rfl ?_
    refine reg_nil ?_
    refine fn_next ?_
    refine cw_seq ?_
    refine cw_seq ?_
    refine cw_reg ?_
    refine ry (y_asg rfl rfl) rfl rfl ?_
    refine reg_nil ?_
    refine fn_next ?_
    refine cw_block ?_
    refine cw_loopJ [3, 4, 12, 13, 14, 15, 16, 17, 18, 19, 20, 21, 22, 23] (fun M wl ml => ∃ (i : Nat), M = [(3, .int .i32 (mxI V i)), (4, .int .i64 (i : Int))] ∧ HS w wl [] ∧ (1 ≤ i ∧ i ≤ n) ∧ ml = n - i) ⟨1, rfl, H0, ⟨by omega, by omega⟩, rfl⟩ ⟨si mxI_one.symm, rfl, trivial⟩ ?_
    rintro M w2 m4 ⟨i, rfl, H3, hp0, rfl⟩
    refine cw_seq ?_
    refine cw_seq ?_
    refine cw_reg ?_
    refine ry (y_mov rfl rfl) rfl rfl ?_
    refine ry (y_mov rfl rfl) rfl rfl ?_
    refine ry (y_len rfl Try.underlying129 rfl) rfl rfl ?_
    refine ry (y_lss rfl rfl rfl) rfl rfl ?_
    refine reg_nil ?_
    refine fn_next ?_
    refine cw_condd rfl (fun h5 => ?_) (fun h5 => ?_)
    · skip
      have hgi := vi_get (k := .i32) (zs := V) (i := i) (by omega)
      refine cw_skip ?_
      refine fn_next ?_
      refine cw_seq ?_
      refine cw_block ?_
      refine cw_reg ?_
      refine ry (y_mov rfl rfl) rfl rfl ?_
      refine ry (y_mov rfl rfl) rfl rfl ?_
      refine ry (y_mov rfl rfl) rfl rfl ?_
      refine ry (y_iar (h.below H3.base) rfl rfl rfl kfslab0_5 (rfl) (by omega) (Nat.mul_one _) (hgi)) rfl rfl ?_
      refine ry (y_ldr (h.below H3.base) rfl rfl kfslab0_7 (hgi)) rfl rfl ?_
      refine ry (y_max rfl rfl rfl) rfl rfl ?_
      refine ry (y_asg rfl rfl) rfl rfl ?_
      refine reg_nil ?_
      refine fn_block ?_
      refine fn_next ?_
      refine cw_reg ?_
      refine ry (y_mov rfl rfl) rfl rfl ?_
      refine ry (y_add rfl rfl rfl (wi (by omega))) rfl rfl ?_
      refine ry (y_asg rfl rfl) rfl rfl ?_
      refine reg_nil ?_
      refine fn_roundJ ⟨i + 1, rfl, H3, ⟨by omega, by omega⟩, rfl⟩ ⟨rfl, rfl, trivial⟩ (by omega) (by repeat (first | exact kp_refl | refine kp_app rfl rfl ?_ | refine kp_cons rfl ?_)) rfl
    · skip
      obtain rfl : i = n := by omega
      refine cw_exit ?_
      refine fn_then_exit (fn_then_exit (fn_block_exit ?_))
      refine fn_next ?_
      refine cw_seq ?_
      refine cw_reg ?_
      refine ry (y_mov rfl rfl) rfl rfl ?_
      refine ry (y_asg rfl rfl) rfl rfl ?_
      refine reg_nil ?_
      refine fn_next ?_
      refine cw_ret ?_
      refine fn_ret1 rfl rfl ?_
      exact ⟨rfl, H3.base⟩

end Go.Proofs.Ytkphmcaoioaglaa
