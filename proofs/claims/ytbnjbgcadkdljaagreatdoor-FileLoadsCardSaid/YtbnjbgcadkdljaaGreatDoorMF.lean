/- Texts as one: Slab0, Plain8, Slab1. -/
import Derived.Test.YtbnjbgcadkdljaaGreatDoorMC
import Derived.Test.YtbnjbgcadkdljaaGreatDoorMD
set_option linter.unusedVariables false
set_option linter.unusedSimpArgs false
namespace Go.Proofs.YtbnjbgcadkdljaaGreatDoor
open Go Go.RowKit
theorem kfslab0_1 : callB Tryz.prog 120 = true := by kernel_rfl
theorem kfslab0_2 : callB Tryz.prog 118 = true := by kernel_rfl
theorem kfslab0_3 : (Tryz.prog.info? 21).map (fun i => (i.zero.map (·.cells.toList), i.size, i.bytes)) = some (some [(.int .i32 0)], 1, 4) := by kernel_rfl
theorem kfslab0_4 : (Tryz.prog.info? 21).map (·.size) = some 1 := by kernel_rfl
theorem kfslab0_5 : elB Tryz.prog 152 1 = true := by kernel_rfl
theorem u64_one_and {n : Nat} (h : n ≤ 256) : IntKind.u64.wrap (BitVec.ofInt IntKind.u64.bits (n : Int) &&& BitVec.ofInt IntKind.u64.bits 4294967295).toNat = (n : Int) := by
  have : ∀ n : Nat, n < 257 → IntKind.u64.wrap (BitVec.ofInt IntKind.u64.bits (n : Int) &&& BitVec.ofInt IntKind.u64.bits 4294967295).toNat = (n : Int) := by decide +kernel
  exact this n (by omega)
theorem u64_shr {n : Nat} (h : n ≤ 256) : ((n : Nat) : Int).fdiv (2 ^ (min (32 : Int).toNat IntKind.u64.bits)) = 0 := by
  have : ∀ n : Nat, n < 257 → ((n : Nat) : Int).fdiv (2 ^ (min (32 : Int).toNat IntKind.u64.bits)) = 0 := by decide +kernel
  exact this n (by omega)
theorem rd_rep {w : World} {A : Option Addr} {u : Int} {zs : List Int} {c m cap : Nat} (h : Rd w A (vi .i32 (List.replicate c u ++ zs))) (hc : c ≤ cap) (hm : m ≤ c) : Rd w (subA A cap 0 1) (vi .i32 (List.replicate m u)) := by
  rw [subA_zero]
  intro j x hj
  refine h j x ?_
  have hl : j < m := by
    have := (List.getElem?_eq_some_iff.1 hj).1
    simpa [vi] using this
  unfold vi at *
  rw [List.getElem?_map, List.getElem?_append_left (by simp; omega)]
  rw [List.getElem?_map] at hj
  rw [List.getElem?_replicate, if_pos (by omega)]
  rw [List.getElem?_replicate, if_pos hl] at hj
  exact hj
theorem rep_put {u : Int} {c m n : Nat} (h : c + m ≤ n) : putL (vi .i32 (List.replicate c u ++ List.replicate (n - c) 0)) c (vi .i32 (List.replicate m u)) = vi .i32 (List.replicate (c + m) u ++ List.replicate (n - (c + m)) 0) := by
  rw [putL_vi (List.replicate c u ++ List.replicate (n - c) 0) (List.replicate m u) c (by simp; omega)]
  congr 1
  rw [List.take_left' (by simp), List.length_replicate, List.drop_append, List.drop_of_length_le (by simp), List.nil_append, List.drop_replicate, List.length_replicate, List.replicate_append_replicate]
  congr 2; omega
theorem rep_len {u : Int} {m : Nat} : (vi .i32 (List.replicate m u)).length = m := by simp [vi]

set_option maxRecDepth 100000 in
theorem Mul64_any (n : Nat) (w : World) (hn : n ≤ 256) :
    Ret Tryz.prog 120 [.int .u64 1, .int .u64 (n : Int)] w (fun v w' => v = .tuple #[.int .u64 0, .int .u64 (n : Int)] ∧ Below w.heap.size w w') := by
  refine ret_enter Tryz.func120 rfl rfl rfl ?_
  have H0 := HS.start w
  refine cw_seq ?_
  refine cw_reg ?_
  refine ry (y_asg rfl rfl) rfl rfl ?_
  refine ry (y_asg rfl rfl) rfl rfl ?_
  refine reg_nil ?_
  refine fn_next ?_
  refine cw_seq ?_
  refine cw_reg ?_
  refine ry (y_mov rfl rfl) rfl rfl ?_
  refine ry (y_and rfl rfl rfl (show _ = (1 : Int) from by decide +kernel)) rfl rfl ?_
  refine ry (y_asg rfl rfl) rfl rfl ?_
  refine reg_nil ?_
  refine fn_next ?_
  refine cw_seq ?_
  refine cw_reg ?_
  refine ry (y_mov rfl rfl) rfl rfl ?_
  refine ry (y_shr rfl rfl rfl (by omega) (show _ = (0 : Int) from by decide +kernel)) rfl rfl ?_
  refine ry (y_asg rfl rfl) rfl rfl ?_
  refine reg_nil ?_
  refine fn_next ?_
  refine cw_seq ?_
  refine cw_reg ?_
  refine ry (y_mov rfl rfl) rfl rfl ?_
  refine ry (y_and rfl rfl rfl (u64_one_and hn)) rfl rfl ?_
  refine ry (y_asg rfl rfl) rfl rfl ?_
  refine reg_nil ?_
  refine fn_next ?_
  refine cw_seq ?_
  refine cw_reg ?_
  refine ry (y_mov rfl rfl) rfl rfl ?_
  refine ry (y_shr rfl rfl rfl (by omega) (u64_shr hn)) rfl rfl ?_
  refine ry (y_asg rfl rfl) rfl rfl ?_
  refine reg_nil ?_
  refine fn_next ?_
  refine cw_seq ?_
  refine cw_reg ?_
  refine ry (y_mov rfl rfl) rfl rfl ?_
  refine ry (y_mov rfl rfl) rfl rfl ?_
  refine ry (y_mul rfl rfl rfl (show _ = (n : Int) from (by rw [Int.one_mul]; exact wu64 (by omega)))) rfl rfl ?_
  refine ry (y_asg rfl rfl) rfl rfl ?_
  refine reg_nil ?_
  refine fn_next ?_
  refine cw_seq ?_
  refine cw_reg ?_
  refine ry (y_mov rfl rfl) rfl rfl ?_
  refine ry (y_mov rfl rfl) rfl rfl ?_
  refine ry (y_mul rfl rfl rfl (show _ = (0 : Int) from by rw [Int.zero_mul]; decide +kernel)) rfl rfl ?_
  refine ry (y_mov rfl rfl) rfl rfl ?_
  refine ry (y_shr rfl rfl rfl (by omega) (u64_shr (by omega))) rfl rfl ?_
  refine ry (y_add rfl rfl rfl (show _ = (0 : Int) from by decide +kernel)) rfl rfl ?_
  refine ry (y_asg rfl rfl) rfl rfl ?_
  refine reg_nil ?_
  refine fn_next ?_
  refine cw_seq ?_
  refine cw_reg ?_
  refine ry (y_mov rfl rfl) rfl rfl ?_
  refine ry (y_and rfl rfl rfl (show _ = (0 : Int) from by decide +kernel)) rfl rfl ?_
  refine ry (y_asg rfl rfl) rfl rfl ?_
  refine reg_nil ?_
  refine fn_next ?_
  refine cw_seq ?_
  refine cw_reg ?_
  refine ry (y_mov rfl rfl) rfl rfl ?_
  refine ry (y_shr rfl rfl rfl (by omega) (show _ = (0 : Int) from by decide +kernel)) rfl rfl ?_
  refine ry (y_asg rfl rfl) rfl rfl ?_
  refine reg_nil ?_
  refine fn_next ?_
  refine cw_seq ?_
  refine cw_reg ?_
  refine ry (y_mov rfl rfl) rfl rfl ?_
  refine ry (y_mov rfl rfl) rfl rfl ?_
  refine ry (y_mov rfl rfl) rfl rfl ?_
  refine ry (y_mul rfl rfl rfl (show _ = (0 : Int) from by decide +kernel)) rfl rfl ?_
  refine ry (y_add rfl rfl rfl (show _ = (0 : Int) from by decide +kernel)) rfl rfl ?_
  refine ry (y_asg rfl rfl) rfl rfl ?_
  refine reg_nil ?_
  refine fn_next ?_
  refine cw_seq ?_
  refine cw_reg ?_
  refine ry (y_mov rfl rfl) rfl rfl ?_
  refine ry (y_mov rfl rfl) rfl rfl ?_
  refine ry (y_mul rfl rfl rfl (show _ = (0 : Int) from by decide +kernel)) rfl rfl ?_
  refine ry (y_mov rfl rfl) rfl rfl ?_
  refine ry (y_add rfl rfl rfl (show _ = (0 : Int) from by decide +kernel)) rfl rfl ?_
  refine ry (y_mov rfl rfl) rfl rfl ?_
  refine ry (y_shr rfl rfl rfl (by omega) (show _ = (0 : Int) from by decide +kernel)) rfl rfl ?_
  refine ry (y_add rfl rfl rfl (show _ = (0 : Int) from by decide +kernel)) rfl rfl ?_
  refine ry (y_asg rfl rfl) rfl rfl ?_
  refine reg_nil ?_
  refine fn_next ?_
  refine cw_seq ?_
  refine cw_reg ?_
  refine ry (y_mov rfl rfl) rfl rfl ?_
  refine ry (y_mov rfl rfl) rfl rfl ?_
  refine ry (y_mul rfl rfl rfl (show _ = (n : Int) from (by rw [Int.one_mul]; exact wu64 (by omega)))) rfl rfl ?_
  refine ry (y_asg rfl rfl) rfl rfl ?_
  refine reg_nil ?_
  refine fn_next ?_
  refine cw_ret ?_
  refine fn_retn (vs := [_, _]) rfl ⟨rfl, rfl, trivial⟩ rfl ?_
  exact ⟨rfl, H0.base⟩

set_option maxRecDepth 100000 in
theorem Mul_any (n : Nat) (w : World) (hn : n ≤ 256) :
    Ret Tryz.prog 118 [.int .u64 1, .int .u64 (n : Int)] w (fun v w' => v = .tuple #[.int .u64 0, .int .u64 (n : Int)] ∧ Below w.heap.size w w') := by
  refine ret_enter Tryz.func118 rfl rfl rfl ?_
  have H0 := HS.start w
  refine cw_seq ?_
  refine cw_reg ?_
  refine ry (y_asg rfl rfl) rfl rfl ?_
  refine ry (y_asg rfl rfl) rfl rfl ?_
  refine reg_nil ?_
  refine fn_next ?_
  refine cw_seq ?_
  refine cw_condf rfl ?_
  refine cw_skip ?_
  refine fn_next ?_
  refine cw_seq ?_
  refine cw_reg ?_
  refine ry (y_mov rfl rfl) rfl rfl ?_
  refine ry (y_mov rfl rfl) rfl rfl ?_
  refine reg_op (op_call (Mul64_any n _ hn) rfl kfslab0_1 ⟨rfl, rfl, trivial⟩) rfl rfl ?_
  rintro _ w2 ⟨rfl, e1⟩
  have H3 := H0.ext e1
  refine ry (y_mov rfl rfl) rfl rfl ?_
  refine ry (y_ext rfl rfl rfl) rfl rfl ?_
  refine ry (y_ext rfl rfl rfl) rfl rfl ?_
  refine ry (y_asg rfl rfl) rfl rfl ?_
  refine ry (y_asg rfl rfl) rfl rfl ?_
  refine reg_nil ?_
  refine fn_next ?_
  refine cw_seq ?_
  refine cw_reg ?_
  refine ry (y_mov rfl rfl) rfl rfl ?_
  refine ry (y_mov rfl rfl) rfl rfl ?_
  refine ry (y_asg rfl rfl) rfl rfl ?_
  refine ry (y_asg rfl rfl) rfl rfl ?_
  refine reg_nil ?_
  refine fn_next ?_
  refine cw_ret ?_
  refine fn_retn (vs := [_, _]) rfl ⟨rfl, rfl, trivial⟩ rfl ?_
  exact ⟨rfl, H3.base⟩

set_option maxRecDepth 100000 in
theorem RepeatR_any (A : Option Addr) (c0 n : Nat) (u : Int) (w : World) (h : Rd w A (vi .i32 [u])) (hn : n ≤ 256) (h0 : 1 ≤ n) :
    Ret Tryz.prog 116 [.slice A 1 c0, .int .i64 (n : Int)] w (fun v w' => ∃ A' cap', v = .slice A' n cap' ∧ HS w w' [.row A' n cap' (vi .i32 (List.replicate n u)) 21 1]) := by
  refine ret_enter Tryz.func116 rfl rfl rfl ?_
  have H0 := HS.start w
  refine cw_seq ?_
  refine cw_reg ?_
  refine ry (y_asg rfl rfl) rfl rfl ?_
  refine reg_nil ?_
  refine fn_next ?_
  refine cw_seq ?_
  refine cw_seq ?_
  refine cw_reg ?_
  refine ry (y_mov rfl rfl) rfl rfl ?_
  refine ry (y_lss rfl rfl rfl) rfl rfl ?_
  refine reg_nil ?_
  refine fn_next ?_
  refine cw_condd rfl (fun h1 => ?_) (fun h1 => ?_)
  · exfalso; omega
  · skip
    refine cw_skip ?_
    refine fn_next ?_
    refine cw_seq ?_
    refine cw_reg ?_
    refine ry (y_mov rfl rfl) rfl rfl ?_
    refine ry (y_len rfl Tryz.underlying152 rfl) rfl rfl ?_
    refine ry (y_conv rfl Tryz.underlying3 Tryz.underlying131 rfl (wu64 (by omega))) rfl rfl ?_
    refine ry (y_mov rfl rfl) rfl rfl ?_
    refine ry (y_conv rfl Tryz.underlying3 Tryz.underlying131 rfl (wu64 (by omega))) rfl rfl ?_
    refine reg_op (op_call (Mul_any n _ hn) rfl kfslab0_2 ⟨rfl, rfl, trivial⟩) rfl rfl ?_
    rintro _ w3 ⟨rfl, e2⟩
    have H4 := H0.ext e2
    refine ry (y_mov rfl rfl) rfl rfl ?_
    refine ry (y_ext rfl rfl rfl) rfl rfl ?_
    refine ry (y_ext rfl rfl rfl) rfl rfl ?_
    refine ry (y_asg rfl rfl) rfl rfl ?_
    refine ry (y_asg rfl rfl) rfl rfl ?_
    refine reg_nil ?_
    refine fn_next ?_
    refine cw_seq ?_
    refine cw_seq ?_
    refine cw_reg ?_
    refine ry (y_mov rfl rfl) rfl rfl ?_
    refine ry (y_gtr rfl rfl rfl) rfl rfl ?_
    refine ry (y_mov rfl rfl) rfl rfl ?_
    refine rg_splitd (d := 23) rfl (fun h5 => ?_) (fun h5 => ?_)
    · exfalso; omega
    · skip
      refine rgy (y_mov rfl rfl) rfl rfl rfl rfl ?_
      refine rgy (y_gtr rfl rfl rfl) rfl rfl rfl rfl ?_
      refine ry (y_pick rfl rfl rfl) rfl rfl ?_
      refine reg_nil ?_
      refine fn_next ?_
      refine cw_condd rfl (fun h6 => ?_) (fun h6 => ?_)
      · exfalso; omega
      · skip
        refine cw_skip ?_
        refine fn_next ?_
        refine cw_seq ?_
        refine cw_reg ?_
        refine ry (y_mov rfl rfl) rfl rfl ?_
        refine ry (y_conv rfl Tryz.underlying131 Tryz.underlying3 rfl (wi (by omega))) rfl rfl ?_
        refine reg_op (op_make (m := n) H4 rfl rfl rfl (rfl) (rfl) Tryz.underlying152 kfslab0_3 (by omega) (by unfold maxLen; omega)) rfl rfl ?_
        rintro _ w8 ⟨b7, rfl, H9⟩
        refine ry (y_asg rfl rfl) rfl rfl ?_
        refine reg_nil ?_
        refine fn_next ?_
        refine cw_seq ?_
        refine cw_reg ?_
        refine ry (y_mov rfl rfl) rfl rfl ?_
        refine ry (y_mov rfl rfl) rfl rfl ?_
        refine reg_op (op_copy (i := 0) (lo := 0) (cs := vi .i32 (List.replicate 1 u)) H9 rfl (by rw [subA_zero]; rfl) rfl rfl Tryz.underlying152 kfslab0_4 (h.below H9.base) (by rw [rep_len]; show 1 = min 1 n; omega) (by rw [rep_len]; omega) (by omega) (by rw [rep_len, vi_zero]; simp [vi]; omega) (rfl) rfl) rfl rfl ?_
        rintro _ w10 ⟨rfl, H11⟩
        rw [vi_zero, show List.replicate n (0 : Int) = List.replicate 0 u ++ List.replicate (n - 0) 0 by simp, rep_put (by omega), Nat.zero_add] at H11
        refine ry (y_asg rfl rfl) rfl rfl ?_
        refine reg_nil ?_
        refine fn_next ?_
        refine cw_seq ?_
        refine cw_block ?_
        refine cw_loopJ [8, 34, 35, 36, 37, 38, 39, 40, 41, 42, 43, 44, 45, 46] (fun M wl ml => ∃ (c : Nat), M = [(8, .int .i64 (c : Int))] ∧ HS w wl [Ob.row (some ⟨b7, 0, none⟩) n n (vi .i32 (List.replicate c u ++ List.replicate (n - c) 0)) 21 1] ∧ (1 ≤ c ∧ c ≤ n) ∧ ml = n - c) ⟨1, rfl, H11, ⟨by omega, by omega⟩, rfl⟩ ⟨rfl, trivial⟩ ?_
        rintro M w12 m14 ⟨c, rfl, H13, hp0, rfl⟩
        refine cw_seq ?_
        refine cw_seq ?_
        refine cw_reg ?_
        refine ry (y_mov rfl rfl) rfl rfl ?_
        refine ry (y_mov rfl rfl) rfl rfl ?_
        refine ry (y_len rfl Tryz.underlying152 rfl) rfl rfl ?_
        refine ry (y_lss rfl rfl rfl) rfl rfl ?_
        refine reg_nil ?_
        refine fn_next ?_
        refine cw_condd rfl (fun h15 => ?_) (fun h15 => ?_)
        · skip
          refine cw_skip ?_
          refine fn_next ?_
          refine cw_block ?_
          refine cw_draw H13 [0, 1, 2, 3, 4, 5, 6] [7, 8, 9] (fun X HX => (HX.pick (m := []) [] rfl (by decide))) (by kernel_rfl) (by kernel_rfl) (by rfl) ?_
          simp only [pick, List.getElem?_cons_succ, List.getElem?_cons_zero]
          refine hk_y (fun Y HY => y_mov rfl rfl) rfl rfl ?_
          refine hk_y (fun Y HY => y_mov rfl rfl) rfl rfl ?_
          refine hk_y (fun Y HY => y_mov rfl rfl) rfl rfl ?_
          refine hk_y (fun Y HY => y_sl rfl rfl rfl kfslab0_5 (rfl) (by omega)) rfl rfl ?_
          refine hk_y (fun Y HY => y_mov rfl rfl) rfl rfl ?_
          refine hk_y (fun Y HY => y_mov rfl rfl) rfl rfl ?_
          refine hk_y (fun Y HY => y_sh rfl rfl rfl kfslab0_5 (rfl) (by omega)) rfl rfl ?_
          refine hk_nil ?_
          intro w16 H17
          have hsrc := rd_rep (m := min c (n - c)) (H17.rd (i := 0) rfl) (show c ≤ n by omega) (by omega)
          refine tv_op (op_copy (i := 0) (lo := c) (cs := vi .i32 (List.replicate (min c (n - c)) u)) H17 rfl (rfl) rfl rfl Tryz.underlying152 kfslab0_4 (hsrc) (by rw [rep_len] <;> rfl) (by rw [rep_len]; omega) (by omega) (by rw [rep_len, vi_len]; simp <;> omega) (vi_one) rfl) rfl rfl ?_
          rintro _ w18 ⟨rfl, H19⟩
          rw [rep_put (by omega)] at H19
          have hrl := rep_len (u := u) (m := min c (n - c))
          refine ⟨(H19.pick (m := []) [] rfl (by decide)), fun w20 e22 => ?_⟩
          have H21 := H19.ext e22
          refine tv_op (Yd.op (y_add rfl rfl rfl (wi (by omega)))) rfl rfl ?_
          rintro _ _ ⟨rfl, rfl⟩
          refine ⟨(H21.pick (m := []) [] rfl (by decide)), fun w23 e25 => ?_⟩
          have H24 := H21.ext e25
          refine tv_op (Yd.op (y_asg rfl rfl)) rfl rfl ?_
          rintro _ _ ⟨rfl, rfl⟩
          refine ⟨(H24.pick (m := []) [] rfl (by decide)), fun w26 e28 => ?_⟩
          have H27 := H24.ext e28
          refine tv_nil ?_
          refine fn_block ?_
          refine fn_roundJ ⟨c + min c (n - c), rfl, H27, ⟨by omega, by omega⟩, rfl⟩ ⟨si (by rw [rep_len]; omega), trivial⟩ (by omega) (by repeat (first | exact kp_refl | refine kp_app rfl rfl ?_ | refine kp_cons rfl ?_)) rfl
        · skip
          obtain rfl : c = n := by omega
          refine cw_exit ?_
          refine fn_then_exit (fn_then_exit (fn_block_exit ?_))
          refine fn_next ?_
          refine cw_seq ?_
          refine cw_reg ?_
          refine ry (y_mov rfl rfl) rfl rfl ?_
          refine ry (y_asg rfl rfl) rfl rfl ?_
          refine reg_nil ?_
          refine fn_next ?_
          refine cw_ret ?_
          refine fn_ret1 rfl rfl ?_
          simp only [Nat.sub_self, List.replicate_zero, List.append_nil] at H13
          exact ⟨_, _, rfl, H13⟩

end Go.Proofs.YtbnjbgcadkdljaaGreatDoor

namespace Go.Proofs.YtbnjbgcadkdljaaGreatDoor
open Go Go.RowKit

/-- what the cells are: one value, or one for each -/
inductive Ld where
  | flat (v : Int)
  | rough (A : Option Addr) (cap : Nat) (V : List Int)
def Ld.lst (n : Nat) : Ld → List Int
  | .flat v => List.replicate n v
  | .rough _ _ V => V
def Ld.val (n : Nat) : Ld → Value
  | .flat v => .iface 117 (.int .i32 v)
  | .rough A cap _ => .iface 152 (.slice A n cap)
def Ld.ob (n : Nat) : Ld → Ob
  | .flat _ => .row none 0 0 [] 21 1
  | .rough A cap V => .row A n cap (vi .i32 V) 21 1
def Ld.rd (w : World) : Ld → Prop
  | .flat _ => True
  | .rough A _ V => Rd w A (vi .i32 V)
def B32 (v : Int) : Prop := -2147483648 ≤ v ∧ v ≤ 2147483647
instance (v : Int) : Decidable (B32 v) := by unfold B32; infer_instance
def AllB (V : List Int) : Prop := ∀ x ∈ V, B32 x
/-- well kept -/
def Ld.ok (n : Nat) : Ld → Prop
  | .flat v => B32 v
  | .rough _ _ V => V.length = n ∧ AllB V ∧ ∃ j, j < n ∧ nth V j ≠ nth V 0
theorem Ld.rd_of {w0 w : World} {l : List Ob} {i n : Nat} {L : Ld} (h : HS w0 w l) (hi : l[i]? = some (L.ob n)) : L.rd w := by
  cases L with
  | flat v => trivial
  | rough A cap V => exact h.rd hi
theorem Ld.rd_below {w w' : World} {L : Ld} (h : L.rd w) (hb : Below w.heap.size w w') : L.rd w' := by
  cases L with
  | flat v => trivial
  | rough A cap V => exact Rd.below h hb
theorem Ld.len {n : Nat} {L : Ld} (h : L.ok n) : (L.lst n).length = n := by
  cases L with
  | flat v => simp [Ld.lst]
  | rough A cap V => exact h.1
theorem Ld.bd {n : Nat} {L : Ld} (h : L.ok n) : AllB (L.lst n) := by
  cases L with
  | flat v => intro x hx; rw [(List.mem_replicate.1 hx).2]; exact h
  | rough A cap V => exact h.2.1
theorem nth_rep {n j : Nat} {v : Int} (h : j < n) : nth (List.replicate n v) j = v := by simp [nth, List.getD, h]
theorem AllB.at_ {V : List Int} (h : AllB V) {j : Nat} (hj : j < V.length) : B32 (nth V j) := h _ (nth_mem hj)
theorem allB_rep {n : Nat} {v : Int} (h : B32 v) : AllB (List.replicate n v) := fun x hx => by rw [(List.mem_replicate.1 hx).2]; exact h
theorem rep_of {V : List Int} {n : Nat} {v : Int} (hl : V.length = n) (h : ∀ j, j < n → nth V j = v) : V = List.replicate n v :=
  nth_ext (by simpa using hl) fun j hj => by rw [nth_rep (by omega)]; exact h j (by omega)
/-! the first cell that differs from cell 0 -/
def ixNe (V : List Int) (n : Nat) : Int := match (List.range n).find? (fun j => decide (nth V j ≠ nth V 0)) with | some j => (j : Int) | none => -1
theorem ixNe_at {V : List Int} {n i : Nat} (h : ∀ j, j < i → nth V j = nth V 0) (hi : i < n) (hne : nth V i ≠ nth V 0) : ixNe V n = (i : Int) := by
  have : (List.range n).find? (fun j => decide (nth V j ≠ nth V 0)) = some i := by
    rw [List.find?_range_eq_some]
    refine ⟨by simpa using hne, List.mem_range.2 hi, fun j hj => ?_⟩
    simpa using h j hj
  unfold ixNe; rw [this]
theorem ixNe_no {V : List Int} {n : Nat} (h : ∀ j, j < n → nth V j = nth V 0) : ixNe V n = -1 := by
  have : (List.range n).find? (fun j => decide (nth V j ≠ nth V 0)) = none := by
    rw [List.find?_eq_none]
    intro j hj
    simpa using h j (List.mem_range.1 hj)
  unfold ixNe; rw [this]
theorem ixNe_neg {V : List Int} {n : Nat} (h : ¬ ixNe V n ≥ 0) : ∀ j, j < n → nth V j = nth V 0 := fun j hj => by
  unfold ixNe at h
  split at h
  · omega
  · rename_i hf
    rw [List.find?_eq_none] at hf
    simpa using hf j (List.mem_range.2 hj)
theorem ixNe_pos {V : List Int} {n : Nat} (h : ixNe V n ≥ 0) : ∃ j, j < n ∧ nth V j ≠ nth V 0 := by
  unfold ixNe at h
  split at h
  · rename_i j hf
    exact ⟨j, List.mem_range.1 (List.mem_of_find?_eq_some hf), by simpa using List.find?_some hf⟩
  · omega
/-! least and greatest -/
/-! filling -/
def inF (a x0 x1 y0 y x i : Nat) : Prop := (y0 ≤ i / a ∧ i / a < y ∧ x0 ≤ i % a ∧ i % a ≤ x1) ∨ (i / a = y ∧ x0 ≤ i % a ∧ i % a < x)
instance (a x0 x1 y0 y x i : Nat) : Decidable (inF a x0 x1 y0 y x i) := by unfold inF; infer_instance
/-- filled up to column x of row y -/
def fl (V : List Int) (a : Nat) (v : Int) (x0 x1 y0 y x : Nat) : List Int := (List.range V.length).map fun i => if inF a x0 x1 y0 y x i then v else nth V i
theorem fl_len {V : List Int} {a : Nat} {v : Int} {x0 x1 y0 y x : Nat} : (fl V a v x0 x1 y0 y x).length = V.length := by simp [fl]
theorem fl_at {V : List Int} {a : Nat} {v : Int} {x0 x1 y0 y x i : Nat} (h : i < V.length) : nth (fl V a v x0 x1 y0 y x) i = if inF a x0 x1 y0 y x i then v else nth V i := by
  unfold fl; simp [nth, List.getD, h]
theorem fl_init {V : List Int} {a : Nat} {v : Int} {x0 x1 y0 : Nat} : fl V a v x0 x1 y0 y0 x0 = V := nth_ext fl_len fun i hi => by
  rw [fl_len] at hi
  rw [fl_at hi, if_neg (by unfold inF; omega)]
theorem fl_row {V : List Int} {a : Nat} {v : Int} {x0 x1 y0 y : Nat} (hy : y0 ≤ y) : fl V a v x0 x1 y0 y (x1 + 1) = fl V a v x0 x1 y0 (y + 1) x0 := nth_ext (by rw [fl_len, fl_len]) fun i hi => by
  rw [fl_len] at hi
  rw [fl_at hi, fl_at hi]
  have : inF a x0 x1 y0 y (x1 + 1) i ↔ inF a x0 x1 y0 (y + 1) x0 i := by unfold inF; omega
  by_cases h : inF a x0 x1 y0 (y + 1) x0 i
  · rw [if_pos h, if_pos (this.2 h)]
  · rw [if_neg h, if_neg (fun k => h (this.1 k))]
theorem div_of {a x y i : Nat} (hx : x < a) (h : i = y * a + x) : i / a = y ∧ i % a = x := by
  subst h
  have ha : 0 < a := by omega
  constructor
  · rw [Nat.mul_comm, Nat.mul_add_div ha, Nat.div_eq_of_lt hx, Nat.add_zero]
  · rw [Nat.mul_comm, Nat.mul_add_mod, Nat.mod_eq_of_lt hx]
theorem of_div {a x y i : Nat} (h1 : i / a = y) (h2 : i % a = x) : i = y * a + x := by
  have := Nat.div_add_mod i a
  rw [h1, h2, Nat.mul_comm] at this; omega
theorem fl_set {V : List Int} {a : Nat} {v : Int} {x0 x1 y0 y x : Nat} (hx : x < a) (hx0 : x0 ≤ x) (hi : y * a + x < V.length) : (fl V a v x0 x1 y0 y x).set (y * a + x) v = fl V a v x0 x1 y0 y (x + 1) := nth_ext (by simp [fl_len]) fun i hl => by
  have hl' : i < V.length := by simpa [fl_len] using hl
  by_cases h : y * a + x = i
  · obtain ⟨h1, h2⟩ := div_of hx h.symm
    subst h
    rw [nth_set_eq (by rw [fl_len]; exact hi), fl_at hl', if_pos (by unfold inF; omega)]
  · rw [nth_set_ne h, fl_at hl', fl_at hl']
    have hn : ¬ (i / a = y ∧ i % a = x) := fun ⟨h1, h2⟩ => h (of_div h1 h2).symm
    have : inF a x0 x1 y0 y x i ↔ inF a x0 x1 y0 y (x + 1) i := by unfold inF; omega
    by_cases h : inF a x0 x1 y0 y x i
    · rw [if_pos h, if_pos (this.1 h)]
    · rw [if_neg h, if_neg (fun k => h (this.2 k))]
theorem fl_bd {V : List Int} {a : Nat} {v : Int} {x0 x1 y0 y x : Nat} (h : AllB V) (hv : B32 v) : AllB (fl V a v x0 x1 y0 y x) := fun u hu => by
  unfold fl at hu
  obtain ⟨i, hi, rfl⟩ := List.mem_map.1 hu
  split
  · exact hv
  · exact h.at_ (List.mem_range.1 hi)
/-- a rectangle filled -/
def fillL (V : List Int) (a : Nat) (x0 y0 x1 y1 : Nat) (v : Int) : List Int := fl V a v x0 x1 y0 (y1 + 1) x0
theorem fillL_same {n a x0 y0 x1 y1 : Nat} {v : Int} : fillL (List.replicate n v) a x0 y0 x1 y1 v = List.replicate n v := nth_ext (by unfold fillL; rw [fl_len]) fun i hi => by
  unfold fillL at *
  rw [fl_len] at hi
  rw [fl_at hi]
  split
  · rw [nth_rep (by simpa using hi)]
  · rfl
theorem fillL_whole {V : List Int} {a h : Nat} {v : Int} (ha : 1 ≤ a) (hl : V.length = a * h) : fillL V a 0 0 (a - 1) (h - 1) v = List.replicate (a * h) v := rep_of (by unfold fillL; rw [fl_len, hl]) fun i hi => by
  unfold fillL
  rw [fl_at (by omega), if_pos]
  have h1 : i / a < h := Nat.div_lt_of_lt_mul hi
  have h2 : i % a < a := Nat.mod_lt _ (by omega)
  unfold inF
  generalize i / a = q at *
  generalize i % a = r at *
  omega
theorem whole_of {a h p q : Nat} (ha : 1 ≤ a) (hh : 1 ≤ h) (hp : p ≤ a) (hq : q ≤ h) (he : p * q = a * h) : p = a ∧ q = h := by
  have h1 : p * q ≤ p * h := Nat.mul_le_mul_left _ hq
  have h2 : p * h ≤ a * h := Nat.mul_le_mul_right _ hp
  have h3 : p = a := Nat.eq_of_mul_eq_mul_right (by omega) (by omega : p * h = a * h)
  subst h3
  exact ⟨rfl, Nat.eq_of_mul_eq_mul_left (by omega) he⟩
/-- a size as the program takes it -/
def sizeP (a h : Nat) : Prop := 1 ≤ a ∧ a ≤ 16 ∧ 1 ≤ h ∧ h ≤ 16
theorem sizeP.mul {a h : Nat} (p : sizeP a h) : 1 ≤ a * h ∧ a * h ≤ 256 := by
  obtain ⟨h1, h2, h3, h4⟩ := p
  exact ⟨Nat.mul_le_mul h1 h3, Nat.mul_le_mul h2 h4⟩
theorem within_nat {a h : Nat} {x0 y0 x1 y1 : Int} (p : sizeP a h) (hw : withinC x0 y0 x1 y1 a h = 0) : ∃ p0 q0 p1 q1 : Nat, x0 = p0 ∧ y0 = q0 ∧ x1 = p1 ∧ y1 = q1 ∧ p0 ≤ p1 ∧ p1 < a ∧ q0 ≤ q1 ∧ q1 < h := by
  obtain ⟨h1, h2, h3, h4⟩ := p
  have := within_zero (by omega) (by omega) (by omega) (by omega) hw
  exact ⟨x0.toNat, y0.toNat, x1.toNat, y1.toNat, by omega, by omega, by omega, by omega, by omega, by omega, by omega, by omega⟩
theorem area_nat {p0 q0 p1 q1 a h : Nat} (p : sizeP a h) (h1 : p0 ≤ p1) (h2 : p1 < a) (h3 : q0 ≤ q1) (h4 : q1 < h) : areaI p0 q0 p1 q1 = (((p1 - p0 + 1) * (q1 - q0 + 1) : Nat) : Int) := by
  obtain ⟨_, _, _, _⟩ := p
  unfold areaI
  rw [if_pos (show RightP p0 q0 p1 q1 from ⟨by omega, by omega, by omega, by omega, by omega, by omega⟩), Int.natCast_mul]
  congr 1 <;> omega
def fillC (a h : Nat) (x0 y0 x1 y1 v : Int) : Int := if withinC x0 y0 x1 y1 a h = 0 then (if B32 v then 0 else 7) else withinC x0 y0 x1 y1 a h
def fillV (V : List Int) (a h : Nat) (x0 y0 x1 y1 v : Int) : List Int := if fillC a h x0 y0 x1 y1 v = 0 then fillL V a x0.toNat y0.toNat x1.toNat y1.toNat v else V
theorem fillC_w {a h : Nat} {x0 y0 x1 y1 v : Int} (hw : ¬ withinC x0 y0 x1 y1 a h = 0) : fillC a h x0 y0 x1 y1 v = withinC x0 y0 x1 y1 a h := by unfold fillC; rw [if_neg hw]
theorem fillC_v {a h : Nat} {x0 y0 x1 y1 v : Int} (hw : withinC x0 y0 x1 y1 a h = 0) (hv : ¬ B32 v) : fillC a h x0 y0 x1 y1 v = 7 := by unfold fillC; rw [if_pos hw, if_neg hv]
theorem fillC_ok {a h : Nat} {x0 y0 x1 y1 v : Int} (hw : withinC x0 y0 x1 y1 a h = 0) (hv : B32 v) : fillC a h x0 y0 x1 y1 v = 0 := by unfold fillC; rw [if_pos hw, if_pos hv]
theorem fillV_w {V : List Int} {a h : Nat} {x0 y0 x1 y1 v : Int} (hw : ¬ withinC x0 y0 x1 y1 a h = 0) : fillV V a h x0 y0 x1 y1 v = V := by unfold fillV; rw [fillC_w hw, if_neg hw]
theorem fillV_v {V : List Int} {a h : Nat} {x0 y0 x1 y1 v : Int} (hw : withinC x0 y0 x1 y1 a h = 0) (hv : ¬ B32 v) : fillV V a h x0 y0 x1 y1 v = V := by unfold fillV; rw [fillC_v hw hv, if_neg (by decide)]
theorem fillV_ok {V : List Int} {a h p0 q0 p1 q1 : Nat} {v : Int} (hw : withinC p0 q0 p1 q1 a h = 0) (hv : B32 v) : fillV V a h p0 q0 p1 q1 v = fillL V a p0 q0 p1 q1 v := by unfold fillV; rw [fillC_ok hw hv, if_pos rfl]; rfl
end Go.Proofs.YtbnjbgcadkdljaaGreatDoor

namespace Go.Proofs.YtbnjbgcadkdljaaGreatDoor
open Go Go.RowKit
theorem kfslab1_1 : oneB Tryz.prog 152 = true := by kernel_rfl
theorem kfslab1_2 : elB Tryz.prog 152 1 = true := by kernel_rfl
theorem kfslab1_3 : oneB Tryz.prog 21 = true := by kernel_rfl
theorem kfslab1_4 : callB Tryz.prog 115 = true := by kernel_rfl
theorem kfslab1_5 : callB Tryz.prog 117 = true := by kernel_rfl
theorem kfslab1_6 : callB Tryz.prog 59 = true := by kernel_rfl
theorem kfslab1_7 : callB Tryz.prog 81 = true := by kernel_rfl
theorem kfslab1_8 : concB Tryz.prog 117 = true := by kernel_rfl
theorem kfslab1_9 : (Tryz.prog.info? 121).bind (fun i => i.zero.map Value.cells) = some (List.toArray [(.int .i64 0), (.int .i64 0), .nilIface]) := by kernel_rfl
theorem kfslab1_10 : aggB Tryz.prog 54 4 = true := by kernel_rfl
theorem kfslab1_11 : fldB Tryz.prog 121 0 0 = true := by kernel_rfl
theorem kfslab1_12 : oneB Tryz.prog 2 = true := by kernel_rfl
theorem kfslab1_13 : fldB Tryz.prog 121 1 1 = true := by kernel_rfl
theorem kfslab1_14 : callB Tryz.prog 35 = true := by kernel_rfl
theorem kfslab1_15 : (Tryz.prog.info? 54).bind (fun i => i.zero.map Value.cells) = some (List.toArray [(.int .i64 0), (.int .i64 0), (.int .i64 0), (.int .i64 0)]) := by kernel_rfl
theorem kfslab1_16 : fldB Tryz.prog 105 0 0 = true := by kernel_rfl
theorem kfslab1_17 : fldB Tryz.prog 105 1 1 = true := by kernel_rfl
theorem kfslab1_18 : szB Tryz.prog 54 4 = true := by kernel_rfl
theorem kfslab1_19 : fldB Tryz.prog 121 2 2 = true := by kernel_rfl
theorem kfslab1_20 : oneB Tryz.prog 119 = true := by kernel_rfl
theorem kfslab1_25 : methB Tryz.prog 117 "hachure/slab.at" 138 = true := by kernel_rfl
theorem kfslab1_26 : notPtrB Tryz.prog 117 = true := by kernel_rfl
theorem kfslab1_27 : callB Tryz.prog 138 = true := by kernel_rfl
theorem kfslab1_32 : aggB Tryz.prog 105 2 = true := by kernel_rfl
theorem kfslab1_33 : callB Tryz.prog 102 = true := by kernel_rfl
theorem kfslab1_34 : callB Tryz.prog 101 = true := by kernel_rfl
theorem kfslab1_35 : methB Tryz.prog 152 "hachure/slab.at" 139 = true := by kernel_rfl
theorem kfslab1_36 : notPtrB Tryz.prog 152 = true := by kernel_rfl
theorem kfslab1_37 : callB Tryz.prog 139 = true := by kernel_rfl
theorem bdec {p q : Prop} [Decidable p] [Decidable q] (h : p ↔ q) : Value.bool (decide p) = Value.bool (decide q) := by rw [decide_eq_decide.2 h]
theorem bfls {q : Prop} [Decidable q] (h : ¬ q) : Value.bool false = Value.bool (decide q) := by rw [decide_eq_false h]
def atC (a h : Nat) (x y : Int) : Int := withinC x y x y a h
def atV (V : List Int) (a h : Nat) (x y : Int) : Int := if atC a h x y = 0 then nth V (y * a + x).toNat else 0
theorem atV_no {V : List Int} {a h : Nat} {x y : Int} (hw : ¬ atC a h x y = 0) : atV V a h x y = 0 := by unfold atV; rw [if_neg hw]
theorem atV_ok {V : List Int} {a h x y : Nat} (hw : atC a h x y = 0) : atV V a h x y = nth V (y * a + x) := by unfold atV; rw [if_pos hw]; congr 1
theorem cell_lt {a h x y : Nat} (hx : x < a) (hy : y < h) : y * a + x < a * h := by
  have : (y + 1) * a ≤ h * a := Nat.mul_le_mul_right _ hy
  rw [Nat.succ_mul, Nat.mul_comm h a] at this; omega
theorem at_nat {a h : Nat} {x y : Int} (p : sizeP a h) (hw : atC a h x y = 0) : ∃ p q : Nat, x = p ∧ y = q ∧ p < a ∧ q < h := by
  obtain ⟨p0, q0, p1, q1, h1, h2, h3, h4, _, _, _, _⟩ := within_nat p hw
  exact ⟨p0, q0, h1, h2, by omega, by omega⟩
theorem row_bd {a h x y : Nat} (p : sizeP a h) (hx : x < a) (hy : y < h) : (y : Int) * (a : Int) = ((y * a : Nat) : Int) ∧ y * a + x < a * h ∧ a * h ≤ 256 := ⟨by rw [Int.natCast_mul], cell_lt hx hy, p.mul.2⟩

set_option maxRecDepth 100000 in
theorem fill1_any (u : Int) (b : Nat) (A : Option Addr) (n cap : Nat) (V : List Int) (w : World) (hb : Rd w (some ⟨b, 0, none⟩) [.slice A n cap]) (h : Rd w A (vi .i32 V)) (hl : V.length = n) (h0 : 1 ≤ n) (hn : n ≤ 256) :
    Ret Tryz.prog 115 [.int .i32 u, pt (some ⟨b, 0, none⟩) 0] w (fun v w' => v = .bool (decide (u ≠ nth V 0)) ∧ Below w.heap.size w w') := by
  have hg0 := vi_get (k := .i32) (zs := V) (i := 0) (by omega)
  refine ret_enter Tryz.func115 rfl rfl rfl ?_
  have H0 := HS.start w
  refine cw_seq ?_
  refine cw_reg ?_
  refine ry (y_asg rfl rfl) rfl rfl ?_
  refine reg_nil ?_
  refine fn_next ?_
  refine cw_seq ?_
  refine cw_reg ?_
  refine ry (y_mov rfl rfl) rfl rfl ?_
  refine ry (y_ldr (hb.below H0.base) rfl rfl kfslab1_1 (rfl)) rfl rfl ?_
  refine ry (y_iar (i := 0) (h.below H0.base) rfl rfl rfl kfslab1_2 (rfl) (by omega) (Nat.mul_one _) (hg0)) rfl rfl ?_
  refine ry (y_ldr (h.below H0.base) rfl rfl kfslab1_3 (hg0)) rfl rfl ?_
  refine ry (y_neq rfl rfl rfl) rfl rfl ?_
  refine ry (y_asg rfl rfl) rfl rfl ?_
  refine reg_nil ?_
  refine fn_next ?_
  refine cw_ret ?_
  refine fn_ret1 rfl rfl ?_
  exact ⟨rfl, H0.base⟩

set_option maxRecDepth 100000 in
theorem indexF_any (b : Nat) (A : Option Addr) (n cap : Nat) (V : List Int) (w : World) (hb : Rd w (some ⟨b, 0, none⟩) [.slice A n cap]) (h : Rd w A (vi .i32 V)) (hl : V.length = n) (h0 : 1 ≤ n) (hn : n ≤ 256) :
    Ret Tryz.prog 117 [.slice A n cap, .func (.func 115) #[] #[pt (some ⟨b, 0, none⟩) 0]] w (fun v w' => v = .int .i64 (ixNe V n) ∧ Below w.heap.size w w') := by
  refine ret_enter Tryz.func117 rfl rfl rfl ?_
  have H0 := HS.start w
  refine cw_seq ?_
  refine cw_reg ?_
  refine ry (y_asg rfl rfl) rfl rfl ?_
  refine reg_nil ?_
  refine fn_next ?_
  refine cw_seq ?_
  refine cw_seq ?_
  refine cw_reg ?_
  refine ry (y_mov rfl rfl) rfl rfl ?_
  refine ry (y_len rfl Tryz.underlying152 rfl) rfl rfl ?_
  refine ry (y_mov rfl rfl) rfl rfl ?_
  refine reg_nil ?_
  refine fn_next ?_
  refine cw_block ?_
  refine cw_loopJ [4, 5, 8, 9, 10, 11, 12, 13, 14, 15, 16, 17, 18] (fun M wl ml => ∃ (i : Nat), M = [(8, .int .i64 (i : Int))] ∧ HS w wl [] ∧ (i ≤ n) ∧ (Hid (∀ j, j < i → nth V j = nth V 0)) ∧ ml = n - i) ⟨0, rfl, H0, Nat.zero_le _, Lib.hid (fun j hj => absurd hj (Nat.not_lt_zero _)), rfl⟩ ⟨rfl, trivial⟩ ?_
  rintro M w1 m3 ⟨i, rfl, H2, hp0, hp1, rfl⟩
  refine cw_seq ?_
  refine cw_reg ?_
  refine ry (y_lss rfl rfl rfl) rfl rfl ?_
  refine reg_nil ?_
  refine fn_next ?_
  refine cw_seq ?_
  refine cw_condd rfl (fun h4 => ?_) (fun h4 => ?_)
  · skip
    have hgi := vi_get (k := .i32) (zs := V) (i := i) (by omega)
    refine cw_skip ?_
    refine fn_next ?_
    refine cw_seq ?_
    refine cw_block ?_
    refine cw_seq ?_
    refine cw_reg ?_
    refine ry (y_mov rfl rfl) rfl rfl ?_
    refine ry (y_asg rfl rfl) rfl rfl ?_
    refine reg_nil ?_
    refine fn_next ?_
    refine cw_seq ?_
    refine cw_reg ?_
    refine ry (y_mov rfl rfl) rfl rfl ?_
    refine ry (y_mov rfl rfl) rfl rfl ?_
    refine ry (y_mov rfl rfl) rfl rfl ?_
    refine ry (y_iar (h.below H2.base) rfl rfl rfl kfslab1_2 (rfl) (by omega) (Nat.mul_one _) (hgi)) rfl rfl ?_
    refine ry (y_ldr (h.below H2.base) rfl rfl kfslab1_3 (hgi)) rfl rfl ?_
    refine reg_op (op_callv (fs := []) (vs := [_]) (cs := [_]) (fill1_any (nth V i) b A n cap V _ (hb.below H2.base) (h.below H2.base) hl h0 hn) rfl kfslab1_4 rfl ⟨rfl, trivial⟩) rfl rfl ?_
    rintro _ w6 ⟨rfl, e5⟩
    have H7 := H2.ext e5
    refine reg_nil ?_
    refine fn_next ?_
    refine cw_condd rfl (fun hne => ?_) (fun hne => ?_)
    · skip
      refine cw_seq ?_
      refine cw_reg ?_
      refine ry (y_mov rfl rfl) rfl rfl ?_
      refine ry (y_asg rfl rfl) rfl rfl ?_
      refine reg_nil ?_
      refine fn_next ?_
      refine cw_ret ?_
      refine fn_block_ret (fn_then_ret (fn_then_ret (fn_block_ret (fn_then_ret ?_))))
      refine fn_ret1 rfl rfl ?_
      rw [ixNe_at hp1.out (by omega) hne]
      exact ⟨rfl, H7.base⟩
    · skip
      refine cw_skip ?_
      refine fn_block ?_
      refine fn_next ?_
      refine cw_reg ?_
      refine ry (y_add rfl rfl rfl (wi (by omega))) rfl rfl ?_
      refine ry (y_mov rfl rfl) rfl rfl ?_
      refine reg_nil ?_
      refine fn_roundJ ⟨i + 1, rfl, H7, by omega, Lib.hid (fun j hj => (Nat.lt_or_eq_of_le (Nat.le_of_lt_succ hj)).elim (hp1.out j) (fun e => e ▸ Classical.not_not.1 hne)), rfl⟩ ⟨rfl, trivial⟩ (by omega) (by repeat (first | exact kp_refl | refine kp_app rfl rfl ?_ | refine kp_cons rfl ?_)) rfl
  · skip
    obtain rfl : i = n := by omega
    refine cw_exit ?_
    refine fn_then_exit (fn_then_exit (fn_block_exit ?_))
    refine fn_next ?_
    refine cw_seq ?_
    refine cw_reg ?_
    refine ry (y_asg rfl rfl) rfl rfl ?_
    refine reg_nil ?_
    refine fn_next ?_
    refine cw_ret ?_
    refine fn_ret1 rfl rfl ?_
    rw [ixNe_no hp1.out]
    exact ⟨rfl, H2.base⟩

set_option maxRecDepth 100000 in
theorem containsF_any (b : Nat) (A : Option Addr) (n cap : Nat) (V : List Int) (w : World) (hb : Rd w (some ⟨b, 0, none⟩) [.slice A n cap]) (h : Rd w A (vi .i32 V)) (hl : V.length = n) (h0 : 1 ≤ n) (hn : n ≤ 256) :
    Ret Tryz.prog 114 [.slice A n cap, .func (.func 115) #[] #[pt (some ⟨b, 0, none⟩) 0]] w (fun v w' => v = .bool (decide (ixNe V n ≥ 0)) ∧ Below w.heap.size w w') := by
  refine ret_enter Tryz.func114 rfl rfl rfl ?_
  have H0 := HS.start w
  refine cw_seq ?_
  refine cw_reg ?_
  refine ry (y_asg rfl rfl) rfl rfl ?_
  refine reg_nil ?_
  refine fn_next ?_
  refine cw_seq ?_
  refine cw_reg ?_
  refine ry (y_mov rfl rfl) rfl rfl ?_
  refine ry (y_mov rfl rfl) rfl rfl ?_
  refine reg_op (op_call (indexF_any b A n cap V _ (hb.below H0.base) (h.below H0.base) hl h0 hn) rfl kfslab1_5 ⟨rfl, rfl, trivial⟩) rfl rfl ?_
  rintro _ w2 ⟨rfl, e1⟩
  have H3 := H0.ext e1
  refine ry (y_geq rfl rfl rfl) rfl rfl ?_
  refine ry (y_asg rfl rfl) rfl rfl ?_
  refine reg_nil ?_
  refine fn_next ?_
  refine cw_ret ?_
  refine fn_ret1 rfl rfl ?_
  exact ⟨rfl, H3.base⟩

set_option maxRecDepth 100000 in
theorem slabMay_any (v : Int) (w : World) :
    Ret Tryz.prog 81 [.int .i64 v] w (fun u w' => u = .bool (decide (B32 v)) ∧ Below w.heap.size w w') := by
  refine ret_enter Tryz.func81 rfl rfl rfl ?_
  have H0 := HS.start w
  refine cw_seq ?_
  refine cw_reg ?_
  refine ry (y_asg rfl rfl) rfl rfl ?_
  refine reg_nil ?_
  refine fn_next ?_
  refine cw_seq ?_
  refine cw_reg ?_
  refine ry (y_mov rfl rfl) rfl rfl ?_
  refine ry (y_geq rfl rfl rfl) rfl rfl ?_
  refine ry (y_mov rfl rfl) rfl rfl ?_
  refine rg_splitd (d := 5) rfl (fun h1 => ?_) (fun h1 => ?_)
  · skip
    refine rgy (y_mov rfl rfl) rfl rfl rfl rfl ?_
    refine rgy (y_leq rfl rfl rfl) rfl rfl rfl rfl ?_
    refine ry (y_pick rfl rfl rfl) rfl rfl ?_
    refine ry (y_asg rfl rfl) rfl rfl ?_
    refine reg_nil ?_
    refine fn_next ?_
    refine cw_ret ?_
    refine fn_ret1 rfl rfl ?_
    refine ⟨?_, H0.base⟩
    first | exact bdec (by unfold B32; omega) | exact bfls (by unfold B32; omega)
  · skip
    refine rg_off rfl rfl rfl rfl rfl ?_
    refine rg_off rfl rfl rfl rfl rfl ?_
    refine ry (y_pick rfl rfl rfl) rfl rfl ?_
    refine ry (y_asg rfl rfl) rfl rfl ?_
    refine reg_nil ?_
    refine fn_next ?_
    refine cw_ret ?_
    refine fn_ret1 rfl rfl ?_
    refine ⟨?_, H0.base⟩
    first | exact bdec (by unfold B32; omega) | exact bfls (by unfold B32; omega)

set_option maxRecDepth 100000 in
theorem tileRight_any (x y : Int) (w : World) :
    Ret Tryz.prog 59 [.int .i64 x, .int .i64 y] w (fun u w' => u = .bool (decide (1 ≤ x ∧ x ≤ 16 ∧ 1 ≤ y ∧ y ≤ 16)) ∧ Below w.heap.size w w') := by
  refine ret_enter Tryz.func59 rfl rfl rfl ?_
  have H0 := HS.start w
  refine cw_seq ?_
  refine cw_reg ?_
  refine ry (y_asg rfl rfl) rfl rfl ?_
  refine reg_nil ?_
  refine fn_next ?_
  refine cw_seq ?_
  refine cw_reg ?_
  refine ry (y_mov rfl rfl) rfl rfl ?_
  refine ry (y_geq rfl rfl rfl) rfl rfl ?_
  refine ry (y_mov rfl rfl) rfl rfl ?_
  refine rg_splitd (d := 7) rfl (fun h1 => ?_) (fun h1 => ?_)
  · skip
    refine rgy (y_mov rfl rfl) rfl rfl rfl rfl ?_
    refine rgy (y_leq rfl rfl rfl) rfl rfl rfl rfl ?_
    refine ry (y_pick rfl rfl rfl) rfl rfl ?_
    refine ry (y_mov rfl rfl) rfl rfl ?_
    refine rg_splitd (d := 11) rfl (fun h2 => ?_) (fun h2 => ?_)
    · skip
      refine rgy (y_mov rfl rfl) rfl rfl rfl rfl ?_
      refine rgy (y_geq rfl rfl rfl) rfl rfl rfl rfl ?_
      refine ry (y_pick rfl rfl rfl) rfl rfl ?_
      refine ry (y_mov rfl rfl) rfl rfl ?_
      refine rg_splitd (d := 15) rfl (fun h3 => ?_) (fun h3 => ?_)
      · skip
        refine rgy (y_mov rfl rfl) rfl rfl rfl rfl ?_
        refine rgy (y_leq rfl rfl rfl) rfl rfl rfl rfl ?_
        refine ry (y_pick rfl rfl rfl) rfl rfl ?_
        refine ry (y_asg rfl rfl) rfl rfl ?_
        refine reg_nil ?_
        refine fn_next ?_
        refine cw_ret ?_
        refine fn_ret1 rfl rfl ?_
        refine ⟨?_, H0.base⟩
        first | exact bdec (by omega) | exact bfls (by omega)
      · skip
        refine rg_off rfl rfl rfl rfl rfl ?_
        refine rg_off rfl rfl rfl rfl rfl ?_
        refine ry (y_pick rfl rfl rfl) rfl rfl ?_
        refine ry (y_asg rfl rfl) rfl rfl ?_
        refine reg_nil ?_
        refine fn_next ?_
        refine cw_ret ?_
        refine fn_ret1 rfl rfl ?_
        refine ⟨?_, H0.base⟩
        first | exact bdec (by omega) | exact bfls (by omega)
    · skip
      refine rg_off rfl rfl rfl rfl rfl ?_
      refine rg_off rfl rfl rfl rfl rfl ?_
      refine ry (y_pick rfl rfl rfl) rfl rfl ?_
      refine ry (y_mov rfl rfl) rfl rfl ?_
      refine rg_off rfl rfl rfl rfl rfl ?_
      refine rg_off rfl rfl rfl rfl rfl ?_
      refine ry (y_pick rfl rfl rfl) rfl rfl ?_
      refine ry (y_asg rfl rfl) rfl rfl ?_
      refine reg_nil ?_
      refine fn_next ?_
      refine cw_ret ?_
      refine fn_ret1 rfl rfl ?_
      refine ⟨?_, H0.base⟩
      first | exact bdec (by omega) | exact bfls (by omega)
  · skip
    refine rg_off rfl rfl rfl rfl rfl ?_
    refine rg_off rfl rfl rfl rfl rfl ?_
    refine ry (y_pick rfl rfl rfl) rfl rfl ?_
    refine ry (y_mov rfl rfl) rfl rfl ?_
    refine rg_off rfl rfl rfl rfl rfl ?_
    refine rg_off rfl rfl rfl rfl rfl ?_
    refine ry (y_pick rfl rfl rfl) rfl rfl ?_
    refine ry (y_mov rfl rfl) rfl rfl ?_
    refine rg_off rfl rfl rfl rfl rfl ?_
    refine rg_off rfl rfl rfl rfl rfl ?_
    refine ry (y_pick rfl rfl rfl) rfl rfl ?_
    refine ry (y_asg rfl rfl) rfl rfl ?_
    refine reg_nil ?_
    refine fn_next ?_
    refine cw_ret ?_
    refine fn_ret1 rfl rfl ?_
    refine ⟨?_, H0.base⟩
    first | exact bdec (by omega) | exact bfls (by omega)

set_option maxRecDepth 100000 in
theorem slabNew_ok (a h : Nat) (v : Int) (w : World) (p : sizeP a h) (hv : B32 v) :
    Ret Tryz.prog 37 [.int .i64 (a : Int), .int .i64 (h : Int), .int .i64 v] w (fun u w' => ∃ b, u = .tuple #[.pointer (some ⟨b, 0, none⟩), .int .i64 0] ∧ HS w w' [.blk b [.int .i64 (a : Int), .int .i64 (h : Int), (Ld.flat v).val (a * h)] 121]) := by
  obtain ⟨hp1, hp2, hp3, hp4⟩ := p
  refine ret_enter Tryz.func37 rfl rfl rfl ?_
  have H0 := HS.start w
  refine cw_seq ?_
  refine cw_reg ?_
  refine ry (y_asg rfl rfl) rfl rfl ?_
  refine ry (y_asg rfl rfl) rfl rfl ?_
  refine reg_nil ?_
  refine fn_next ?_
  refine cw_seq ?_
  refine cw_block ?_
  refine cw_seq ?_
  refine cw_reg ?_
  refine ry (y_mov rfl rfl) rfl rfl ?_
  refine ry (y_lss rfl rfl rfl) rfl rfl ?_
  refine ry (y_mov rfl rfl) rfl rfl ?_
  refine rg_splitd (d := 11) rfl (fun h1 => ?_) (fun h1 => ?_)
  · exfalso; omega
  · skip
    refine rgy (y_mov rfl rfl) rfl rfl rfl rfl ?_
    refine rgy (y_gtr rfl rfl rfl) rfl rfl rfl rfl ?_
    refine ry (y_pick rfl rfl rfl) rfl rfl ?_
    refine ry (y_mov rfl rfl) rfl rfl ?_
    refine rg_splitd (d := 15) rfl (fun h2 => ?_) (fun h2 => ?_)
    · exfalso; omega
    · skip
      refine rgy (y_mov rfl rfl) rfl rfl rfl rfl ?_
      refine rgy (y_lss rfl rfl rfl) rfl rfl rfl rfl ?_
      refine ry (y_pick rfl rfl rfl) rfl rfl ?_
      refine ry (y_mov rfl rfl) rfl rfl ?_
      refine rg_splitd (d := 19) rfl (fun h3 => ?_) (fun h3 => ?_)
      · exfalso; omega
      · skip
        refine rgy (y_mov rfl rfl) rfl rfl rfl rfl ?_
        refine rgy (y_gtr rfl rfl rfl) rfl rfl rfl rfl ?_
        refine ry (y_pick rfl rfl rfl) rfl rfl ?_
        refine ry (y_mov rfl rfl) rfl rfl ?_
        refine rg_splitd (d := 23) rfl (fun h4 => ?_) (fun h4 => ?_)
        · exfalso; omega
        · skip
          refine rgy (y_mov rfl rfl) rfl rfl rfl rfl ?_
          refine rgy (y_mov rfl rfl) rfl rfl rfl rfl ?_
          refine rg_on rfl rfl rfl (op_call (tileRight_any a h _) rfl kfslab1_6 ⟨rfl, rfl, trivial⟩) rfl ?_
          rintro _ w6 ⟨rfl, e5⟩
          have H7 := H0.ext e5
          refine rgy (y_notd rfl rfl) rfl rfl rfl rfl ?_
          refine ry (y_pick rfl rfl rfl) rfl rfl ?_
          refine ry (y_asg rfl rfl) rfl rfl ?_
          refine reg_nil ?_
          refine fn_next ?_
          refine cw_condd rfl (fun h8 => ?_) (fun h8 => ?_)
          · exfalso; omega
          · skip
            refine cw_seq ?_
            refine cw_reg ?_
            refine ry (y_mov rfl rfl) rfl rfl ?_
            refine reg_op (op_call (slabMay_any v _) rfl kfslab1_7 ⟨rfl, trivial⟩) rfl rfl ?_
            rintro _ w10 ⟨rfl, e9⟩
            have H11 := H7.ext e9
            refine ry (y_notd rfl rfl) rfl rfl ?_
            refine ry (y_asg rfl rfl) rfl rfl ?_
            refine reg_nil ?_
            refine fn_next ?_
            refine cw_condd rfl (fun h12 => ?_) (fun h12 => ?_)
            · exact absurd hv h12
            · skip
              refine cw_skip ?_
              refine fn_block ?_
              refine fn_next ?_
              refine cw_seq ?_
              refine cw_reg ?_
              refine ry (y_mov rfl rfl) rfl rfl ?_
              refine ry (y_mov rfl rfl) rfl rfl ?_
              refine ry (y_mov rfl rfl) rfl rfl ?_
              refine ry (y_conv rfl Tryz.underlying2 Tryz.underlying117 rfl (wi32 (show _ from by unfold B32 at hv; omega))) rfl rfl ?_
              refine ry (y_iface rfl kfslab1_8 rfl) rfl rfl ?_
              refine ry (y_build (places := [(0, 1), (1, 1), (2, 1)]) (parts := [(0, _), (1, _), (2, _)]) (vs := [(0, _), (1, _), (2, _)]) (cs := [.int _ _, .int _ _, _]) rfl Tryz.underlying121 (by kernel_rfl) kfslab1_9 rfl ⟨rfl, rfl, rfl, trivial⟩ rfl) rfl rfl ?_
              refine reg_op (op_box (cs := [.int _ _, .int _ _, _]) H11 rfl rfl rfl) rfl rfl ?_
              rintro _ w14 ⟨b13, rfl, H15⟩
              refine ry (y_asg rfl rfl) rfl rfl ?_
              refine ry (y_asg rfl rfl) rfl rfl ?_
              refine reg_nil ?_
              refine fn_next ?_
              refine cw_ret ?_
              refine fn_retn (vs := [_, _]) rfl ⟨rfl, rfl, trivial⟩ rfl ?_
              exact ⟨_, rfl, H15⟩

set_option maxRecDepth 100000 in
theorem slabCheck_any (b a h : Nat) (c : Value) (x0 y0 x1 y1 : Int) (w : World) (hs : Rd w (some ⟨b, 0, none⟩) [.int .i64 (a : Int), .int .i64 (h : Int), c]) :
    Ret Tryz.prog 101 [pt (some ⟨b, 0, none⟩) 0, .agg #[.int .i64 x0, .int .i64 y0, .int .i64 x1, .int .i64 y1]] w (fun v w' => v = .int .i64 (withinC x0 y0 x1 y1 a h) ∧ Below w.heap.size w w') := by
  refine ret_enter Tryz.func101 rfl rfl rfl ?_
  have H0 := HS.start w
  refine cw_seq ?_
  refine cw_reg ?_
  refine reg_op (op_box (cs := [.int _ _, .int _ _, .int _ _, .int _ _]) H0 rfl rfl rfl) rfl rfl ?_
  rintro _ w2 ⟨b1, rfl, H3⟩
  refine ry (y_asg rfl rfl) rfl rfl ?_
  refine reg_nil ?_
  refine fn_next ?_
  refine cw_seq ?_
  refine cw_seq ?_
  refine cw_reg ?_
  refine ry (y_mov rfl rfl) rfl rfl ?_
  refine ry (y_peqlnil rfl Tryz.underlying79 rfl rfl) rfl rfl ?_
  refine reg_nil ?_
  refine fn_next ?_
  refine cw_condf rfl ?_
  refine cw_skip ?_
  refine fn_next ?_
  refine cw_seq ?_
  refine cw_draw H3 [0, 1, 2, 3, 4, 5, 6, 7, 8, 9, 10] [] (fun X HX => HX) (by kernel_rfl) (by kernel_rfl) (by rfl) ?_
  simp only [pick, List.getElem?_cons_succ, List.getElem?_cons_zero]
  refine hk_y (fun Y HY => y_ldb (i := 0) (cs := [_, _, _, _]) HY rfl rfl kfslab1_10 rfl rfl) rfl rfl ?_
  refine hk_y (fun Y HY => y_mov rfl rfl) rfl rfl ?_
  refine hk_y (fun Y HY => y_nilck rfl rfl) rfl rfl ?_
  refine hk_y (fun Y HY => y_far (hs.below HY.base) rfl rfl kfslab1_11 rfl (rfl)) rfl rfl ?_
  refine hk_y (fun Y HY => y_ldr (hs.below HY.base) rfl rfl kfslab1_12 (rfl)) rfl rfl ?_
  refine hk_y (fun Y HY => y_mov rfl rfl) rfl rfl ?_
  refine hk_y (fun Y HY => y_nilck rfl rfl) rfl rfl ?_
  refine hk_y (fun Y HY => y_far (hs.below HY.base) rfl rfl kfslab1_13 rfl (rfl)) rfl rfl ?_
  refine hk_y (fun Y HY => y_ldr (hs.below HY.base) rfl rfl kfslab1_12 (rfl)) rfl rfl ?_
  refine hk_q (qy_call (fun Y HY => ret_elder (within_any x0 y0 x1 y1 a h _)) rfl kfslab1_14 ⟨rfl, rfl, rfl, trivial⟩) rfl rfl ?_
  refine hk_y (fun Y HY => y_asg rfl rfl) rfl rfl ?_
  refine hk_nil ?_
  intro w4 H5
  refine tv_nil ?_
  refine fn_next ?_
  refine cw_ret ?_
  refine fn_ret1 rfl rfl ?_
  exact ⟨rfl, H5.base⟩

set_option maxRecDepth 100000 in
theorem slabSpot_any (x y : Int) (w : World) :
    Ret Tryz.prog 102 [.agg #[.int .i64 x, .int .i64 y]] w (fun v w' => v = .agg #[.int .i64 x, .int .i64 y, .int .i64 x, .int .i64 y] ∧ Below w.heap.size w w') := by
  refine ret_enter Tryz.func102 rfl rfl rfl ?_
  have H0 := HS.start w
  refine cw_seq ?_
  refine cw_reg ?_
  refine reg_op (op_box (cs := [.int _ _, .int _ _]) H0 rfl rfl rfl) rfl rfl ?_
  rintro _ w2 ⟨b1, rfl, H3⟩
  refine reg_op (op_alloc H3 rfl kfslab1_15) rfl rfl ?_
  rintro _ w5 ⟨b4, rfl, H6⟩
  refine reg_nil ?_
  refine fn_next ?_
  refine cw_seq ?_
  refine cw_reg ?_
  refine ry (y_fa rfl rfl kfslab1_16 rfl) rfl rfl ?_
  refine ry (y_ld rfl rfl kfslab1_12 (H6.cell (i := 1) rfl rfl)) rfl rfl ?_
  refine ry (y_fa rfl rfl kfslab1_17 rfl) rfl rfl ?_
  refine ry (y_ld rfl rfl kfslab1_12 (H6.cell (i := 1) rfl rfl)) rfl rfl ?_
  refine ry (y_fa rfl rfl kfslab1_16 rfl) rfl rfl ?_
  refine ry (y_ld rfl rfl kfslab1_12 (H6.cell (i := 1) rfl rfl)) rfl rfl ?_
  refine ry (y_fa rfl rfl kfslab1_17 rfl) rfl rfl ?_
  refine ry (y_ld rfl rfl kfslab1_12 (H6.cell (i := 1) rfl rfl)) rfl rfl ?_
  refine ry (y_build (places := [(0, 1), (1, 1), (2, 1), (3, 1)]) (parts := [(0, _), (1, _), (2, _), (3, _)]) (vs := [(0, _), (1, _), (2, _), (3, _)]) (cs := [.int _ _, .int _ _, .int _ _, .int _ _]) rfl Tryz.underlying54 (by kernel_rfl) kfslab1_15 rfl ⟨rfl, rfl, rfl, rfl, trivial⟩ rfl) rfl rfl ?_
  refine reg_op (op_st (i := 0) (vs := [.int _ _, .int _ _, .int _ _, .int _ _]) H6 rfl rfl rfl rfl rfl kfslab1_18 rfl rfl rfl) rfl rfl ?_
  rintro _ w7 H8
  refine reg_nil ?_
  refine fn_next ?_
  refine cw_ret ?_
  refine fn_ret1 rfl (⟨_, rfl, load_agg (cs := [_, _, _, _]) kfslab1_10 rfl fun j v hv => by rw [Nat.zero_add]; exact H8.cell (i := 0) rfl hv⟩) ?_
  exact ⟨rfl, H8.base⟩

set_option maxRecDepth 100000 in
theorem flatAt_any (u i : Int) (w : World) (hu : B32 u) :
    Ret Tryz.prog 138 [.int .i32 u, .int .i64 i] w (fun v w' => v = .int .i64 u ∧ Below w.heap.size w w') := by
  refine ret_enter Tryz.func138 rfl rfl rfl ?_
  have H0 := HS.start w
  refine cw_seq ?_
  refine cw_reg ?_
  refine ry (y_asg rfl rfl) rfl rfl ?_
  refine reg_nil ?_
  refine fn_next ?_
  refine cw_seq ?_
  refine cw_reg ?_
  refine ry (y_mov rfl rfl) rfl rfl ?_
  refine ry (y_conv rfl Tryz.underlying117 Tryz.underlying2 rfl (wi (show _ from by unfold B32 at hu; omega))) rfl rfl ?_
  refine ry (y_asg rfl rfl) rfl rfl ?_
  refine reg_nil ?_
  refine fn_next ?_
  refine cw_ret ?_
  refine fn_ret1 rfl rfl ?_
  exact ⟨rfl, H0.base⟩

set_option maxRecDepth 100000 in
theorem roughAt_any (A : Option Addr) (n cap i : Nat) (V : List Int) (w : World) (h : Rd w A (vi .i32 V)) (hl : V.length = n) (hi : i < n) (hb : AllB V) :
    Ret Tryz.prog 139 [.slice A n cap, .int .i64 (i : Int)] w (fun v w' => v = .int .i64 (nth V i) ∧ Below w.heap.size w w') := by
  have hgi := vi_get (k := .i32) (zs := V) (i := i) (by omega)
  have hu := hb.at_ (j := i) (by omega)
  refine ret_enter Tryz.func139 rfl rfl rfl ?_
  have H0 := HS.start w
  refine cw_seq ?_
  refine cw_reg ?_
  refine ry (y_asg rfl rfl) rfl rfl ?_
  refine reg_nil ?_
  refine fn_next ?_
  refine cw_seq ?_
  refine cw_reg ?_
  refine ry (y_mov rfl rfl) rfl rfl ?_
  refine ry (y_mov rfl rfl) rfl rfl ?_
  refine ry (y_iar (h.below H0.base) rfl rfl rfl kfslab1_2 (rfl) (by omega) (Nat.mul_one _) (hgi)) rfl rfl ?_
  refine ry (y_ldr (h.below H0.base) rfl rfl kfslab1_3 (hgi)) rfl rfl ?_
  refine ry (y_conv rfl Tryz.underlying21 Tryz.underlying2 rfl (wi (show _ from by unfold B32 at hu; omega))) rfl rfl ?_
  refine ry (y_asg rfl rfl) rfl rfl ?_
  refine reg_nil ?_
  refine fn_next ?_
  refine cw_ret ?_
  refine fn_ret1 rfl rfl ?_
  exact ⟨rfl, H0.base⟩

set_option maxRecDepth 100000 in
theorem slabAt_no (b a h : Nat) (c : Value) (x y : Int) (V : List Int) (w : World) (hs : Rd w (some ⟨b, 0, none⟩) [.int .i64 (a : Int), .int .i64 (h : Int), c]) (hw : ¬ atC a h x y = 0) :
    Ret Tryz.prog 69 [pt (some ⟨b, 0, none⟩) 0, .agg #[.int .i64 x, .int .i64 y]] w (fun v w' => v = .tuple #[.int .i64 (atV (V) a h x y), .int .i64 (atC a h x y)] ∧ Below w.heap.size w w') := by
  refine ret_enter Tryz.func69 rfl rfl rfl ?_
  have H0 := HS.start w
  refine cw_seq ?_
  refine cw_reg ?_
  refine reg_op (op_box (cs := [.int _ _, .int _ _]) H0 rfl rfl rfl) rfl rfl ?_
  rintro _ w2 ⟨b1, rfl, H3⟩
  refine ry (y_asg rfl rfl) rfl rfl ?_
  refine ry (y_asg rfl rfl) rfl rfl ?_
  refine reg_nil ?_
  refine fn_next ?_
  refine cw_seq ?_
  refine cw_seq ?_
  refine cw_reg ?_
  refine ry (y_mov rfl rfl) rfl rfl ?_
  refine ry (y_ldb (i := 0) (cs := [_, _]) H3 rfl rfl kfslab1_32 rfl rfl) rfl rfl ?_
  refine reg_op (op_call (slabSpot_any x y _) rfl kfslab1_33 ⟨rfl, trivial⟩) rfl rfl ?_
  rintro _ w5 ⟨rfl, e4⟩
  have H6 := H3.ext e4
  refine reg_op (op_call (slabCheck_any b a h _ x y x y _ (hs.below H6.base)) rfl kfslab1_34 ⟨rfl, rfl, trivial⟩) rfl rfl ?_
  rintro _ w8 ⟨rfl, e7⟩
  have H9 := H6.ext e7
  refine ry (y_asg rfl rfl) rfl rfl ?_
  refine reg_nil ?_
  refine fn_next ?_
  refine cw_seq ?_
  refine cw_reg ?_
  refine ry (y_mov rfl rfl) rfl rfl ?_
  refine ry (y_neq rfl rfl rfl) rfl rfl ?_
  refine reg_nil ?_
  refine fn_next ?_
  refine cw_condd rfl (fun h10 => ?_) (fun h10 => ?_)
  · skip
    refine cw_seq ?_
    refine cw_reg ?_
    refine ry (y_mov rfl rfl) rfl rfl ?_
    refine ry (y_asg rfl rfl) rfl rfl ?_
    refine ry (y_asg rfl rfl) rfl rfl ?_
    refine reg_nil ?_
    refine fn_next ?_
    refine cw_ret ?_
    refine fn_then_ret ?_
    refine fn_retn (vs := [_, _]) rfl ⟨rfl, rfl, trivial⟩ rfl ?_
    rw [atV_no hw]
    exact ⟨rfl, H9.base⟩
  · exact absurd (Classical.not_not.1 h10) hw

set_option maxRecDepth 100000 in
theorem slabAt_flat (b a h : Nat) (u : Int) (x y : Int) (w : World) (p : sizeP a h) (hu : B32 u) (hs : Rd w (some ⟨b, 0, none⟩) [.int .i64 (a : Int), .int .i64 (h : Int), .iface 117 (.int .i32 u)]) (hw : atC a h x y = 0) :
    Ret Tryz.prog 69 [pt (some ⟨b, 0, none⟩) 0, .agg #[.int .i64 x, .int .i64 y]] w (fun v w' => v = .tuple #[.int .i64 (atV ((Ld.flat u).lst (a * h)) a h x y), .int .i64 (atC a h x y)] ∧ Below w.heap.size w w') := by
  obtain ⟨x, y, rfl, rfl, hx, hy⟩ := at_nat p hw
  obtain ⟨e1, e2, e3⟩ := row_bd p hx hy
  refine ret_enter Tryz.func69 rfl rfl rfl ?_
  have H0 := HS.start w
  refine cw_seq ?_
  refine cw_reg ?_
  refine reg_op (op_box (cs := [.int _ _, .int _ _]) H0 rfl rfl rfl) rfl rfl ?_
  rintro _ w2 ⟨b1, rfl, H3⟩
  refine ry (y_asg rfl rfl) rfl rfl ?_
  refine ry (y_asg rfl rfl) rfl rfl ?_
  refine reg_nil ?_
  refine fn_next ?_
  refine cw_seq ?_
  refine cw_seq ?_
  refine cw_reg ?_
  refine ry (y_mov rfl rfl) rfl rfl ?_
  refine ry (y_ldb (i := 0) (cs := [_, _]) H3 rfl rfl kfslab1_32 rfl rfl) rfl rfl ?_
  refine reg_op (op_call (slabSpot_any x y _) rfl kfslab1_33 ⟨rfl, trivial⟩) rfl rfl ?_
  rintro _ w5 ⟨rfl, e4⟩
  have H6 := H3.ext e4
  refine reg_op (op_call (slabCheck_any b a h _ x y x y _ (hs.below H6.base)) rfl kfslab1_34 ⟨rfl, rfl, trivial⟩) rfl rfl ?_
  rintro _ w8 ⟨rfl, e7⟩
  have H9 := H6.ext e7
  refine ry (y_asg rfl rfl) rfl rfl ?_
  refine reg_nil ?_
  refine fn_next ?_
  refine cw_seq ?_
  refine cw_reg ?_
  refine ry (y_mov rfl rfl) rfl rfl ?_
  refine ry (y_neq rfl rfl rfl) rfl rfl ?_
  refine reg_nil ?_
  refine fn_next ?_
  refine cw_condd rfl (fun h10 => ?_) (fun h10 => ?_)
  · exact absurd hw h10
  · skip
    refine cw_skip ?_
    refine fn_next ?_
    refine cw_seq ?_
    refine cw_draw H9 [0, 1, 2, 3, 4, 5, 6, 7, 8, 9, 10, 11, 12, 13, 14, 15, 16, 17, 18] [] (fun X HX => HX) (by kernel_rfl) (by kernel_rfl) (by rfl) ?_
    simp only [pick, List.getElem?_cons_succ, List.getElem?_cons_zero]
    refine hk_y (fun Y HY => y_mov rfl rfl) rfl rfl ?_
    refine hk_y (fun Y HY => y_nilck rfl rfl) rfl rfl ?_
    refine hk_y (fun Y HY => y_far (hs.below HY.base) rfl rfl kfslab1_19 rfl (rfl)) rfl rfl ?_
    refine hk_y (fun Y HY => y_ldr (hs.below HY.base) rfl rfl kfslab1_20 (rfl)) rfl rfl ?_
    refine hk_y (fun Y HY => y_fa rfl rfl kfslab1_17 rfl) rfl rfl ?_
    refine hk_y (fun Y HY => y_ld rfl rfl kfslab1_12 (HY.cell (i := 0) rfl rfl)) rfl rfl ?_
    refine hk_y (fun Y HY => y_mov rfl rfl) rfl rfl ?_
    refine hk_y (fun Y HY => y_nilck rfl rfl) rfl rfl ?_
    refine hk_y (fun Y HY => y_far (hs.below HY.base) rfl rfl kfslab1_11 rfl (rfl)) rfl rfl ?_
    refine hk_y (fun Y HY => y_ldr (hs.below HY.base) rfl rfl kfslab1_12 (rfl)) rfl rfl ?_
    refine hk_y (fun Y HY => y_mul rfl rfl rfl (show _ = ((y * a : Nat) : Int) from by rw [e1]; exact wi (by omega))) rfl rfl ?_
    refine hk_y (fun Y HY => y_fa rfl rfl kfslab1_16 rfl) rfl rfl ?_
    refine hk_y (fun Y HY => y_ld rfl rfl kfslab1_12 (HY.cell (i := 0) rfl rfl)) rfl rfl ?_
    refine hk_y (fun Y HY => y_add rfl rfl rfl (show _ = ((y * a + x : Nat) : Int) from by rw [← Int.natCast_add]; exact wi (by omega))) rfl rfl ?_
    refine hk_y (fun Y HY => y_nilcki rfl rfl) rfl rfl ?_
    refine hk_y (fun Y HY => y_mov rfl rfl) rfl rfl ?_
    refine hk_q (qy_inv (fun Y HY => flatAt_any u _ _ hu) rfl kfslab1_25 kfslab1_26 kfslab1_27 rfl ⟨rfl, trivial⟩) rfl rfl ?_
    refine hk_y (fun Y HY => y_asg rfl rfl) rfl rfl ?_
    refine hk_y (fun Y HY => y_asg rfl rfl) rfl rfl ?_
    refine hk_nil ?_
    intro w11 H12
    refine tv_nil ?_
    refine fn_next ?_
    refine cw_ret ?_
    refine fn_retn (vs := [_, _]) rfl ⟨rfl, rfl, trivial⟩ rfl ?_
    rw [atV_ok hw, show nth ((Ld.flat u).lst (a * h)) (y * a + x) = u from nth_rep e2, hw]
    exact ⟨rfl, H12.base⟩

set_option maxRecDepth 100000 in
theorem slabAt_rough (b a h : Nat) (A : Option Addr) (cap : Nat) (V : List Int) (x y : Int) (w : World) (p : sizeP a h) (hL : (Ld.rough A cap V).ok (a * h)) (hr : Rd w A (vi .i32 V)) (hs : Rd w (some ⟨b, 0, none⟩) [.int .i64 (a : Int), .int .i64 (h : Int), .iface 152 (.slice A (a * h) cap)]) (hw : atC a h x y = 0) :
    Ret Tryz.prog 69 [pt (some ⟨b, 0, none⟩) 0, .agg #[.int .i64 x, .int .i64 y]] w (fun v w' => v = .tuple #[.int .i64 (atV ((Ld.rough A cap V).lst (a * h)) a h x y), .int .i64 (atC a h x y)] ∧ Below w.heap.size w w') := by
  obtain ⟨x, y, rfl, rfl, hx, hy⟩ := at_nat p hw
  obtain ⟨e1, e2, e3⟩ := row_bd p hx hy
  refine ret_enter Tryz.func69 rfl rfl rfl ?_
  have H0 := HS.start w
  refine cw_seq ?_
  refine cw_reg ?_
  refine reg_op (op_box (cs := [.int _ _, .int _ _]) H0 rfl rfl rfl) rfl rfl ?_
  rintro _ w2 ⟨b1, rfl, H3⟩
  refine ry (y_asg rfl rfl) rfl rfl ?_
  refine ry (y_asg rfl rfl) rfl rfl ?_
  refine reg_nil ?_
  refine fn_next ?_
  refine cw_seq ?_
  refine cw_seq ?_
  refine cw_reg ?_
  refine ry (y_mov rfl rfl) rfl rfl ?_
  refine ry (y_ldb (i := 0) (cs := [_, _]) H3 rfl rfl kfslab1_32 rfl rfl) rfl rfl ?_
  refine reg_op (op_call (slabSpot_any x y _) rfl kfslab1_33 ⟨rfl, trivial⟩) rfl rfl ?_
  rintro _ w5 ⟨rfl, e4⟩
  have H6 := H3.ext e4
  refine reg_op (op_call (slabCheck_any b a h _ x y x y _ (hs.below H6.base)) rfl kfslab1_34 ⟨rfl, rfl, trivial⟩) rfl rfl ?_
  rintro _ w8 ⟨rfl, e7⟩
  have H9 := H6.ext e7
  refine ry (y_asg rfl rfl) rfl rfl ?_
  refine reg_nil ?_
  refine fn_next ?_
  refine cw_seq ?_
  refine cw_reg ?_
  refine ry (y_mov rfl rfl) rfl rfl ?_
  refine ry (y_neq rfl rfl rfl) rfl rfl ?_
  refine reg_nil ?_
  refine fn_next ?_
  refine cw_condd rfl (fun h10 => ?_) (fun h10 => ?_)
  · exact absurd hw h10
  · skip
    refine cw_skip ?_
    refine fn_next ?_
    refine cw_seq ?_
    refine cw_draw H9 [0, 1, 2, 3, 4, 5, 6, 7, 8, 9, 10, 11, 12, 13, 14, 15, 16, 17, 18] [] (fun X HX => HX) (by kernel_rfl) (by kernel_rfl) (by rfl) ?_
    simp only [pick, List.getElem?_cons_succ, List.getElem?_cons_zero]
    refine hk_y (fun Y HY => y_mov rfl rfl) rfl rfl ?_
    refine hk_y (fun Y HY => y_nilck rfl rfl) rfl rfl ?_
    refine hk_y (fun Y HY => y_far (hs.below HY.base) rfl rfl kfslab1_19 rfl (rfl)) rfl rfl ?_
    refine hk_y (fun Y HY => y_ldr (hs.below HY.base) rfl rfl kfslab1_20 (rfl)) rfl rfl ?_
    refine hk_y (fun Y HY => y_fa rfl rfl kfslab1_17 rfl) rfl rfl ?_
    refine hk_y (fun Y HY => y_ld rfl rfl kfslab1_12 (HY.cell (i := 0) rfl rfl)) rfl rfl ?_
    refine hk_y (fun Y HY => y_mov rfl rfl) rfl rfl ?_
    refine hk_y (fun Y HY => y_nilck rfl rfl) rfl rfl ?_
    refine hk_y (fun Y HY => y_far (hs.below HY.base) rfl rfl kfslab1_11 rfl (rfl)) rfl rfl ?_
    refine hk_y (fun Y HY => y_ldr (hs.below HY.base) rfl rfl kfslab1_12 (rfl)) rfl rfl ?_
    refine hk_y (fun Y HY => y_mul rfl rfl rfl (show _ = ((y * a : Nat) : Int) from by rw [e1]; exact wi (by omega))) rfl rfl ?_
    refine hk_y (fun Y HY => y_fa rfl rfl kfslab1_16 rfl) rfl rfl ?_
    refine hk_y (fun Y HY => y_ld rfl rfl kfslab1_12 (HY.cell (i := 0) rfl rfl)) rfl rfl ?_
    refine hk_y (fun Y HY => y_add rfl rfl rfl (show _ = ((y * a + x : Nat) : Int) from by rw [← Int.natCast_add]; exact wi (by omega))) rfl rfl ?_
    refine hk_y (fun Y HY => y_nilcki rfl rfl) rfl rfl ?_
    refine hk_y (fun Y HY => y_mov rfl rfl) rfl rfl ?_
    refine hk_q (qy_inv (fun Y HY => roughAt_any A (a * h) cap (y * a + x) V _ (hr.below HY.base) hL.1 (by omega) hL.2.1) rfl kfslab1_35 kfslab1_36 kfslab1_37 rfl ⟨rfl, trivial⟩) rfl rfl ?_
    refine hk_y (fun Y HY => y_asg rfl rfl) rfl rfl ?_
    refine hk_y (fun Y HY => y_asg rfl rfl) rfl rfl ?_
    refine hk_nil ?_
    intro w11 H12
    refine tv_nil ?_
    refine fn_next ?_
    refine cw_ret ?_
    refine fn_retn (vs := [_, _]) rfl ⟨rfl, rfl, trivial⟩ rfl ?_
    rw [atV_ok hw, hw]
    exact ⟨rfl, H12.base⟩

theorem slabAt_any (b a h : Nat) (L : Ld) (x y : Int) (w : World) (p : sizeP a h) (hL : L.ok (a * h)) (hr : L.rd w) (hs : Rd w (some ⟨b, 0, none⟩) [.int .i64 (a : Int), .int .i64 (h : Int), L.val (a * h)]) : Ret Tryz.prog 69 [pt (some ⟨b, 0, none⟩) 0, .agg #[.int .i64 x, .int .i64 y]] w (fun v w' => v = .tuple #[.int .i64 (atV (L.lst (a * h)) a h x y), .int .i64 (atC a h x y)] ∧ Below w.heap.size w w') := by
  by_cases hw : atC a h x y = 0
  · cases L with
    | flat u => exact slabAt_flat b a h u x y w p hL hs hw
    | rough A cap V => exact slabAt_rough b a h A cap V x y w p hL hr hs hw
  · exact slabAt_no b a h _ x y _ w hs hw

end Go.Proofs.YtbnjbgcadkdljaaGreatDoor
