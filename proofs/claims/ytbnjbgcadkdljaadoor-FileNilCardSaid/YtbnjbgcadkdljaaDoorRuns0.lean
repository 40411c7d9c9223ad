/- Layer 5: a run's bytes. -/
import Derived.Test.YtbnjbgcadkdljaaDoorLeb0
set_option linter.unusedVariables false
set_option linter.unusedSimpArgs false
namespace Go.Proofs.YtbnjbgcadkdljaaDoor
open Go Go.RowKit
theorem kfruns0_1 : fldB Tryd.prog 104 0 0 = true := by kernel_rfl
theorem kfruns0_2 : oneB Tryd.prog 3 = true := by kernel_rfl
theorem kfruns0_3 : (Tryd.prog.info? 5).map (fun i => (i.size, i.zero.map Value.cells)) = some (1, some (List.toArray [(.int .u8 0)])) := by kernel_rfl
theorem kfruns0_4 : callB Tryd.prog 59 = true := by kernel_rfl
theorem kfruns0_5 : fldB Tryd.prog 104 1 1 = true := by kernel_rfl
theorem kfruns0_6 : oneB Tryd.prog 2 = true := by kernel_rfl
theorem kfruns0_7 : callB Tryd.prog 60 = true := by kernel_rfl
theorem rd_none {w : World} {A : Option Addr} : Rd w A (vi .u8 []) := fun j u h => by simp [vi] at h
theorem u64_in {x : Int} (h : 0 ≤ x ∧ x < 18446744073709551616) : IntKind.u64.wrap x = x := by unfold IntKind.wrap; show x % 18446744073709551616 = x; omega
/-- a number with its sign, folded -/
def foldU (n : Int) : Int := if n < 0 then -2 * n - 1 else 2 * n
theorem fold_bits : ∀ n : Int, -9223372036854775808 ≤ n → n ≤ 9223372036854775807 →
    IntKind.u64.wrap (BitVec.ofInt IntKind.u64.bits (IntKind.u64.wrap (IntKind.u64.wrap n * 2 ^ (min (1 : Int).toNat IntKind.u64.bits))) ^^^ BitVec.ofInt IntKind.u64.bits (IntKind.u64.wrap (n.fdiv (2 ^ (min (63 : Int).toNat IntKind.i64.bits))))).toNat = foldU n := by
  intro n h0 h1
  have w64 : ∀ x : Int, IntKind.u64.wrap x = x % 18446744073709551616 := fun x => by unfold IntKind.wrap; rfl
  have e1 : (2 : Int) ^ (min (1 : Int).toNat IntKind.u64.bits) = 2 := by decide
  have e2 : (2 : Int) ^ (min (63 : Int).toNat IntKind.i64.bits) = 9223372036854775808 := by decide
  have hb : IntKind.u64.bits = 64 := rfl
  rw [e1, e2, w64, w64, w64, w64, hb, Int.fdiv_eq_ediv_of_nonneg _ (by decide)]
  have tn : ∀ x : Int, ((BitVec.ofInt 64 x).toNat : Int) = x % 18446744073709551616 := fun x => by
    rw [BitVec.toNat_ofInt]; show (((x % 18446744073709551616).toNat : Nat) : Int) = _; omega
  unfold foldU
  by_cases hn : n < 0
  · rw [if_pos hn, show n / 9223372036854775808 = -1 by omega]
    rw [show BitVec.ofInt 64 ((-1 : Int) % 18446744073709551616) = BitVec.allOnes 64 from by decide, BitVec.xor_allOnes, BitVec.toNat_not]
    have := tn (n % 18446744073709551616 * 2 % 18446744073709551616)
    omega
  · rw [if_neg hn, show n / 9223372036854775808 = 0 by omega]
    rw [show BitVec.ofInt 64 ((0 : Int) % 18446744073709551616) = 0#64 from by decide, BitVec.xor_zero, tn]
    omega
/-- a run's bytes -/
def runB (k : Nat) (z : Int) : List Int := if 0 < k then 0 :: lebD ((k : Int) - 1) else lebD (foldU z)

set_option maxRecDepth 100000 in
theorem lebFold (z : Int) (w : World) (hz : I6 z) :
    Ret Tryd.prog 60 [.int .i64 z] w (fun v w' => v = .int .u64 (foldU z) ∧ Below w.heap.size w w') := by
 refine ret_enter Tryd.func60 rfl rfl rfl ?_
 have H0 := HS.start w
 refine cw_seq ?_
 refine cw_reg ?_
 refine ry (y_asg rfl rfl) rfl rfl ?_
 refine reg_nil ?_
 refine fn_next ?_
 refine cw_seq ?_
 refine cw_reg ?_
 refine ry (y_mov rfl rfl) rfl rfl ?_
 refine ry (y_conv rfl Tryd.underlying2 Tryd.underlying107 rfl (rfl)) rfl rfl ?_
 refine ry (y_shl rfl rfl rfl (by decide) (rfl)) rfl rfl ?_
 refine ry (y_mov rfl rfl) rfl rfl ?_
 refine ry (y_shr rfl rfl rfl (by decide) (rfl)) rfl rfl ?_
 refine ry (y_conv rfl Tryd.underlying2 Tryd.underlying107 rfl (rfl)) rfl rfl ?_
 refine ry (y_xor rfl rfl rfl (rfl)) rfl rfl ?_
 refine ry (y_asg rfl rfl) rfl rfl ?_
 refine reg_nil ?_
 refine fn_next ?_
 refine cw_ret ?_
 refine fn_ret1 rfl rfl ?_
 rw [fold_bits z hz.1 hz.2]
 exact ⟨rfl, H0.base⟩

set_option maxRecDepth 100000 in
theorem runBytes (k : Nat) (z : Int) (w : World) (hk : k ≤ 2000000) (hz : -9223372036854775808 ≤ z ∧ z ≤ 9223372036854775807) :
    Ret Tryd.prog 53 [.agg #[.int .i64 (k : Int), .int .i64 z]] w (fun v w' => ∃ A c, v = .slice A (runB k z).length c ∧ HS w w' [.row A (runB k z).length c (vi .u8 (runB k z)) 5 1]) := by
 refine ret_enter Tryd.func53 rfl rfl rfl ?_
 have H0 := HS.start w
 refine cw_seq ?_
 refine cw_reg ?_
 refine reg_op (op_box (cs := [.int _ _, .int _ _]) H0 rfl rfl rfl) rfl rfl ?_
 rintro _ w2 ⟨b1, rfl, H3⟩
 refine ry (y_asg rfl rfl) rfl rfl ?_
 refine reg_nil ?_
 refine fn_next ?_
 refine cw_seq ?_
 refine cw_seq ?_
 refine cw_reg ?_
 refine ry (y_fa rfl rfl kfruns0_1 rfl) rfl rfl ?_
 refine ry (y_ld rfl rfl kfruns0_2 (H3.cell (i := 0) rfl rfl)) rfl rfl ?_
 refine ry (y_gtr rfl rfl rfl) rfl rfl ?_
 refine reg_nil ?_
 refine fn_next ?_
 refine cw_condd rfl (fun h4 => ?_) (fun h4 => ?_)
 ·skip
  refine cw_seq ?_
  refine cw_reg ?_
  refine reg_op (op_lit (parts := [(0, _)]) (vs := [(0, _)]) (cs := [.int _ _]) H3 rfl Tryd.underlying24 kfruns0_3 rfl ⟨rfl, trivial⟩ rfl rfl) rfl rfl ?_
  rintro _ w6 ⟨b5, rfl, H7⟩
  have H8 := H7.asrow (m := 1) (size := 1) rfl (by decide)
  refine ry (y_fa rfl rfl kfruns0_1 rfl) rfl rfl ?_
  refine ry (y_ld rfl rfl kfruns0_2 (H8.cell (i := 1) rfl rfl)) rfl rfl ?_
  refine ry (y_sub rfl rfl rfl (wi (by omega))) rfl rfl ?_
  refine ry (y_conv rfl Tryd.underlying3 Tryd.underlying107 rfl (u64_in ⟨by omega, by omega⟩)) rfl rfl ?_
  refine reg_op (op_call (lebPut _ 1 _ [0] ((k : Int) - 1) _ (H8.rd (i := 0) rfl) rfl (by omega) (⟨by omega, by omega⟩)) rfl kfruns0_4 ⟨rfl, rfl, trivial⟩) rfl rfl ?_
  rintro _ w10 ⟨A12, c13, rfl, k9⟩
  have H11 := H8.call k9
  refine ry (y_asg rfl rfl) rfl rfl ?_
  refine reg_nil ?_
  refine fn_next ?_
  refine cw_ret ?_
  refine fn_then_ret ?_
  refine fn_ret1 rfl rfl ?_
  have hrb : runB k z = [0] ++ lebD ((k : Int) - 1) := if_pos (by omega)
  have hrl : (runB k z).length = 1 + (lebD ((k : Int) - 1)).length := by rw [hrb, List.length_append]; rfl
  rw [← hrb, ← hrl] at H11
  exact ⟨_, _, by rw [← hrl], (H11.pick (m := [_]) [0] rfl (by decide))⟩
 ·skip
  refine cw_skip ?_
  refine fn_next ?_
  refine cw_seq ?_
  refine cw_reg ?_
  refine ry (y_fa rfl rfl kfruns0_5 rfl) rfl rfl ?_
  refine ry (y_ld rfl rfl kfruns0_6 (H3.cell (i := 0) rfl rfl)) rfl rfl ?_
  refine reg_op (op_call (lebFold z _ hz) rfl kfruns0_7 ⟨rfl, trivial⟩) rfl rfl ?_
  rintro _ w15 ⟨rfl, e14⟩
  have H16 := H3.ext e14
  refine reg_op (op_call (lebPut none 0 _ [] (foldU z) _ (rd_none) rfl (by omega) (by unfold foldU; split <;> omega)) rfl kfruns0_4 ⟨rfl, rfl, trivial⟩) rfl rfl ?_
  rintro _ w18 ⟨A20, c21, rfl, k17⟩
  have H19 := H16.call k17
  refine ry (y_asg rfl rfl) rfl rfl ?_
  refine reg_nil ?_
  refine fn_next ?_
  refine cw_ret ?_
  refine fn_ret1 rfl rfl ?_
  have hrb : runB k z = [] ++ lebD (foldU z) := if_neg (by omega)
  have hrl : (runB k z).length = 0 + (lebD (foldU z)).length := by rw [hrb, List.length_append]; rfl
  rw [← hrb, ← hrl] at H19
  exact ⟨_, _, by rw [← hrl], (H19.pick (m := [_]) [0] rfl (by decide))⟩

end Go.Proofs.YtbnjbgcadkdljaaDoor
