/- Layer 12: bytes of numbers. -/
import Derived.Test.YtbnjbgcadkdljaaDoorMC
set_option linter.unusedVariables false
set_option linter.unusedSimpArgs false
namespace Go.Proofs.YtbnjbgcadkdljaaDoor
open Go Go.RowKit
theorem kfwire0_1 : (Tryd.prog.info? 5).map (fun i => (i.size, i.zero.map Value.cells)) = some (1, some (List.toArray [(.int .u8 0)])) := by kernel_rfl
theorem kfwire0_2 : (Tryd.prog.info? 5).map (fun i => (i.zero.map (·.cells.toList), i.size, i.bytes)) = some (some [(.int .u8 0)], 1, 1) := by kernel_rfl
theorem kfwire0_3 : elB Tryd.prog 24 1 = true := by kernel_rfl
/-- the j-th byte of a number, and the first n of them -/
def dg (u : Int) (j : Nat) : Int := u / 256 ^ j % 256
def dgs (u : Int) (n : Nat) : List Int := (List.range n).map (dg u)
theorem dgs_succ (u : Int) (n : Nat) : dgs u (n + 1) = dgs u n ++ [dg u n] := by unfold dgs; rw [List.range_succ, List.map_append]; rfl
theorem dgs_len (u : Int) (n : Nat) : (dgs u n).length = n := by simp [dgs]
theorem dg_bd (u : Int) (n : Nat) : 0 ≤ dg u n ∧ dg u n < 256 := by unfold dg; omega
theorem div_succ (u : Int) (k : Nat) : u / 256 ^ (k + 1) = u / 256 ^ k / 256 := by
  rw [Int.pow_succ, Int.ediv_ediv_of_nonneg (Int.pow_nonneg (by omega))]
theorem pow_pos256 (k : Nat) : (0 : Int) < 256 ^ k := Int.pow_pos (by omega)
theorem div_bd {u : Int} {k : Nat} (h : 0 ≤ u ∧ u < 18446744073709551616) : 0 ≤ u / 256 ^ k ∧ u / 256 ^ k < 18446744073709551616 := by
  have hp := pow_pos256 k
  refine ⟨Int.ediv_nonneg h.1 (by omega), Int.lt_of_le_of_lt (Int.ediv_le_self _ h.1) h.2⟩
theorem wrap_dg {u : Int} {i : Nat} : IntKind.u8.wrap (u / 256 ^ i % 256) = dg u i := by rw [wrap8]; unfold dg; omega
theorem shr8 {u : Int} {i : Nat} (h0 : 0 ≤ u) (hi : i ≤ 8) : u.fdiv (2 ^ (min (8 * (i : Int)).toNat IntKind.u64.bits)) = u / 256 ^ i := by
  have e : min (8 * (i : Int)).toNat IntKind.u64.bits = 8 * i := by
    have : IntKind.u64.bits = 64 := rfl
    omega
  rw [e, Int.pow_mul, Int.fdiv_eq_ediv_of_nonneg _ (Int.pow_nonneg (by decide))]
  rfl

set_option maxRecDepth 100000 in
theorem CloneB_any (A : Option Addr) (n cap : Nat) (xs : List Value) (w : World) (h : Rd w A xs) (hl : xs.length = n * 1) (h1 : xs.all Value.oneCell' = true) (hn : n ≤ 70000000000000) :
    Ret Tryd.prog 51 [.slice A n cap] w (fun v w' => ∃ A' cap', v = .slice A' n cap' ∧ HS w w' [.row A' n cap' xs 5 1]) := by
  refine ret_enter Tryd.func51 rfl rfl rfl ?_
  have H0 := HS.start w
  refine cw_seq ?_
  refine cw_reg ?_
  refine ry (y_asg rfl rfl) rfl rfl ?_
  refine reg_nil ?_
  refine fn_next ?_
  refine cw_seq ?_
  refine cw_seq ?_
  refine cw_reg ?_
  refine ry (y_mov rfl rfl) rfl rfl ?_
  refine ry (y_eqlnil rfl Tryd.underlying24 rfl rfl) rfl rfl ?_
  refine reg_nil ?_
  refine fn_next ?_
  refine cw_cond rfl (fun hA => ?_) (fun hA => ?_)
  · skip
    obtain rfl := Option.isNone_iff_eq_none.1 hA
    obtain ⟨hz, hn⟩ := rd_zero h hl (by decide) rfl
    subst hz; subst hn
    refine cw_seq ?_
    refine cw_reg ?_
    refine ry (y_asg rfl rfl) rfl rfl ?_
    refine reg_nil ?_
    refine fn_next ?_
    refine cw_ret ?_
    refine fn_then_ret ?_
    refine fn_ret1 rfl rfl ?_
    exact ⟨none, 0, rfl, H0.nilrow _ _⟩
  · skip
    refine cw_skip ?_
    refine fn_next ?_
    refine cw_seq ?_
    refine cw_reg ?_
    refine reg_op (op_lit (parts := []) (vs := []) (cs := []) H0 rfl Tryd.underlying24 kfwire0_1 rfl trivial rfl rfl) rfl rfl ?_
    rintro _ w3 ⟨b2, rfl, H4⟩
    have H5 := H4.asrow (m := 0) (size := 1) rfl (by decide)
    refine ry (y_mov rfl rfl) rfl rfl ?_
    refine reg_op (op_app (i := 0) (k := 0) (m := n) (ys := xs) (size := 1) H5 rfl rfl rfl rfl (h.below H5.base) (hl) (h1) Tryd.underlying24 kfwire0_2 rfl rfl (by unfold maxLen; omega) (by omega)) rfl rfl ?_
    rintro _ w8 ⟨A6, c7, rfl, H9⟩
    refine ry (y_asg rfl rfl) rfl rfl ?_
    refine reg_nil ?_
    refine fn_next ?_
    refine cw_ret ?_
    refine fn_ret1 rfl rfl ?_
    simp only [Nat.zero_add, List.nil_append] at *
    exact ⟨_, _, rfl, H9⟩

set_option maxRecDepth 100000 in
theorem ClipB_any (A : Option Addr) (n cap : Nat) (w : World) (h : n ≤ cap) :
    Ret Tryd.prog 61 [.slice A n cap] w (fun v w' => v = .slice A n n ∧ Below w.heap.size w w') := by
  refine ret_enter Tryd.func61 rfl rfl rfl ?_
  have H0 := HS.start w
  refine cw_seq ?_
  refine cw_reg ?_
  refine ry (y_asg rfl rfl) rfl rfl ?_
  refine reg_nil ?_
  refine fn_next ?_
  refine cw_seq ?_
  refine cw_reg ?_
  refine ry (y_mov rfl rfl) rfl rfl ?_
  refine ry (y_mov rfl rfl) rfl rfl ?_
  refine ry (y_len rfl Tryd.underlying24 rfl) rfl rfl ?_
  refine ry (y_mov rfl rfl) rfl rfl ?_
  refine ry (y_len rfl Tryd.underlying24 rfl) rfl rfl ?_
  refine ry (y_shm rfl rfl rfl rfl kfwire0_3 (rfl) (rfl) (by omega) (by omega)) rfl rfl ?_
  refine ry (y_asg rfl rfl) rfl rfl ?_
  refine reg_nil ?_
  refine fn_next ?_
  refine cw_ret ?_
  refine fn_ret1 rfl rfl ?_
  rw [subA_zero]
  exact ⟨rfl, H0.base⟩

end Go.Proofs.YtbnjbgcadkdljaaDoor
