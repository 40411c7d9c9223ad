/- Texts as one: Wire0, Wire1, Wire2. -/
import Derived.Test.YtbnjbgcadkdljaaGreatDoorMC
set_option linter.unusedVariables false
set_option linter.unusedSimpArgs false
namespace Go.Proofs.YtbnjbgcadkdljaaGreatDoor
open Go Go.RowKit
theorem kfwire0_1 : (Tryz.prog.info? 5).map (fun i => (i.size, i.zero.map Value.cells)) = some (1, some (List.toArray [(.int .u8 0)])) := by kernel_rfl
theorem kfwire0_2 : (Tryz.prog.info? 5).map (fun i => (i.zero.map (·.cells.toList), i.size, i.bytes)) = some (some [(.int .u8 0)], 1, 1) := by kernel_rfl
theorem kfwire0_3 : elB Tryz.prog 22 1 = true := by kernel_rfl
/-- the j-th byte of a number, and the first n of them -/
def dg (u : Int) (j : Nat) : Int := u / 256 ^ j % 256
def dgs (u : Int) (n : Nat) : List Int := (List.range n).map (dg u)
theorem dgs_succ (u : Int) (n : Nat) : dgs u (n + 1) = dgs u n ++ [dg u n] := by unfold dgs; rw [List.range_succ, List.map_append]; rfl
theorem dgs_len (u : Int) (n : Nat) : (dgs u n).length = n := by simp [dgs]
theorem pow_pos256 (k : Nat) : (0 : Int) < 256 ^ k := Int.pow_pos (by omega)
theorem shr8 {u : Int} {i : Nat} (h0 : 0 ≤ u) (hi : i ≤ 8) : u.fdiv (2 ^ (min (8 * (i : Int)).toNat IntKind.u64.bits)) = u / 256 ^ i := by
  have e : min (8 * (i : Int)).toNat IntKind.u64.bits = 8 * i := by
    have : IntKind.u64.bits = 64 := rfl
    omega
  rw [e, Int.pow_mul, Int.fdiv_eq_ediv_of_nonneg _ (Int.pow_nonneg (by decide))]
  rfl

set_option maxRecDepth 100000 in
theorem CloneB_any (A : Option Addr) (n cap : Nat) (xs : List Value) (w : World) (h : Rd w A xs) (hl : xs.length = n * 1) (h1 : xs.all Value.oneCell' = true) (hn : n ≤ 70000000000000) :
    Ret Tryz.prog 54 [.slice A n cap] w (fun v w' => ∃ A' cap', v = .slice A' n cap' ∧ HS w w' [.row A' n cap' xs 5 1]) := by
  refine ret_enter Tryz.func54 rfl rfl rfl ?_
  have H0 := HS.start w
  refine cw_seq ?_
  refine cw_reg ?_
  refine ry (y_asg rfl rfl) rfl rfl ?_
  refine reg_nil ?_
  refine fn_next ?_
  refine cw_seq ?_
  refine cw_seq ?_
  refine cw_reg ?_
  refine ry (y_mov rfl rfl) rfl rfl ?_
  refine ry (y_eqlnil rfl Tryz.underlying22 rfl rfl) rfl rfl ?_
  refine reg_nil ?_
  refine fn_next ?_
  refine cw_cond rfl (fun hA => ?_) (fun hA => ?_)
  · skip
    obtain rfl := Option.isNone_iff_eq_none.1 hA
    obtain ⟨hz, hn⟩ := rd_zero h hl (by decide) rfl
    subst hz; subst hn
    refine cw_seq ?_
    refine cw_reg ?_
    refine ry (y_asg rfl rfl) rfl rfl ?_
    refine reg_nil ?_
    refine fn_next ?_
    refine cw_ret ?_
    refine fn_then_ret ?_
    refine fn_ret1 rfl rfl ?_
    exact ⟨none, 0, rfl, H0.nilrow _ _⟩
  · skip
    refine cw_skip ?_
    refine fn_next ?_
    refine cw_seq ?_
    refine cw_reg ?_
    refine reg_op (op_lit (parts := []) (vs := []) (cs := []) H0 rfl Tryz.underlying22 kfwire0_1 rfl trivial rfl rfl) rfl rfl ?_
    rintro _ w3 ⟨b2, rfl, H4⟩
    have H5 := H4.asrow (m := 0) (size := 1) rfl (by decide)
    refine ry (y_mov rfl rfl) rfl rfl ?_
    refine reg_op (op_app (i := 0) (k := 0) (m := n) (ys := xs) (size := 1) H5 rfl rfl rfl rfl (h.below H5.base) (hl) (h1) Tryz.underlying22 kfwire0_2 rfl rfl (by unfold maxLen; omega) (by omega)) rfl rfl ?_
    rintro _ w8 ⟨A6, c7, rfl, H9⟩
    refine ry (y_asg rfl rfl) rfl rfl ?_
    refine reg_nil ?_
    refine fn_next ?_
    refine cw_ret ?_
    refine fn_ret1 rfl rfl ?_
    simp only [Nat.zero_add, List.nil_append] at *
    exact ⟨_, _, rfl, H9⟩

set_option maxRecDepth 100000 in
theorem ClipB_any (A : Option Addr) (n cap : Nat) (w : World) (h : n ≤ cap) :
    Ret Tryz.prog 112 [.slice A n cap] w (fun v w' => v = .slice A n n ∧ Below w.heap.size w w') := by
  refine ret_enter Tryz.func112 rfl rfl rfl ?_
  have H0 := HS.start w
  refine cw_seq ?_
  refine cw_reg ?_
  refine ry (y_asg rfl rfl) rfl rfl ?_
  refine reg_nil ?_
  refine fn_next ?_
  refine cw_seq ?_
  refine cw_reg ?_
  refine ry (y_mov rfl rfl) rfl rfl ?_
  refine ry (y_mov rfl rfl) rfl rfl ?_
  refine ry (y_len rfl Tryz.underlying22 rfl) rfl rfl ?_
  refine ry (y_mov rfl rfl) rfl rfl ?_
  refine ry (y_len rfl Tryz.underlying22 rfl) rfl rfl ?_
  refine ry (y_shm rfl rfl rfl rfl kfwire0_3 (rfl) (rfl) (by omega) (by omega)) rfl rfl ?_
  refine ry (y_asg rfl rfl) rfl rfl ?_
  refine reg_nil ?_
  refine fn_next ?_
  refine cw_ret ?_
  refine fn_ret1 rfl rfl ?_
  rw [subA_zero]
  exact ⟨rfl, H0.base⟩

end Go.Proofs.YtbnjbgcadkdljaaGreatDoor

namespace Go.Proofs.YtbnjbgcadkdljaaGreatDoor
open Go Go.RowKit
theorem kfwire1_1 : callB Tryz.prog 54 = true := by kernel_rfl
theorem kfwire1_2 : callB Tryz.prog 112 = true := by kernel_rfl
theorem kfwire1_3 : (Tryz.prog.info? 5).map (fun i => (i.size, i.zero.map Value.cells)) = some (1, some (List.toArray [(.int .u8 0)])) := by kernel_rfl
theorem kfwire1_4 : (Tryz.prog.info? 5).map (fun i => (i.zero.map (·.cells.toList), i.size, i.bytes)) = some (some [(.int .u8 0)], 1, 1) := by kernel_rfl
/-- what a put gives: the bytes, the code -/
def putS (zs : List Int) (n u : Int) : List Int × Int := if n < 1 ∨ 8 < n then ([], 11) else if u / 256 ^ n.toNat ≠ 0 then ([], 7) else (zs ++ dgs u n.toNat, 0)
theorem putS_arg {zs : List Int} {n u : Int} (h : n < 1 ∨ 8 < n) : putS zs n u = ([], 11) := by unfold putS; rw [if_pos h]
theorem putS_val {zs : List Int} {k : Nat} {u : Int} (h1 : 1 ≤ k) (h2 : k ≤ 8) (h : ¬ u / 256 ^ k = 0) : putS zs (k : Int) u = ([], 7) := by
  unfold putS; rw [if_neg (by omega), if_pos (by simpa using h)]
theorem putS_ok {zs : List Int} {k : Nat} {u : Int} (h1 : 1 ≤ k) (h2 : k ≤ 8) (h : u / 256 ^ k = 0) : putS zs (k : Int) u = (zs ++ dgs u k, 0) := by
  unfold putS; rw [if_neg (by omega), if_neg (by simpa using h)]; simp
theorem pow8 {k : Nat} (h : k = 8) {u : Int} (hu : 0 ≤ u ∧ u < 18446744073709551616) : u / 256 ^ k = 0 := by
  subst h; exact Int.ediv_eq_zero_of_lt hu.1 (by have : (256 : Int) ^ 8 = 18446744073709551616 := by decide
                                                 omega)
def PutR (zs : List Int) (n u : Int) (w : World) (v : Value) (w' : World) : Prop := ∃ A cap, v = .tuple #[.slice A (putS zs n u).1.length cap, .int .i64 (putS zs n u).2] ∧ HS w w' [.row A (putS zs n u).1.length cap (vi .u8 (putS zs n u).1) 5 1]

set_option maxRecDepth 100000 in
theorem Put_any (A : Option Addr) (m cap : Nat) (zs : List Int) (n u : Int) (w : World) (h : Rd w A (vi .u8 zs)) (hl : zs.length = m) (hm : m ≤ 1000000) (hu : 0 ≤ u ∧ u < 18446744073709551616) :
    Ret Tryz.prog 105 [.slice A m cap, .int .i64 n, .int .u64 u] w (PutR zs n u w) := by
  refine ret_enter Tryz.func105 rfl rfl rfl ?_
  have H0 := HS.start w
  refine cw_seq ?_
  refine cw_reg ?_
  refine ry (y_asg rfl rfl) rfl rfl ?_
  refine ry (y_asg rfl rfl) rfl rfl ?_
  refine reg_nil ?_
  refine fn_next ?_
  refine cw_seq ?_
  refine cw_block ?_
  refine cw_seq ?_
  refine cw_reg ?_
  refine ry (y_mov rfl rfl) rfl rfl ?_
  refine ry (y_lss rfl rfl rfl) rfl rfl ?_
  refine ry (y_mov rfl rfl) rfl rfl ?_
  refine rg_splitd (d := 12) rfl (fun h1 => ?_) (fun h1 => ?_)
  · skip
    refine rg_off rfl rfl rfl rfl rfl ?_
    refine rg_off rfl rfl rfl rfl rfl ?_
    refine ry (y_pick rfl rfl rfl) rfl rfl ?_
    refine ry (y_asg rfl rfl) rfl rfl ?_
    refine reg_nil ?_
    refine fn_next ?_
    refine cw_condt rfl ?_
    refine cw_seq ?_
    refine cw_reg ?_
    refine ry (y_asg rfl rfl) rfl rfl ?_
    refine ry (y_asg rfl rfl) rfl rfl ?_
    refine reg_nil ?_
    refine fn_next ?_
    refine cw_ret ?_
    refine fn_block_ret (fn_then_ret ?_)
    refine fn_retn (vs := [_, _]) rfl ⟨rfl, rfl, trivial⟩ rfl ?_
    unfold PutR; rw [putS_arg (by omega)]
    exact ⟨none, 0, rfl, H0.nilrow _ _⟩
  · skip
    refine rgy (y_mov rfl rfl) rfl rfl rfl rfl ?_
    refine rgy (y_gtr rfl rfl rfl) rfl rfl rfl rfl ?_
    refine ry (y_pick rfl rfl rfl) rfl rfl ?_
    refine ry (y_asg rfl rfl) rfl rfl ?_
    refine reg_nil ?_
    refine fn_next ?_
    refine cw_condd rfl (fun h2 => ?_) (fun h2 => ?_)
    · skip
      refine cw_seq ?_
      refine cw_reg ?_
      refine ry (y_asg rfl rfl) rfl rfl ?_
      refine ry (y_asg rfl rfl) rfl rfl ?_
      refine reg_nil ?_
      refine fn_next ?_
      refine cw_ret ?_
      refine fn_block_ret (fn_then_ret ?_)
      refine fn_retn (vs := [_, _]) rfl ⟨rfl, rfl, trivial⟩ rfl ?_
      unfold PutR; rw [putS_arg (by omega)]
      exact ⟨none, 0, rfl, H0.nilrow _ _⟩
    · skip
      obtain ⟨k, rfl⟩ : ∃ k : Nat, n = (k : Int) := ⟨n.toNat, by omega⟩
      refine cw_seq ?_
      refine cw_reg ?_
      refine ry (y_mov rfl rfl) rfl rfl ?_
      refine ry (y_lss rfl rfl rfl) rfl rfl ?_
      refine ry (y_mov rfl rfl) rfl rfl ?_
      refine rg_splitd (d := 19) rfl (fun h3 => ?_) (fun h3 => ?_)
      · skip
        refine rgy (y_mov rfl rfl) rfl rfl rfl rfl ?_
        refine rgy (y_mov rfl rfl) rfl rfl rfl rfl ?_
        refine rgy (y_mul rfl rfl rfl (wi (by omega))) rfl rfl rfl rfl ?_
        refine rgy (y_shr rfl rfl rfl (by omega) (shr8 (u := u) (i := k) (by omega) (by omega))) rfl rfl rfl rfl ?_
        refine rgy (y_neq rfl rfl rfl) rfl rfl rfl rfl ?_
        refine ry (y_pick rfl rfl rfl) rfl rfl ?_
        refine ry (y_asg rfl rfl) rfl rfl ?_
        refine reg_nil ?_
        refine fn_next ?_
        refine cw_condd rfl (fun hv => ?_) (fun hv => ?_)
        · skip
          refine cw_seq ?_
          refine cw_reg ?_
          refine ry (y_asg rfl rfl) rfl rfl ?_
          refine ry (y_asg rfl rfl) rfl rfl ?_
          refine reg_nil ?_
          refine fn_next ?_
          refine cw_ret ?_
          refine fn_block_ret (fn_then_ret ?_)
          refine fn_retn (vs := [_, _]) rfl ⟨rfl, rfl, trivial⟩ rfl ?_
          unfold PutR; rw [putS_val (by omega) (by omega) hv]
          exact ⟨none, 0, rfl, H0.nilrow _ _⟩
        · skip
          refine cw_skip ?_
          refine fn_block ?_
          refine fn_next ?_
          refine cw_seq ?_
          refine cw_reg ?_
          refine ry (y_mov rfl rfl) rfl rfl ?_
          refine reg_op (op_call (CloneB_any _ _ _ (vi .u8 zs) _ (h.below H0.base) (by rw [vi_len]; omega) vi_one (by omega)) rfl kfwire1_1 ⟨rfl, trivial⟩) rfl rfl ?_
          rintro _ w6 ⟨A8, c9, rfl, k5⟩
          have H7 := H0.call k5
          refine reg_op (op_call (ClipB_any _ _ _ _ (H7.len (i := 0) rfl).2.1) rfl kfwire1_2 ⟨rfl, trivial⟩) rfl rfl ?_
          rintro _ w11 ⟨rfl, e10⟩
          have H12 := H7.ext e10
          have H13 := H12.cap (i := 0) (cap' := m) rfl (Nat.le_refl _) (H12.len (i := 0) rfl).2.1 rfl
          refine ry (y_asg rfl rfl) rfl rfl ?_
          refine reg_nil ?_
          refine fn_next ?_
          refine cw_seq ?_
          refine cw_seq ?_
          refine cw_reg ?_
          refine ry (y_mov rfl rfl) rfl rfl ?_
          refine ry (y_mov rfl rfl) rfl rfl ?_
          refine reg_nil ?_
          refine fn_next ?_
          refine cw_block ?_
          have hAp : vi .u8 zs = vi .u8 zs ++ vi .u8 (dgs u 0) := by simp [dgs, vi]
          rw [hAp] at H13
          refine cw_loopJ [0, 8, 30, 31, 32, 33, 34, 35, 36, 37, 38, 39, 40, 41] (fun M wl ml => ∃ (i : Nat) (A : Option Addr) (cap : Nat), M = [(0, .slice A (m + i) cap), (30, .int .i64 (i : Int))] ∧ HS w wl [.row A (m + i) cap (vi .u8 zs ++ vi .u8 (dgs u i)) 5 1] ∧ (i ≤ k) ∧ ml = k - i) ⟨0, _, _, rfl, H13, Nat.zero_le _, rfl⟩ ⟨rfl, rfl, trivial⟩ ?_
          rintro M w14 m16 ⟨i, A, cap, rfl, H15, hp0, rfl⟩
          refine cw_seq ?_
          refine cw_reg ?_
          refine ry (y_lss rfl rfl rfl) rfl rfl ?_
          refine reg_nil ?_
          refine fn_next ?_
          refine cw_seq ?_
          refine cw_condd rfl (fun h17 => ?_) (fun h17 => ?_)
          · skip
            refine cw_skip ?_
            refine fn_next ?_
            refine cw_seq ?_
            refine cw_block ?_
            refine cw_seq ?_
            refine cw_reg ?_
            refine ry (y_mov rfl rfl) rfl rfl ?_
            refine ry (y_asg rfl rfl) rfl rfl ?_
            refine reg_nil ?_
            refine fn_next ?_
            refine cw_reg ?_
            refine ry (y_mov rfl rfl) rfl rfl ?_
            refine ry (y_mov rfl rfl) rfl rfl ?_
            refine ry (y_mov rfl rfl) rfl rfl ?_
            refine ry (y_mul rfl rfl rfl (wi (by omega))) rfl rfl ?_
            refine ry (y_shr rfl rfl rfl (by omega) (shr8 (u := u) (i := i) (by omega) (by omega))) rfl rfl ?_
            refine ry (y_conv rfl Tryz.underlying123 Tryz.underlying5 rfl (wrap8 _)) rfl rfl ?_
            refine reg_op (op_lit (parts := [(0, _)]) (vs := [(0, _)]) (cs := [.int _ _]) H15 rfl Tryz.underlying22 kfwire1_3 rfl ⟨rfl, trivial⟩ rfl rfl) rfl rfl ?_
            rintro _ w19 ⟨b18, rfl, H20⟩
            have H21 := H20.asrow (m := 1) (size := 1) rfl (by decide)
            refine reg_op (op_app (i := 1) (ys := [.int .u8 (dg u i)]) H21 rfl rfl rfl rfl (H21.rd (i := 0) rfl) (rfl) (rfl) Tryz.underlying22 kfwire1_4 rfl rfl (by unfold maxLen; omega) (by omega)) rfl rfl ?_
            rintro _ w24 ⟨A22, c23, rfl, H25⟩
            refine ry (y_asg rfl rfl) rfl rfl ?_
            refine reg_nil ?_
            refine fn_block ?_
            refine fn_next ?_
            refine cw_reg ?_
            refine ry (y_add rfl rfl rfl (wi (by omega))) rfl rfl ?_
            refine ry (y_mov rfl rfl) rfl rfl ?_
            refine reg_nil ?_
            rw [List.append_assoc, vi_push, ← dgs_succ] at H25
            refine fn_roundJ ⟨i + 1, _, _, rfl, (H25.pick [1] rfl (by decide)), by omega, rfl⟩ ⟨rfl, rfl, trivial⟩ (by omega) (by repeat (first | exact kp_refl | refine kp_app rfl rfl ?_ | refine kp_cons rfl ?_)) rfl
          · skip
            obtain rfl : k = i := by omega
            refine cw_exit ?_
            refine fn_then_exit (fn_then_exit (fn_block_exit ?_))
            refine fn_next ?_
            refine cw_seq ?_
            refine cw_reg ?_
            refine ry (y_mov rfl rfl) rfl rfl ?_
            refine ry (y_asg rfl rfl) rfl rfl ?_
            refine ry (y_asg rfl rfl) rfl rfl ?_
            refine reg_nil ?_
            refine fn_next ?_
            refine cw_ret ?_
            refine fn_retn (vs := [_, _]) rfl ⟨rfl, rfl, trivial⟩ rfl ?_
            have hv0 : u / 256 ^ k = 0 := by first | omega | exact pow8 (by omega) hu
            unfold PutR; rw [putS_ok (by omega) (by omega) hv0]
            have hln : (zs ++ dgs u k).length = m + k := by rw [List.length_append, dgs_len]; omega
            rw [hln, vi_app]
            exact ⟨_, _, rfl, H15⟩
      · skip
        refine rg_off rfl rfl rfl rfl rfl ?_
        refine rg_off rfl rfl rfl rfl rfl ?_
        refine rg_off rfl rfl rfl rfl rfl ?_
        refine rg_off rfl rfl rfl rfl rfl ?_
        refine rg_off rfl rfl rfl rfl rfl ?_
        refine ry (y_pick rfl rfl rfl) rfl rfl ?_
        refine ry (y_asg rfl rfl) rfl rfl ?_
        refine reg_nil ?_
        refine fn_next ?_
        refine cw_condf rfl ?_
        refine cw_skip ?_
        refine fn_block ?_
        refine fn_next ?_
        refine cw_seq ?_
        refine cw_reg ?_
        refine ry (y_mov rfl rfl) rfl rfl ?_
        refine reg_op (op_call (CloneB_any _ _ _ (vi .u8 zs) _ (h.below H0.base) (by rw [vi_len]; omega) vi_one (by omega)) rfl kfwire1_1 ⟨rfl, trivial⟩) rfl rfl ?_
        rintro _ w27 ⟨A29, c30, rfl, k26⟩
        have H28 := H0.call k26
        refine reg_op (op_call (ClipB_any _ _ _ _ (H28.len (i := 0) rfl).2.1) rfl kfwire1_2 ⟨rfl, trivial⟩) rfl rfl ?_
        rintro _ w32 ⟨rfl, e31⟩
        have H33 := H28.ext e31
        have H34 := H33.cap (i := 0) (cap' := m) rfl (Nat.le_refl _) (H33.len (i := 0) rfl).2.1 rfl
        refine ry (y_asg rfl rfl) rfl rfl ?_
        refine reg_nil ?_
        refine fn_next ?_
        refine cw_seq ?_
        refine cw_seq ?_
        refine cw_reg ?_
        refine ry (y_mov rfl rfl) rfl rfl ?_
        refine ry (y_mov rfl rfl) rfl rfl ?_
        refine reg_nil ?_
        refine fn_next ?_
        refine cw_block ?_
        have hAp : vi .u8 zs = vi .u8 zs ++ vi .u8 (dgs u 0) := by simp [dgs, vi]
        rw [hAp] at H34
        refine cw_loopJ [0, 8, 30, 31, 32, 33, 34, 35, 36, 37, 38, 39, 40, 41] (fun M wl ml => ∃ (i : Nat) (A : Option Addr) (cap : Nat), M = [(0, .slice A (m + i) cap), (30, .int .i64 (i : Int))] ∧ HS w wl [.row A (m + i) cap (vi .u8 zs ++ vi .u8 (dgs u i)) 5 1] ∧ (i ≤ k) ∧ ml = k - i) ⟨0, _, _, rfl, H34, Nat.zero_le _, rfl⟩ ⟨rfl, rfl, trivial⟩ ?_
        rintro M w35 m37 ⟨i, A, cap, rfl, H36, hp0, rfl⟩
        refine cw_seq ?_
        refine cw_reg ?_
        refine ry (y_lss rfl rfl rfl) rfl rfl ?_
        refine reg_nil ?_
        refine fn_next ?_
        refine cw_seq ?_
        refine cw_condd rfl (fun h38 => ?_) (fun h38 => ?_)
        · skip
          refine cw_skip ?_
          refine fn_next ?_
          refine cw_seq ?_
          refine cw_block ?_
          refine cw_seq ?_
          refine cw_reg ?_
          refine ry (y_mov rfl rfl) rfl rfl ?_
          refine ry (y_asg rfl rfl) rfl rfl ?_
          refine reg_nil ?_
          refine fn_next ?_
          refine cw_reg ?_
          refine ry (y_mov rfl rfl) rfl rfl ?_
          refine ry (y_mov rfl rfl) rfl rfl ?_
          refine ry (y_mov rfl rfl) rfl rfl ?_
          refine ry (y_mul rfl rfl rfl (wi (by omega))) rfl rfl ?_
          refine ry (y_shr rfl rfl rfl (by omega) (shr8 (u := u) (i := i) (by omega) (by omega))) rfl rfl ?_
          refine ry (y_conv rfl Tryz.underlying123 Tryz.underlying5 rfl (wrap8 _)) rfl rfl ?_
          refine reg_op (op_lit (parts := [(0, _)]) (vs := [(0, _)]) (cs := [.int _ _]) H36 rfl Tryz.underlying22 kfwire1_3 rfl ⟨rfl, trivial⟩ rfl rfl) rfl rfl ?_
          rintro _ w40 ⟨b39, rfl, H41⟩
          have H42 := H41.asrow (m := 1) (size := 1) rfl (by decide)
          refine reg_op (op_app (i := 1) (ys := [.int .u8 (dg u i)]) H42 rfl rfl rfl rfl (H42.rd (i := 0) rfl) (rfl) (rfl) Tryz.underlying22 kfwire1_4 rfl rfl (by unfold maxLen; omega) (by omega)) rfl rfl ?_
          rintro _ w45 ⟨A43, c44, rfl, H46⟩
          refine ry (y_asg rfl rfl) rfl rfl ?_
          refine reg_nil ?_
          refine fn_block ?_
          refine fn_next ?_
          refine cw_reg ?_
          refine ry (y_add rfl rfl rfl (wi (by omega))) rfl rfl ?_
          refine ry (y_mov rfl rfl) rfl rfl ?_
          refine reg_nil ?_
          rw [List.append_assoc, vi_push, ← dgs_succ] at H46
          refine fn_roundJ ⟨i + 1, _, _, rfl, (H46.pick [1] rfl (by decide)), by omega, rfl⟩ ⟨rfl, rfl, trivial⟩ (by omega) (by repeat (first | exact kp_refl | refine kp_app rfl rfl ?_ | refine kp_cons rfl ?_)) rfl
        · skip
          obtain rfl : k = i := by omega
          refine cw_exit ?_
          refine fn_then_exit (fn_then_exit (fn_block_exit ?_))
          refine fn_next ?_
          refine cw_seq ?_
          refine cw_reg ?_
          refine ry (y_mov rfl rfl) rfl rfl ?_
          refine ry (y_asg rfl rfl) rfl rfl ?_
          refine ry (y_asg rfl rfl) rfl rfl ?_
          refine reg_nil ?_
          refine fn_next ?_
          refine cw_ret ?_
          refine fn_retn (vs := [_, _]) rfl ⟨rfl, rfl, trivial⟩ rfl ?_
          have hv0 : u / 256 ^ k = 0 := by first | omega | exact pow8 (by omega) hu
          unfold PutR; rw [putS_ok (by omega) (by omega) hv0]
          have hln : (zs ++ dgs u k).length = m + k := by rw [List.length_append, dgs_len]; omega
          rw [hln, vi_app]
          exact ⟨_, _, rfl, H36⟩

end Go.Proofs.YtbnjbgcadkdljaaGreatDoor

namespace Go.Proofs.YtbnjbgcadkdljaaGreatDoor
open Go Go.RowKit
theorem kfwire2_4 : elB Tryz.prog 22 1 = true := by kernel_rfl
theorem kfwire2_5 : oneB Tryz.prog 5 = true := by kernel_rfl
/-- bytes as a number -/
def un : List Int → Int
  | [] => 0
  | z :: l => z + 256 * un l
theorem un_app : ∀ (a : List Int) (z : Int), un (a ++ [z]) = un a + 256 ^ a.length * z
  | [], z => by simp [un]
  | x :: a, z => by
    simp only [List.cons_append, un, List.length_cons]
    rw [un_app a z, Int.pow_succ, Int.mul_add, Int.mul_comm _ 256, Int.mul_assoc]
    omega
theorem un_bd : ∀ (a : List Int), Byt a → 0 ≤ un a ∧ un a < 256 ^ a.length
  | [], _ => by simp [un]
  | x :: a, h => by
    have ih := un_bd a (fun z hz => h z (List.mem_cons_of_mem _ hz))
    have hx := h x List.mem_cons_self
    simp only [un, List.length_cons, Int.pow_succ]
    omega
theorem un_div (z : Int) (l : List Int) (hz : 0 ≤ z ∧ z < 256) : un (z :: l) / 256 = un l ∧ un (z :: l) % 256 = z := by simp only [un]; omega
theorem dgs_un : ∀ (l : List Int), Byt l → dgs (un l) l.length = l
  | [], _ => rfl
  | z :: l, h => by
    have hz := h z List.mem_cons_self
    have ih := dgs_un l (fun x hx => h x (List.mem_cons_of_mem _ hx))
    obtain ⟨e1, e2⟩ := un_div z l hz
    unfold dgs at *
    rw [List.length_cons, List.range_succ_eq_map, List.map_cons, List.map_map]
    have h0 : dg (un (z :: l)) 0 = z := by unfold dg; simpa using e2
    rw [h0]
    congr 1
    refine Eq.trans (List.map_congr_left fun j _ => ?_) ih
    show dg (un (z :: l)) (j + 1) = dg (un l) j
    unfold dg
    rw [Int.pow_succ, Int.mul_comm, ← Int.ediv_ediv_of_nonneg (by decide), e1]
theorem Byt.take {l : List Int} (h : Byt l) (i : Nat) : Byt (l.take i) := fun z hz => h z (List.mem_of_mem_take hz)
theorem Byt.drop {l : List Int} (h : Byt l) (i : Nat) : Byt (l.drop i) := fun z hz => h z (List.mem_of_mem_drop hz)
theorem Byt.at_ {l : List Int} (h : Byt l) {i : Nat} (hi : i < l.length) : 0 ≤ nth l i ∧ nth l i < 256 := h _ (nth_mem hi)
theorem un_take {l : List Int} {i : Nat} (hi : i < l.length) : un (l.take (i + 1)) = un (l.take i) + 256 ^ i * nth l i := by
  rw [take_succ_nth hi, un_app, List.length_take, Nat.min_eq_left (by omega)]
theorem un_drop {l : List Int} {i : Nat} (hi : i < l.length) : un (l.drop i) = un (l.drop (i + 1)) * 256 + nth l i := by
  rw [List.drop_eq_getElem_cons hi, ← nth_lt hi]
  simp only [un]; omega
/-- what lies in a row of bytes -/
def getS (zs : List Int) (a n : Int) : Int × Int × Int := if n < 1 ∨ 8 < n ∨ a < 0 ∨ (zs.length : Int) < a then (0, 0, 11) else if (zs.length : Int) - a < n then (0, 0, 14) else (un ((zs.drop a.toNat).take n.toNat), a + n, 0)
theorem getS_arg {zs : List Int} {a n : Int} (h : n < 1 ∨ 8 < n ∨ a < 0 ∨ (zs.length : Int) < a) : getS zs a n = (0, 0, 11) := by unfold getS; rw [if_pos h]
theorem getS_short {zs : List Int} {a n : Int} (h : ¬ (n < 1 ∨ 8 < n ∨ a < 0 ∨ (zs.length : Int) < a)) (h2 : (zs.length : Int) - a < n) : getS zs a n = (0, 0, 14) := by unfold getS; rw [if_neg h, if_pos h2]
theorem getS_ok {zs : List Int} {a k : Nat} (h1 : 1 ≤ k) (h8 : k ≤ 8) (h2 : a + k ≤ zs.length) : getS zs (a : Int) (k : Int) = (un ((zs.drop a).take k), (a : Int) + k, 0) := by
  unfold getS; rw [if_neg (by omega), if_neg (by omega)]; simp
def GetR (zs : List Int) (a n : Int) (w : World) (v : Value) (w' : World) : Prop := v = .tuple #[.int .u64 (getS zs a n).1, .int .i64 (getS zs a n).2.1, .int .i64 (getS zs a n).2.2] ∧ Below w.heap.size w w'
theorem sh8 {i : Nat} (hi : i < 8) : min (8 * (i : Int)).toNat IntKind.u64.bits = 8 * i := by
  have : IntKind.u64.bits = 64 := rfl
  omega
theorem e256 (i : Nat) : (256 : Int) ^ i = ((2 ^ (8 * i) : Nat) : Int) := by rw [Nat.pow_mul]; simp
theorem pow56 {i : Nat} (hi : i < 8) : 2 ^ (8 * i) ≤ 72057594037927936 := by
  have : 2 ^ (8 * i) ≤ 2 ^ 56 := Nat.pow_le_pow_right (by decide) (by omega)
  have : (2 : Nat) ^ 56 = 72057594037927936 := by decide
  omega
theorem pow_le7 {m : Nat} (h : m ≤ 7) : (256 : Int) ^ m ≤ 72057594037927936 := by rw [e256]; have := pow56 (i := m) (by omega); omega
theorem shl_at {z : Int} {i : Nat} (hi : i < 8) (hz : 0 ≤ z ∧ z < 256) : IntKind.u64.wrap (z * 2 ^ (min (8 * (i : Int)).toNat IntKind.u64.bits)) = 256 ^ i * z := by
  have h1 := pow56 hi
  have h2 : (2 : Int) ^ (8 * i) = 256 ^ i := by rw [e256]; simp
  rw [sh8 hi, h2, Int.mul_comm]
  have h3 : (256 : Int) ^ i ≤ 72057594037927936 := by rw [e256]; omega
  have h4 := pow_pos256 i
  have h5 : 256 ^ i * z ≤ 256 ^ i * 255 := Int.mul_le_mul_of_nonneg_left (by omega) (by omega)
  exact wu64 ⟨Int.mul_nonneg (by omega) hz.1, by omega⟩
/-- or of a number below 256^i and a byte at place i -/
theorem or_at {u z : Int} {i : Nat} (hi : i < 8) (hu : 0 ≤ u ∧ u < 256 ^ i) (hz : 0 ≤ z ∧ z < 256) : IntKind.u64.wrap ((BitVec.ofInt IntKind.u64.bits u ||| BitVec.ofInt IntKind.u64.bits (256 ^ i * z)).toNat) = u + 256 ^ i * z := by
  have hb : IntKind.u64.bits = 64 := rfl
  obtain ⟨a, rfl⟩ : ∃ a : Nat, u = (a : Int) := ⟨u.toNat, by omega⟩
  obtain ⟨b, rfl⟩ : ∃ b : Nat, z = (b : Int) := ⟨z.toNat, by omega⟩
  have ha : a < 2 ^ (8 * i) := by have := hu.2; rw [e256] at this; omega
  have hb' : b < 256 := by omega
  have hle := pow56 hi
  have hlt : 2 ^ (8 * i) * b + a < 2 ^ 64 := by
    have h1 : 2 ^ (8 * i) * b ≤ 2 ^ (8 * i) * 255 := Nat.mul_le_mul_left _ (by omega)
    have : (2 : Nat) ^ 64 = 18446744073709551616 := by decide
    omega
  have h2 : ((256 : Int) ^ i * (b : Int)) = ((2 ^ (8 * i) * b : Nat) : Int) := by rw [e256, Int.natCast_mul]
  rw [h2, hb]
  have hor : ((BitVec.ofInt 64 (a : Int) ||| BitVec.ofInt 64 ((2 ^ (8 * i) * b : Nat) : Int)).toNat) = 2 ^ (8 * i) * b + a := by
    rw [BitVec.toNat_or, BitVec.ofInt_natCast, BitVec.ofInt_natCast, BitVec.toNat_ofNat, BitVec.toNat_ofNat, Nat.mod_eq_of_lt (by omega : a < 2 ^ 64), Nat.mod_eq_of_lt (by omega : 2 ^ (8 * i) * b < 2 ^ 64), Nat.or_comm, ← Nat.two_pow_add_eq_or_of_lt ha]
  rw [hor, wu64 (by have : (2 : Nat) ^ 64 = 18446744073709551616 := by decide
                    omega)]
  omega

set_option maxRecDepth 100000 in
theorem Get_any (A : Option Addr) (m cap : Nat) (zs : List Int) (a n : Int) (w : World) (h : Rd w A (vi .u8 zs)) (hl : zs.length = m) (hm : m ≤ 1000000) (hcap : m ≤ cap) (hB : Byt zs) (ha : -9223372036854775808 ≤ a ∧ a ≤ 9223372036854775807) (hn : -9223372036854775808 ≤ n ∧ n ≤ 9223372036854775807) :
    Ret Tryz.prog 91 [.slice A m cap, .int .i64 a, .int .i64 n] w (GetR zs a n w) := by
  refine ret_enter Tryz.func91 rfl rfl rfl ?_
  have H0 := HS.start w
  refine cw_seq ?_
  refine cw_reg ?_
  refine ry (y_asg rfl rfl) rfl rfl ?_
  refine ry (y_asg rfl rfl) rfl rfl ?_
  refine ry (y_asg rfl rfl) rfl rfl ?_
  refine reg_nil ?_
  refine fn_next ?_
  refine cw_seq ?_
  refine cw_block ?_
  refine cw_seq ?_
  refine cw_reg ?_
  refine ry (y_mov rfl rfl) rfl rfl ?_
  refine ry (y_lss rfl rfl rfl) rfl rfl ?_
  refine ry (y_mov rfl rfl) rfl rfl ?_
  refine rg_splitd (d := 15) rfl (fun h1 => ?_) (fun h1 => ?_)
  · skip
    refine rg_off rfl rfl rfl rfl rfl ?_
    refine rg_off rfl rfl rfl rfl rfl ?_
    refine ry (y_pick rfl rfl rfl) rfl rfl ?_
    refine ry (y_mov rfl rfl) rfl rfl ?_
    refine rg_off rfl rfl rfl rfl rfl ?_
    refine rg_off rfl rfl rfl rfl rfl ?_
    refine ry (y_pick rfl rfl rfl) rfl rfl ?_
    refine ry (y_mov rfl rfl) rfl rfl ?_
    refine rg_off rfl rfl rfl rfl rfl ?_
    refine rg_off rfl rfl rfl rfl rfl ?_
    refine rg_off rfl rfl rfl rfl rfl ?_
    refine rg_off rfl rfl rfl rfl rfl ?_
    refine ry (y_pick rfl rfl rfl) rfl rfl ?_
    refine ry (y_asg rfl rfl) rfl rfl ?_
    refine reg_nil ?_
    refine fn_next ?_
    refine cw_condt rfl ?_
    refine cw_seq ?_
    refine cw_reg ?_
    refine ry (y_asg rfl rfl) rfl rfl ?_
    refine ry (y_asg rfl rfl) rfl rfl ?_
    refine ry (y_asg rfl rfl) rfl rfl ?_
    refine reg_nil ?_
    refine fn_next ?_
    refine cw_ret ?_
    refine fn_block_ret (fn_then_ret ?_)
    refine fn_retn (vs := [_, _, _]) rfl ⟨rfl, rfl, rfl, trivial⟩ rfl ?_
    unfold GetR; rw [getS_arg (by omega)]
    exact ⟨rfl, H0.base⟩
  · skip
    refine rgy (y_mov rfl rfl) rfl rfl rfl rfl ?_
    refine rgy (y_gtr rfl rfl rfl) rfl rfl rfl rfl ?_
    refine ry (y_pick rfl rfl rfl) rfl rfl ?_
    refine ry (y_mov rfl rfl) rfl rfl ?_
    refine rg_splitd (d := 19) rfl (fun h2 => ?_) (fun h2 => ?_)
    · skip
      refine rg_off rfl rfl rfl rfl rfl ?_
      refine rg_off rfl rfl rfl rfl rfl ?_
      refine ry (y_pick rfl rfl rfl) rfl rfl ?_
      refine ry (y_mov rfl rfl) rfl rfl ?_
      refine rg_off rfl rfl rfl rfl rfl ?_
      refine rg_off rfl rfl rfl rfl rfl ?_
      refine rg_off rfl rfl rfl rfl rfl ?_
      refine rg_off rfl rfl rfl rfl rfl ?_
      refine ry (y_pick rfl rfl rfl) rfl rfl ?_
      refine ry (y_asg rfl rfl) rfl rfl ?_
      refine reg_nil ?_
      refine fn_next ?_
      refine cw_condt rfl ?_
      refine cw_seq ?_
      refine cw_reg ?_
      refine ry (y_asg rfl rfl) rfl rfl ?_
      refine ry (y_asg rfl rfl) rfl rfl ?_
      refine ry (y_asg rfl rfl) rfl rfl ?_
      refine reg_nil ?_
      refine fn_next ?_
      refine cw_ret ?_
      refine fn_block_ret (fn_then_ret ?_)
      refine fn_retn (vs := [_, _, _]) rfl ⟨rfl, rfl, rfl, trivial⟩ rfl ?_
      unfold GetR; rw [getS_arg (by omega)]
      exact ⟨rfl, H0.base⟩
    · skip
      refine rgy (y_mov rfl rfl) rfl rfl rfl rfl ?_
      refine rgy (y_lss rfl rfl rfl) rfl rfl rfl rfl ?_
      refine ry (y_pick rfl rfl rfl) rfl rfl ?_
      refine ry (y_mov rfl rfl) rfl rfl ?_
      refine rg_splitd (d := 23) rfl (fun h3 => ?_) (fun h3 => ?_)
      · skip
        refine rg_off rfl rfl rfl rfl rfl ?_
        refine rg_off rfl rfl rfl rfl rfl ?_
        refine rg_off rfl rfl rfl rfl rfl ?_
        refine rg_off rfl rfl rfl rfl rfl ?_
        refine ry (y_pick rfl rfl rfl) rfl rfl ?_
        refine ry (y_asg rfl rfl) rfl rfl ?_
        refine reg_nil ?_
        refine fn_next ?_
        refine cw_condt rfl ?_
        refine cw_seq ?_
        refine cw_reg ?_
        refine ry (y_asg rfl rfl) rfl rfl ?_
        refine ry (y_asg rfl rfl) rfl rfl ?_
        refine ry (y_asg rfl rfl) rfl rfl ?_
        refine reg_nil ?_
        refine fn_next ?_
        refine cw_ret ?_
        refine fn_block_ret (fn_then_ret ?_)
        refine fn_retn (vs := [_, _, _]) rfl ⟨rfl, rfl, rfl, trivial⟩ rfl ?_
        unfold GetR; rw [getS_arg (by omega)]
        exact ⟨rfl, H0.base⟩
      · skip
        refine rgy (y_mov rfl rfl) rfl rfl rfl rfl ?_
        refine rgy (y_mov rfl rfl) rfl rfl rfl rfl ?_
        refine rgy (y_len rfl Tryz.underlying22 rfl) rfl rfl rfl rfl ?_
        refine rgy (y_gtr rfl rfl rfl) rfl rfl rfl rfl ?_
        refine ry (y_pick rfl rfl rfl) rfl rfl ?_
        refine ry (y_asg rfl rfl) rfl rfl ?_
        refine reg_nil ?_
        refine fn_next ?_
        refine cw_condd rfl (fun h4 => ?_) (fun h4 => ?_)
        · skip
          refine cw_seq ?_
          refine cw_reg ?_
          refine ry (y_asg rfl rfl) rfl rfl ?_
          refine ry (y_asg rfl rfl) rfl rfl ?_
          refine ry (y_asg rfl rfl) rfl rfl ?_
          refine reg_nil ?_
          refine fn_next ?_
          refine cw_ret ?_
          refine fn_block_ret (fn_then_ret ?_)
          refine fn_retn (vs := [_, _, _]) rfl ⟨rfl, rfl, rfl, trivial⟩ rfl ?_
          unfold GetR; rw [getS_arg (by omega)]
          exact ⟨rfl, H0.base⟩
        · skip
          refine cw_seq ?_
          refine cw_reg ?_
          refine ry (y_mov rfl rfl) rfl rfl ?_
          refine ry (y_len rfl Tryz.underlying22 rfl) rfl rfl ?_
          refine ry (y_mov rfl rfl) rfl rfl ?_
          refine ry (y_sub rfl rfl rfl (wi (by omega))) rfl rfl ?_
          refine ry (y_mov rfl rfl) rfl rfl ?_
          refine ry (y_lss rfl rfl rfl) rfl rfl ?_
          refine ry (y_asg rfl rfl) rfl rfl ?_
          refine reg_nil ?_
          refine fn_next ?_
          refine cw_condd rfl (fun h5 => ?_) (fun h5 => ?_)
          · skip
            refine cw_seq ?_
            refine cw_reg ?_
            refine ry (y_asg rfl rfl) rfl rfl ?_
            refine ry (y_asg rfl rfl) rfl rfl ?_
            refine ry (y_asg rfl rfl) rfl rfl ?_
            refine reg_nil ?_
            refine fn_next ?_
            refine cw_ret ?_
            refine fn_block_ret (fn_then_ret ?_)
            refine fn_retn (vs := [_, _, _]) rfl ⟨rfl, rfl, rfl, trivial⟩ rfl ?_
            unfold GetR; rw [getS_short (by omega) (by omega)]
            exact ⟨rfl, H0.base⟩
          · skip
            obtain ⟨k, rfl⟩ : ∃ k : Nat, n = (k : Int) := ⟨n.toNat, by omega⟩
            obtain ⟨b, rfl⟩ : ∃ b : Nat, a = (b : Int) := ⟨a.toNat, by omega⟩
            refine cw_skip ?_
            refine fn_block ?_
            refine fn_next ?_
            refine cw_seq ?_
            refine cw_reg ?_
            refine ry (y_asg rfl rfl) rfl rfl ?_
            refine reg_nil ?_
            refine fn_next ?_
            refine cw_seq ?_
            refine cw_seq ?_
            refine cw_reg ?_
            refine ry (y_mov rfl rfl) rfl rfl ?_
            refine ry (y_mov rfl rfl) rfl rfl ?_
            refine ry (y_mov rfl rfl) rfl rfl ?_
            refine ry (y_mov rfl rfl) rfl rfl ?_
            refine ry (y_add rfl rfl rfl (wi (by omega))) rfl rfl ?_
            have hsub : Rd w (subA A cap b 1) (vi .u8 ((zs.drop b).take k)) := by
              have := Rd.slice (lo := b) (hi := b + k) (size := 1) (cap := cap) h (by omega) (by omega)
              rw [Nat.mul_one, Nat.mul_one, vi_take, vi_drop, List.drop_take, Nat.add_sub_cancel_left] at this
              exact this
            refine ry (y_slh (lo := b) (hi := b + k) rfl rfl rfl rfl kfwire2_4 (rfl) (rfl) (by omega) (by omega)) rfl rfl ?_
            refine ry (y_len rfl Tryz.underlying22 rfl) rfl rfl ?_
            refine ry (y_mov rfl rfl) rfl rfl ?_
            refine reg_nil ?_
            refine fn_next ?_
            refine cw_block ?_
            refine cw_loopJ [9, 10, 11, 43, 44, 45, 46, 47, 48, 49, 50, 51, 52, 53, 54, 55] (fun M wl ml => ∃ (i : Nat), M = [(9, .int .u64 (un (((zs.drop b).take k).take i))), (43, .int .i64 (i : Int))] ∧ HS w wl [] ∧ (i ≤ k) ∧ ml = k - i) ⟨0, rfl, H0, Nat.zero_le _, rfl⟩ ⟨rfl, rfl, trivial⟩ ?_
            rintro M w6 m8 ⟨i, rfl, H7, hp0, rfl⟩
            have hll : ((zs.drop b).take k).length = k := by rw [List.length_take, List.length_drop]; omega
            have hbt : Byt ((zs.drop b).take k) := (hB.drop b).take k
            have hub := un_bd _ (hbt.take i)
            rw [List.length_take, hll, Nat.min_eq_left (by omega)] at hub
            refine cw_seq ?_
            refine cw_reg ?_
            refine ry (y_lss rfl rfl rfl) rfl rfl ?_
            refine reg_nil ?_
            refine fn_next ?_
            refine cw_seq ?_
            refine cw_condd rfl (fun h9 => ?_) (fun h9 => ?_)
            · skip
              have hil : i < ((zs.drop b).take k).length := by omega
              have hzi := hbt.at_ hil
              have hge := vi_get (k := .u8) hil
              refine cw_skip ?_
              refine fn_next ?_
              refine cw_seq ?_
              refine cw_block ?_
              refine cw_seq ?_
              refine cw_reg ?_
              refine ry (y_mov rfl rfl) rfl rfl ?_
              refine ry (y_iar (hsub.below H7.base) rfl rfl rfl kfwire2_4 (rfl) (by omega) (Nat.mul_one _) (hge)) rfl rfl ?_
              refine ry (y_ldr (hsub.below H7.base) rfl rfl kfwire2_5 (hge)) rfl rfl ?_
              refine ry (y_asg rfl rfl) rfl rfl ?_
              refine ry (y_asg rfl rfl) rfl rfl ?_
              refine reg_nil ?_
              refine fn_next ?_
              refine cw_reg ?_
              refine ry (y_mov rfl rfl) rfl rfl ?_
              refine ry (y_mov rfl rfl) rfl rfl ?_
              refine ry (y_conv rfl Tryz.underlying5 Tryz.underlying123 rfl (wu64 (by omega))) rfl rfl ?_
              refine ry (y_mov rfl rfl) rfl rfl ?_
              refine ry (y_mul rfl rfl rfl (wi (by omega))) rfl rfl ?_
              refine ry (y_shl rfl rfl rfl (by omega) (shl_at (by omega) hzi)) rfl rfl ?_
              refine ry (y_or rfl rfl rfl (or_at (by omega) hub hzi)) rfl rfl ?_
              refine ry (y_asg rfl rfl) rfl rfl ?_
              refine reg_nil ?_
              refine fn_block ?_
              refine fn_next ?_
              refine cw_reg ?_
              refine ry (y_add rfl rfl rfl (wi (by omega))) rfl rfl ?_
              refine ry (y_mov rfl rfl) rfl rfl ?_
              refine reg_nil ?_
              refine fn_roundJ ⟨i + 1, rfl, H7, by omega, rfl⟩ ⟨si (un_take (by omega)).symm, rfl, trivial⟩ (by omega) (by repeat (first | exact kp_refl | refine kp_app rfl rfl ?_ | refine kp_cons rfl ?_)) rfl
            · skip
              obtain rfl : k = i := by omega
              refine cw_exit ?_
              refine fn_then_exit (fn_then_exit (fn_block_exit ?_))
              refine fn_next ?_
              refine cw_seq ?_
              refine cw_reg ?_
              refine ry (y_mov rfl rfl) rfl rfl ?_
              refine ry (y_mov rfl rfl) rfl rfl ?_
              refine ry (y_mov rfl rfl) rfl rfl ?_
              refine ry (y_add rfl rfl rfl (wi (by omega))) rfl rfl ?_
              refine ry (y_asg rfl rfl) rfl rfl ?_
              refine ry (y_asg rfl rfl) rfl rfl ?_
              refine ry (y_asg rfl rfl) rfl rfl ?_
              refine reg_nil ?_
              refine fn_next ?_
              refine cw_ret ?_
              refine fn_retn (vs := [_, _, _]) rfl ⟨rfl, rfl, rfl, trivial⟩ rfl ?_
              unfold GetR; rw [getS_ok (by omega) (by omega) (by omega)]
              rw [List.take_of_length_le (by omega : ((zs.drop b).take k).length ≤ k)]
              exact ⟨rfl, H7.base⟩

set_option maxRecDepth 100000 in
theorem refGet_any (A : Option Addr) (m cap : Nat) (zs : List Int) (a n : Int) (w : World) (h : Rd w A (vi .u8 zs)) (hl : zs.length = m) (hm : m ≤ 1000000) (hcap : m ≤ cap) (hB : Byt zs) (ha : -9223372036854775808 ≤ a ∧ a ≤ 9223372036854775807) (hn : -9223372036854775808 ≤ n ∧ n ≤ 9223372036854775807) :
    Ret Tryz.prog 83 [.slice A m cap, .int .i64 a, .int .i64 n] w (GetR zs a n w) := by
  refine ret_enter Tryz.func83 rfl rfl rfl ?_
  have H0 := HS.start w
  refine cw_seq ?_
  refine cw_reg ?_
  refine ry (y_asg rfl rfl) rfl rfl ?_
  refine ry (y_asg rfl rfl) rfl rfl ?_
  refine ry (y_asg rfl rfl) rfl rfl ?_
  refine reg_nil ?_
  refine fn_next ?_
  refine cw_seq ?_
  refine cw_seq ?_
  refine cw_reg ?_
  refine ry (y_mov rfl rfl) rfl rfl ?_
  refine ry (y_lss rfl rfl rfl) rfl rfl ?_
  refine ry (y_mov rfl rfl) rfl rfl ?_
  refine rg_splitd (d := 13) rfl (fun h1 => ?_) (fun h1 => ?_)
  · skip
    refine rg_off rfl rfl rfl rfl rfl ?_
    refine rg_off rfl rfl rfl rfl rfl ?_
    refine ry (y_pick rfl rfl rfl) rfl rfl ?_
    refine ry (y_mov rfl rfl) rfl rfl ?_
    refine rg_off rfl rfl rfl rfl rfl ?_
    refine rg_off rfl rfl rfl rfl rfl ?_
    refine ry (y_pick rfl rfl rfl) rfl rfl ?_
    refine ry (y_mov rfl rfl) rfl rfl ?_
    refine rg_off rfl rfl rfl rfl rfl ?_
    refine rg_off rfl rfl rfl rfl rfl ?_
    refine rg_off rfl rfl rfl rfl rfl ?_
    refine rg_off rfl rfl rfl rfl rfl ?_
    refine ry (y_pick rfl rfl rfl) rfl rfl ?_
    refine reg_nil ?_
    refine fn_next ?_
    refine cw_condt rfl ?_
    refine cw_seq ?_
    refine cw_reg ?_
    refine ry (y_asg rfl rfl) rfl rfl ?_
    refine ry (y_asg rfl rfl) rfl rfl ?_
    refine ry (y_asg rfl rfl) rfl rfl ?_
    refine reg_nil ?_
    refine fn_next ?_
    refine cw_ret ?_
    refine fn_then_ret ?_
    refine fn_retn (vs := [_, _, _]) rfl ⟨rfl, rfl, rfl, trivial⟩ rfl ?_
    unfold GetR; rw [getS_arg (by omega)]
    exact ⟨rfl, H0.base⟩
  · skip
    refine rgy (y_mov rfl rfl) rfl rfl rfl rfl ?_
    refine rgy (y_gtr rfl rfl rfl) rfl rfl rfl rfl ?_
    refine ry (y_pick rfl rfl rfl) rfl rfl ?_
    refine ry (y_mov rfl rfl) rfl rfl ?_
    refine rg_splitd (d := 17) rfl (fun h2 => ?_) (fun h2 => ?_)
    · skip
      refine rg_off rfl rfl rfl rfl rfl ?_
      refine rg_off rfl rfl rfl rfl rfl ?_
      refine ry (y_pick rfl rfl rfl) rfl rfl ?_
      refine ry (y_mov rfl rfl) rfl rfl ?_
      refine rg_off rfl rfl rfl rfl rfl ?_
      refine rg_off rfl rfl rfl rfl rfl ?_
      refine rg_off rfl rfl rfl rfl rfl ?_
      refine rg_off rfl rfl rfl rfl rfl ?_
      refine ry (y_pick rfl rfl rfl) rfl rfl ?_
      refine reg_nil ?_
      refine fn_next ?_
      refine cw_condt rfl ?_
      refine cw_seq ?_
      refine cw_reg ?_
      refine ry (y_asg rfl rfl) rfl rfl ?_
      refine ry (y_asg rfl rfl) rfl rfl ?_
      refine ry (y_asg rfl rfl) rfl rfl ?_
      refine reg_nil ?_
      refine fn_next ?_
      refine cw_ret ?_
      refine fn_then_ret ?_
      refine fn_retn (vs := [_, _, _]) rfl ⟨rfl, rfl, rfl, trivial⟩ rfl ?_
      unfold GetR; rw [getS_arg (by omega)]
      exact ⟨rfl, H0.base⟩
    · skip
      refine rgy (y_mov rfl rfl) rfl rfl rfl rfl ?_
      refine rgy (y_lss rfl rfl rfl) rfl rfl rfl rfl ?_
      refine ry (y_pick rfl rfl rfl) rfl rfl ?_
      refine ry (y_mov rfl rfl) rfl rfl ?_
      refine rg_splitd (d := 21) rfl (fun h3 => ?_) (fun h3 => ?_)
      · skip
        refine rg_off rfl rfl rfl rfl rfl ?_
        refine rg_off rfl rfl rfl rfl rfl ?_
        refine rg_off rfl rfl rfl rfl rfl ?_
        refine rg_off rfl rfl rfl rfl rfl ?_
        refine ry (y_pick rfl rfl rfl) rfl rfl ?_
        refine reg_nil ?_
        refine fn_next ?_
        refine cw_condt rfl ?_
        refine cw_seq ?_
        refine cw_reg ?_
        refine ry (y_asg rfl rfl) rfl rfl ?_
        refine ry (y_asg rfl rfl) rfl rfl ?_
        refine ry (y_asg rfl rfl) rfl rfl ?_
        refine reg_nil ?_
        refine fn_next ?_
        refine cw_ret ?_
        refine fn_then_ret ?_
        refine fn_retn (vs := [_, _, _]) rfl ⟨rfl, rfl, rfl, trivial⟩ rfl ?_
        unfold GetR; rw [getS_arg (by omega)]
        exact ⟨rfl, H0.base⟩
      · skip
        refine rgy (y_mov rfl rfl) rfl rfl rfl rfl ?_
        refine rgy (y_mov rfl rfl) rfl rfl rfl rfl ?_
        refine rgy (y_len rfl Tryz.underlying22 rfl) rfl rfl rfl rfl ?_
        refine rgy (y_gtr rfl rfl rfl) rfl rfl rfl rfl ?_
        refine ry (y_pick rfl rfl rfl) rfl rfl ?_
        refine reg_nil ?_
        refine fn_next ?_
        refine cw_condd rfl (fun h4 => ?_) (fun h4 => ?_)
        · skip
          refine cw_seq ?_
          refine cw_reg ?_
          refine ry (y_asg rfl rfl) rfl rfl ?_
          refine ry (y_asg rfl rfl) rfl rfl ?_
          refine ry (y_asg rfl rfl) rfl rfl ?_
          refine reg_nil ?_
          refine fn_next ?_
          refine cw_ret ?_
          refine fn_then_ret ?_
          refine fn_retn (vs := [_, _, _]) rfl ⟨rfl, rfl, rfl, trivial⟩ rfl ?_
          unfold GetR; rw [getS_arg (by omega)]
          exact ⟨rfl, H0.base⟩
        · skip
          refine cw_skip ?_
          refine fn_next ?_
          refine cw_seq ?_
          refine cw_seq ?_
          refine cw_reg ?_
          refine ry (y_mov rfl rfl) rfl rfl ?_
          refine ry (y_len rfl Tryz.underlying22 rfl) rfl rfl ?_
          refine ry (y_mov rfl rfl) rfl rfl ?_
          refine ry (y_sub rfl rfl rfl (wi (by omega))) rfl rfl ?_
          refine ry (y_mov rfl rfl) rfl rfl ?_
          refine ry (y_lss rfl rfl rfl) rfl rfl ?_
          refine reg_nil ?_
          refine fn_next ?_
          refine cw_condd rfl (fun h5 => ?_) (fun h5 => ?_)
          · skip
            refine cw_seq ?_
            refine cw_reg ?_
            refine ry (y_asg rfl rfl) rfl rfl ?_
            refine ry (y_asg rfl rfl) rfl rfl ?_
            refine ry (y_asg rfl rfl) rfl rfl ?_
            refine reg_nil ?_
            refine fn_next ?_
            refine cw_ret ?_
            refine fn_then_ret ?_
            refine fn_retn (vs := [_, _, _]) rfl ⟨rfl, rfl, rfl, trivial⟩ rfl ?_
            unfold GetR; rw [getS_short (by omega) (by omega)]
            exact ⟨rfl, H0.base⟩
          · skip
            obtain ⟨k, rfl⟩ : ∃ k : Nat, n = (k : Int) := ⟨n.toNat, by omega⟩
            obtain ⟨b, rfl⟩ : ∃ b : Nat, a = (b : Int) := ⟨a.toNat, by omega⟩
            refine cw_skip ?_
            refine fn_next ?_
            refine cw_seq ?_
            refine cw_reg ?_
            refine ry (y_asg rfl rfl) rfl rfl ?_
            refine reg_nil ?_
            refine fn_next ?_
            refine cw_seq ?_
            refine cw_seq ?_
            refine cw_reg ?_
            refine ry (y_mov rfl rfl) rfl rfl ?_
            refine ry (y_sub rfl rfl rfl (wi (by omega))) rfl rfl ?_
            refine ry (y_asg rfl rfl) rfl rfl ?_
            refine reg_nil ?_
            refine fn_next ?_
            refine cw_block ?_
            refine cw_loopJ [9, 10, 35, 36, 37, 38, 39, 40, 41, 42, 43, 44, 45, 46, 47, 48] (fun M wl ml => ∃ (j : Nat), M = [(9, .int .u64 (un (((zs.drop b).take k).drop j))), (10, .int .i64 ((j : Int) - 1))] ∧ HS w wl [] ∧ (j ≤ k) ∧ ml = j + 1) ⟨k, rfl, H0, Nat.le_refl _, rfl⟩ ⟨si (by rw [List.drop_of_length_le (by rw [List.length_take, List.length_drop]; omega)]; rfl), rfl, trivial⟩ ?_
            rintro M w6 m8 ⟨j, rfl, H7, hp0, rfl⟩
            have hll : ((zs.drop b).take k).length = k := by rw [List.length_take, List.length_drop]; omega
            have hbt : Byt ((zs.drop b).take k) := (hB.drop b).take k
            refine cw_seq ?_
            refine cw_seq ?_
            refine cw_reg ?_
            refine ry (y_mov rfl rfl) rfl rfl ?_
            refine ry (y_geq rfl rfl rfl) rfl rfl ?_
            refine reg_nil ?_
            refine fn_next ?_
            refine cw_condd rfl (fun h9 => ?_) (fun h9 => ?_)
            · skip
              obtain ⟨j, rfl⟩ : ∃ j' : Nat, j = j' + 1 := ⟨j - 1, by omega⟩
              have hil : j < ((zs.drop b).take k).length := by omega
              have hzi := hbt.at_ hil
              have hub := un_bd _ (hbt.drop (j + 1))
              have hpl := pow_le7 (m := (((zs.drop b).take k).drop (j + 1)).length) (by rw [List.length_drop]; omega)
              have hnt : nth ((zs.drop b).take k) j = nth zs (b + j) := by
                unfold nth; simp only [List.getD, List.getElem?_take, List.getElem?_drop]; rw [if_pos (by omega)]
              have hge := vi_get (k := .u8) (zs := zs) (i := b + j) (by omega)
              rw [← hnt] at hge
              refine cw_skip ?_
              refine fn_next ?_
              refine cw_seq ?_
              refine cw_block ?_
              refine cw_reg ?_
              refine ry (y_mov rfl rfl) rfl rfl ?_
              refine ry (y_mul rfl rfl rfl (wu64 (by omega))) rfl rfl ?_
              refine ry (y_mov rfl rfl) rfl rfl ?_
              refine ry (y_mov rfl rfl) rfl rfl ?_
              refine ry (y_mov rfl rfl) rfl rfl ?_
              refine ry (y_add rfl rfl rfl (wi (by omega))) rfl rfl ?_
              refine ry (y_iar (i := b + j) (h.below H7.base) rfl rfl rfl kfwire2_4 (by omega) (by omega) (Nat.mul_one _) (hge)) rfl rfl ?_
              refine ry (y_ldr (h.below H7.base) rfl rfl kfwire2_5 (hge)) rfl rfl ?_
              refine ry (y_conv rfl Tryz.underlying5 Tryz.underlying123 rfl (wu64 (by omega))) rfl rfl ?_
              refine ry (y_add rfl rfl rfl (wu64 (by omega))) rfl rfl ?_
              refine ry (y_asg rfl rfl) rfl rfl ?_
              refine reg_nil ?_
              refine fn_block ?_
              refine fn_next ?_
              refine cw_reg ?_
              refine ry (y_mov rfl rfl) rfl rfl ?_
              refine ry (y_sub rfl rfl rfl (wi (by omega))) rfl rfl ?_
              refine ry (y_asg rfl rfl) rfl rfl ?_
              refine reg_nil ?_
              refine fn_roundJ ⟨j, rfl, H7, by omega, rfl⟩ ⟨si (un_drop (by omega)).symm, si (by omega), trivial⟩ (by omega) (by repeat (first | exact kp_refl | refine kp_app rfl rfl ?_ | refine kp_cons rfl ?_)) rfl
            · skip
              obtain rfl : j = 0 := by omega
              refine cw_exit ?_
              refine fn_then_exit (fn_then_exit (fn_block_exit ?_))
              refine fn_next ?_
              refine cw_seq ?_
              refine cw_reg ?_
              refine ry (y_mov rfl rfl) rfl rfl ?_
              refine ry (y_mov rfl rfl) rfl rfl ?_
              refine ry (y_mov rfl rfl) rfl rfl ?_
              refine ry (y_add rfl rfl rfl (wi (by omega))) rfl rfl ?_
              refine ry (y_asg rfl rfl) rfl rfl ?_
              refine ry (y_asg rfl rfl) rfl rfl ?_
              refine ry (y_asg rfl rfl) rfl rfl ?_
              refine reg_nil ?_
              refine fn_next ?_
              refine cw_ret ?_
              refine fn_retn (vs := [_, _, _]) rfl ⟨rfl, rfl, rfl, trivial⟩ rfl ?_
              unfold GetR; rw [getS_ok (by omega) (by omega) (by omega)]
              exact ⟨rfl, H7.base⟩

end Go.Proofs.YtbnjbgcadkdljaaGreatDoor
