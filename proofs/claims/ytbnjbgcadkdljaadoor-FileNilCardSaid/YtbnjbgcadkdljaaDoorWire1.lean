/- Layer 12: Put. -/
import Derived.Test.YtbnjbgcadkdljaaDoorWire0
set_option linter.unusedVariables false
set_option linter.unusedSimpArgs false
namespace Go.Proofs.YtbnjbgcadkdljaaDoor
open Go Go.RowKit
theorem kfwire1_1 : callB Tryd.prog 51 = true := by kernel_rfl
theorem kfwire1_2 : callB Tryd.prog 61 = true := by kernel_rfl
theorem kfwire1_3 : (Tryd.prog.info? 5).map (fun i => (i.size, i.zero.map Value.cells)) = some (1, some (List.toArray [(.int .u8 0)])) := by kernel_rfl
theorem kfwire1_4 : (Tryd.prog.info? 5).map (fun i => (i.zero.map (·.cells.toList), i.size, i.bytes)) = some (some [(.int .u8 0)], 1, 1) := by kernel_rfl
/-- what a put gives: the bytes, the code -/
def putS (zs : List Int) (n u : Int) : List Int × Int := if n < 1 ∨ 8 < n then ([], 11) else if u / 256 ^ n.toNat ≠ 0 then ([], 7) else (zs ++ dgs u n.toNat, 0)
theorem putS_arg {zs : List Int} {n u : Int} (h : n < 1 ∨ 8 < n) : putS zs n u = ([], 11) := by unfold putS; rw [if_pos h]
theorem putS_val {zs : List Int} {k : Nat} {u : Int} (h1 : 1 ≤ k) (h2 : k ≤ 8) (h : ¬ u / 256 ^ k = 0) : putS zs (k : Int) u = ([], 7) := by
  unfold putS; rw [if_neg (by omega), if_pos (by simpa using h)]
theorem putS_ok {zs : List Int} {k : Nat} {u : Int} (h1 : 1 ≤ k) (h2 : k ≤ 8) (h : u / 256 ^ k = 0) : putS zs (k : Int) u = (zs ++ dgs u k, 0) := by
  unfold putS; rw [if_neg (by omega), if_neg (by simpa using h)]; simp
theorem pow8 {k : Nat} (h : k = 8) {u : Int} (hu : 0 ≤ u ∧ u < 18446744073709551616) : u / 256 ^ k = 0 := by
  subst h; exact Int.ediv_eq_zero_of_lt hu.1 (by have : (256 : Int) ^ 8 = 18446744073709551616 := by decide
                                                 omega)
def PutR (zs : List Int) (n u : Int) (w : World) (v : Value) (w' : World) : Prop := ∃ A cap, v = .tuple #[.slice A (putS zs n u).1.length cap, .int .i64 (putS zs n u).2] ∧ HS w w' [.row A (putS zs n u).1.length cap (vi .u8 (putS zs n u).1) 5 1]

set_option maxRecDepth 100000 in
theorem Put_any (A : Option Addr) (m cap : Nat) (zs : List Int) (n u : Int) (w : World) (h : Rd w A (vi .u8 zs)) (hl : zs.length = m) (hm : m ≤ 1000000) (hu : 0 ≤ u ∧ u < 18446744073709551616) :
    Ret Tryd.prog 55 [.slice A m cap, .int .i64 n, .int .u64 u] w (PutR zs n u w) := by
  refine ret_enter Tryd.func55 rfl rfl rfl ?_
  have H0 := HS.start w
  refine cw_seq ?_
  refine cw_reg ?_
  refine ry (y_asg rfl rfl) rfl rfl ?_
  refine ry (y_asg rfl rfl) rfl rfl ?_
  refine reg_nil ?_
  refine fn_next ?_
  refine cw_seq ?_
  refine cw_block ?_
  refine cw_seq ?_
  refine cw_reg ?_
  refine ry (y_mov rfl rfl) rfl rfl ?_
  refine ry (y_lss rfl rfl rfl) rfl rfl ?_
  refine ry (y_mov rfl rfl) rfl rfl ?_
  refine rg_splitd (d := 12) rfl (fun h1 => ?_) (fun h1 => ?_)
  · skip
    refine rg_off rfl rfl rfl rfl rfl ?_
    refine rg_off rfl rfl rfl rfl rfl ?_
    refine ry (y_pick rfl rfl rfl) rfl rfl ?_
    refine ry (y_asg rfl rfl) rfl rfl ?_
    refine reg_nil ?_
    refine fn_next ?_
    refine cw_condt rfl ?_
    refine cw_seq ?_
    refine cw_reg ?_
    refine ry (y_asg rfl rfl) rfl rfl ?_
    refine ry (y_asg rfl rfl) rfl rfl ?_
    refine reg_nil ?_
    refine fn_next ?_
    refine cw_ret ?_
    refine fn_block_ret (fn_then_ret ?_)
    refine fn_retn (vs := [_, _]) rfl ⟨rfl, rfl, trivial⟩ rfl ?_
    unfold PutR; rw [putS_arg (by omega)]
    exact ⟨none, 0, rfl, H0.nilrow _ _⟩
  · skip
    refine rgy (y_mov rfl rfl) rfl rfl rfl rfl ?_
    refine rgy (y_gtr rfl rfl rfl) rfl rfl rfl rfl ?_
    refine ry (y_pick rfl rfl rfl) rfl rfl ?_
    refine ry (y_asg rfl rfl) rfl rfl ?_
    refine reg_nil ?_
    refine fn_next ?_
    refine cw_condd rfl (fun h2 => ?_) (fun h2 => ?_)
    · skip
      refine cw_seq ?_
      refine cw_reg ?_
      refine ry (y_asg rfl rfl) rfl rfl ?_
      refine ry (y_asg rfl rfl) rfl rfl ?_
      refine reg_nil ?_
      refine fn_next ?_
      refine cw_ret ?_
      refine fn_block_ret (fn_then_ret ?_)
      refine fn_retn (vs := [_, _]) rfl ⟨rfl, rfl, trivial⟩ rfl ?_
      unfold PutR; rw [putS_arg (by omega)]
      exact ⟨none, 0, rfl, H0.nilrow _ _⟩
    · skip
      obtain ⟨k, rfl⟩ : ∃ k : Nat, n = (k : Int) := ⟨n.toNat, by omega⟩
      refine cw_seq ?_
      refine cw_reg ?_
      refine ry (y_mov rfl rfl) rfl rfl ?_
      refine ry (y_lss rfl rfl rfl) rfl rfl ?_
      refine ry (y_mov rfl rfl) rfl rfl ?_
      refine rg_splitd (d := 19) rfl (fun h3 => ?_) (fun h3 => ?_)
      · skip
        refine rgy (y_mov rfl rfl) rfl rfl rfl rfl ?_
        refine rgy (y_mov rfl rfl) rfl rfl rfl rfl ?_
        refine rgy (y_mul rfl rfl rfl (wi (by omega))) rfl rfl rfl rfl ?_
        refine rgy (y_shr rfl rfl rfl (by omega) (shr8 (u := u) (i := k) (by omega) (by omega))) rfl rfl rfl rfl ?_
        refine rgy (y_neq rfl rfl rfl) rfl rfl rfl rfl ?_
        refine ry (y_pick rfl rfl rfl) rfl rfl ?_
        refine ry (y_asg rfl rfl) rfl rfl ?_
        refine reg_nil ?_
        refine fn_next ?_
        refine cw_condd rfl (fun hv => ?_) (fun hv => ?_)
        · skip
          refine cw_seq ?_
          refine cw_reg ?_
          refine ry (y_asg rfl rfl) rfl rfl ?_
          refine ry (y_asg rfl rfl) rfl rfl ?_
          refine reg_nil ?_
          refine fn_next ?_
          refine cw_ret ?_
          refine fn_block_ret (fn_then_ret ?_)
          refine fn_retn (vs := [_, _]) rfl ⟨rfl, rfl, trivial⟩ rfl ?_
          unfold PutR; rw [putS_val (by omega) (by omega) hv]
          exact ⟨none, 0, rfl, H0.nilrow _ _⟩
        · skip
          refine cw_skip ?_
          refine fn_block ?_
          refine fn_next ?_
          refine cw_seq ?_
          refine cw_reg ?_
          refine ry (y_mov rfl rfl) rfl rfl ?_
          refine reg_op (op_call (CloneB_any _ _ _ (vi .u8 zs) _ (h.below H0.base) (by rw [vi_len]; omega) vi_one (by omega)) rfl kfwire1_1 ⟨rfl, trivial⟩) rfl rfl ?_
          rintro _ w6 ⟨A8, c9, rfl, k5⟩
          have H7 := H0.call k5
          refine reg_op (op_call (ClipB_any _ _ _ _ (H7.len (i := 0) rfl).2.1) rfl kfwire1_2 ⟨rfl, trivial⟩) rfl rfl ?_
          rintro _ w11 ⟨rfl, e10⟩
          have H12 := H7.ext e10
          have H13 := H12.cap (i := 0) (cap' := m) rfl (Nat.le_refl _) (H12.len (i := 0) rfl).2.1 rfl
          refine ry (y_asg rfl rfl) rfl rfl ?_
          refine reg_nil ?_
          refine fn_next ?_
          refine cw_seq ?_
          refine cw_seq ?_
          refine cw_reg ?_
          refine ry (y_mov rfl rfl) rfl rfl ?_
          refine ry (y_mov rfl rfl) rfl rfl ?_
          refine reg_nil ?_
          refine fn_next ?_
          refine cw_block ?_
          have hAp : vi .u8 zs = vi .u8 zs ++ vi .u8 (dgs u 0) := by simp [dgs, vi]
          rw [hAp] at H13
          refine cw_loopJ [0, 8, 30, 31, 32, 33, 34, 35, 36, 37, 38, 39, 40, 41] (fun M wl ml => ∃ (i : Nat) (A : Option Addr) (cap : Nat), M = [(0, .slice A (m + i) cap), (30, .int .i64 (i : Int))] ∧ HS w wl [.row A (m + i) cap (vi .u8 zs ++ vi .u8 (dgs u i)) 5 1] ∧ (i ≤ k) ∧ ml = k - i) ⟨0, _, _, rfl, H13, Nat.zero_le _, rfl⟩ ⟨rfl, rfl, trivial⟩ ?_
          rintro M w14 m16 ⟨i, A, cap, rfl, H15, hp0, rfl⟩
          refine cw_seq ?_
          refine cw_reg ?_
          refine ry (y_lss rfl rfl rfl) rfl rfl ?_
          refine reg_nil ?_
          refine fn_next ?_
          refine cw_seq ?_
          refine cw_condd rfl (fun h17 => ?_) (fun h17 => ?_)
          · skip
            refine cw_skip ?_
            refine fn_next ?_
            refine cw_seq ?_
            refine cw_block ?_
            refine cw_seq ?_
            refine cw_reg ?_
            refine ry (y_mov rfl rfl) rfl rfl ?_
            refine ry (y_asg rfl rfl) rfl rfl ?_
            refine reg_nil ?_
            refine fn_next ?_
            refine cw_reg ?_
            refine ry (y_mov rfl rfl) rfl rfl ?_
            refine ry (y_mov rfl rfl) rfl rfl ?_
            refine ry (y_mov rfl rfl) rfl rfl ?_
            refine ry (y_mul rfl rfl rfl (wi (by omega))) rfl rfl ?_
            refine ry (y_shr rfl rfl rfl (by omega) (shr8 (u := u) (i := i) (by omega) (by omega))) rfl rfl ?_
            refine ry (y_conv rfl Tryd.underlying107 Tryd.underlying5 rfl (wrap8 _)) rfl rfl ?_
            refine reg_op (op_lit (parts := [(0, _)]) (vs := [(0, _)]) (cs := [.int _ _]) H15 rfl Tryd.underlying24 kfwire1_3 rfl ⟨rfl, trivial⟩ rfl rfl) rfl rfl ?_
            rintro _ w19 ⟨b18, rfl, H20⟩
            have H21 := H20.asrow (m := 1) (size := 1) rfl (by decide)
            refine reg_op (op_app (i := 1) (ys := [.int .u8 (dg u i)]) H21 rfl rfl rfl rfl (H21.rd (i := 0) rfl) (rfl) (rfl) Tryd.underlying24 kfwire1_4 rfl rfl (by unfold maxLen; omega) (by omega)) rfl rfl ?_
            rintro _ w24 ⟨A22, c23, rfl, H25⟩
            refine ry (y_asg rfl rfl) rfl rfl ?_
            refine reg_nil ?_
            refine fn_block ?_
            refine fn_next ?_
            refine cw_reg ?_
            refine ry (y_add rfl rfl rfl (wi (by omega))) rfl rfl ?_
            refine ry (y_mov rfl rfl) rfl rfl ?_
            refine reg_nil ?_
            rw [List.append_assoc, vi_push, ← dgs_succ] at H25
            refine fn_roundJ ⟨i + 1, _, _, rfl, (H25.pick [1] rfl (by decide)), by omega, rfl⟩ ⟨rfl, rfl, trivial⟩ (by omega) (by repeat (first | exact kp_refl | refine kp_app rfl rfl ?_ | refine kp_cons rfl ?_)) rfl
          · skip
            obtain rfl : k = i := by omega
            refine cw_exit ?_
            refine fn_then_exit (fn_then_exit (fn_block_exit ?_))
            refine fn_next ?_
            refine cw_seq ?_
            refine cw_reg ?_
            refine ry (y_mov rfl rfl) rfl rfl ?_
            refine ry (y_asg rfl rfl) rfl rfl ?_
            refine ry (y_asg rfl rfl) rfl rfl ?_
            refine reg_nil ?_
            refine fn_next ?_
            refine cw_ret ?_
            refine fn_retn (vs := [_, _]) rfl ⟨rfl, rfl, trivial⟩ rfl ?_
            have hv0 : u / 256 ^ k = 0 := by first | omega | exact pow8 (by omega) hu
            unfold PutR; rw [putS_ok (by omega) (by omega) hv0]
            have hln : (zs ++ dgs u k).length = m + k := by rw [List.length_append, dgs_len]; omega
            rw [hln, vi_app]
            exact ⟨_, _, rfl, H15⟩
      · skip
        refine rg_off rfl rfl rfl rfl rfl ?_
        refine rg_off rfl rfl rfl rfl rfl ?_
        refine rg_off rfl rfl rfl rfl rfl ?_
        refine rg_off rfl rfl rfl rfl rfl ?_
        refine rg_off rfl rfl rfl rfl rfl ?_
        refine ry (y_pick rfl rfl rfl) rfl rfl ?_
        refine ry (y_asg rfl rfl) rfl rfl ?_
        refine reg_nil ?_
        refine fn_next ?_
        refine cw_condf rfl ?_
        refine cw_skip ?_
        refine fn_block ?_
        refine fn_next ?_
        refine cw_seq ?_
        refine cw_reg ?_
        refine ry (y_mov rfl rfl) rfl rfl ?_
        refine reg_op (op_call (CloneB_any _ _ _ (vi .u8 zs) _ (h.below H0.base) (by rw [vi_len]; omega) vi_one (by omega)) rfl kfwire1_1 ⟨rfl, trivial⟩) rfl rfl ?_
        rintro _ w27 ⟨A29, c30, rfl, k26⟩
        have H28 := H0.call k26
        refine reg_op (op_call (ClipB_any _ _ _ _ (H28.len (i := 0) rfl).2.1) rfl kfwire1_2 ⟨rfl, trivial⟩) rfl rfl ?_
        rintro _ w32 ⟨rfl, e31⟩
        have H33 := H28.ext e31
        have H34 := H33.cap (i := 0) (cap' := m) rfl (Nat.le_refl _) (H33.len (i := 0) rfl).2.1 rfl
        refine ry (y_asg rfl rfl) rfl rfl ?_
        refine reg_nil ?_
        refine fn_next ?_
        refine cw_seq ?_
        refine cw_seq ?_
        refine cw_reg ?_
        refine ry (y_mov rfl rfl) rfl rfl ?_
        refine ry (y_mov rfl rfl) rfl rfl ?_
        refine reg_nil ?_
        refine fn_next ?_
        refine cw_block ?_
        have hAp : vi .u8 zs = vi .u8 zs ++ vi .u8 (dgs u 0) := by simp [dgs, vi]
        rw [hAp] at H34
        refine cw_loopJ [0, 8, 30, 31, 32, 33, 34, 35, 36, 37, 38, 39, 40, 41] (fun M wl ml => ∃ (i : Nat) (A : Option Addr) (cap : Nat), M = [(0, .slice A (m + i) cap), (30, .int .i64 (i : Int))] ∧ HS w wl [.row A (m + i) cap (vi .u8 zs ++ vi .u8 (dgs u i)) 5 1] ∧ (i ≤ k) ∧ ml = k - i) ⟨0, _, _, rfl, H34, Nat.zero_le _, rfl⟩ ⟨rfl, rfl, trivial⟩ ?_
        rintro M w35 m37 ⟨i, A, cap, rfl, H36, hp0, rfl⟩
        refine cw_seq ?_
        refine cw_reg ?_
        refine ry (y_lss rfl rfl rfl) rfl rfl ?_
        refine reg_nil ?_
        refine fn_next ?_
        refine cw_seq ?_
        refine cw_condd rfl (fun h38 => ?_) (fun h38 => ?_)
        · skip
          refine cw_skip ?_
          refine fn_next ?_
          refine cw_seq ?_
          refine cw_block ?_
          refine cw_seq ?_
          refine cw_reg ?_
          refine ry (y_mov rfl rfl) rfl rfl ?_
          refine ry (y_asg rfl rfl) rfl rfl ?_
          refine reg_nil ?_
          refine fn_next ?_
          refine cw_reg ?_
          refine ry (y_mov rfl rfl) rfl rfl ?_
          refine ry (y_mov rfl rfl) rfl rfl ?_
          refine ry (y_mov rfl rfl) rfl rfl ?_
          refine ry (y_mul rfl rfl rfl (wi (by omega))) rfl rfl ?_
          refine ry (y_shr rfl rfl rfl (by omega) (shr8 (u := u) (i := i) (by omega) (by omega))) rfl rfl ?_
          refine ry (y_conv rfl Tryd.underlying107 Tryd.underlying5 rfl (wrap8 _)) rfl rfl ?_
          refine reg_op (op_lit (parts := [(0, _)]) (vs := [(0, _)]) (cs := [.int _ _]) H36 rfl Tryd.underlying24 kfwire1_3 rfl ⟨rfl, trivial⟩ rfl rfl) rfl rfl ?_
          rintro _ w40 ⟨b39, rfl, H41⟩
          have H42 := H41.asrow (m := 1) (size := 1) rfl (by decide)
          refine reg_op (op_app (i := 1) (ys := [.int .u8 (dg u i)]) H42 rfl rfl rfl rfl (H42.rd (i := 0) rfl) (rfl) (rfl) Tryd.underlying24 kfwire1_4 rfl rfl (by unfold maxLen; omega) (by omega)) rfl rfl ?_
          rintro _ w45 ⟨A43, c44, rfl, H46⟩
          refine ry (y_asg rfl rfl) rfl rfl ?_
          refine reg_nil ?_
          refine fn_block ?_
          refine fn_next ?_
          refine cw_reg ?_
          refine ry (y_add rfl rfl rfl (wi (by omega))) rfl rfl ?_
          refine ry (y_mov rfl rfl) rfl rfl ?_
          refine reg_nil ?_
          rw [List.append_assoc, vi_push, ← dgs_succ] at H46
          refine fn_roundJ ⟨i + 1, _, _, rfl, (H46.pick [1] rfl (by decide)), by omega, rfl⟩ ⟨rfl, rfl, trivial⟩ (by omega) (by repeat (first | exact kp_refl | refine kp_app rfl rfl ?_ | refine kp_cons rfl ?_)) rfl
        · skip
          obtain rfl : k = i := by omega
          refine cw_exit ?_
          refine fn_then_exit (fn_then_exit (fn_block_exit ?_))
          refine fn_next ?_
          refine cw_seq ?_
          refine cw_reg ?_
          refine ry (y_mov rfl rfl) rfl rfl ?_
          refine ry (y_asg rfl rfl) rfl rfl ?_
          refine ry (y_asg rfl rfl) rfl rfl ?_
          refine reg_nil ?_
          refine fn_next ?_
          refine cw_ret ?_
          refine fn_retn (vs := [_, _]) rfl ⟨rfl, rfl, trivial⟩ rfl ?_
          have hv0 : u / 256 ^ k = 0 := by first | omega | exact pow8 (by omega) hu
          unfold PutR; rw [putS_ok (by omega) (by omega) hv0]
          have hln : (zs ++ dgs u k).length = m + k := by rw [List.length_append, dgs_len]; omega
          rw [hln, vi_app]
          exact ⟨_, _, rfl, H36⟩

end Go.Proofs.YtbnjbgcadkdljaaDoor
