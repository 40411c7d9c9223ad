/- Texts as one: Ref5, Ref5b. -/
import Derived.Test.YtbnjbgcadkdljaaGreatDoorRuns2
set_option linter.unusedVariables false
set_option linter.unusedSimpArgs false
namespace Go.Proofs.YtbnjbgcadkdljaaGreatDoor
open Go Go.RowKit
theorem kfref5_3 : elB Tryz.prog 22 1 = true := by kernel_rfl
theorem kfref5_4 : oneB Tryz.prog 5 = true := by kernel_rfl
theorem w128 {k : Nat} (h : k + 1 ≤ 9) : IntKind.u64.wrap ((128 : Int) ^ k * 128) = 128 ^ (k + 1) := by
  have := leb_fits (i := k + 1) (by omega) (c := 1) (by decide) (fun _ => by decide)
  rw [Int.one_mul] at this
  rw [← Int.pow_succ, u64w]; omega
theorem vi_rep1 {out : List Int} {m : Nat} : vi .i64 (out ++ List.replicate m 0) ++ [.int .i64 0] = vi .i64 (out ++ List.replicate (m + 1) 0) := by
  rw [vi_push, List.append_assoc, List.replicate_succ']

set_option maxRecDepth 100000 in
theorem refUnfold (u : Int) (w : World) (hu : 0 ≤ u ∧ u < 18446744073709551616) :
    Ret Tryz.prog 86 [.int .u64 u] w (fun v w' => v = .int .i64 (unfoldU u) ∧ Below w.heap.size w w') := by
 refine ret_enter Tryz.func86 rfl rfl rfl ?_
 have H0 := HS.start w
 refine cw_seq ?_
 refine cw_reg ?_
 refine ry (y_asg rfl rfl) rfl rfl ?_
 refine reg_nil ?_
 refine fn_next ?_
 refine cw_seq ?_
 refine cw_seq ?_
 refine cw_reg ?_
 refine ry (y_mov rfl rfl) rfl rfl ?_
 refine ry (y_rem rfl rfl rfl (by omega) (tmn (by omega) rfl)) rfl rfl ?_
 refine ry (y_eql rfl rfl rfl) rfl rfl ?_
 refine reg_nil ?_
 refine fn_next ?_
 refine cw_condd rfl (fun h1 => ?_) (fun h1 => ?_)
 ·skip
  refine cw_seq ?_
  refine cw_reg ?_
  refine ry (y_mov rfl rfl) rfl rfl ?_
  refine ry (y_quo rfl rfl rfl (by omega) (tdq (by omega) (wu64 (by omega)))) rfl rfl ?_
  refine ry (y_conv rfl Tryz.underlying123 Tryz.underlying2 rfl (wi (by omega))) rfl rfl ?_
  refine ry (y_asg rfl rfl) rfl rfl ?_
  refine reg_nil ?_
  refine fn_next ?_
  refine cw_ret ?_
  refine fn_then_ret ?_
  refine fn_ret1 rfl rfl ?_
  exact ⟨by unfold unfoldU; rw [if_pos (by omega)], H0.base⟩
 ·skip
  refine cw_skip ?_
  refine fn_next ?_
  refine cw_seq ?_
  refine cw_reg ?_
  refine ry (y_mov rfl rfl) rfl rfl ?_
  refine ry (y_quo rfl rfl rfl (by omega) (tdq (by omega) (wu64 (by omega)))) rfl rfl ?_
  refine ry (y_conv rfl Tryz.underlying123 Tryz.underlying2 rfl (wi (by omega))) rfl rfl ?_
  refine ry (y_neg rfl rfl (wi (by omega))) rfl rfl ?_
  refine ry (y_sub rfl rfl rfl (wi (by omega))) rfl rfl ?_
  refine ry (y_asg rfl rfl) rfl rfl ?_
  refine reg_nil ?_
  refine fn_next ?_
  refine cw_ret ?_
  refine fn_ret1 rfl rfl ?_
  exact ⟨by unfold unfoldU; rw [if_neg (by omega)]; congr 1; omega, H0.base⟩

set_option maxRecDepth 100000 in
set_option maxHeartbeats 1000000 in
theorem refGet2 (A : Option Addr) (n cap a : Nat) (bs : List Int) (w : World) (hb : Rd w A (vi .u8 bs)) (hbl : bs.length = n) (hcap : n ≤ cap) (hB : okB bs) (ha : a ≤ n) (hn : n ≤ 100000000) :
    Ret Tryz.prog 85 [.slice A n cap, .int .i64 (a : Int)] w (fun v w' => ∃ u x e, v = .tuple #[.int .u64 u, .int .i64 x, .int .i64 e] ∧ lebQ bs a u x e ∧ Below w.heap.size w w') := by
 refine ret_enter Tryz.func85 rfl rfl rfl ?_
 have H0 := HS.start w
 refine cw_seq ?_
 refine cw_reg ?_
 refine ry (y_asg rfl rfl) rfl rfl ?_
 refine ry (y_asg rfl rfl) rfl rfl ?_
 refine ry (y_asg rfl rfl) rfl rfl ?_
 refine reg_nil ?_
 refine fn_next ?_
 refine cw_seq ?_
 refine cw_seq ?_
 refine cw_reg ?_
 refine ry (y_mov rfl rfl) rfl rfl ?_
 refine ry (y_lss rfl rfl rfl) rfl rfl ?_
 refine ry (y_mov rfl rfl) rfl rfl ?_
 refine rg_splitd (d := 13) rfl (fun h1 => ?_) (fun h1 => ?_)
 · exfalso; omega
 ·skip
  refine rgy (y_mov rfl rfl) rfl rfl rfl rfl ?_
  refine rgy (y_mov rfl rfl) rfl rfl rfl rfl ?_
  refine rgy (y_len rfl Tryz.underlying22 rfl) rfl rfl rfl rfl ?_
  refine rgy (y_gtr rfl rfl rfl) rfl rfl rfl rfl ?_
  refine ry (y_pick rfl rfl rfl) rfl rfl ?_
  refine reg_nil ?_
  refine fn_next ?_
  refine cw_condd rfl (fun h2 => ?_) (fun h2 => ?_)
  · exfalso; omega
  ·skip
   refine cw_skip ?_
   refine fn_next ?_
   refine cw_seq ?_
   refine cw_reg ?_
   refine ry (y_asg rfl rfl) rfl rfl ?_
   refine reg_nil ?_
   refine fn_next ?_
   refine cw_seq ?_
   refine cw_reg ?_
   refine ry (y_asg rfl rfl) rfl rfl ?_
   refine reg_nil ?_
   refine fn_next ?_
   refine cw_seq ?_
   refine cw_seq ?_
   refine cw_reg ?_
   refine ry (y_asg rfl rfl) rfl rfl ?_
   refine reg_nil ?_
   refine fn_next ?_
   refine cw_block ?_
   refine cw_loopJ [4, 5, 6, 7, 8, 9, 10, 19, 20, 21, 22, 23, 24, 25, 26, 27, 28, 29, 30, 31, 32, 33, 34, 35, 36, 37, 38, 39, 40, 41, 42, 43, 44, 45, 46, 47, 48, 49, 50, 51, 52, 53, 54, 55, 56, 57, 58, 59, 60, 61, 62, 63, 64] (fun M wl ml => ∃ (i : Nat) (u : Int), M = [(9, .int .i64 (i : Int)), (7, .int .u64 u), (8, .int .u64 (128 ^ i))] ∧ HS w wl [] ∧ (i ≤ 9) ∧ (0 ≤ u ∧ u < 128 ^ i) ∧ (lacc 0 0 (bs.drop a) = lacc i u (bs.drop (a + i))) ∧ ml = 11 - i) ⟨0, 0, rfl, H0, by omega, by decide, by rw [Nat.add_zero], rfl⟩ ⟨rfl, rfl, rfl, trivial⟩ ?_
   rintro M w3 m5 ⟨i, u, rfl, H4, hi9, hu, hl, rfl⟩
   refine cw_seq ?_
   refine cw_seq ?_
   refine cw_reg ?_
   refine ry (y_mov rfl rfl) rfl rfl ?_
   refine ry (y_lss rfl rfl rfl) rfl rfl ?_
   refine reg_nil ?_
   refine fn_next ?_
   refine cw_condd rfl (fun h6 => ?_) (fun h6 => ?_)
   ·skip
    refine cw_skip ?_
    refine fn_next ?_
    refine cw_seq ?_
    refine cw_block ?_
    refine cw_seq ?_
    refine cw_seq ?_
    refine cw_reg ?_
    refine ry (y_mov rfl rfl) rfl rfl ?_
    refine ry (y_len rfl Tryz.underlying22 rfl) rfl rfl ?_
    refine ry (y_mov rfl rfl) rfl rfl ?_
    refine ry (y_sub rfl rfl rfl (wi (by omega))) rfl rfl ?_
    refine ry (y_mov rfl rfl) rfl rfl ?_
    refine ry (y_leq rfl rfl rfl) rfl rfl ?_
    refine reg_nil ?_
    refine fn_next ?_
    refine cw_condd rfl (fun h7 => ?_) (fun h7 => ?_)
    ·skip
     refine cw_seq ?_
     refine cw_reg ?_
     refine ry (y_asg rfl rfl) rfl rfl ?_
     refine ry (y_asg rfl rfl) rfl rfl ?_
     refine ry (y_asg rfl rfl) rfl rfl ?_
     refine reg_nil ?_
     refine fn_next ?_
     refine cw_ret ?_
     refine fn_then_ret (fn_block_ret (fn_then_ret (fn_then_ret (fn_block_ret (fn_then_ret ?_)))))
     refine fn_retn (vs := [_, _, _]) rfl ⟨rfl, rfl, rfl, trivial⟩ rfl ?_
     exact ⟨_, _, _, rfl, lebQ_err (by rw [hl, lacc_end i u (by omega)]) (by decide), H4.base⟩
    ·skip
     have gz := vi_get (k := .u8) (zs := bs) (i := a + i) (by omega)
     have hcb := okB_nth hB (i := a + i) (by omega)
     refine cw_skip ?_
     refine fn_next ?_
     refine cw_seq ?_
     refine cw_reg ?_
     refine ry (y_mov rfl rfl) rfl rfl ?_
     refine ry (y_mov rfl rfl) rfl rfl ?_
     refine ry (y_mov rfl rfl) rfl rfl ?_
     refine ry (y_add rfl rfl rfl (wi (by omega))) rfl rfl ?_
     refine ry (y_iar (hb.below H4.base) rfl rfl rfl kfref5_3 (rfl) (by omega) (Nat.mul_one _) (gz)) rfl rfl ?_
     refine ry (y_ldr (hb.below H4.base) rfl rfl kfref5_4 (gz)) rfl rfl ?_
     refine ry (y_asg rfl rfl) rfl rfl ?_
     refine reg_nil ?_
     refine fn_next ?_
     refine cw_seq ?_
     refine cw_seq ?_
     refine cw_reg ?_
     refine ry (y_mov rfl rfl) rfl rfl ?_
     refine ry (y_eql rfl rfl rfl) rfl rfl ?_
     refine ry (y_mov rfl rfl) rfl rfl ?_
     refine rg_splitd (d := 37) rfl (fun h8 => ?_) (fun h8 => ?_)
     ·skip
      refine rgy (y_mov rfl rfl) rfl rfl rfl rfl ?_
      refine rgy (y_gtr rfl rfl rfl) rfl rfl rfl rfl ?_
      refine ry (y_pick rfl rfl rfl) rfl rfl ?_
      refine ry (y_mov rfl rfl) rfl rfl ?_
      refine rg_splitd (d := 41) rfl (fun h9 => ?_) (fun h9 => ?_)
      ·skip
       refine rg_off rfl rfl rfl rfl rfl ?_
       refine rg_off rfl rfl rfl rfl rfl ?_
       refine rg_off rfl rfl rfl rfl rfl ?_
       refine rg_offu rfl rfl rfl rfl ?_
       refine rg_offu rfl rfl rfl rfl ?_
       refine rg_off rfl rfl rfl rfl rfl ?_
       refine ry (y_pick rfl rfl rfl) rfl rfl ?_
       refine reg_nil ?_
       refine fn_next ?_
       refine cw_condt rfl ?_
       refine cw_seq ?_
       refine cw_reg ?_
       refine ry (y_asg rfl rfl) rfl rfl ?_
       refine ry (y_asg rfl rfl) rfl rfl ?_
       refine ry (y_asg rfl rfl) rfl rfl ?_
       refine reg_nil ?_
       refine fn_next ?_
       refine cw_ret ?_
       refine fn_then_ret (fn_block_ret (fn_then_ret (fn_then_ret (fn_block_ret (fn_then_ret ?_)))))
       refine fn_retn (vs := [_, _, _]) rfl ⟨rfl, rfl, rfl, trivial⟩ rfl ?_
       exact ⟨_, _, _, rfl, lebQ_err (by rw [hl, lacc_step i u (by omega), if_pos (by omega)]) (by decide), H4.base⟩
      ·skip
       refine rgy (y_mov rfl rfl) rfl rfl rfl rfl ?_
       refine rgy (y_gtr rfl rfl rfl) rfl rfl rfl rfl ?_
       refine rgy (y_mov rfl rfl) rfl rfl rfl rfl ?_
       refine rg_splitd (d := 44) rfl (fun h10 => ?_) (fun h10 => ?_)
       ·skip
        refine rgy (y_mov rfl rfl) rfl rfl rfl rfl ?_
        refine rgy (y_eql rfl rfl rfl) rfl rfl rfl rfl ?_
        refine rgy (y_pick rfl rfl rfl) rfl rfl rfl rfl ?_
        refine ry (y_pick rfl rfl rfl) rfl rfl ?_
        refine reg_nil ?_
        refine fn_next ?_
        refine cw_condd rfl (fun h11 => ?_) (fun h11 => ?_)
        ·skip
         refine cw_seq ?_
         refine cw_reg ?_
         refine ry (y_asg rfl rfl) rfl rfl ?_
         refine ry (y_asg rfl rfl) rfl rfl ?_
         refine ry (y_asg rfl rfl) rfl rfl ?_
         refine reg_nil ?_
         refine fn_next ?_
         refine cw_ret ?_
         refine fn_then_ret (fn_block_ret (fn_then_ret (fn_then_ret (fn_block_ret (fn_then_ret ?_)))))
         refine fn_retn (vs := [_, _, _]) rfl ⟨rfl, rfl, rfl, trivial⟩ rfl ?_
         exact ⟨_, _, _, rfl, lebQ_err (by rw [hl, lacc_step i u (by omega), if_pos (by omega)]) (by decide), H4.base⟩
        ·skip
         refine cw_skip ?_
         refine fn_next ?_
         refine cw_seq ?_
         refine cw_reg ?_
         refine ry (y_mov rfl rfl) rfl rfl ?_
         refine ry (y_mov rfl rfl) rfl rfl ?_
         refine ry (y_rem rfl rfl rfl (by omega) (tmn (by omega) rfl)) rfl rfl ?_
         refine ry (y_conv rfl Tryz.underlying5 Tryz.underlying123 rfl (wu64 (by omega))) rfl rfl ?_
         refine ry (y_mov rfl rfl) rfl rfl ?_
         refine ry (y_mul rfl rfl rfl (wu64 (leb_fits hi9 ⟨by omega, by omega⟩ (fun _ => by omega)))) rfl rfl ?_
         refine ry (y_add rfl rfl rfl (wu64 (by have := leb_fits hi9 (c := nth bs (a + i) % 128) ⟨by omega, by omega⟩ (fun _ => by omega); have := leb_fits1 hi9 (c := nth bs (a + i) % 128) ⟨by omega, by omega⟩ (fun _ => by omega); omega))) rfl rfl ?_
         refine ry (y_asg rfl rfl) rfl rfl ?_
         refine reg_nil ?_
         refine fn_next ?_
         refine cw_seq ?_
         refine cw_reg ?_
         refine ry (y_mov rfl rfl) rfl rfl ?_
         refine ry (y_mul rfl rfl rfl (rfl)) rfl rfl ?_
         refine ry (y_asg rfl rfl) rfl rfl ?_
         refine reg_nil ?_
         refine fn_next ?_
         refine cw_seq ?_
         refine cw_reg ?_
         refine ry (y_mov rfl rfl) rfl rfl ?_
         refine ry (y_lss rfl rfl rfl) rfl rfl ?_
         refine reg_nil ?_
         refine fn_next ?_
         refine cw_condd rfl (fun h12 => ?_) (fun h12 => ?_)
         ·skip
          refine cw_seq ?_
          refine cw_reg ?_
          refine ry (y_mov rfl rfl) rfl rfl ?_
          refine ry (y_mov rfl rfl) rfl rfl ?_
          refine ry (y_mov rfl rfl) rfl rfl ?_
          refine ry (y_add rfl rfl rfl (wi (by omega))) rfl rfl ?_
          refine ry (y_add rfl rfl rfl (wi (by omega))) rfl rfl ?_
          refine ry (y_asg rfl rfl) rfl rfl ?_
          refine ry (y_asg rfl rfl) rfl rfl ?_
          refine ry (y_asg rfl rfl) rfl rfl ?_
          refine reg_nil ?_
          refine fn_next ?_
          refine cw_ret ?_
          refine fn_block_ret (fn_then_ret (fn_then_ret (fn_block_ret (fn_then_ret ?_))))
          refine fn_retn (vs := [_, _, _]) rfl ⟨rfl, rfl, rfl, trivial⟩ rfl ?_
          exact ⟨_, _, _, rfl, .inl ⟨i + 1, by rw [hl, lacc_step i u (by omega), if_neg (by omega), if_pos (by omega)]; rw [show nth bs (a + i) % 128 = nth bs (a + i) by omega], by omega, rfl⟩, H4.base⟩
         ·skip
          have hmod : nth bs (a + i) % 128 = nth bs (a + i) - 128 := by omega
          refine cw_skip ?_
          refine fn_block ?_
          refine fn_next ?_
          refine cw_reg ?_
          refine ry (y_mov rfl rfl) rfl rfl ?_
          refine ry (y_add rfl rfl rfl (wi (by omega))) rfl rfl ?_
          refine ry (y_asg rfl rfl) rfl rfl ?_
          refine reg_nil ?_
          refine fn_roundJ ⟨i + 1, u + nth bs (a + i) % 128 * 128 ^ i, rfl, H4, by omega, by rw [hmod]; exact lacc_bd hu ⟨by omega, by omega⟩, by rw [hl, lacc_step i u (by omega), if_neg (by omega), if_neg (by omega), hmod, Nat.add_assoc], rfl⟩ ⟨rfl, rfl, by rw [w128 (by omega)]; rfl, trivial⟩ (by omega) (by repeat (first | exact kp_refl | refine kp_app rfl rfl ?_ | refine kp_cons rfl ?_)) rfl
       ·skip
        refine rg_off rfl rfl rfl rfl rfl ?_
        refine rg_off rfl rfl rfl rfl rfl ?_
        refine rgy (y_pick rfl rfl rfl) rfl rfl rfl rfl ?_
        refine ry (y_pick rfl rfl rfl) rfl rfl ?_
        refine reg_nil ?_
        refine fn_next ?_
        refine cw_condf rfl ?_
        refine cw_skip ?_
        refine fn_next ?_
        refine cw_seq ?_
        refine cw_reg ?_
        refine ry (y_mov rfl rfl) rfl rfl ?_
        refine ry (y_mov rfl rfl) rfl rfl ?_
        refine ry (y_rem rfl rfl rfl (by omega) (tmn (by omega) rfl)) rfl rfl ?_
        refine ry (y_conv rfl Tryz.underlying5 Tryz.underlying123 rfl (wu64 (by omega))) rfl rfl ?_
        refine ry (y_mov rfl rfl) rfl rfl ?_
        refine ry (y_mul rfl rfl rfl (wu64 (leb_fits hi9 ⟨by omega, by omega⟩ (fun _ => by omega)))) rfl rfl ?_
        refine ry (y_add rfl rfl rfl (wu64 (by have := leb_fits hi9 (c := nth bs (a + i) % 128) ⟨by omega, by omega⟩ (fun _ => by omega); have := leb_fits1 hi9 (c := nth bs (a + i) % 128) ⟨by omega, by omega⟩ (fun _ => by omega); omega))) rfl rfl ?_
        refine ry (y_asg rfl rfl) rfl rfl ?_
        refine reg_nil ?_
        refine fn_next ?_
        refine cw_seq ?_
        refine cw_reg ?_
        refine ry (y_mov rfl rfl) rfl rfl ?_
        refine ry (y_mul rfl rfl rfl (rfl)) rfl rfl ?_
        refine ry (y_asg rfl rfl) rfl rfl ?_
        refine reg_nil ?_
        refine fn_next ?_
        refine cw_seq ?_
        refine cw_reg ?_
        refine ry (y_mov rfl rfl) rfl rfl ?_
        refine ry (y_lss rfl rfl rfl) rfl rfl ?_
        refine reg_nil ?_
        refine fn_next ?_
        refine cw_condd rfl (fun h13 => ?_) (fun h13 => ?_)
        ·skip
         refine cw_seq ?_
         refine cw_reg ?_
         refine ry (y_mov rfl rfl) rfl rfl ?_
         refine ry (y_mov rfl rfl) rfl rfl ?_
         refine ry (y_mov rfl rfl) rfl rfl ?_
         refine ry (y_add rfl rfl rfl (wi (by omega))) rfl rfl ?_
         refine ry (y_add rfl rfl rfl (wi (by omega))) rfl rfl ?_
         refine ry (y_asg rfl rfl) rfl rfl ?_
         refine ry (y_asg rfl rfl) rfl rfl ?_
         refine ry (y_asg rfl rfl) rfl rfl ?_
         refine reg_nil ?_
         refine fn_next ?_
         refine cw_ret ?_
         refine fn_block_ret (fn_then_ret (fn_then_ret (fn_block_ret (fn_then_ret ?_))))
         refine fn_retn (vs := [_, _, _]) rfl ⟨rfl, rfl, rfl, trivial⟩ rfl ?_
         exact ⟨_, _, _, rfl, .inl ⟨i + 1, by rw [hl, lacc_step i u (by omega), if_neg (by omega), if_pos (by omega)]; rw [show nth bs (a + i) % 128 = nth bs (a + i) by omega], by omega, rfl⟩, H4.base⟩
        ·skip
         have hmod : nth bs (a + i) % 128 = nth bs (a + i) - 128 := by omega
         refine cw_skip ?_
         refine fn_block ?_
         refine fn_next ?_
         refine cw_reg ?_
         refine ry (y_mov rfl rfl) rfl rfl ?_
         refine ry (y_add rfl rfl rfl (wi (by omega))) rfl rfl ?_
         refine ry (y_asg rfl rfl) rfl rfl ?_
         refine reg_nil ?_
         refine fn_roundJ ⟨i + 1, u + nth bs (a + i) % 128 * 128 ^ i, rfl, H4, by omega, by rw [hmod]; exact lacc_bd hu ⟨by omega, by omega⟩, by rw [hl, lacc_step i u (by omega), if_neg (by omega), if_neg (by omega), hmod, Nat.add_assoc], rfl⟩ ⟨rfl, rfl, by rw [w128 (by omega)]; rfl, trivial⟩ (by omega) (by repeat (first | exact kp_refl | refine kp_app rfl rfl ?_ | refine kp_cons rfl ?_)) rfl
     ·skip
      refine rg_off rfl rfl rfl rfl rfl ?_
      refine rg_off rfl rfl rfl rfl rfl ?_
      refine ry (y_pick rfl rfl rfl) rfl rfl ?_
      refine ry (y_mov rfl rfl) rfl rfl ?_
      refine rgy (y_mov rfl rfl) rfl rfl rfl rfl ?_
      refine rgy (y_gtr rfl rfl rfl) rfl rfl rfl rfl ?_
      refine rgy (y_mov rfl rfl) rfl rfl rfl rfl ?_
      refine rg_splitd (d := 44) rfl (fun h14 => ?_) (fun h14 => ?_)
      ·skip
       refine rgy (y_mov rfl rfl) rfl rfl rfl rfl ?_
       refine rgy (y_eql rfl rfl rfl) rfl rfl rfl rfl ?_
       refine rgy (y_pick rfl rfl rfl) rfl rfl rfl rfl ?_
       refine ry (y_pick rfl rfl rfl) rfl rfl ?_
       refine reg_nil ?_
       refine fn_next ?_
       refine cw_condd rfl (fun h15 => ?_) (fun h15 => ?_)
       ·skip
        refine cw_seq ?_
        refine cw_reg ?_
        refine ry (y_asg rfl rfl) rfl rfl ?_
        refine ry (y_asg rfl rfl) rfl rfl ?_
        refine ry (y_asg rfl rfl) rfl rfl ?_
        refine reg_nil ?_
        refine fn_next ?_
        refine cw_ret ?_
        refine fn_then_ret (fn_block_ret (fn_then_ret (fn_then_ret (fn_block_ret (fn_then_ret ?_)))))
        refine fn_retn (vs := [_, _, _]) rfl ⟨rfl, rfl, rfl, trivial⟩ rfl ?_
        exact ⟨_, _, _, rfl, lebQ_err (by rw [hl, lacc_step i u (by omega), if_pos (by omega)]) (by decide), H4.base⟩
       ·skip
        refine cw_skip ?_
        refine fn_next ?_
        refine cw_seq ?_
        refine cw_reg ?_
        refine ry (y_mov rfl rfl) rfl rfl ?_
        refine ry (y_mov rfl rfl) rfl rfl ?_
        refine ry (y_rem rfl rfl rfl (by omega) (tmn (by omega) rfl)) rfl rfl ?_
        refine ry (y_conv rfl Tryz.underlying5 Tryz.underlying123 rfl (wu64 (by omega))) rfl rfl ?_
        refine ry (y_mov rfl rfl) rfl rfl ?_
        refine ry (y_mul rfl rfl rfl (wu64 (leb_fits hi9 ⟨by omega, by omega⟩ (fun _ => by omega)))) rfl rfl ?_
        refine ry (y_add rfl rfl rfl (wu64 (by have := leb_fits hi9 (c := nth bs (a + i) % 128) ⟨by omega, by omega⟩ (fun _ => by omega); have := leb_fits1 hi9 (c := nth bs (a + i) % 128) ⟨by omega, by omega⟩ (fun _ => by omega); omega))) rfl rfl ?_
        refine ry (y_asg rfl rfl) rfl rfl ?_
        refine reg_nil ?_
        refine fn_next ?_
        refine cw_seq ?_
        refine cw_reg ?_
        refine ry (y_mov rfl rfl) rfl rfl ?_
        refine ry (y_mul rfl rfl rfl (rfl)) rfl rfl ?_
        refine ry (y_asg rfl rfl) rfl rfl ?_
        refine reg_nil ?_
        refine fn_next ?_
        refine cw_seq ?_
        refine cw_reg ?_
        refine ry (y_mov rfl rfl) rfl rfl ?_
        refine ry (y_lss rfl rfl rfl) rfl rfl ?_
        refine reg_nil ?_
        refine fn_next ?_
        refine cw_condd rfl (fun h16 => ?_) (fun h16 => ?_)
        ·skip
         refine cw_seq ?_
         refine cw_reg ?_
         refine ry (y_mov rfl rfl) rfl rfl ?_
         refine ry (y_mov rfl rfl) rfl rfl ?_
         refine ry (y_mov rfl rfl) rfl rfl ?_
         refine ry (y_add rfl rfl rfl (wi (by omega))) rfl rfl ?_
         refine ry (y_add rfl rfl rfl (wi (by omega))) rfl rfl ?_
         refine ry (y_asg rfl rfl) rfl rfl ?_
         refine ry (y_asg rfl rfl) rfl rfl ?_
         refine ry (y_asg rfl rfl) rfl rfl ?_
         refine reg_nil ?_
         refine fn_next ?_
         refine cw_ret ?_
         refine fn_block_ret (fn_then_ret (fn_then_ret (fn_block_ret (fn_then_ret ?_))))
         refine fn_retn (vs := [_, _, _]) rfl ⟨rfl, rfl, rfl, trivial⟩ rfl ?_
         exact ⟨_, _, _, rfl, .inl ⟨i + 1, by rw [hl, lacc_step i u (by omega), if_neg (by omega), if_pos (by omega)]; rw [show nth bs (a + i) % 128 = nth bs (a + i) by omega], by omega, rfl⟩, H4.base⟩
        ·skip
         have hmod : nth bs (a + i) % 128 = nth bs (a + i) - 128 := by omega
         refine cw_skip ?_
         refine fn_block ?_
         refine fn_next ?_
         refine cw_reg ?_
         refine ry (y_mov rfl rfl) rfl rfl ?_
         refine ry (y_add rfl rfl rfl (wi (by omega))) rfl rfl ?_
         refine ry (y_asg rfl rfl) rfl rfl ?_
         refine reg_nil ?_
         refine fn_roundJ ⟨i + 1, u + nth bs (a + i) % 128 * 128 ^ i, rfl, H4, by omega, by rw [hmod]; exact lacc_bd hu ⟨by omega, by omega⟩, by rw [hl, lacc_step i u (by omega), if_neg (by omega), if_neg (by omega), hmod, Nat.add_assoc], rfl⟩ ⟨rfl, rfl, by rw [w128 (by omega)]; rfl, trivial⟩ (by omega) (by repeat (first | exact kp_refl | refine kp_app rfl rfl ?_ | refine kp_cons rfl ?_)) rfl
      ·skip
       refine rg_off rfl rfl rfl rfl rfl ?_
       refine rg_off rfl rfl rfl rfl rfl ?_
       refine rgy (y_pick rfl rfl rfl) rfl rfl rfl rfl ?_
       refine ry (y_pick rfl rfl rfl) rfl rfl ?_
       refine reg_nil ?_
       refine fn_next ?_
       refine cw_condf rfl ?_
       refine cw_skip ?_
       refine fn_next ?_
       refine cw_seq ?_
       refine cw_reg ?_
       refine ry (y_mov rfl rfl) rfl rfl ?_
       refine ry (y_mov rfl rfl) rfl rfl ?_
       refine ry (y_rem rfl rfl rfl (by omega) (tmn (by omega) rfl)) rfl rfl ?_
       refine ry (y_conv rfl Tryz.underlying5 Tryz.underlying123 rfl (wu64 (by omega))) rfl rfl ?_
       refine ry (y_mov rfl rfl) rfl rfl ?_
       refine ry (y_mul rfl rfl rfl (wu64 (leb_fits hi9 ⟨by omega, by omega⟩ (fun _ => by omega)))) rfl rfl ?_
       refine ry (y_add rfl rfl rfl (wu64 (by have := leb_fits hi9 (c := nth bs (a + i) % 128) ⟨by omega, by omega⟩ (fun _ => by omega); have := leb_fits1 hi9 (c := nth bs (a + i) % 128) ⟨by omega, by omega⟩ (fun _ => by omega); omega))) rfl rfl ?_
       refine ry (y_asg rfl rfl) rfl rfl ?_
       refine reg_nil ?_
       refine fn_next ?_
       refine cw_seq ?_
       refine cw_reg ?_
       refine ry (y_mov rfl rfl) rfl rfl ?_
       refine ry (y_mul rfl rfl rfl (rfl)) rfl rfl ?_
       refine ry (y_asg rfl rfl) rfl rfl ?_
       refine reg_nil ?_
       refine fn_next ?_
       refine cw_seq ?_
       refine cw_reg ?_
       refine ry (y_mov rfl rfl) rfl rfl ?_
       refine ry (y_lss rfl rfl rfl) rfl rfl ?_
       refine reg_nil ?_
       refine fn_next ?_
       refine cw_condd rfl (fun h17 => ?_) (fun h17 => ?_)
       ·skip
        refine cw_seq ?_
        refine cw_reg ?_
        refine ry (y_mov rfl rfl) rfl rfl ?_
        refine ry (y_mov rfl rfl) rfl rfl ?_
        refine ry (y_mov rfl rfl) rfl rfl ?_
        refine ry (y_add rfl rfl rfl (wi (by omega))) rfl rfl ?_
        refine ry (y_add rfl rfl rfl (wi (by omega))) rfl rfl ?_
        refine ry (y_asg rfl rfl) rfl rfl ?_
        refine ry (y_asg rfl rfl) rfl rfl ?_
        refine ry (y_asg rfl rfl) rfl rfl ?_
        refine reg_nil ?_
        refine fn_next ?_
        refine cw_ret ?_
        refine fn_block_ret (fn_then_ret (fn_then_ret (fn_block_ret (fn_then_ret ?_))))
        refine fn_retn (vs := [_, _, _]) rfl ⟨rfl, rfl, rfl, trivial⟩ rfl ?_
        exact ⟨_, _, _, rfl, .inl ⟨i + 1, by rw [hl, lacc_step i u (by omega), if_neg (by omega), if_pos (by omega)]; rw [show nth bs (a + i) % 128 = nth bs (a + i) by omega], by omega, rfl⟩, H4.base⟩
       ·skip
        have hmod : nth bs (a + i) % 128 = nth bs (a + i) - 128 := by omega
        refine cw_skip ?_
        refine fn_block ?_
        refine fn_next ?_
        refine cw_reg ?_
        refine ry (y_mov rfl rfl) rfl rfl ?_
        refine ry (y_add rfl rfl rfl (wi (by omega))) rfl rfl ?_
        refine ry (y_asg rfl rfl) rfl rfl ?_
        refine reg_nil ?_
        refine fn_roundJ ⟨i + 1, u + nth bs (a + i) % 128 * 128 ^ i, rfl, H4, by omega, by rw [hmod]; exact lacc_bd hu ⟨by omega, by omega⟩, by rw [hl, lacc_step i u (by omega), if_neg (by omega), if_neg (by omega), hmod, Nat.add_assoc], rfl⟩ ⟨rfl, rfl, by rw [w128 (by omega)]; rfl, trivial⟩ (by omega) (by repeat (first | exact kp_refl | refine kp_app rfl rfl ?_ | refine kp_cons rfl ?_)) rfl
   · exfalso; omega

end Go.Proofs.YtbnjbgcadkdljaaGreatDoor

namespace Go.Proofs.YtbnjbgcadkdljaaGreatDoor
open Go Go.RowKit
theorem kfref5b_1 : (Tryz.prog.info? 2).map (fun i => (i.size, i.zero.map Value.cells)) = some (1, some (List.toArray [(.int .i64 0)])) := by kernel_rfl
theorem kfref5b_2 : callB Tryz.prog 85 = true := by kernel_rfl
theorem kfref5b_3 : callB Tryz.prog 86 = true := by kernel_rfl
theorem kfref5b_4 : (Tryz.prog.info? 2).map (fun i => (i.zero.map (·.cells.toList), i.size, i.bytes)) = some (some [(.int .i64 0)], 1, 8) := by kernel_rfl
set_option maxRecDepth 100000 in
set_option maxHeartbeats 1000000 in
theorem refGet5 (A : Option Addr) (nb capb : Nat) (q p : Int) (bs : List Int) (w : World) (hb : Rd w A (vi .u8 bs)) (hbl : bs.length = nb) (hcap : nb ≤ capb) (hB : okB bs) (hnb : nb ≤ 100000000) :
    Ret Tryz.prog 46 [.slice A nb capb, .int .i64 q, .int .i64 p] w (fun v w' => ∃ A' c zs x e, v = .tuple #[.slice A' zs.length c, .int .i64 x, .int .i64 e] ∧ rgP bs q p zs x e ∧ HS w w' [.row A' zs.length c (vi .i64 zs) 2 1]) := by
 refine ret_enter Tryz.func46 rfl rfl rfl ?_
 have H0 := HS.start w
 refine cw_seq ?_
 refine cw_reg ?_
 refine ry (y_asg rfl rfl) rfl rfl ?_
 refine ry (y_asg rfl rfl) rfl rfl ?_
 refine ry (y_asg rfl rfl) rfl rfl ?_
 refine reg_nil ?_
 refine fn_next ?_
 refine cw_seq ?_
 refine cw_seq ?_
 refine cw_reg ?_
 refine ry (y_mov rfl rfl) rfl rfl ?_
 refine ry (y_lss rfl rfl rfl) rfl rfl ?_
 refine ry (y_mov rfl rfl) rfl rfl ?_
 refine rg_splitd (d := 20) rfl (fun h1 => ?_) (fun h1 => ?_)
 ·skip
  refine rg_off rfl rfl rfl rfl rfl ?_
  refine rg_off rfl rfl rfl rfl rfl ?_
  refine rg_off rfl rfl rfl rfl rfl ?_
  refine rg_off rfl rfl rfl rfl rfl ?_
  refine ry (y_pick rfl rfl rfl) rfl rfl ?_
  refine ry (y_mov rfl rfl) rfl rfl ?_
  refine rg_off rfl rfl rfl rfl rfl ?_
  refine rg_off rfl rfl rfl rfl rfl ?_
  refine ry (y_pick rfl rfl rfl) rfl rfl ?_
  refine ry (y_mov rfl rfl) rfl rfl ?_
  refine rg_off rfl rfl rfl rfl rfl ?_
  refine rg_off rfl rfl rfl rfl rfl ?_
  refine ry (y_pick rfl rfl rfl) rfl rfl ?_
  refine reg_nil ?_
  refine fn_next ?_
  refine cw_condt rfl ?_
  refine cw_seq ?_
  refine cw_reg ?_
  refine ry (y_asg rfl rfl) rfl rfl ?_
  refine ry (y_asg rfl rfl) rfl rfl ?_
  refine ry (y_asg rfl rfl) rfl rfl ?_
  refine reg_nil ?_
  refine fn_next ?_
  refine cw_ret ?_
  refine fn_then_ret ?_
  refine fn_retn (vs := [_, _, _]) rfl ⟨rfl, rfl, rfl, trivial⟩ rfl ?_
  exact ⟨none, 0, [], 0, 11, rfl, .inl ⟨by unfold rgBad; omega, rfl, rfl, rfl⟩, (HS.bare H0).nilrow _ _⟩
 ·skip
  refine rgy (y_mov rfl rfl) rfl rfl rfl rfl ?_
  refine rgy (y_mov rfl rfl) rfl rfl rfl rfl ?_
  refine rgy (y_len rfl Tryz.underlying22 rfl) rfl rfl rfl rfl ?_
  refine rgy (y_gtr rfl rfl rfl) rfl rfl rfl rfl ?_
  refine ry (y_pick rfl rfl rfl) rfl rfl ?_
  refine ry (y_mov rfl rfl) rfl rfl ?_
  refine rg_splitd (d := 26) rfl (fun h2 => ?_) (fun h2 => ?_)
  ·skip
   refine rg_off rfl rfl rfl rfl rfl ?_
   refine rg_off rfl rfl rfl rfl rfl ?_
   refine ry (y_pick rfl rfl rfl) rfl rfl ?_
   refine ry (y_mov rfl rfl) rfl rfl ?_
   refine rg_off rfl rfl rfl rfl rfl ?_
   refine rg_off rfl rfl rfl rfl rfl ?_
   refine ry (y_pick rfl rfl rfl) rfl rfl ?_
   refine reg_nil ?_
   refine fn_next ?_
   refine cw_condt rfl ?_
   refine cw_seq ?_
   refine cw_reg ?_
   refine ry (y_asg rfl rfl) rfl rfl ?_
   refine ry (y_asg rfl rfl) rfl rfl ?_
   refine ry (y_asg rfl rfl) rfl rfl ?_
   refine reg_nil ?_
   refine fn_next ?_
   refine cw_ret ?_
   refine fn_then_ret ?_
   refine fn_retn (vs := [_, _, _]) rfl ⟨rfl, rfl, rfl, trivial⟩ rfl ?_
   exact ⟨none, 0, [], 0, 11, rfl, .inl ⟨by unfold rgBad; omega, rfl, rfl, rfl⟩, (HS.bare H0).nilrow _ _⟩
  ·skip
   refine rgy (y_mov rfl rfl) rfl rfl rfl rfl ?_
   refine rgy (y_lss rfl rfl rfl) rfl rfl rfl rfl ?_
   refine ry (y_pick rfl rfl rfl) rfl rfl ?_
   refine ry (y_mov rfl rfl) rfl rfl ?_
   refine rg_splitd (d := 30) rfl (fun h3 => ?_) (fun h3 => ?_)
   ·skip
    refine rg_off rfl rfl rfl rfl rfl ?_
    refine rg_off rfl rfl rfl rfl rfl ?_
    refine ry (y_pick rfl rfl rfl) rfl rfl ?_
    refine reg_nil ?_
    refine fn_next ?_
    refine cw_condt rfl ?_
    refine cw_seq ?_
    refine cw_reg ?_
    refine ry (y_asg rfl rfl) rfl rfl ?_
    refine ry (y_asg rfl rfl) rfl rfl ?_
    refine ry (y_asg rfl rfl) rfl rfl ?_
    refine reg_nil ?_
    refine fn_next ?_
    refine cw_ret ?_
    refine fn_then_ret ?_
    refine fn_retn (vs := [_, _, _]) rfl ⟨rfl, rfl, rfl, trivial⟩ rfl ?_
    exact ⟨none, 0, [], 0, 11, rfl, .inl ⟨by unfold rgBad; omega, rfl, rfl, rfl⟩, (HS.bare H0).nilrow _ _⟩
   ·skip
    refine rgy (y_mov rfl rfl) rfl rfl rfl rfl ?_
    refine rgy (y_gtr rfl rfl rfl) rfl rfl rfl rfl ?_
    refine ry (y_pick rfl rfl rfl) rfl rfl ?_
    refine reg_nil ?_
    refine fn_next ?_
    refine cw_condd rfl (fun h4 => ?_) (fun h4 => ?_)
    ·skip
     refine cw_seq ?_
     refine cw_reg ?_
     refine ry (y_asg rfl rfl) rfl rfl ?_
     refine ry (y_asg rfl rfl) rfl rfl ?_
     refine ry (y_asg rfl rfl) rfl rfl ?_
     refine reg_nil ?_
     refine fn_next ?_
     refine cw_ret ?_
     refine fn_then_ret ?_
     refine fn_retn (vs := [_, _, _]) rfl ⟨rfl, rfl, rfl, trivial⟩ rfl ?_
     exact ⟨none, 0, [], 0, 11, rfl, .inl ⟨by unfold rgBad; omega, rfl, rfl, rfl⟩, (HS.bare H0).nilrow _ _⟩
    ·skip
     obtain ⟨a, rfl⟩ : ∃ a : Nat, q = a := ⟨q.toNat, by omega⟩
     obtain ⟨n, rfl⟩ : ∃ n : Nat, p = n := ⟨p.toNat, by omega⟩
     refine cw_skip ?_
     refine fn_next ?_
     refine cw_seq ?_
     refine cw_reg ?_
     refine reg_op (op_lit (parts := []) (vs := []) (cs := []) H0 rfl Tryz.underlying24 kfref5b_1 rfl trivial rfl rfl) rfl rfl ?_
     rintro _ w6 ⟨b5, rfl, H7⟩
     have H8 := H7.asrow (m := 0) (size := 1) rfl (by decide)
     refine ry (y_asg rfl rfl) rfl rfl ?_
     refine reg_nil ?_
     refine fn_next ?_
     refine cw_seq ?_
     refine cw_reg ?_
     refine ry (y_asg rfl rfl) rfl rfl ?_
     refine reg_nil ?_
     refine fn_next ?_
     refine cw_seq ?_
     refine cw_block ?_
     refine cw_loopJ [1, 6, 7, 8, 9, 10, 11, 12, 13, 14, 15, 16, 17, 35, 36, 37, 38, 39, 40, 41, 42, 43, 44, 45, 46, 47, 48, 49, 50, 51, 52, 53, 54, 55, 56, 57, 58, 59, 60, 61, 62, 63, 64, 65, 66, 67, 68, 69, 70, 71, 72, 73, 74, 75, 76, 77, 78, 79, 80, 81, 82, 83, 84] (fun M wl ml => ∃ (f b cp : Nat) (out : List Int) (A1 : Option Addr) (last : Bool), M = [(9, .slice A1 out.length cp), (1, .int .i64 (b : Int)), (10, .bool last)] ∧ HS w wl [Ob.row A1 out.length cp (vi .i64 out) 2 1] ∧ (b ≤ bs.length) ∧ (out.length ≤ n) ∧ (rget bs n (n + 1) [] a false = rget bs n f out b last) ∧ (n < out.length + f) ∧ ml = f + 1) ⟨n + 1, a, 0, [], _, false, rfl, H8, by omega, Nat.zero_le _, rfl, by omega, rfl⟩ ⟨rfl, rfl, rfl, trivial⟩ ?_
     rintro M w9 m11 ⟨f, b, cp, out, A1, last, rfl, H10, hbb, hon, hrg, hf, rfl⟩
     refine cw_seq ?_
     refine cw_seq ?_
     refine cw_reg ?_
     refine ry (y_mov rfl rfl) rfl rfl ?_
     refine ry (y_len rfl Tryz.underlying24 rfl) rfl rfl ?_
     refine ry (y_mov rfl rfl) rfl rfl ?_
     refine ry (y_lss rfl rfl rfl) rfl rfl ?_
     refine reg_nil ?_
     refine fn_next ?_
     refine cw_condd rfl (fun h12 => ?_) (fun h12 => ?_)
     ·skip
      obtain ⟨g, rfl⟩ : ∃ g, f = g + 1 := ⟨f - 1, by omega⟩
      refine cw_skip ?_
      refine fn_next ?_
      refine cw_block ?_
      refine cw_seq ?_
      refine cw_reg ?_
      refine ry (y_mov rfl rfl) rfl rfl ?_
      refine ry (y_mov rfl rfl) rfl rfl ?_
      refine reg_op (op_call (refGet2 A nb capb (b) bs _ (hb.below H10.base) hbl hcap hB (by omega) hnb) rfl kfref5b_2 ⟨rfl, rfl, trivial⟩) rfl rfl ?_
      rintro _ w14 ⟨u, x, e, rfl, hQ, e13⟩
      have H15 := H10.ext e13
      refine ry (y_mov rfl rfl) rfl rfl ?_
      refine ry (y_ext rfl rfl rfl) rfl rfl ?_
      refine ry (y_ext rfl rfl rfl) rfl rfl ?_
      refine ry (y_ext rfl rfl rfl) rfl rfl ?_
      refine ry (y_asg rfl rfl) rfl rfl ?_
      refine ry (y_asg rfl rfl) rfl rfl ?_
      refine ry (y_asg rfl rfl) rfl rfl ?_
      refine reg_nil ?_
      refine fn_next ?_
      refine cw_seq ?_
      refine cw_seq ?_
      refine cw_reg ?_
      refine ry (y_mov rfl rfl) rfl rfl ?_
      refine ry (y_neq rfl rfl rfl) rfl rfl ?_
      refine reg_nil ?_
      refine fn_next ?_
      refine cw_condd rfl (fun he0 => ?_) (fun he0 => ?_)
      ·skip
       have hl : lacc 0 0 (bs.drop (b)) = .error e := hQ.elim (fun ⟨m, _, _, he⟩ => absurd he he0) (fun h => h.1)
       refine cw_seq ?_
       refine cw_reg ?_
       refine ry (y_mov rfl rfl) rfl rfl ?_
       refine ry (y_asg rfl rfl) rfl rfl ?_
       refine ry (y_asg rfl rfl) rfl rfl ?_
       refine ry (y_asg rfl rfl) rfl rfl ?_
       refine reg_nil ?_
       refine fn_next ?_
       refine cw_ret ?_
       refine fn_then_ret (fn_block_ret (fn_then_ret (fn_block_ret (fn_then_ret ?_))))
       refine fn_retn (vs := [_, _, _]) rfl ⟨rfl, rfl, rfl, trivial⟩ rfl ?_
       exact ⟨none, 0, [], 0, e, rfl, .inr ⟨a, n, rfl, rfl, by omega, by omega, .inr ⟨by rw [hrg, rget_e1 (by omega) hl], rfl, rfl, he0⟩⟩, (HS.bare H15).nilrow _ _⟩
      ·skip
       obtain ⟨m, hl, hxm⟩ : ∃ mm, lacc 0 0 (bs.drop (b)) = .ok (u, mm) ∧ x = ((b : Nat) : Int) + mm := hQ.elim (fun ⟨m, h1, h2, _⟩ => ⟨m, h1, h2⟩) (fun h => absurd (by omega) h.2.2.2)
       obtain ⟨hum, hpm, _, hmlm, _⟩ := lacc_of (okB_drop hB _) hl
       rw [List.length_drop] at hmlm
       have hbm : u < 18446744073709551616 := by have := hum.2; omega
       obtain rfl : x = ((b + m : Nat) : Int) := by omega
       refine cw_skip ?_
       refine fn_next ?_
       refine cw_seq ?_
       refine cw_seq ?_
       refine cw_reg ?_
       refine ry (y_mov rfl rfl) rfl rfl ?_
       refine ry (y_gtr rfl rfl rfl) rfl rfl ?_
       refine reg_nil ?_
       refine fn_next ?_
       refine cw_condd rfl (fun hu0 => ?_) (fun hu0 => ?_)
       ·skip
        refine cw_seq ?_
        refine cw_reg ?_
        refine ry (y_mov rfl rfl) rfl rfl ?_
        refine ry (y_mov rfl rfl) rfl rfl ?_
        refine reg_op (op_call (refUnfold u _ ⟨by omega, hbm⟩) rfl kfref5b_3 ⟨rfl, trivial⟩) rfl rfl ?_
        rintro _ w19 ⟨rfl, e18⟩
        have H20 := H15.ext e18
        refine reg_op (op_lit (parts := [(0, _)]) (vs := [(0, _)]) (cs := [.int _ _]) H20 rfl Tryz.underlying24 kfref5b_1 rfl ⟨rfl, trivial⟩ rfl rfl) rfl rfl ?_
        rintro _ w22 ⟨b21, rfl, H23⟩
        have H24 := H23.asrow (m := 1) (size := 1) rfl (by decide)
        refine reg_op (op_app (i := 1) (ys := [.int .i64 (unfoldU u)]) H24 rfl rfl rfl rfl (H24.rd (i := 0) rfl) (rfl) (rfl) Tryz.underlying24 kfref5b_4 rfl rfl (by unfold maxLen; omega) (by omega)) rfl rfl ?_
        rintro _ w27 ⟨A25, c26, rfl, H28⟩
        refine ry (y_asg rfl rfl) rfl rfl ?_
        refine reg_nil ?_
        refine fn_next ?_
        refine cw_seq ?_
        refine cw_reg ?_
        refine ry (y_mov rfl rfl) rfl rfl ?_
        refine ry (y_asg rfl rfl) rfl rfl ?_
        refine reg_nil ?_
        refine fn_next ?_
        refine cw_seq ?_
        refine cw_reg ?_
        refine ry (y_asg rfl rfl) rfl rfl ?_
        refine reg_nil ?_
        refine fn_next ?_
        refine cw_exit ?_
        refine fn_then_exit (fn_block_exit ?_)
        have hpl : out.length + 1 = (out ++ [unfoldU u]).length := by rw [List.length_append]; rfl
        rw [vi_push, hpl] at H28
        refine fn_roundJ ⟨g, b + m, _, out ++ [unfoldU u], _, false, rfl, (H28.pick (m := [_]) [1] rfl (by decide)), by omega, by rw [← hpl]; omega, by rw [hrg, rget_rest (by omega) hl (by omega)], by rw [← hpl]; omega, rfl⟩ ⟨by rw [← hpl]; rfl, rfl, rfl, trivial⟩ (by omega) (by repeat (first | exact kp_refl | refine kp_app rfl rfl ?_ | refine kp_cons rfl ?_)) rfl
       ·skip
        refine cw_skip ?_
        refine fn_next ?_
        refine cw_seq ?_
        refine cw_seq ?_
        refine cw_reg ?_
        refine ry (y_mov rfl rfl) rfl rfl ?_
        refine reg_nil ?_
        refine fn_next ?_
        refine cw_cond rfl (fun hla => ?_) (fun hla => ?_)
        ·skip
         refine cw_seq ?_
         refine cw_reg ?_
         refine ry (y_asg rfl rfl) rfl rfl ?_
         refine ry (y_asg rfl rfl) rfl rfl ?_
         refine ry (y_asg rfl rfl) rfl rfl ?_
         refine reg_nil ?_
         refine fn_next ?_
         refine cw_ret ?_
         refine fn_then_ret (fn_block_ret (fn_then_ret (fn_block_ret (fn_then_ret ?_))))
         refine fn_retn (vs := [_, _, _]) rfl ⟨rfl, rfl, rfl, trivial⟩ rfl ?_
         exact ⟨none, 0, [], 0, 13, rfl, .inr ⟨a, n, rfl, rfl, by omega, by omega, .inr ⟨by rw [hrg, rget_behind (by omega) hl (by omega) hla], rfl, rfl, by decide⟩⟩, (HS.bare H15).nilrow _ _⟩
        ·skip
         refine cw_skip ?_
         refine fn_next ?_
         refine cw_seq ?_
         refine cw_reg ?_
         refine ry (y_mov rfl rfl) rfl rfl ?_
         refine ry (y_mov rfl rfl) rfl rfl ?_
         refine reg_op (op_call (refGet2 A nb capb (b + m) bs _ (hb.below H15.base) hbl hcap hB (by omega) hnb) rfl kfref5b_2 ⟨rfl, rfl, trivial⟩) rfl rfl ?_
         rintro _ w31 ⟨k, y, e2, rfl, hQ2, e30⟩
         have H32 := H15.ext e30
         refine ry (y_mov rfl rfl) rfl rfl ?_
         refine ry (y_ext rfl rfl rfl) rfl rfl ?_
         refine ry (y_ext rfl rfl rfl) rfl rfl ?_
         refine ry (y_ext rfl rfl rfl) rfl rfl ?_
         refine ry (y_asg rfl rfl) rfl rfl ?_
         refine ry (y_asg rfl rfl) rfl rfl ?_
         refine ry (y_asg rfl rfl) rfl rfl ?_
         refine reg_nil ?_
         refine fn_next ?_
         refine cw_seq ?_
         refine cw_seq ?_
         refine cw_reg ?_
         refine ry (y_mov rfl rfl) rfl rfl ?_
         refine ry (y_neq rfl rfl rfl) rfl rfl ?_
         refine reg_nil ?_
         refine fn_next ?_
         refine cw_condd rfl (fun he2 => ?_) (fun he2 => ?_)
         ·skip
          have hl2 : lacc 0 0 (bs.drop (b + m)) = .error e2 := hQ2.elim (fun ⟨m, _, _, he⟩ => absurd he he2) (fun h => h.1)
          refine cw_seq ?_
          refine cw_reg ?_
          refine ry (y_mov rfl rfl) rfl rfl ?_
          refine ry (y_asg rfl rfl) rfl rfl ?_
          refine ry (y_asg rfl rfl) rfl rfl ?_
          refine ry (y_asg rfl rfl) rfl rfl ?_
          refine reg_nil ?_
          refine fn_next ?_
          refine cw_ret ?_
          refine fn_then_ret (fn_block_ret (fn_then_ret (fn_block_ret (fn_then_ret ?_))))
          refine fn_retn (vs := [_, _, _]) rfl ⟨rfl, rfl, rfl, trivial⟩ rfl ?_
          exact ⟨none, 0, [], 0, e2, rfl, .inr ⟨a, n, rfl, rfl, by omega, by omega, .inr ⟨by rw [hrg, rget_e2 (by omega) hl (by omega) (by simp [hla]) hl2], rfl, rfl, he2⟩⟩, (HS.bare H32).nilrow _ _⟩
         ·skip
          obtain ⟨m2, hl2, hxm2⟩ : ∃ mm, lacc 0 0 (bs.drop (b + m)) = .ok (k, mm) ∧ y = ((b + m : Nat) : Int) + mm := hQ2.elim (fun ⟨m, h1, h2, _⟩ => ⟨m, h1, h2⟩) (fun h => absurd (by omega) h.2.2.2)
          obtain ⟨hum2, hpm2, _, hmlm2, _⟩ := lacc_of (okB_drop hB _) hl2
          rw [List.length_drop] at hmlm2
          have hbm2 : k < 18446744073709551616 := by have := hum2.2; omega
          obtain rfl : y = ((b + m + m2 : Nat) : Int) := by omega
          refine cw_skip ?_
          refine fn_next ?_
          refine cw_seq ?_
          refine cw_seq ?_
          refine cw_reg ?_
          refine ry (y_mov rfl rfl) rfl rfl ?_
          refine ry (y_mov rfl rfl) rfl rfl ?_
          refine ry (y_mov rfl rfl) rfl rfl ?_
          refine ry (y_len rfl Tryz.underlying24 rfl) rfl rfl ?_
          refine ry (y_sub rfl rfl rfl (wi (by omega))) rfl rfl ?_
          refine ry (y_sub rfl rfl rfl (wi (by omega))) rfl rfl ?_
          refine ry (y_conv rfl Tryz.underlying3 Tryz.underlying123 rfl (wu64 (by omega))) rfl rfl ?_
          refine ry (y_gtr rfl rfl rfl) rfl rfl ?_
          refine reg_nil ?_
          refine fn_next ?_
          refine cw_condd rfl (fun hkn => ?_) (fun hkn => ?_)
          ·skip
           refine cw_seq ?_
           refine cw_reg ?_
           refine ry (y_asg rfl rfl) rfl rfl ?_
           refine ry (y_asg rfl rfl) rfl rfl ?_
           refine ry (y_asg rfl rfl) rfl rfl ?_
           refine reg_nil ?_
           refine fn_next ?_
           refine cw_ret ?_
           refine fn_then_ret (fn_block_ret (fn_then_ret (fn_block_ret (fn_then_ret ?_))))
           refine fn_retn (vs := [_, _, _]) rfl ⟨rfl, rfl, rfl, trivial⟩ rfl ?_
           exact ⟨none, 0, [], 0, 13, rfl, .inr ⟨a, n, rfl, rfl, by omega, by omega, .inr ⟨by rw [hrg, rget_far (by omega) hl (by omega) (by simp [hla]) hl2 (by omega)], rfl, rfl, by decide⟩⟩, (HS.bare H32).nilrow _ _⟩
          ·skip
           refine cw_skip ?_
           refine fn_next ?_
           refine cw_seq ?_
           refine cw_seq ?_
           refine cw_reg ?_
           refine ry (y_asg rfl rfl) rfl rfl ?_
           refine reg_nil ?_
           refine fn_next ?_
           refine cw_block ?_
           rw [show vi .i64 out = vi .i64 (out ++ List.replicate 0 0) from by simp] at H32
           refine cw_loopJ [9, 17, 76, 77, 78, 79, 80, 81, 82, 83] (fun M wl ml => ∃ (j cz : Nat) (Az : Option Addr), M = [(17, .int .u64 (j : Int)), (9, .slice Az (out.length + j) cz)] ∧ HS w wl [Ob.row Az (out.length + j) cz (vi .i64 (out ++ List.replicate j 0)) 2 1] ∧ ((j : Int) ≤ k + 1) ∧ ml = k.toNat + 2 - j) ⟨0, _, _, rfl, H32, by omega, rfl⟩ ⟨rfl, rfl, trivial⟩ ?_
           rintro M w35 m37 ⟨j, cz, Az, rfl, H36, hjk, rfl⟩
           refine cw_seq ?_
           refine cw_seq ?_
           refine cw_reg ?_
           refine ry (y_mov rfl rfl) rfl rfl ?_
           refine ry (y_mov rfl rfl) rfl rfl ?_
           refine ry (y_leq rfl rfl rfl) rfl rfl ?_
           refine reg_nil ?_
           refine fn_next ?_
           refine cw_condd rfl (fun h38 => ?_) (fun h38 => ?_)
           ·skip
            refine cw_skip ?_
            refine fn_next ?_
            refine cw_seq ?_
            refine cw_block ?_
            refine cw_reg ?_
            refine ry (y_mov rfl rfl) rfl rfl ?_
            refine reg_op (op_lit (parts := [(0, _)]) (vs := [(0, _)]) (cs := [.int _ _]) H36 rfl Tryz.underlying24 kfref5b_1 rfl ⟨rfl, trivial⟩ rfl rfl) rfl rfl ?_
            rintro _ w40 ⟨b39, rfl, H41⟩
            have H42 := H41.asrow (m := 1) (size := 1) rfl (by decide)
            refine reg_op (op_app (i := 1) (ys := [.int .i64 0]) H42 rfl rfl rfl rfl (H42.rd (i := 0) rfl) (rfl) (rfl) Tryz.underlying24 kfref5b_4 rfl rfl (by unfold maxLen; omega) (by omega)) rfl rfl ?_
            rintro _ w45 ⟨A43, c44, rfl, H46⟩
            refine ry (y_asg rfl rfl) rfl rfl ?_
            refine reg_nil ?_
            refine fn_block ?_
            refine fn_next ?_
            refine cw_reg ?_
            refine ry (y_mov rfl rfl) rfl rfl ?_
            refine ry (y_add rfl rfl rfl (wu64 (by omega))) rfl rfl ?_
            refine ry (y_asg rfl rfl) rfl rfl ?_
            refine reg_nil ?_
            rw [vi_rep1] at H46
            refine fn_roundJ ⟨j + 1, _, _, rfl, (H46.pick (m := [_]) [1] rfl (by decide)), by omega, rfl⟩ ⟨rfl, rfl, trivial⟩ (by omega) (by repeat (first | exact kp_refl | refine kp_app rfl rfl ?_ | refine kp_cons rfl ?_)) rfl
           ·skip
            refine cw_exit ?_
            refine fn_then_exit (fn_then_exit (fn_block_exit ?_))
            refine fn_next ?_
            refine cw_seq ?_
            refine cw_reg ?_
            refine ry (y_mov rfl rfl) rfl rfl ?_
            refine ry (y_asg rfl rfl) rfl rfl ?_
            refine reg_nil ?_
            refine fn_next ?_
            refine cw_reg ?_
            refine ry (y_asg rfl rfl) rfl rfl ?_
            refine reg_nil ?_
            refine fn_block ?_
            have hjk : j = k.toNat + 1 := by omega
            subst hjk
            have hpl : out.length + (k.toNat + 1) = (out ++ List.replicate (k.toNat + 1) 0).length := by rw [List.length_append, List.length_replicate]
            rw [hpl] at H36
            refine fn_roundJ ⟨g, b + m + m2, _, out ++ List.replicate (k.toNat + 1) 0, _, true, rfl, H36, by omega, by rw [← hpl]; omega, by rw [hrg, rget_noughts (by omega) hl (by omega) (by simp [hla]) hl2 (by omega)], by rw [← hpl]; omega, rfl⟩ ⟨by rw [← hpl]; rfl, rfl, rfl, trivial⟩ (by omega) (by repeat (first | exact kp_refl | refine kp_app rfl rfl ?_ | refine kp_cons rfl ?_)) rfl
     ·skip
      refine cw_exit ?_
      refine fn_then_exit (fn_then_exit (fn_block_exit ?_))
      refine fn_next ?_
      refine cw_seq ?_
      refine cw_reg ?_
      refine ry (y_mov rfl rfl) rfl rfl ?_
      refine ry (y_mov rfl rfl) rfl rfl ?_
      refine ry (y_asg rfl rfl) rfl rfl ?_
      refine ry (y_asg rfl rfl) rfl rfl ?_
      refine ry (y_asg rfl rfl) rfl rfl ?_
      refine reg_nil ?_
      refine fn_next ?_
      refine cw_ret ?_
      refine fn_retn (vs := [_, _, _]) rfl ⟨rfl, rfl, rfl, trivial⟩ rfl ?_
      obtain ⟨g, rfl⟩ : ∃ g, f = g + 1 := ⟨f - 1, by omega⟩
      exact ⟨_, _, out, _, 0, rfl, .inr ⟨a, n, rfl, rfl, by omega, by omega, .inl ⟨b, by rw [hrg, rget_done (by omega)], rfl, rfl⟩⟩, H10⟩

end Go.Proofs.YtbnjbgcadkdljaaGreatDoor
