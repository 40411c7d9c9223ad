/- Layer 2: a number of bytes. -/
import Derived.Test.YtbnjbgcadkdljaaGreatDoorPlain5b
import Derived.Test.YtbnjbgcadkdljaaGreatDoorMP
set_option linter.unusedVariables false
set_option linter.unusedSimpArgs false
namespace Go.Proofs.YtbnjbgcadkdljaaGreatDoor
open Go Go.RowKit
theorem kfleb1_1 : elB Tryz.prog 22 1 = true := by kernel_rfl
theorem kfleb1_2 : oneB Tryz.prog 5 = true := by kernel_rfl
def lebQ (bs : List Int) (a : Nat) (u x e : Int) : Prop := (∃ m, lacc 0 0 (bs.drop a) = .ok (u, m) ∧ x = (a : Int) + m ∧ e = 0) ∨ (lacc 0 0 (bs.drop a) = .error e ∧ u = 0 ∧ x = 0 ∧ e ≠ 0)
theorem lebQ_err {bs : List Int} {a : Nat} {e : Int} (h : lacc 0 0 (bs.drop a) = .error e) (he : e ≠ 0) : lebQ bs a 0 0 e := .inr ⟨h, rfl, rfl, he⟩
theorem vi_sl {k : IntKind} {bs : List Int} {n a i : Nat} (hn : bs.length = n) (hi : a + i < n) : (((vi k bs).take (n * 1)).drop (a * 1))[i]? = some (.int k (nth bs (a + i))) := by
  rw [Nat.mul_one, Nat.mul_one, List.take_of_length_le (by rw [vi_len]; omega), List.getElem?_drop]
  exact vi_get (by omega)
theorem okB_nth {bs : List Int} {i : Nat} (h : okB bs) (hi : i < bs.length) : 0 ≤ nth bs i ∧ nth bs i ≤ 255 := h _ (nth_mem hi)

set_option maxRecDepth 100000 in
set_option maxHeartbeats 1000000 in
theorem lebGet (A : Option Addr) (n cap a : Nat) (bs : List Int) (w : World) (hb : Rd w A (vi .u8 bs)) (hbl : bs.length = n) (hcap : n ≤ cap) (hB : okB bs) (ha : a ≤ n) (hn : n ≤ 100000000) :
    Ret Tryz.prog 93 [.slice A n cap, .int .i64 (a : Int)] w (fun v w' => ∃ u x e, v = .tuple #[.int .u64 u, .int .i64 x, .int .i64 e] ∧ lebQ bs a u x e ∧ Below w.heap.size w w') := by
 refine ret_enter Tryz.func93 rfl rfl rfl ?_
 have H0 := HS.start w
 refine cw_seq ?_
 refine cw_reg ?_
 refine ry (y_asg rfl rfl) rfl rfl ?_
 refine ry (y_asg rfl rfl) rfl rfl ?_
 refine ry (y_asg rfl rfl) rfl rfl ?_
 refine reg_nil ?_
 refine fn_next ?_
 refine cw_seq ?_
 refine cw_seq ?_
 refine cw_reg ?_
 refine ry (y_mov rfl rfl) rfl rfl ?_
 refine ry (y_lss rfl rfl rfl) rfl rfl ?_
 refine ry (y_mov rfl rfl) rfl rfl ?_
 refine rg_splitd (d := 12) rfl (fun h1 => ?_) (fun h1 => ?_)
 · exfalso; omega
 ·skip
  refine rgy (y_mov rfl rfl) rfl rfl rfl rfl ?_
  refine rgy (y_mov rfl rfl) rfl rfl rfl rfl ?_
  refine rgy (y_len rfl Tryz.underlying22 rfl) rfl rfl rfl rfl ?_
  refine rgy (y_gtr rfl rfl rfl) rfl rfl rfl rfl ?_
  refine ry (y_pick rfl rfl rfl) rfl rfl ?_
  refine reg_nil ?_
  refine fn_next ?_
  refine cw_condd rfl (fun h2 => ?_) (fun h2 => ?_)
  · exfalso; omega
  ·skip
   refine cw_skip ?_
   refine fn_next ?_
   refine cw_seq ?_
   refine cw_reg ?_
   refine ry (y_asg rfl rfl) rfl rfl ?_
   refine reg_nil ?_
   refine fn_next ?_
   refine cw_seq ?_
   refine cw_seq ?_
   refine cw_reg ?_
   refine ry (y_mov rfl rfl) rfl rfl ?_
   refine ry (y_mov rfl rfl) rfl rfl ?_
   refine ry (y_sl rfl rfl rfl kfleb1_1 (rfl) (by omega)) rfl rfl ?_
   refine ry (y_len rfl Tryz.underlying22 rfl) rfl rfl ?_
   refine ry (y_mov rfl rfl) rfl rfl ?_
   refine reg_nil ?_
   refine fn_next ?_
   refine cw_block ?_
   refine cw_loopJ [4, 5, 6, 7, 8, 9, 22, 23, 24, 25, 26, 27, 28, 29, 30, 31, 32, 33, 34, 35, 36, 37, 38, 39, 40, 41, 42, 43, 44, 45, 46, 47, 48, 49, 50, 51, 52, 53, 54] (fun M wl ml => ∃ (i : Nat) (u : Int), M = [(22, .int .i64 (i : Int)), (7, .int .u64 u)] ∧ HS w wl [] ∧ (a + i ≤ n) ∧ (i ≤ 9) ∧ (0 ≤ u ∧ u < 128 ^ i) ∧ (lacc 0 0 (bs.drop a) = lacc i u (bs.drop (a + i))) ∧ ml = n - a + 1 - i) ⟨0, 0, rfl, H0, ha, by omega, by decide, by rw [Nat.add_zero], rfl⟩ ⟨rfl, rfl, trivial⟩ ?_
   rintro M w3 m5 ⟨i, u, rfl, H4, him, hi9, hu, hl, rfl⟩
   refine cw_seq ?_
   refine cw_reg ?_
   refine ry (y_lss rfl rfl rfl) rfl rfl ?_
   refine reg_nil ?_
   refine fn_next ?_
   refine cw_seq ?_
   refine cw_condd rfl (fun h6 => ?_) (fun h6 => ?_)
   ·skip
    have gz := vi_sl (k := .u8) (i := i) (a := a) hbl (by omega)
    have hcb := okB_nth hB (i := a + i) (by omega)
    refine cw_skip ?_
    refine fn_next ?_
    refine cw_seq ?_
    refine cw_block ?_
    refine cw_seq ?_
    refine cw_reg ?_
    refine ry (y_mov rfl rfl) rfl rfl ?_
    refine ry (y_iar (Rd.slice (hb.below H4.base) ((show a ≤ n by omega)) (hcap)) rfl rfl rfl kfleb1_1 (rfl) (by omega) (Nat.mul_one _) (gz)) rfl rfl ?_
    refine ry (y_ldr (Rd.slice (hb.below H4.base) ((show a ≤ n by omega)) (hcap)) rfl rfl kfleb1_2 (gz)) rfl rfl ?_
    refine ry (y_asg rfl rfl) rfl rfl ?_
    refine ry (y_asg rfl rfl) rfl rfl ?_
    refine reg_nil ?_
    refine fn_next ?_
    refine cw_seq ?_
    refine cw_seq ?_
    refine cw_reg ?_
    refine ry (y_mov rfl rfl) rfl rfl ?_
    refine ry (y_eql rfl rfl rfl) rfl rfl ?_
    refine ry (y_mov rfl rfl) rfl rfl ?_
    refine rg_splitd (d := 29) rfl (fun h7 => ?_) (fun h7 => ?_)
    ·skip
     refine rgy (y_mov rfl rfl) rfl rfl rfl rfl ?_
     refine rgy (y_gtr rfl rfl rfl) rfl rfl rfl rfl ?_
     refine ry (y_pick rfl rfl rfl) rfl rfl ?_
     refine reg_nil ?_
     refine fn_next ?_
     refine cw_condd rfl (fun h8 => ?_) (fun h8 => ?_)
     ·skip
      refine cw_seq ?_
      refine cw_reg ?_
      refine ry (y_asg rfl rfl) rfl rfl ?_
      refine ry (y_asg rfl rfl) rfl rfl ?_
      refine ry (y_asg rfl rfl) rfl rfl ?_
      refine reg_nil ?_
      refine fn_next ?_
      refine cw_ret ?_
      refine fn_then_ret (fn_block_ret (fn_then_ret (fn_then_ret (fn_block_ret (fn_then_ret ?_)))))
      refine fn_retn (vs := [_, _, _]) rfl ⟨rfl, rfl, rfl, trivial⟩ rfl ?_
      exact ⟨_, _, _, rfl, lebQ_err (by rw [hl, lacc_step i u (by omega), if_pos (by omega)]) (by decide), H4.base⟩
     ·skip
      have hq9 : i = 9 → nth bs (a + i) ≤ 1 := by omega
      have h9 : i = 9 → nth bs (a + i) % 128 ≤ 1 := by omega
      refine cw_skip ?_
      refine fn_next ?_
      refine cw_seq ?_
      refine cw_reg ?_
      refine ry (y_mov rfl rfl) rfl rfl ?_
      refine ry (y_mov rfl rfl) rfl rfl ?_
      refine ry (y_and rfl rfl rfl (and127 hcb)) rfl rfl ?_
      refine ry (y_conv rfl Tryz.underlying5 Tryz.underlying123 rfl (wu64 (by omega))) rfl rfl ?_
      refine ry (y_mov rfl rfl) rfl rfl ?_
      refine ry (y_mul rfl rfl rfl (wi (by omega))) rfl rfl ?_
      refine ry (y_shl rfl rfl rfl (by omega) (shl_leb hi9 ⟨by omega, by omega⟩ h9)) rfl rfl ?_
      refine ry (y_or rfl rfl rfl (or_leb hi9 hu ⟨by omega, by omega⟩ h9)) rfl rfl ?_
      refine ry (y_asg rfl rfl) rfl rfl ?_
      refine reg_nil ?_
      refine fn_next ?_
      refine cw_seq ?_
      refine cw_reg ?_
      refine ry (y_mov rfl rfl) rfl rfl ?_
      refine ry (y_lss rfl rfl rfl) rfl rfl ?_
      refine reg_nil ?_
      refine fn_next ?_
      refine cw_condd rfl (fun h9 => ?_) (fun h9 => ?_)
      ·skip
       refine cw_seq ?_
       refine cw_seq ?_
       refine cw_reg ?_
       refine ry (y_mov rfl rfl) rfl rfl ?_
       refine ry (y_eql rfl rfl rfl) rfl rfl ?_
       refine ry (y_mov rfl rfl) rfl rfl ?_
       refine rg_splitd (d := 45) rfl (fun h10 => ?_) (fun h10 => ?_)
       ·skip
        refine rgy (y_mov rfl rfl) rfl rfl rfl rfl ?_
        refine rgy (y_gtr rfl rfl rfl) rfl rfl rfl rfl ?_
        refine ry (y_pick rfl rfl rfl) rfl rfl ?_
        refine reg_nil ?_
        refine fn_next ?_
        refine cw_condd rfl (fun h11 => ?_) (fun h11 => ?_)
        ·skip
         refine cw_seq ?_
         refine cw_reg ?_
         refine ry (y_asg rfl rfl) rfl rfl ?_
         refine ry (y_asg rfl rfl) rfl rfl ?_
         refine ry (y_asg rfl rfl) rfl rfl ?_
         refine reg_nil ?_
         refine fn_next ?_
         refine cw_ret ?_
         refine fn_then_ret (fn_block_ret (fn_then_ret (fn_then_ret (fn_block_ret (fn_then_ret ?_)))))
         refine fn_retn (vs := [_, _, _]) rfl ⟨rfl, rfl, rfl, trivial⟩ rfl ?_
         exact ⟨_, _, _, rfl, lebQ_err (by rw [hl, lacc_step i u (by omega), if_pos (by omega)]) (by decide), H4.base⟩
        ·skip
         refine cw_skip ?_
         refine fn_next ?_
         refine cw_seq ?_
         refine cw_reg ?_
         refine ry (y_mov rfl rfl) rfl rfl ?_
         refine ry (y_mov rfl rfl) rfl rfl ?_
         refine ry (y_mov rfl rfl) rfl rfl ?_
         refine ry (y_add rfl rfl rfl (wi (by omega))) rfl rfl ?_
         refine ry (y_add rfl rfl rfl (wi (by omega))) rfl rfl ?_
         refine ry (y_asg rfl rfl) rfl rfl ?_
         refine ry (y_asg rfl rfl) rfl rfl ?_
         refine ry (y_asg rfl rfl) rfl rfl ?_
         refine reg_nil ?_
         refine fn_next ?_
         refine cw_ret ?_
         refine fn_block_ret (fn_then_ret (fn_then_ret (fn_block_ret (fn_then_ret ?_))))
         refine fn_retn (vs := [_, _, _]) rfl ⟨rfl, rfl, rfl, trivial⟩ rfl ?_
         exact ⟨_, _, _, rfl, .inl ⟨i + 1, by rw [hl, lacc_step i u (by omega), if_neg (by omega), if_pos (by omega)]; rw [show nth bs (a + i) % 128 = nth bs (a + i) by omega], by omega, rfl⟩, H4.base⟩
       ·skip
        refine rg_off rfl rfl rfl rfl rfl ?_
        refine rg_off rfl rfl rfl rfl rfl ?_
        refine ry (y_pick rfl rfl rfl) rfl rfl ?_
        refine reg_nil ?_
        refine fn_next ?_
        refine cw_condf rfl ?_
        refine cw_skip ?_
        refine fn_next ?_
        refine cw_seq ?_
        refine cw_reg ?_
        refine ry (y_mov rfl rfl) rfl rfl ?_
        refine ry (y_mov rfl rfl) rfl rfl ?_
        refine ry (y_mov rfl rfl) rfl rfl ?_
        refine ry (y_add rfl rfl rfl (wi (by omega))) rfl rfl ?_
        refine ry (y_add rfl rfl rfl (wi (by omega))) rfl rfl ?_
        refine ry (y_asg rfl rfl) rfl rfl ?_
        refine ry (y_asg rfl rfl) rfl rfl ?_
        refine ry (y_asg rfl rfl) rfl rfl ?_
        refine reg_nil ?_
        refine fn_next ?_
        refine cw_ret ?_
        refine fn_block_ret (fn_then_ret (fn_then_ret (fn_block_ret (fn_then_ret ?_))))
        refine fn_retn (vs := [_, _, _]) rfl ⟨rfl, rfl, rfl, trivial⟩ rfl ?_
        exact ⟨_, _, _, rfl, .inl ⟨i + 1, by rw [hl, lacc_step i u (by omega), if_neg (by omega), if_pos (by omega)]; rw [show nth bs (a + i) % 128 = nth bs (a + i) by omega], by omega, rfl⟩, H4.base⟩
      ·skip
       have hmod : nth bs (a + i) % 128 = nth bs (a + i) - 128 := by omega
       refine cw_skip ?_
       refine fn_block ?_
       refine fn_next ?_
       refine cw_reg ?_
       refine ry (y_add rfl rfl rfl (wi (by omega))) rfl rfl ?_
       refine ry (y_mov rfl rfl) rfl rfl ?_
       refine reg_nil ?_
       refine fn_roundJ ⟨i + 1, u + nth bs (a + i) % 128 * 128 ^ i, rfl, H4, by omega, by omega, by rw [hmod]; exact lacc_bd hu ⟨by omega, by omega⟩, by rw [hl, lacc_step i u (by omega), if_neg (by omega), if_neg (by omega), hmod, Nat.add_assoc], rfl⟩ ⟨rfl, rfl, trivial⟩ (by omega) (by repeat (first | exact kp_refl | refine kp_app rfl rfl ?_ | refine kp_cons rfl ?_)) rfl
    ·skip
     have hq9 : i = 9 → nth bs (a + i) ≤ 1 := by omega
     have h9 : i = 9 → nth bs (a + i) % 128 ≤ 1 := by omega
     refine rg_off rfl rfl rfl rfl rfl ?_
     refine rg_off rfl rfl rfl rfl rfl ?_
     refine ry (y_pick rfl rfl rfl) rfl rfl ?_
     refine reg_nil ?_
     refine fn_next ?_
     refine cw_condf rfl ?_
     refine cw_skip ?_
     refine fn_next ?_
     refine cw_seq ?_
     refine cw_reg ?_
     refine ry (y_mov rfl rfl) rfl rfl ?_
     refine ry (y_mov rfl rfl) rfl rfl ?_
     refine ry (y_and rfl rfl rfl (and127 hcb)) rfl rfl ?_
     refine ry (y_conv rfl Tryz.underlying5 Tryz.underlying123 rfl (wu64 (by omega))) rfl rfl ?_
     refine ry (y_mov rfl rfl) rfl rfl ?_
     refine ry (y_mul rfl rfl rfl (wi (by omega))) rfl rfl ?_
     refine ry (y_shl rfl rfl rfl (by omega) (shl_leb hi9 ⟨by omega, by omega⟩ h9)) rfl rfl ?_
     refine ry (y_or rfl rfl rfl (or_leb hi9 hu ⟨by omega, by omega⟩ h9)) rfl rfl ?_
     refine ry (y_asg rfl rfl) rfl rfl ?_
     refine reg_nil ?_
     refine fn_next ?_
     refine cw_seq ?_
     refine cw_reg ?_
     refine ry (y_mov rfl rfl) rfl rfl ?_
     refine ry (y_lss rfl rfl rfl) rfl rfl ?_
     refine reg_nil ?_
     refine fn_next ?_
     refine cw_condd rfl (fun h12 => ?_) (fun h12 => ?_)
     ·skip
      refine cw_seq ?_
      refine cw_seq ?_
      refine cw_reg ?_
      refine ry (y_mov rfl rfl) rfl rfl ?_
      refine ry (y_eql rfl rfl rfl) rfl rfl ?_
      refine ry (y_mov rfl rfl) rfl rfl ?_
      refine rg_splitd (d := 45) rfl (fun h13 => ?_) (fun h13 => ?_)
      ·skip
       refine rgy (y_mov rfl rfl) rfl rfl rfl rfl ?_
       refine rgy (y_gtr rfl rfl rfl) rfl rfl rfl rfl ?_
       refine ry (y_pick rfl rfl rfl) rfl rfl ?_
       refine reg_nil ?_
       refine fn_next ?_
       refine cw_condd rfl (fun h14 => ?_) (fun h14 => ?_)
       ·skip
        refine cw_seq ?_
        refine cw_reg ?_
        refine ry (y_asg rfl rfl) rfl rfl ?_
        refine ry (y_asg rfl rfl) rfl rfl ?_
        refine ry (y_asg rfl rfl) rfl rfl ?_
        refine reg_nil ?_
        refine fn_next ?_
        refine cw_ret ?_
        refine fn_then_ret (fn_block_ret (fn_then_ret (fn_then_ret (fn_block_ret (fn_then_ret ?_)))))
        refine fn_retn (vs := [_, _, _]) rfl ⟨rfl, rfl, rfl, trivial⟩ rfl ?_
        exact ⟨_, _, _, rfl, lebQ_err (by rw [hl, lacc_step i u (by omega), if_pos (by omega)]) (by decide), H4.base⟩
       ·skip
        refine cw_skip ?_
        refine fn_next ?_
        refine cw_seq ?_
        refine cw_reg ?_
        refine ry (y_mov rfl rfl) rfl rfl ?_
        refine ry (y_mov rfl rfl) rfl rfl ?_
        refine ry (y_mov rfl rfl) rfl rfl ?_
        refine ry (y_add rfl rfl rfl (wi (by omega))) rfl rfl ?_
        refine ry (y_add rfl rfl rfl (wi (by omega))) rfl rfl ?_
        refine ry (y_asg rfl rfl) rfl rfl ?_
        refine ry (y_asg rfl rfl) rfl rfl ?_
        refine ry (y_asg rfl rfl) rfl rfl ?_
        refine reg_nil ?_
        refine fn_next ?_
        refine cw_ret ?_
        refine fn_block_ret (fn_then_ret (fn_then_ret (fn_block_ret (fn_then_ret ?_))))
        refine fn_retn (vs := [_, _, _]) rfl ⟨rfl, rfl, rfl, trivial⟩ rfl ?_
        exact ⟨_, _, _, rfl, .inl ⟨i + 1, by rw [hl, lacc_step i u (by omega), if_neg (by omega), if_pos (by omega)]; rw [show nth bs (a + i) % 128 = nth bs (a + i) by omega], by omega, rfl⟩, H4.base⟩
      ·skip
       refine rg_off rfl rfl rfl rfl rfl ?_
       refine rg_off rfl rfl rfl rfl rfl ?_
       refine ry (y_pick rfl rfl rfl) rfl rfl ?_
       refine reg_nil ?_
       refine fn_next ?_
       refine cw_condf rfl ?_
       refine cw_skip ?_
       refine fn_next ?_
       refine cw_seq ?_
       refine cw_reg ?_
       refine ry (y_mov rfl rfl) rfl rfl ?_
       refine ry (y_mov rfl rfl) rfl rfl ?_
       refine ry (y_mov rfl rfl) rfl rfl ?_
       refine ry (y_add rfl rfl rfl (wi (by omega))) rfl rfl ?_
       refine ry (y_add rfl rfl rfl (wi (by omega))) rfl rfl ?_
       refine ry (y_asg rfl rfl) rfl rfl ?_
       refine ry (y_asg rfl rfl) rfl rfl ?_
       refine ry (y_asg rfl rfl) rfl rfl ?_
       refine reg_nil ?_
       refine fn_next ?_
       refine cw_ret ?_
       refine fn_block_ret (fn_then_ret (fn_then_ret (fn_block_ret (fn_then_ret ?_))))
       refine fn_retn (vs := [_, _, _]) rfl ⟨rfl, rfl, rfl, trivial⟩ rfl ?_
       exact ⟨_, _, _, rfl, .inl ⟨i + 1, by rw [hl, lacc_step i u (by omega), if_neg (by omega), if_pos (by omega)]; rw [show nth bs (a + i) % 128 = nth bs (a + i) by omega], by omega, rfl⟩, H4.base⟩
     ·skip
      have hmod : nth bs (a + i) % 128 = nth bs (a + i) - 128 := by omega
      refine cw_skip ?_
      refine fn_block ?_
      refine fn_next ?_
      refine cw_reg ?_
      refine ry (y_add rfl rfl rfl (wi (by omega))) rfl rfl ?_
      refine ry (y_mov rfl rfl) rfl rfl ?_
      refine reg_nil ?_
      refine fn_roundJ ⟨i + 1, u + nth bs (a + i) % 128 * 128 ^ i, rfl, H4, by omega, by omega, by rw [hmod]; exact lacc_bd hu ⟨by omega, by omega⟩, by rw [hl, lacc_step i u (by omega), if_neg (by omega), if_neg (by omega), hmod, Nat.add_assoc], rfl⟩ ⟨rfl, rfl, trivial⟩ (by omega) (by repeat (first | exact kp_refl | refine kp_app rfl rfl ?_ | refine kp_cons rfl ?_)) rfl
   ·skip
    refine cw_exit ?_
    refine fn_then_exit (fn_then_exit (fn_block_exit ?_))
    refine fn_next ?_
    refine cw_seq ?_
    refine cw_reg ?_
    refine ry (y_asg rfl rfl) rfl rfl ?_
    refine ry (y_asg rfl rfl) rfl rfl ?_
    refine ry (y_asg rfl rfl) rfl rfl ?_
    refine reg_nil ?_
    refine fn_next ?_
    refine cw_ret ?_
    refine fn_retn (vs := [_, _, _]) rfl ⟨rfl, rfl, rfl, trivial⟩ rfl ?_
    exact ⟨_, _, _, rfl, lebQ_err (by rw [hl, lacc_end i u (by omega)]) (by decide), H4.base⟩

set_option maxRecDepth 100000 in
theorem lebUnfold (u : Int) (w : World) (hu : 0 ≤ u ∧ u < 18446744073709551616) :
    Ret Tryz.prog 94 [.int .u64 u] w (fun v w' => v = .int .i64 (unfoldU u) ∧ Below w.heap.size w w') := by
 refine ret_enter Tryz.func94 rfl rfl rfl ?_
 have H0 := HS.start w
 refine cw_seq ?_
 refine cw_reg ?_
 refine ry (y_asg rfl rfl) rfl rfl ?_
 refine reg_nil ?_
 refine fn_next ?_
 refine cw_seq ?_
 refine cw_reg ?_
 refine ry (y_mov rfl rfl) rfl rfl ?_
 refine ry (y_shr rfl rfl rfl (by omega) (rfl)) rfl rfl ?_
 refine ry (y_conv rfl Tryz.underlying123 Tryz.underlying2 rfl (rfl)) rfl rfl ?_
 refine ry (y_mov rfl rfl) rfl rfl ?_
 refine ry (y_and rfl rfl rfl (rfl)) rfl rfl ?_
 refine ry (y_conv rfl Tryz.underlying123 Tryz.underlying2 rfl (rfl)) rfl rfl ?_
 refine ry (y_neg rfl rfl (rfl)) rfl rfl ?_
 refine ry (y_xor rfl rfl rfl (rfl)) rfl rfl ?_
 refine ry (y_asg rfl rfl) rfl rfl ?_
 refine reg_nil ?_
 refine fn_next ?_
 refine cw_ret ?_
 refine fn_ret1 rfl rfl ?_
 rw [unfold_bits hu]
 exact ⟨rfl, H0.base⟩

end Go.Proofs.YtbnjbgcadkdljaaGreatDoor
