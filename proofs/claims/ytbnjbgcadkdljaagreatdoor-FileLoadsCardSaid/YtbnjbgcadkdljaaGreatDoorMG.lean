/- Texts as one: Ref8, Ref8b. -/
import Derived.Test.YtbnjbgcadkdljaaGreatDoorSlab2
import Derived.Test.YtbnjbgcadkdljaaGreatDoorME
import Derived.Test.YtbnjbgcadkdljaaGreatDoorMC
set_option linter.unusedVariables false
set_option linter.unusedSimpArgs false
namespace Go.Proofs.YtbnjbgcadkdljaaGreatDoor
open Go Go.RowKit
theorem kfref8_12 : elB Tryz.prog 24 1 = true := by kernel_rfl
theorem kfref8_13 : oneB Tryz.prog 2 = true := by kernel_rfl
theorem rep_push {i : Nat} {v : Int} : vi .i64 (List.replicate i v) ++ [.int .i64 v] = vi .i64 (List.replicate (i + 1) v) := by
  unfold vi
  rw [List.replicate_succ', List.map_append]; rfl
theorem take_eq_of {zs ys : List Int} {n : Nat} (h1 : zs.length = n) (h2 : ys.length = n) (h : ∀ j, j < n → nth zs j = nth ys j) : zs = ys := nth_ext (by omega) fun j hj => h j (by omega)
set_option maxRecDepth 100000 in
theorem refMay_any (v : Int) (w : World) :
    Ret Tryz.prog 50 [.int .i64 v] w (fun u w' => u = .bool (decide (B32 v)) ∧ Below w.heap.size w w') := by
  refine ret_enter Tryz.func50 rfl rfl rfl ?_
  have H0 := HS.start w
  refine cw_seq ?_
  refine cw_reg ?_
  refine ry (y_asg rfl rfl) rfl rfl ?_
  refine reg_nil ?_
  refine fn_next ?_
  refine cw_seq ?_
  refine cw_reg ?_
  refine ry (y_mov rfl rfl) rfl rfl ?_
  refine ry (y_geq rfl rfl rfl) rfl rfl ?_
  refine ry (y_mov rfl rfl) rfl rfl ?_
  refine rg_splitd (d := 5) rfl (fun h1 => ?_) (fun h1 => ?_)
  · skip
    refine rgy (y_mov rfl rfl) rfl rfl rfl rfl ?_
    refine rgy (y_leq rfl rfl rfl) rfl rfl rfl rfl ?_
    refine ry (y_pick rfl rfl rfl) rfl rfl ?_
    refine ry (y_asg rfl rfl) rfl rfl ?_
    refine reg_nil ?_
    refine fn_next ?_
    refine cw_ret ?_
    refine fn_ret1 rfl rfl ?_
    refine ⟨?_, H0.base⟩
    first | exact bdec (by unfold B32; omega) | exact bfls (by unfold B32; omega)
  · skip
    refine rg_off rfl rfl rfl rfl rfl ?_
    refine rg_off rfl rfl rfl rfl rfl ?_
    refine ry (y_pick rfl rfl rfl) rfl rfl ?_
    refine ry (y_asg rfl rfl) rfl rfl ?_
    refine reg_nil ?_
    refine fn_next ?_
    refine cw_ret ?_
    refine fn_ret1 rfl rfl ?_
    refine ⟨?_, H0.base⟩
    first | exact bdec (by unfold B32; omega) | exact bfls (by unfold B32; omega)

set_option maxRecDepth 100000 in
theorem refSame_any (A : Option Addr) (n cap : Nat) (zs : List Int) (A2 : Option Addr) (m cap2 : Nat) (ys : List Int) (w : World) (h1 : Rd w A (vi .i64 zs)) (hl1 : zs.length = n) (h2 : Rd w A2 (vi .i64 ys)) (hl2 : ys.length = m) (hn : n ≤ 4000000) :
    Ret Tryz.prog 27 [.slice A n cap, .slice A2 m cap2] w (fun z w' => z = .bool (decide (zs = ys)) ∧ Below w.heap.size w w') := by
  refine ret_enter Tryz.func27 rfl rfl rfl ?_
  have H0 := HS.start w
  refine cw_seq ?_
  refine cw_reg ?_
  refine ry (y_asg rfl rfl) rfl rfl ?_
  refine reg_nil ?_
  refine fn_next ?_
  refine cw_seq ?_
  refine cw_seq ?_
  refine cw_reg ?_
  refine ry (y_mov rfl rfl) rfl rfl ?_
  refine ry (y_len rfl Tryz.underlying24 rfl) rfl rfl ?_
  refine ry (y_mov rfl rfl) rfl rfl ?_
  refine ry (y_len rfl Tryz.underlying24 rfl) rfl rfl ?_
  refine ry (y_neq rfl rfl rfl) rfl rfl ?_
  refine reg_nil ?_
  refine fn_next ?_
  refine cw_condd rfl (fun hd => ?_) (fun hd => ?_)
  · skip
    refine cw_seq ?_
    refine cw_reg ?_
    refine ry (y_asg rfl rfl) rfl rfl ?_
    refine reg_nil ?_
    refine fn_next ?_
    refine cw_ret ?_
    refine fn_then_ret ?_
    refine fn_ret1 rfl rfl ?_
    rw [decide_eq_false (fun e => hd (by subst e; omega))]
    exact ⟨rfl, H0.base⟩
  · skip
    refine cw_skip ?_
    refine fn_next ?_
    refine cw_seq ?_
    refine cw_seq ?_
    refine cw_reg ?_
    refine ry (y_asg rfl rfl) rfl rfl ?_
    refine reg_nil ?_
    refine fn_next ?_
    refine cw_block ?_
    refine cw_loopJ [4, 5, 11, 12, 13, 14, 15, 16, 17, 18, 19, 20, 21, 22, 23, 24, 25] (fun M wl ml => ∃ (i : Nat), M = [(5, .int .i64 (i : Int))] ∧ HS w wl [] ∧ (i ≤ n) ∧ (Hid (∀ j, j < i → nth zs j = nth ys j)) ∧ ml = n - i) ⟨0, rfl, H0, Nat.zero_le _, Lib.hid (fun j hj => absurd hj (Nat.not_lt_zero _)), rfl⟩ ⟨rfl, trivial⟩ ?_
    rintro M w2 m4 ⟨i, rfl, H3, hp0, hp1, rfl⟩
    refine cw_seq ?_
    refine cw_seq ?_
    refine cw_reg ?_
    refine ry (y_mov rfl rfl) rfl rfl ?_
    refine ry (y_mov rfl rfl) rfl rfl ?_
    refine ry (y_len rfl Tryz.underlying24 rfl) rfl rfl ?_
    refine ry (y_lss rfl rfl rfl) rfl rfl ?_
    refine reg_nil ?_
    refine fn_next ?_
    refine cw_condd rfl (fun h5 => ?_) (fun h5 => ?_)
    · skip
      have hmn : m = n := by omega
      have hg1 := vi_get (k := .i64) (zs := zs) (i := i) (by omega)
      have hg2 := vi_get (k := .i64) (zs := ys) (i := i) (by omega)
      refine cw_skip ?_
      refine fn_next ?_
      refine cw_seq ?_
      refine cw_block ?_
      refine cw_seq ?_
      refine cw_draw H3 [0, 1, 2, 3, 4, 5, 6, 7, 8] [] (fun X HX => HX) (by kernel_rfl) (by kernel_rfl) (by rfl) ?_
      simp only [pick, List.getElem?_cons_succ, List.getElem?_cons_zero]
      refine hk_y (fun Y HY => y_mov rfl rfl) rfl rfl ?_
      refine hk_y (fun Y HY => y_mov rfl rfl) rfl rfl ?_
      refine hk_y (fun Y HY => y_iar (h1.below HY.base) rfl rfl rfl kfref8_12 (rfl) (by omega) (Nat.mul_one _) (hg1)) rfl rfl ?_
      refine hk_y (fun Y HY => y_ldr (h1.below HY.base) rfl rfl kfref8_13 (hg1)) rfl rfl ?_
      refine hk_y (fun Y HY => y_mov rfl rfl) rfl rfl ?_
      refine hk_y (fun Y HY => y_mov rfl rfl) rfl rfl ?_
      refine hk_y (fun Y HY => y_iar (h2.below HY.base) rfl rfl rfl kfref8_12 (rfl) (by omega) (Nat.mul_one _) (hg2)) rfl rfl ?_
      refine hk_y (fun Y HY => y_ldr (h2.below HY.base) rfl rfl kfref8_13 (hg2)) rfl rfl ?_
      refine hk_y (fun Y HY => y_neq rfl rfl rfl) rfl rfl ?_
      refine hk_nil ?_
      intro w6 H7
      refine tv_nil ?_
      refine fn_next ?_
      refine cw_condd rfl (fun hne => ?_) (fun hne => ?_)
      · skip
        refine cw_seq ?_
        refine cw_reg ?_
        refine ry (y_asg rfl rfl) rfl rfl ?_
        refine reg_nil ?_
        refine fn_next ?_
        refine cw_ret ?_
        refine fn_block_ret (fn_then_ret (fn_then_ret (fn_block_ret (fn_then_ret ?_))))
        refine fn_ret1 rfl rfl ?_
        rw [decide_eq_false (fun e => hne (by rw [e]))]
        exact ⟨rfl, H7.base⟩
      · skip
        refine cw_skip ?_
        refine fn_block ?_
        refine fn_next ?_
        refine cw_reg ?_
        refine ry (y_mov rfl rfl) rfl rfl ?_
        refine ry (y_add rfl rfl rfl (wi (by omega))) rfl rfl ?_
        refine ry (y_asg rfl rfl) rfl rfl ?_
        refine reg_nil ?_
        refine fn_roundJ ⟨i + 1, rfl, H7, by omega, Lib.hid (fun j hj => (Nat.lt_or_eq_of_le (Nat.le_of_lt_succ hj)).elim (hp1.out j) (fun e => e ▸ Classical.not_not.1 hne)), rfl⟩ ⟨rfl, trivial⟩ (by omega) (by repeat (first | exact kp_refl | refine kp_app rfl rfl ?_ | refine kp_cons rfl ?_)) rfl
    · skip
      obtain rfl : i = n := by omega
      refine cw_exit ?_
      refine fn_then_exit (fn_then_exit (fn_block_exit ?_))
      refine fn_next ?_
      refine cw_seq ?_
      refine cw_reg ?_
      refine ry (y_asg rfl rfl) rfl rfl ?_
      refine reg_nil ?_
      refine fn_next ?_
      refine cw_ret ?_
      refine fn_ret1 rfl rfl ?_
      rw [decide_eq_true (take_eq_of hl1 (by omega) hp1.out)]
      exact ⟨rfl, H3.base⟩

end Go.Proofs.YtbnjbgcadkdljaaGreatDoor

namespace Go.Proofs.YtbnjbgcadkdljaaGreatDoor
open Go Go.RowKit
end Go.Proofs.YtbnjbgcadkdljaaGreatDoor
