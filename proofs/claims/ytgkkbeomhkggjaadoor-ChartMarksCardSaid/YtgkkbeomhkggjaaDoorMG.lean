/- Texts as one: Ref8, Ref8b. -/
import Derived.Test.YtgkkbeomhkggjaaDoorSlab2
import Derived.Test.YtgkkbeomhkggjaaDoorME
import Derived.Test.YtgkkbeomhkggjaaDoorMC
set_option linter.unusedVariables false
set_option linter.unusedSimpArgs false
namespace Go.Proofs.YtgkkbeomhkggjaaDoor
open Go Go.RowKit
theorem kfref8_1 : callB Tryd.prog 83 = true := by kernel_rfl
theorem kfref8_2 : callB Tryd.prog 84 = true := by kernel_rfl
theorem kfref8_3 : (Tryd.prog.info? 27).bind (fun i => i.zero.map Value.cells) = some (List.toArray [(.int .i64 0), (.int .i64 0), (.slice none 0 0)]) := by kernel_rfl
theorem kfref8_4 : szB Tryd.prog 27 3 = true := by kernel_rfl
theorem kfref8_5 : aggB Tryd.prog 27 3 = true := by kernel_rfl
theorem kfref8_6 : callB Tryd.prog 26 = true := by kernel_rfl
theorem kfref8_7 : fldB Tryd.prog 27 2 2 = true := by kernel_rfl
theorem kfref8_8 : oneB Tryd.prog 22 = true := by kernel_rfl
theorem kfref8_9 : (Tryd.prog.info? 2).map (fun i => (i.size, i.zero.map Value.cells)) = some (1, some (List.toArray [(.int .i64 0)])) := by kernel_rfl
theorem kfref8_10 : (Tryd.prog.info? 2).map (fun i => (i.zero.map (·.cells.toList), i.size, i.bytes)) = some (some [(.int .i64 0)], 1, 8) := by kernel_rfl
theorem kfref8_11 : szB Tryd.prog 22 1 = true := by kernel_rfl
theorem kfref8_12 : elB Tryd.prog 22 1 = true := by kernel_rfl
theorem kfref8_13 : oneB Tryd.prog 2 = true := by kernel_rfl
theorem kfref8_17 : szB Tryd.prog 2 1 = true := by kernel_rfl
theorem kfref8_21 : fldB Tryd.prog 24 0 0 = true := by kernel_rfl
theorem kfref8_22 : fldB Tryd.prog 27 0 0 = true := by kernel_rfl
theorem kfref8_23 : fldB Tryd.prog 24 1 1 = true := by kernel_rfl
theorem kfref8_24 : fldB Tryd.prog 27 1 1 = true := by kernel_rfl
theorem rep_push {i : Nat} {v : Int} : vi .i64 (List.replicate i v) ++ [.int .i64 v] = vi .i64 (List.replicate (i + 1) v) := by
  unfold vi
  rw [List.replicate_succ', List.map_append]; rfl
theorem take_eq_of {zs ys : List Int} {n : Nat} (h1 : zs.length = n) (h2 : ys.length = n) (h : ∀ j, j < n → nth zs j = nth ys j) : zs = ys := nth_ext (by omega) fun j hj => h j (by omega)
def newC (a h v : Int) : Int := if 1 ≤ a ∧ a ≤ 16 ∧ 1 ≤ h ∧ h ≤ 16 then (if B32 v then 0 else 7) else 3
theorem newC_ok {a h : Nat} {v : Int} (p : sizeP a h) (hv : B32 v) : newC a h v = 0 := by
  obtain ⟨h1, h2, h3, h4⟩ := p
  unfold newC; rw [if_pos (by omega), if_pos hv]
theorem newC_zero {a h v : Int} (hc : newC a h v = 0) : ∃ p q : Nat, a = p ∧ h = q ∧ sizeP p q ∧ B32 v := by
  unfold newC at hc
  split at hc
  · rename_i hs
    split at hc
    · rename_i hv
      exact ⟨a.toNat, h.toNat, by omega, by omega, ⟨by omega, by omega, by omega, by omega⟩, hv⟩
    · cases hc
  · cases hc
theorem newC_sz {a h v : Int} (hs : ¬ (1 ≤ a ∧ a ≤ 16 ∧ 1 ≤ h ∧ h ≤ 16)) : newC a h v = 3 := by unfold newC; rw [if_neg hs]
theorem newC_v {a h v : Int} (hs : 1 ≤ a ∧ a ≤ 16 ∧ 1 ≤ h ∧ h ≤ 16) (hv : ¬ B32 v) : newC a h v = 7 := by unfold newC; rw [if_pos hs, if_neg hv]

set_option maxRecDepth 100000 in
theorem slabNew_sz (a h v : Int) (w : World) (hs : ¬ (1 ≤ a ∧ a ≤ 16 ∧ 1 ≤ h ∧ h ≤ 16)) :
    Ret Tryd.prog 51 [.int .i64 a, .int .i64 h, .int .i64 v] w (fun z w' => z = .tuple #[.pointer none, .int .i64 (newC a h v)] ∧ Below w.heap.size w w') := by
  refine ret_enter Tryd.func51 rfl rfl rfl ?_
  have H0 := HS.start w
  refine cw_seq ?_
  refine cw_reg ?_
  refine ry (y_asg rfl rfl) rfl rfl ?_
  refine ry (y_asg rfl rfl) rfl rfl ?_
  refine reg_nil ?_
  refine fn_next ?_
  refine cw_seq ?_
  refine cw_block ?_
  refine cw_seq ?_
  refine cw_reg ?_
  refine ry (y_mov rfl rfl) rfl rfl ?_
  refine ry (y_lss rfl rfl rfl) rfl rfl ?_
  refine ry (y_mov rfl rfl) rfl rfl ?_
  refine rg_splitd (d := 11) rfl (fun h1 => ?_) (fun h1 => ?_)
  · skip
    refine rg_off rfl rfl rfl rfl rfl ?_
    refine rg_off rfl rfl rfl rfl rfl ?_
    refine ry (y_pick rfl rfl rfl) rfl rfl ?_
    refine ry (y_mov rfl rfl) rfl rfl ?_
    refine rg_off rfl rfl rfl rfl rfl ?_
    refine rg_off rfl rfl rfl rfl rfl ?_
    refine ry (y_pick rfl rfl rfl) rfl rfl ?_
    refine ry (y_mov rfl rfl) rfl rfl ?_
    refine rg_off rfl rfl rfl rfl rfl ?_
    refine rg_off rfl rfl rfl rfl rfl ?_
    refine ry (y_pick rfl rfl rfl) rfl rfl ?_
    refine ry (y_mov rfl rfl) rfl rfl ?_
    refine rg_off rfl rfl rfl rfl rfl ?_
    refine rg_off rfl rfl rfl rfl rfl ?_
    refine rg_off rfl rfl rfl rfl rfl ?_
    refine rg_off rfl rfl rfl rfl rfl ?_
    refine ry (y_pick rfl rfl rfl) rfl rfl ?_
    refine ry (y_asg rfl rfl) rfl rfl ?_
    refine reg_nil ?_
    refine fn_next ?_
    refine cw_condt rfl ?_
    refine cw_seq ?_
    refine cw_reg ?_
    refine ry (y_asg rfl rfl) rfl rfl ?_
    refine ry (y_asg rfl rfl) rfl rfl ?_
    refine reg_nil ?_
    refine fn_next ?_
    refine cw_ret ?_
    refine fn_block_ret (fn_then_ret ?_)
    refine fn_retn (vs := [_, _]) rfl ⟨rfl, rfl, trivial⟩ rfl ?_
    rw [newC_sz hs]
    exact ⟨rfl, H0.base⟩
  · skip
    refine rgy (y_mov rfl rfl) rfl rfl rfl rfl ?_
    refine rgy (y_gtr rfl rfl rfl) rfl rfl rfl rfl ?_
    refine ry (y_pick rfl rfl rfl) rfl rfl ?_
    refine ry (y_mov rfl rfl) rfl rfl ?_
    refine rg_splitd (d := 15) rfl (fun h2 => ?_) (fun h2 => ?_)
    · skip
      refine rg_off rfl rfl rfl rfl rfl ?_
      refine rg_off rfl rfl rfl rfl rfl ?_
      refine ry (y_pick rfl rfl rfl) rfl rfl ?_
      refine ry (y_mov rfl rfl) rfl rfl ?_
      refine rg_off rfl rfl rfl rfl rfl ?_
      refine rg_off rfl rfl rfl rfl rfl ?_
      refine ry (y_pick rfl rfl rfl) rfl rfl ?_
      refine ry (y_mov rfl rfl) rfl rfl ?_
      refine rg_off rfl rfl rfl rfl rfl ?_
      refine rg_off rfl rfl rfl rfl rfl ?_
      refine rg_off rfl rfl rfl rfl rfl ?_
      refine rg_off rfl rfl rfl rfl rfl ?_
      refine ry (y_pick rfl rfl rfl) rfl rfl ?_
      refine ry (y_asg rfl rfl) rfl rfl ?_
      refine reg_nil ?_
      refine fn_next ?_
      refine cw_condt rfl ?_
      refine cw_seq ?_
      refine cw_reg ?_
      refine ry (y_asg rfl rfl) rfl rfl ?_
      refine ry (y_asg rfl rfl) rfl rfl ?_
      refine reg_nil ?_
      refine fn_next ?_
      refine cw_ret ?_
      refine fn_block_ret (fn_then_ret ?_)
      refine fn_retn (vs := [_, _]) rfl ⟨rfl, rfl, trivial⟩ rfl ?_
      rw [newC_sz hs]
      exact ⟨rfl, H0.base⟩
    · skip
      refine rgy (y_mov rfl rfl) rfl rfl rfl rfl ?_
      refine rgy (y_lss rfl rfl rfl) rfl rfl rfl rfl ?_
      refine ry (y_pick rfl rfl rfl) rfl rfl ?_
      refine ry (y_mov rfl rfl) rfl rfl ?_
      refine rg_splitd (d := 19) rfl (fun h3 => ?_) (fun h3 => ?_)
      · skip
        refine rg_off rfl rfl rfl rfl rfl ?_
        refine rg_off rfl rfl rfl rfl rfl ?_
        refine ry (y_pick rfl rfl rfl) rfl rfl ?_
        refine ry (y_mov rfl rfl) rfl rfl ?_
        refine rg_off rfl rfl rfl rfl rfl ?_
        refine rg_off rfl rfl rfl rfl rfl ?_
        refine rg_off rfl rfl rfl rfl rfl ?_
        refine rg_off rfl rfl rfl rfl rfl ?_
        refine ry (y_pick rfl rfl rfl) rfl rfl ?_
        refine ry (y_asg rfl rfl) rfl rfl ?_
        refine reg_nil ?_
        refine fn_next ?_
        refine cw_condt rfl ?_
        refine cw_seq ?_
        refine cw_reg ?_
        refine ry (y_asg rfl rfl) rfl rfl ?_
        refine ry (y_asg rfl rfl) rfl rfl ?_
        refine reg_nil ?_
        refine fn_next ?_
        refine cw_ret ?_
        refine fn_block_ret (fn_then_ret ?_)
        refine fn_retn (vs := [_, _]) rfl ⟨rfl, rfl, trivial⟩ rfl ?_
        rw [newC_sz hs]
        exact ⟨rfl, H0.base⟩
      · skip
        refine rgy (y_mov rfl rfl) rfl rfl rfl rfl ?_
        refine rgy (y_gtr rfl rfl rfl) rfl rfl rfl rfl ?_
        refine ry (y_pick rfl rfl rfl) rfl rfl ?_
        refine ry (y_mov rfl rfl) rfl rfl ?_
        refine rg_splitd (d := 23) rfl (fun h4 => ?_) (fun h4 => ?_)
        · skip
          refine rg_off rfl rfl rfl rfl rfl ?_
          refine rg_off rfl rfl rfl rfl rfl ?_
          refine rg_off rfl rfl rfl rfl rfl ?_
          refine rg_off rfl rfl rfl rfl rfl ?_
          refine ry (y_pick rfl rfl rfl) rfl rfl ?_
          refine ry (y_asg rfl rfl) rfl rfl ?_
          refine reg_nil ?_
          refine fn_next ?_
          refine cw_condt rfl ?_
          refine cw_seq ?_
          refine cw_reg ?_
          refine ry (y_asg rfl rfl) rfl rfl ?_
          refine ry (y_asg rfl rfl) rfl rfl ?_
          refine reg_nil ?_
          refine fn_next ?_
          refine cw_ret ?_
          refine fn_block_ret (fn_then_ret ?_)
          refine fn_retn (vs := [_, _]) rfl ⟨rfl, rfl, trivial⟩ rfl ?_
          rw [newC_sz hs]
          exact ⟨rfl, H0.base⟩
        · skip
          refine rgy (y_mov rfl rfl) rfl rfl rfl rfl ?_
          refine rgy (y_mov rfl rfl) rfl rfl rfl rfl ?_
          refine rg_on rfl rfl rfl (op_call (tileRight_any a h _) rfl kfref8_1 ⟨rfl, rfl, trivial⟩) rfl ?_
          rintro _ w6 ⟨rfl, e5⟩
          have H7 := H0.ext e5
          refine rgy (y_notd rfl rfl) rfl rfl rfl rfl ?_
          refine ry (y_pick rfl rfl rfl) rfl rfl ?_
          refine ry (y_asg rfl rfl) rfl rfl ?_
          refine reg_nil ?_
          refine fn_next ?_
          refine cw_condd rfl (fun h8 => ?_) (fun h8 => ?_)
          · skip
            refine cw_seq ?_
            refine cw_reg ?_
            refine ry (y_asg rfl rfl) rfl rfl ?_
            refine ry (y_asg rfl rfl) rfl rfl ?_
            refine reg_nil ?_
            refine fn_next ?_
            refine cw_ret ?_
            refine fn_block_ret (fn_then_ret ?_)
            refine fn_retn (vs := [_, _]) rfl ⟨rfl, rfl, trivial⟩ rfl ?_
            rw [newC_sz hs]
            exact ⟨rfl, H7.base⟩
          · exfalso; omega

set_option maxRecDepth 100000 in
theorem slabNew_v (a h v : Int) (w : World) (hs : 1 ≤ a ∧ a ≤ 16 ∧ 1 ≤ h ∧ h ≤ 16) (hv : ¬ B32 v) :
    Ret Tryd.prog 51 [.int .i64 a, .int .i64 h, .int .i64 v] w (fun z w' => z = .tuple #[.pointer none, .int .i64 (newC a h v)] ∧ Below w.heap.size w w') := by
  refine ret_enter Tryd.func51 rfl rfl rfl ?_
  have H0 := HS.start w
  refine cw_seq ?_
  refine cw_reg ?_
  refine ry (y_asg rfl rfl) rfl rfl ?_
  refine ry (y_asg rfl rfl) rfl rfl ?_
  refine reg_nil ?_
  refine fn_next ?_
  refine cw_seq ?_
  refine cw_block ?_
  refine cw_seq ?_
  refine cw_reg ?_
  refine ry (y_mov rfl rfl) rfl rfl ?_
  refine ry (y_lss rfl rfl rfl) rfl rfl ?_
  refine ry (y_mov rfl rfl) rfl rfl ?_
  refine rg_splitd (d := 11) rfl (fun h1 => ?_) (fun h1 => ?_)
  · exfalso; omega
  · skip
    refine rgy (y_mov rfl rfl) rfl rfl rfl rfl ?_
    refine rgy (y_gtr rfl rfl rfl) rfl rfl rfl rfl ?_
    refine ry (y_pick rfl rfl rfl) rfl rfl ?_
    refine ry (y_mov rfl rfl) rfl rfl ?_
    refine rg_splitd (d := 15) rfl (fun h2 => ?_) (fun h2 => ?_)
    · exfalso; omega
    · skip
      refine rgy (y_mov rfl rfl) rfl rfl rfl rfl ?_
      refine rgy (y_lss rfl rfl rfl) rfl rfl rfl rfl ?_
      refine ry (y_pick rfl rfl rfl) rfl rfl ?_
      refine ry (y_mov rfl rfl) rfl rfl ?_
      refine rg_splitd (d := 19) rfl (fun h3 => ?_) (fun h3 => ?_)
      · exfalso; omega
      · skip
        refine rgy (y_mov rfl rfl) rfl rfl rfl rfl ?_
        refine rgy (y_gtr rfl rfl rfl) rfl rfl rfl rfl ?_
        refine ry (y_pick rfl rfl rfl) rfl rfl ?_
        refine ry (y_mov rfl rfl) rfl rfl ?_
        refine rg_splitd (d := 23) rfl (fun h4 => ?_) (fun h4 => ?_)
        · exfalso; omega
        · skip
          refine rgy (y_mov rfl rfl) rfl rfl rfl rfl ?_
          refine rgy (y_mov rfl rfl) rfl rfl rfl rfl ?_
          refine rg_on rfl rfl rfl (op_call (tileRight_any a h _) rfl kfref8_1 ⟨rfl, rfl, trivial⟩) rfl ?_
          rintro _ w6 ⟨rfl, e5⟩
          have H7 := H0.ext e5
          refine rgy (y_notd rfl rfl) rfl rfl rfl rfl ?_
          refine ry (y_pick rfl rfl rfl) rfl rfl ?_
          refine ry (y_asg rfl rfl) rfl rfl ?_
          refine reg_nil ?_
          refine fn_next ?_
          refine cw_condd rfl (fun h8 => ?_) (fun h8 => ?_)
          · exfalso; omega
          · skip
            refine cw_seq ?_
            refine cw_reg ?_
            refine ry (y_mov rfl rfl) rfl rfl ?_
            refine reg_op (op_call (slabMay_any v _) rfl kfref8_2 ⟨rfl, trivial⟩) rfl rfl ?_
            rintro _ w10 ⟨rfl, e9⟩
            have H11 := H7.ext e9
            refine ry (y_notd rfl rfl) rfl rfl ?_
            refine ry (y_asg rfl rfl) rfl rfl ?_
            refine reg_nil ?_
            refine fn_next ?_
            refine cw_condd rfl (fun h12 => ?_) (fun h12 => ?_)
            · skip
              refine cw_seq ?_
              refine cw_reg ?_
              refine ry (y_asg rfl rfl) rfl rfl ?_
              refine ry (y_asg rfl rfl) rfl rfl ?_
              refine reg_nil ?_
              refine fn_next ?_
              refine cw_ret ?_
              refine fn_block_ret (fn_then_ret ?_)
              refine fn_retn (vs := [_, _]) rfl ⟨rfl, rfl, trivial⟩ rfl ?_
              rw [newC_v hs hv]
              exact ⟨rfl, H11.base⟩
            · exact absurd (Classical.not_not.1 h12) hv

set_option maxRecDepth 100000 in
theorem refMay_any (v : Int) (w : World) :
    Ret Tryd.prog 26 [.int .i64 v] w (fun u w' => u = .bool (decide (B32 v)) ∧ Below w.heap.size w w') := by
  refine ret_enter Tryd.func26 rfl rfl rfl ?_
  have H0 := HS.start w
  refine cw_seq ?_
  refine cw_reg ?_
  refine ry (y_asg rfl rfl) rfl rfl ?_
  refine reg_nil ?_
  refine fn_next ?_
  refine cw_seq ?_
  refine cw_reg ?_
  refine ry (y_mov rfl rfl) rfl rfl ?_
  refine ry (y_geq rfl rfl rfl) rfl rfl ?_
  refine ry (y_mov rfl rfl) rfl rfl ?_
  refine rg_splitd (d := 5) rfl (fun h1 => ?_) (fun h1 => ?_)
  · skip
    refine rgy (y_mov rfl rfl) rfl rfl rfl rfl ?_
    refine rgy (y_leq rfl rfl rfl) rfl rfl rfl rfl ?_
    refine ry (y_pick rfl rfl rfl) rfl rfl ?_
    refine ry (y_asg rfl rfl) rfl rfl ?_
    refine reg_nil ?_
    refine fn_next ?_
    refine cw_ret ?_
    refine fn_ret1 rfl rfl ?_
    refine ⟨?_, H0.base⟩
    first | exact bdec (by unfold B32; omega) | exact bfls (by unfold B32; omega)
  · skip
    refine rg_off rfl rfl rfl rfl rfl ?_
    refine rg_off rfl rfl rfl rfl rfl ?_
    refine ry (y_pick rfl rfl rfl) rfl rfl ?_
    refine ry (y_asg rfl rfl) rfl rfl ?_
    refine reg_nil ?_
    refine fn_next ?_
    refine cw_ret ?_
    refine fn_ret1 rfl rfl ?_
    refine ⟨?_, H0.base⟩
    first | exact bdec (by unfold B32; omega) | exact bfls (by unfold B32; omega)

theorem slabNew_no (a h v : Int) (w : World) (hc : ¬ newC a h v = 0) : Ret Tryd.prog 51 [.int .i64 a, .int .i64 h, .int .i64 v] w (fun z w' => z = .tuple #[.pointer none, .int .i64 (newC a h v)] ∧ Below w.heap.size w w') := by
  by_cases hs : 1 ≤ a ∧ a ≤ 16 ∧ 1 ≤ h ∧ h ≤ 16
  · exact slabNew_v a h v w hs fun hv => hc (by unfold newC; rw [if_pos hs, if_pos hv])
  · exact slabNew_sz a h v w hs
set_option maxRecDepth 100000 in
theorem refSame_any (A : Option Addr) (n cap : Nat) (zs : List Int) (A2 : Option Addr) (m cap2 : Nat) (ys : List Int) (w : World) (h1 : Rd w A (vi .i64 zs)) (hl1 : zs.length = n) (h2 : Rd w A2 (vi .i64 ys)) (hl2 : ys.length = m) (hn : n ≤ 4000000) :
    Ret Tryd.prog 42 [.slice A n cap, .slice A2 m cap2] w (fun z w' => z = .bool (decide (zs = ys)) ∧ Below w.heap.size w w') := by
  refine ret_enter Tryd.func42 rfl rfl rfl ?_
  have H0 := HS.start w
  refine cw_seq ?_
  refine cw_reg ?_
  refine ry (y_asg rfl rfl) rfl rfl ?_
  refine reg_nil ?_
  refine fn_next ?_
  refine cw_seq ?_
  refine cw_seq ?_
  refine cw_reg ?_
  refine ry (y_mov rfl rfl) rfl rfl ?_
  refine ry (y_len rfl Tryd.underlying22 rfl) rfl rfl ?_
  refine ry (y_mov rfl rfl) rfl rfl ?_
  refine ry (y_len rfl Tryd.underlying22 rfl) rfl rfl ?_
  refine ry (y_neq rfl rfl rfl) rfl rfl ?_
  refine reg_nil ?_
  refine fn_next ?_
  refine cw_condd rfl (fun hd => ?_) (fun hd => ?_)
  · skip
    refine cw_seq ?_
    refine cw_reg ?_
    refine ry (y_asg rfl rfl) rfl rfl ?_
    refine reg_nil ?_
    refine fn_next ?_
    refine cw_ret ?_
    refine fn_then_ret ?_
    refine fn_ret1 rfl rfl ?_
    rw [decide_eq_false (fun e => hd (by subst e; omega))]
    exact ⟨rfl, H0.base⟩
  · skip
    refine cw_skip ?_
    refine fn_next ?_
    refine cw_seq ?_
    refine cw_seq ?_
    refine cw_reg ?_
    refine ry (y_asg rfl rfl) rfl rfl ?_
    refine reg_nil ?_
    refine fn_next ?_
    refine cw_block ?_
    refine cw_loopJ [4, 5, 11, 12, 13, 14, 15, 16, 17, 18, 19, 20, 21, 22, 23, 24, 25] (fun M wl ml => ∃ (i : Nat), M = [(5, .int .i64 (i : Int))] ∧ HS w wl [] ∧ (i ≤ n) ∧ (Hid (∀ j, j < i → nth zs j = nth ys j)) ∧ ml = n - i) ⟨0, rfl, H0, Nat.zero_le _, Lib.hid (fun j hj => absurd hj (Nat.not_lt_zero _)), rfl⟩ ⟨rfl, trivial⟩ ?_
    rintro M w2 m4 ⟨i, rfl, H3, hp0, hp1, rfl⟩
    refine cw_seq ?_
    refine cw_seq ?_
    refine cw_reg ?_
    refine ry (y_mov rfl rfl) rfl rfl ?_
    refine ry (y_mov rfl rfl) rfl rfl ?_
    refine ry (y_len rfl Tryd.underlying22 rfl) rfl rfl ?_
    refine ry (y_lss rfl rfl rfl) rfl rfl ?_
    refine reg_nil ?_
    refine fn_next ?_
    refine cw_condd rfl (fun h5 => ?_) (fun h5 => ?_)
    · skip
      have hmn : m = n := by omega
      have hg1 := vi_get (k := .i64) (zs := zs) (i := i) (by omega)
      have hg2 := vi_get (k := .i64) (zs := ys) (i := i) (by omega)
      refine cw_skip ?_
      refine fn_next ?_
      refine cw_seq ?_
      refine cw_block ?_
      refine cw_seq ?_
      refine cw_draw H3 [0, 1, 2, 3, 4, 5, 6, 7, 8] [] (fun X HX => HX) (by kernel_rfl) (by kernel_rfl) (by rfl) ?_
      simp only [pick, List.getElem?_cons_succ, List.getElem?_cons_zero]
      refine hk_y (fun Y HY => y_mov rfl rfl) rfl rfl ?_
      refine hk_y (fun Y HY => y_mov rfl rfl) rfl rfl ?_
      refine hk_y (fun Y HY => y_iar (h1.below HY.base) rfl rfl rfl kfref8_12 (rfl) (by omega) (Nat.mul_one _) (hg1)) rfl rfl ?_
      refine hk_y (fun Y HY => y_ldr (h1.below HY.base) rfl rfl kfref8_13 (hg1)) rfl rfl ?_
      refine hk_y (fun Y HY => y_mov rfl rfl) rfl rfl ?_
      refine hk_y (fun Y HY => y_mov rfl rfl) rfl rfl ?_
      refine hk_y (fun Y HY => y_iar (h2.below HY.base) rfl rfl rfl kfref8_12 (rfl) (by omega) (Nat.mul_one _) (hg2)) rfl rfl ?_
      refine hk_y (fun Y HY => y_ldr (h2.below HY.base) rfl rfl kfref8_13 (hg2)) rfl rfl ?_
      refine hk_y (fun Y HY => y_neq rfl rfl rfl) rfl rfl ?_
      refine hk_nil ?_
      intro w6 H7
      refine tv_nil ?_
      refine fn_next ?_
      refine cw_condd rfl (fun hne => ?_) (fun hne => ?_)
      · skip
        refine cw_seq ?_
        refine cw_reg ?_
        refine ry (y_asg rfl rfl) rfl rfl ?_
        refine reg_nil ?_
        refine fn_next ?_
        refine cw_ret ?_
        refine fn_block_ret (fn_then_ret (fn_then_ret (fn_block_ret (fn_then_ret ?_))))
        refine fn_ret1 rfl rfl ?_
        rw [decide_eq_false (fun e => hne (by rw [e]))]
        exact ⟨rfl, H7.base⟩
      · skip
        refine cw_skip ?_
        refine fn_block ?_
        refine fn_next ?_
        refine cw_reg ?_
        refine ry (y_mov rfl rfl) rfl rfl ?_
        refine ry (y_add rfl rfl rfl (wi (by omega))) rfl rfl ?_
        refine ry (y_asg rfl rfl) rfl rfl ?_
        refine reg_nil ?_
        refine fn_roundJ ⟨i + 1, rfl, H7, by omega, Lib.hid (fun j hj => (Nat.lt_or_eq_of_le (Nat.le_of_lt_succ hj)).elim (hp1.out j) (fun e => e ▸ Classical.not_not.1 hne)), rfl⟩ ⟨rfl, trivial⟩ (by omega) (by repeat (first | exact kp_refl | refine kp_app rfl rfl ?_ | refine kp_cons rfl ?_)) rfl
    · skip
      obtain rfl : i = n := by omega
      refine cw_exit ?_
      refine fn_then_exit (fn_then_exit (fn_block_exit ?_))
      refine fn_next ?_
      refine cw_seq ?_
      refine cw_reg ?_
      refine ry (y_asg rfl rfl) rfl rfl ?_
      refine reg_nil ?_
      refine fn_next ?_
      refine cw_ret ?_
      refine fn_ret1 rfl rfl ?_
      rw [decide_eq_true (take_eq_of hl1 (by omega) hp1.out)]
      exact ⟨rfl, H3.base⟩

set_option maxRecDepth 100000 in
theorem refAt_no (a h : Nat) (A : Option Addr) (cap : Nat) (x y : Int) (V : List Int) (w : World) (p : sizeP a h) (hw : ¬ atC a h x y = 0) :
    Ret Tryd.prog 32 [.agg #[.int .i64 (a : Int), .int .i64 (h : Int), .slice A (a * h) cap], .agg #[.int .i64 x, .int .i64 y]] w (fun z w' => z = .tuple #[.int .i64 (atV V a h x y), .int .i64 (atC a h x y)] ∧ Below w.heap.size w w') := by
  have hc : atC a h x y = 4 := by obtain ⟨s1, s2, s3, s4⟩ := p; unfold atC withinC at hw ⊢; simp only [insideB_not] at hw ⊢; rw [if_neg (by unfold wrap64; omega)] at hw ⊢; split <;> rename_i hq; rfl; rw [if_neg hq, if_neg (by omega)] at hw; exact absurd rfl hw
  have hz : 0 ≤ x ∧ x < a ∧ 0 ≤ y ∧ y < h → atC a h x y = 0 := fun hz => by exfalso; obtain ⟨s1, s2, s3, s4⟩ := p; unfold atC withinC at hw; simp only [insideB_not] at hw; rw [if_neg (by unfold wrap64; omega), if_neg (by omega), if_neg (by omega)] at hw; exact hw rfl
  refine ret_enter Tryd.func32 rfl rfl rfl ?_
  have H0 := HS.start w
  refine cw_seq ?_
  refine cw_reg ?_
  refine reg_op (op_box (cs := [.int _ _, .int _ _, .slice _ _ _]) H0 rfl rfl rfl) rfl rfl ?_
  rintro _ w2 ⟨b1, rfl, H3⟩
  refine reg_op (op_box (cs := [.int _ _, .int _ _]) H3 rfl rfl rfl) rfl rfl ?_
  rintro _ w5 ⟨b4, rfl, H6⟩
  refine ry (y_asg rfl rfl) rfl rfl ?_
  refine ry (y_asg rfl rfl) rfl rfl ?_
  refine reg_nil ?_
  refine fn_next ?_
  refine cw_seq ?_
  refine cw_seq ?_
  refine cw_reg ?_
  refine ry (y_fa rfl rfl kfref8_21 rfl) rfl rfl ?_
  refine ry (y_ld rfl rfl kfref8_13 (H6.cell (i := 0) rfl rfl)) rfl rfl ?_
  refine ry (y_lss rfl rfl rfl) rfl rfl ?_
  refine ry (y_mov rfl rfl) rfl rfl ?_
  refine rg_splitd (d := 9) rfl (fun h7 => ?_) (fun h7 => ?_)
  · skip
    refine rg_off rfl rfl rfl rfl rfl ?_
    refine rg_off rfl rfl rfl rfl rfl ?_
    refine rg_off rfl rfl rfl rfl rfl ?_
    refine rg_off rfl rfl rfl rfl rfl ?_
    refine rg_off rfl rfl rfl rfl rfl ?_
    refine ry (y_pick rfl rfl rfl) rfl rfl ?_
    refine ry (y_mov rfl rfl) rfl rfl ?_
    refine rg_off rfl rfl rfl rfl rfl ?_
    refine rg_off rfl rfl rfl rfl rfl ?_
    refine rg_off rfl rfl rfl rfl rfl ?_
    refine ry (y_pick rfl rfl rfl) rfl rfl ?_
    refine ry (y_mov rfl rfl) rfl rfl ?_
    refine rg_off rfl rfl rfl rfl rfl ?_
    refine rg_off rfl rfl rfl rfl rfl ?_
    refine rg_off rfl rfl rfl rfl rfl ?_
    refine rg_off rfl rfl rfl rfl rfl ?_
    refine rg_off rfl rfl rfl rfl rfl ?_
    refine ry (y_pick rfl rfl rfl) rfl rfl ?_
    refine reg_nil ?_
    refine fn_next ?_
    refine cw_condt rfl ?_
    refine cw_seq ?_
    refine cw_reg ?_
    refine ry (y_asg rfl rfl) rfl rfl ?_
    refine ry (y_asg rfl rfl) rfl rfl ?_
    refine reg_nil ?_
    refine fn_next ?_
    refine cw_ret ?_
    refine fn_then_ret ?_
    refine fn_retn (vs := [_, _]) rfl ⟨rfl, rfl, trivial⟩ rfl ?_
    rw [atV_no hw]
    exact ⟨by rw [hc], H6.base⟩
  · skip
    refine rgy (y_fa rfl rfl kfref8_21 rfl) rfl rfl rfl rfl ?_
    refine rgy (y_ld rfl rfl kfref8_13 (H6.cell (i := 0) rfl rfl)) rfl rfl rfl rfl ?_
    refine rgy (y_fa rfl rfl kfref8_22 rfl) rfl rfl rfl rfl ?_
    refine rgy (y_ld rfl rfl kfref8_13 (H6.cell (i := 1) rfl rfl)) rfl rfl rfl rfl ?_
    refine rgy (y_geq rfl rfl rfl) rfl rfl rfl rfl ?_
    refine ry (y_pick rfl rfl rfl) rfl rfl ?_
    refine ry (y_mov rfl rfl) rfl rfl ?_
    refine rg_splitd (d := 16) rfl (fun h8 => ?_) (fun h8 => ?_)
    · skip
      refine rg_off rfl rfl rfl rfl rfl ?_
      refine rg_off rfl rfl rfl rfl rfl ?_
      refine rg_off rfl rfl rfl rfl rfl ?_
      refine ry (y_pick rfl rfl rfl) rfl rfl ?_
      refine ry (y_mov rfl rfl) rfl rfl ?_
      refine rg_off rfl rfl rfl rfl rfl ?_
      refine rg_off rfl rfl rfl rfl rfl ?_
      refine rg_off rfl rfl rfl rfl rfl ?_
      refine rg_off rfl rfl rfl rfl rfl ?_
      refine rg_off rfl rfl rfl rfl rfl ?_
      refine ry (y_pick rfl rfl rfl) rfl rfl ?_
      refine reg_nil ?_
      refine fn_next ?_
      refine cw_condt rfl ?_
      refine cw_seq ?_
      refine cw_reg ?_
      refine ry (y_asg rfl rfl) rfl rfl ?_
      refine ry (y_asg rfl rfl) rfl rfl ?_
      refine reg_nil ?_
      refine fn_next ?_
      refine cw_ret ?_
      refine fn_then_ret ?_
      refine fn_retn (vs := [_, _]) rfl ⟨rfl, rfl, trivial⟩ rfl ?_
      rw [atV_no hw]
      exact ⟨by rw [hc], H6.base⟩
    · skip
      refine rgy (y_fa rfl rfl kfref8_23 rfl) rfl rfl rfl rfl ?_
      refine rgy (y_ld rfl rfl kfref8_13 (H6.cell (i := 0) rfl rfl)) rfl rfl rfl rfl ?_
      refine rgy (y_lss rfl rfl rfl) rfl rfl rfl rfl ?_
      refine ry (y_pick rfl rfl rfl) rfl rfl ?_
      refine ry (y_mov rfl rfl) rfl rfl ?_
      refine rg_splitd (d := 21) rfl (fun h9 => ?_) (fun h9 => ?_)
      · skip
        refine rg_off rfl rfl rfl rfl rfl ?_
        refine rg_off rfl rfl rfl rfl rfl ?_
        refine rg_off rfl rfl rfl rfl rfl ?_
        refine rg_off rfl rfl rfl rfl rfl ?_
        refine rg_off rfl rfl rfl rfl rfl ?_
        refine ry (y_pick rfl rfl rfl) rfl rfl ?_
        refine reg_nil ?_
        refine fn_next ?_
        refine cw_condt rfl ?_
        refine cw_seq ?_
        refine cw_reg ?_
        refine ry (y_asg rfl rfl) rfl rfl ?_
        refine ry (y_asg rfl rfl) rfl rfl ?_
        refine reg_nil ?_
        refine fn_next ?_
        refine cw_ret ?_
        refine fn_then_ret ?_
        refine fn_retn (vs := [_, _]) rfl ⟨rfl, rfl, trivial⟩ rfl ?_
        rw [atV_no hw]
        exact ⟨by rw [hc], H6.base⟩
      · skip
        refine rgy (y_fa rfl rfl kfref8_23 rfl) rfl rfl rfl rfl ?_
        refine rgy (y_ld rfl rfl kfref8_13 (H6.cell (i := 0) rfl rfl)) rfl rfl rfl rfl ?_
        refine rgy (y_fa rfl rfl kfref8_24 rfl) rfl rfl rfl rfl ?_
        refine rgy (y_ld rfl rfl kfref8_13 (H6.cell (i := 1) rfl rfl)) rfl rfl rfl rfl ?_
        refine rgy (y_geq rfl rfl rfl) rfl rfl rfl rfl ?_
        refine ry (y_pick rfl rfl rfl) rfl rfl ?_
        refine reg_nil ?_
        refine fn_next ?_
        refine cw_condd rfl (fun h10 => ?_) (fun h10 => ?_)
        · skip
          refine cw_seq ?_
          refine cw_reg ?_
          refine ry (y_asg rfl rfl) rfl rfl ?_
          refine ry (y_asg rfl rfl) rfl rfl ?_
          refine reg_nil ?_
          refine fn_next ?_
          refine cw_ret ?_
          refine fn_then_ret ?_
          refine fn_retn (vs := [_, _]) rfl ⟨rfl, rfl, trivial⟩ rfl ?_
          rw [atV_no hw]
          exact ⟨by rw [hc], H6.base⟩
        · exact absurd (hz (by omega)) hw

set_option maxRecDepth 100000 in
theorem refAt_ok (a h : Nat) (A : Option Addr) (cap : Nat) (x y : Int) (V : List Int) (w : World) (p : sizeP a h) (hr : Rd w A (vi .i64 V)) (hl : V.length = a * h) (hw : atC a h x y = 0) :
    Ret Tryd.prog 32 [.agg #[.int .i64 (a : Int), .int .i64 (h : Int), .slice A (a * h) cap], .agg #[.int .i64 x, .int .i64 y]] w (fun z w' => z = .tuple #[.int .i64 (atV V a h x y), .int .i64 (atC a h x y)] ∧ Below w.heap.size w w') := by
  obtain ⟨x, y, rfl, rfl, hx, hy⟩ := at_nat p hw
  obtain ⟨e1, e2, e3⟩ := row_bd p hx hy
  have hgi := vi_get (k := .i64) (zs := V) (i := y * a + x) (by omega)
  refine ret_enter Tryd.func32 rfl rfl rfl ?_
  have H0 := HS.start w
  refine cw_seq ?_
  refine cw_reg ?_
  refine reg_op (op_box (cs := [.int _ _, .int _ _, .slice _ _ _]) H0 rfl rfl rfl) rfl rfl ?_
  rintro _ w2 ⟨b1, rfl, H3⟩
  refine reg_op (op_box (cs := [.int _ _, .int _ _]) H3 rfl rfl rfl) rfl rfl ?_
  rintro _ w5 ⟨b4, rfl, H6⟩
  refine ry (y_asg rfl rfl) rfl rfl ?_
  refine ry (y_asg rfl rfl) rfl rfl ?_
  refine reg_nil ?_
  refine fn_next ?_
  refine cw_seq ?_
  refine cw_seq ?_
  refine cw_reg ?_
  refine ry (y_fa rfl rfl kfref8_21 rfl) rfl rfl ?_
  refine ry (y_ld rfl rfl kfref8_13 (H6.cell (i := 0) rfl rfl)) rfl rfl ?_
  refine ry (y_lss rfl rfl rfl) rfl rfl ?_
  refine ry (y_mov rfl rfl) rfl rfl ?_
  refine rg_splitd (d := 9) rfl (fun h7 => ?_) (fun h7 => ?_)
  · exfalso; omega
  · skip
    refine rgy (y_fa rfl rfl kfref8_21 rfl) rfl rfl rfl rfl ?_
    refine rgy (y_ld rfl rfl kfref8_13 (H6.cell (i := 0) rfl rfl)) rfl rfl rfl rfl ?_
    refine rgy (y_fa rfl rfl kfref8_22 rfl) rfl rfl rfl rfl ?_
    refine rgy (y_ld rfl rfl kfref8_13 (H6.cell (i := 1) rfl rfl)) rfl rfl rfl rfl ?_
    refine rgy (y_geq rfl rfl rfl) rfl rfl rfl rfl ?_
    refine ry (y_pick rfl rfl rfl) rfl rfl ?_
    refine ry (y_mov rfl rfl) rfl rfl ?_
    refine rg_splitd (d := 16) rfl (fun h8 => ?_) (fun h8 => ?_)
    · exfalso; omega
    · skip
      refine rgy (y_fa rfl rfl kfref8_23 rfl) rfl rfl rfl rfl ?_
      refine rgy (y_ld rfl rfl kfref8_13 (H6.cell (i := 0) rfl rfl)) rfl rfl rfl rfl ?_
      refine rgy (y_lss rfl rfl rfl) rfl rfl rfl rfl ?_
      refine ry (y_pick rfl rfl rfl) rfl rfl ?_
      refine ry (y_mov rfl rfl) rfl rfl ?_
      refine rg_splitd (d := 21) rfl (fun h9 => ?_) (fun h9 => ?_)
      · exfalso; omega
      · skip
        refine rgy (y_fa rfl rfl kfref8_23 rfl) rfl rfl rfl rfl ?_
        refine rgy (y_ld rfl rfl kfref8_13 (H6.cell (i := 0) rfl rfl)) rfl rfl rfl rfl ?_
        refine rgy (y_fa rfl rfl kfref8_24 rfl) rfl rfl rfl rfl ?_
        refine rgy (y_ld rfl rfl kfref8_13 (H6.cell (i := 1) rfl rfl)) rfl rfl rfl rfl ?_
        refine rgy (y_geq rfl rfl rfl) rfl rfl rfl rfl ?_
        refine ry (y_pick rfl rfl rfl) rfl rfl ?_
        refine reg_nil ?_
        refine fn_next ?_
        refine cw_condd rfl (fun h10 => ?_) (fun h10 => ?_)
        · exfalso; omega
        · skip
          refine cw_skip ?_
          refine fn_next ?_
          refine cw_seq ?_
          refine cw_reg ?_
          refine ry (y_fa rfl rfl kfref8_7 rfl) rfl rfl ?_
          refine ry (y_ld rfl rfl kfref8_8 (H6.cell (i := 1) rfl rfl)) rfl rfl ?_
          refine ry (y_fa rfl rfl kfref8_23 rfl) rfl rfl ?_
          refine ry (y_ld rfl rfl kfref8_13 (H6.cell (i := 0) rfl rfl)) rfl rfl ?_
          refine ry (y_fa rfl rfl kfref8_22 rfl) rfl rfl ?_
          refine ry (y_ld rfl rfl kfref8_13 (H6.cell (i := 1) rfl rfl)) rfl rfl ?_
          refine ry (y_mul rfl rfl rfl (show _ = ((y * a : Nat) : Int) from by rw [e1]; exact wi (by omega))) rfl rfl ?_
          refine ry (y_fa rfl rfl kfref8_21 rfl) rfl rfl ?_
          refine ry (y_ld rfl rfl kfref8_13 (H6.cell (i := 0) rfl rfl)) rfl rfl ?_
          refine ry (y_add rfl rfl rfl (show _ = ((y * a + x : Nat) : Int) from by rw [← Int.natCast_add]; exact wi (by omega))) rfl rfl ?_
          refine ry (y_iar (hr.below H6.base) rfl rfl rfl kfref8_12 (rfl) (by omega) (Nat.mul_one _) (hgi)) rfl rfl ?_
          refine ry (y_ldr (hr.below H6.base) rfl rfl kfref8_13 (hgi)) rfl rfl ?_
          refine ry (y_asg rfl rfl) rfl rfl ?_
          refine ry (y_asg rfl rfl) rfl rfl ?_
          refine reg_nil ?_
          refine fn_next ?_
          refine cw_ret ?_
          refine fn_retn (vs := [_, _]) rfl ⟨rfl, rfl, trivial⟩ rfl ?_
          rw [atV_ok hw, hw]
          exact ⟨rfl, H6.base⟩

theorem refAt_any (a h : Nat) (A : Option Addr) (cap : Nat) (x y : Int) (V : List Int) (w : World) (p : sizeP a h) (hr : Rd w A (vi .i64 V)) (hl : V.length = a * h) : Ret Tryd.prog 32 [.agg #[.int .i64 (a : Int), .int .i64 (h : Int), .slice A (a * h) cap], .agg #[.int .i64 x, .int .i64 y]] w (fun z w' => z = .tuple #[.int .i64 (atV V a h x y), .int .i64 (atC a h x y)] ∧ Below w.heap.size w w') := by
  by_cases hw : atC a h x y = 0
  · exact refAt_ok a h A cap x y V w p hr hl hw
  · exact refAt_no a h A cap x y V w p hw

end Go.Proofs.YtgkkbeomhkggjaaDoor

namespace Go.Proofs.YtgkkbeomhkggjaaDoor
open Go Go.RowKit
theorem kfref8b_1 : (Tryd.prog.info? 27).bind (fun i => i.zero.map Value.cells) = some (List.toArray [(.int .i64 0), (.int .i64 0), (.slice none 0 0)]) := by kernel_rfl
theorem kfref8b_2 : aggB Tryd.prog 90 4 = true := by kernel_rfl
theorem kfref8b_3 : fldB Tryd.prog 27 0 0 = true := by kernel_rfl
theorem kfref8b_4 : oneB Tryd.prog 2 = true := by kernel_rfl
theorem kfref8b_5 : fldB Tryd.prog 27 1 1 = true := by kernel_rfl
theorem kfref8b_7 : aggB Tryd.prog 27 3 = true := by kernel_rfl
theorem kfref8b_8 : szB Tryd.prog 27 3 = true := by kernel_rfl
theorem kfref8b_9 : callB Tryd.prog 26 = true := by kernel_rfl
theorem kfref8b_10 : fldB Tryd.prog 27 2 2 = true := by kernel_rfl
theorem kfref8b_11 : oneB Tryd.prog 22 = true := by kernel_rfl
theorem kfref8b_12 : (Tryd.prog.info? 2).map (fun i => (i.size, i.zero.map Value.cells)) = some (1, some (List.toArray [(.int .i64 0)])) := by kernel_rfl
theorem kfref8b_13 : (Tryd.prog.info? 2).map (fun i => (i.zero.map (·.cells.toList), i.size, i.bytes)) = some (some [(.int .i64 0)], 1, 8) := by kernel_rfl
theorem kfref8b_14 : fldB Tryd.prog 90 1 1 = true := by kernel_rfl
theorem kfref8b_15 : fldB Tryd.prog 90 3 3 = true := by kernel_rfl
theorem kfref8b_16 : fldB Tryd.prog 90 0 0 = true := by kernel_rfl
theorem kfref8b_17 : fldB Tryd.prog 90 2 2 = true := by kernel_rfl
theorem kfref8b_18 : elB Tryd.prog 22 1 = true := by kernel_rfl
theorem kfref8b_19 : szB Tryd.prog 2 1 = true := by kernel_rfl

end Go.Proofs.YtgkkbeomhkggjaaDoor
