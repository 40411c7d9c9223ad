/- Layer 8: the reference. -/
import Derived.Test.YtkphmcaoioaglaaSlab2
import Derived.Test.YtkphmcaoioaglaaRef7
set_option linter.unusedVariables false
set_option linter.unusedSimpArgs false
namespace Go.Proofs.Ytkphmcaoioaglaa
open Go Go.RowKit
theorem kfref8_1 : callB Try.prog 82 = true := by kernel_rfl
theorem kfref8_2 : callB Try.prog 83 = true := by kernel_rfl
theorem kfref8_3 : (Try.prog.info? 34).bind (fun i => i.zero.map Value.cells) = some (List.toArray [(.int .i64 0), (.int .i64 0), (.slice none 0 0)]) := by kernel_rfl
theorem kfref8_4 : szB Try.prog 34 3 = true := by kernel_rfl
theorem kfref8_5 : aggB Try.prog 34 3 = true := by kernel_rfl
theorem kfref8_6 : callB Try.prog 32 = true := by kernel_rfl
theorem kfref8_7 : fldB Try.prog 34 2 2 = true := by kernel_rfl
theorem kfref8_8 : oneB Try.prog 32 = true := by kernel_rfl
theorem kfref8_9 : (Try.prog.info? 2).map (fun i => (i.size, i.zero.map Value.cells)) = some (1, some (List.toArray [(.int .i64 0)])) := by kernel_rfl
theorem kfref8_10 : (Try.prog.info? 2).map (fun i => (i.zero.map (·.cells.toList), i.size, i.bytes)) = some (some [(.int .i64 0)], 1, 8) := by kernel_rfl
theorem kfref8_11 : szB Try.prog 32 1 = true := by kernel_rfl
theorem kfref8_12 : elB Try.prog 32 1 = true := by kernel_rfl
theorem kfref8_13 : oneB Try.prog 2 = true := by kernel_rfl
theorem kfref8_14 : (Try.prog.info? 68).bind (fun i => i.zero.map Value.cells) = some (List.toArray [(.int .i64 0), (.int .i64 0)]) := by kernel_rfl
theorem kfref8_15 : szB Try.prog 68 2 = true := by kernel_rfl
theorem kfref8_16 : fldB Try.prog 68 0 0 = true := by kernel_rfl
theorem kfref8_17 : szB Try.prog 2 1 = true := by kernel_rfl
theorem kfref8_18 : fldB Try.prog 68 1 1 = true := by kernel_rfl
theorem kfref8_19 : aggB Try.prog 68 2 = true := by kernel_rfl
theorem kfref8_20 : callB Try.prog 38 = true := by kernel_rfl
theorem kfref8_21 : fldB Try.prog 26 0 0 = true := by kernel_rfl
theorem kfref8_22 : fldB Try.prog 34 0 0 = true := by kernel_rfl
theorem kfref8_23 : fldB Try.prog 26 1 1 = true := by kernel_rfl
theorem kfref8_24 : fldB Try.prog 34 1 1 = true := by kernel_rfl
theorem rep_push {i : Nat} {v : Int} : vi .i64 (List.replicate i v) ++ [.int .i64 v] = vi .i64 (List.replicate (i + 1) v) := by
  unfold vi
  rw [List.replicate_succ', List.map_append]; rfl
theorem take_eq_of {zs ys : List Int} {n : Nat} (h1 : zs.length = n) (h2 : ys.length = n) (h : ∀ j, j < n → nth zs j = nth ys j) : zs = ys := nth_ext (by omega) fun j hj => h j (by omega)
def newC (a h v : Int) : Int := if 1 ≤ a ∧ a ≤ 16 ∧ 1 ≤ h ∧ h ≤ 16 then (if B32 v then 0 else 7) else 3
theorem newC_ok {a h : Nat} {v : Int} (p : sizeP a h) (hv : B32 v) : newC a h v = 0 := by
  obtain ⟨h1, h2, h3, h4⟩ := p
  unfold newC; rw [if_pos (by omega), if_pos hv]
theorem newC_zero {a h v : Int} (hc : newC a h v = 0) : ∃ p q : Nat, a = p ∧ h = q ∧ sizeP p q ∧ B32 v := by
  unfold newC at hc
  split at hc
  · rename_i hs
    split at hc
    · rename_i hv
      exact ⟨a.toNat, h.toNat, by omega, by omega, ⟨by omega, by omega, by omega, by omega⟩, hv⟩
    · cases hc
  · cases hc
theorem newC_sz {a h v : Int} (hs : ¬ (1 ≤ a ∧ a ≤ 16 ∧ 1 ≤ h ∧ h ≤ 16)) : newC a h v = 3 := by unfold newC; rw [if_neg hs]
theorem newC_v {a h v : Int} (hs : 1 ≤ a ∧ a ≤ 16 ∧ 1 ≤ h ∧ h ≤ 16) (hv : ¬ B32 v) : newC a h v = 7 := by unfold newC; rw [if_pos hs, if_neg hv]

set_option maxRecDepth 100000 in
theorem slabNew_sz (a h v : Int) (w : World) (hs : ¬ (1 ≤ a ∧ a ≤ 16 ∧ 1 ≤ h ∧ h ≤ 16)) :
    Ret Try.prog 26 [.int .i64 a, .int .i64 h, .int .i64 v] w (fun z w' => z = .tuple #[.pointer none, .int .i64 (newC a h v)] ∧ Below w.heap.size w w') := by
  refine ret_enter Try.func26 rfl rfl rfl ?_
  have H0 := HS.start w
  refine cw_seq ?_
  refine cw_reg ?_
  refine ry (y_asg rfl rfl) rfl rfl ?_
  refine ry (y_asg rfl rfl) rfl rfl ?_
  refine reg_nil ?_
  refine fn_next ?_
  refine cw_seq ?_
  refine cw_block ?_
  refine cw_seq ?_
  refine cw_reg ?_
  refine ry (y_mov rfl rfl) rfl rfl ?_
  refine ry (y_lss rfl rfl rfl) rfl rfl ?_
  refine ry (y_mov rfl rfl) rfl rfl ?_
  refine rg_splitd (d := 11) rfl (fun h1 => ?_) (fun h1 => ?_)
  · skip
    refine rg_off rfl rfl rfl rfl rfl ?_
    refine rg_off rfl rfl rfl rfl rfl ?_
    refine ry (y_pick rfl rfl rfl) rfl rfl ?_
    refine ry (y_mov rfl rfl) rfl rfl ?_
    refine rg_off rfl rfl rfl rfl rfl ?_
    refine rg_off rfl rfl rfl rfl rfl ?_
    refine ry (y_pick rfl rfl rfl) rfl rfl ?_
    refine ry (y_mov rfl rfl) rfl rfl ?_
    refine rg_off rfl rfl rfl rfl rfl ?_
    refine rg_off rfl rfl rfl rfl rfl ?_
    refine ry (y_pick rfl rfl rfl) rfl rfl ?_
    refine ry (y_mov rfl rfl) rfl rfl ?_
    refine rg_off rfl rfl rfl rfl rfl ?_
    refine rg_off rfl rfl rfl rfl rfl ?_
    refine rg_off rfl rfl rfl rfl rfl ?_
    refine rg_off rfl rfl rfl rfl rfl ?_
    refine ry (y_pick rfl rfl rfl) rfl rfl ?_
    refine ry (y_asg rfl rfl) rfl rfl ?_
    refine reg_nil ?_
    refine fn_next ?_
    refine cw_condt rfl ?_
    refine cw_seq ?_
    refine cw_reg ?_
    refine ry (y_asg rfl rfl) rfl rfl ?_
    refine ry (y_asg rfl rfl) rfl rfl ?_
    refine reg_nil ?_
    refine fn_next ?_
    refine cw_ret ?_
    refine fn_block_ret (fn_then_ret ?_)
    refine fn_retn (vs := [_, _]) rfl ⟨rfl, rfl, trivial⟩ rfl ?_
    rw [newC_sz hs]
    exact ⟨rfl, H0.base⟩
  · skip
    refine rgy (y_mov rfl rfl) rfl rfl rfl rfl ?_
    refine rgy (y_gtr rfl rfl rfl) rfl rfl rfl rfl ?_
    refine ry (y_pick rfl rfl rfl) rfl rfl ?_
    refine ry (y_mov rfl rfl) rfl rfl ?_
    refine rg_splitd (d := 15) rfl (fun h2 => ?_) (fun h2 => ?_)
    · skip
      refine rg_off rfl rfl rfl rfl rfl ?_
      refine rg_off rfl rfl rfl rfl rfl ?_
      refine ry (y_pick rfl rfl rfl) rfl rfl ?_
      refine ry (y_mov rfl rfl) rfl rfl ?_
      refine rg_off rfl rfl rfl rfl rfl ?_
      refine rg_off rfl rfl rfl rfl rfl ?_
      refine ry (y_pick rfl rfl rfl) rfl rfl ?_
      refine ry (y_mov rfl rfl) rfl rfl ?_
      refine rg_off rfl rfl rfl rfl rfl ?_
      refine rg_off rfl rfl rfl rfl rfl ?_
      refine rg_off rfl rfl rfl rfl rfl ?_
      refine rg_off rfl rfl rfl rfl rfl ?_
      refine ry (y_pick rfl rfl rfl) rfl rfl ?_
      refine ry (y_asg rfl rfl) rfl rfl ?_
      refine reg_nil ?_
      refine fn_next ?_
      refine cw_condt rfl ?_
      refine cw_seq ?_
      refine cw_reg ?_
      refine ry (y_asg rfl rfl) rfl rfl ?_
      refine ry (y_asg rfl rfl) rfl rfl ?_
      refine reg_nil ?_
      refine fn_next ?_
      refine cw_ret ?_
      refine fn_block_ret (fn_then_ret ?_)
      refine fn_retn (vs := [_, _]) rfl ⟨rfl, rfl, trivial⟩ rfl ?_
      rw [newC_sz hs]
      exact ⟨rfl, H0.base⟩
    · skip
      refine rgy (y_mov rfl rfl) rfl rfl rfl rfl ?_
      refine rgy (y_lss rfl rfl rfl) rfl rfl rfl rfl ?_
      refine ry (y_pick rfl rfl rfl) rfl rfl ?_
      refine ry (y_mov rfl rfl) rfl rfl ?_
      refine rg_splitd (d := 19) rfl (fun h3 => ?_) (fun h3 => ?_)
      · skip
        refine rg_off rfl rfl rfl rfl rfl ?_
        refine rg_off rfl rfl rfl rfl rfl ?_
        refine ry (y_pick rfl rfl rfl) rfl rfl ?_
        refine ry (y_mov rfl rfl) rfl rfl ?_
        refine rg_off rfl rfl rfl rfl rfl ?_
        refine rg_off rfl rfl rfl rfl rfl ?_
        refine rg_off rfl rfl rfl rfl rfl ?_
        refine rg_off rfl rfl rfl rfl rfl ?_
        refine ry (y_pick rfl rfl rfl) rfl rfl ?_
        refine ry (y_asg rfl rfl) rfl rfl ?_
        refine reg_nil ?_
        refine fn_next ?_
        refine cw_condt rfl ?_
        refine cw_seq ?_
        refine cw_reg ?_
        refine ry (y_asg rfl rfl) rfl rfl ?_
        refine ry (y_asg rfl rfl) rfl rfl ?_
        refine reg_nil ?_
        refine fn_next ?_
        refine cw_ret ?_
        refine fn_block_ret (fn_then_ret ?_)
        refine fn_retn (vs := [_, _]) rfl ⟨rfl, rfl, trivial⟩ rfl ?_
        rw [newC_sz hs]
        exact ⟨rfl, H0.base⟩
      · skip
        refine rgy (y_mov rfl rfl) rfl rfl rfl rfl ?_
        refine rgy (y_gtr rfl rfl rfl) rfl rfl rfl rfl ?_
        refine ry (y_pick rfl rfl rfl) rfl rfl ?_
        refine ry (y_mov rfl rfl) rfl rfl ?_
        refine rg_splitd (d := 23) rfl (fun h4 => ?_) (fun h4 => ?_)
        · skip
          refine rg_off rfl rfl rfl rfl rfl ?_
          refine rg_off rfl rfl rfl rfl rfl ?_
          refine rg_off rfl rfl rfl rfl rfl ?_
          refine rg_off rfl rfl rfl rfl rfl ?_
          refine ry (y_pick rfl rfl rfl) rfl rfl ?_
          refine ry (y_asg rfl rfl) rfl rfl ?_
          refine reg_nil ?_
          refine fn_next ?_
          refine cw_condt rfl ?_
          refine cw_seq ?_
          refine cw_reg ?_
          refine ry (y_asg rfl rfl) rfl rfl ?_
          refine ry (y_asg rfl rfl) rfl rfl ?_
          refine reg_nil ?_
          refine fn_next ?_
          refine cw_ret ?_
          refine fn_block_ret (fn_then_ret ?_)
          refine fn_retn (vs := [_, _]) rfl ⟨rfl, rfl, trivial⟩ rfl ?_
          rw [newC_sz hs]
          exact ⟨rfl, H0.base⟩
        · skip
          refine rgy (y_mov rfl rfl) rfl rfl rfl rfl ?_
          refine rgy (y_mov rfl rfl) rfl rfl rfl rfl ?_
          refine rg_on rfl rfl rfl (op_call (tileRight_any a h _) rfl kfref8_1 ⟨rfl, rfl, trivial⟩) rfl ?_
          rintro _ w6 ⟨rfl, e5⟩
          have H7 := H0.ext e5
          refine rgy (y_notd rfl rfl) rfl rfl rfl rfl ?_
          refine ry (y_pick rfl rfl rfl) rfl rfl ?_
          refine ry (y_asg rfl rfl) rfl rfl ?_
          refine reg_nil ?_
          refine fn_next ?_
          refine cw_condd rfl (fun h8 => ?_) (fun h8 => ?_)
          · skip
            refine cw_seq ?_
            refine cw_reg ?_
            refine ry (y_asg rfl rfl) rfl rfl ?_
            refine ry (y_asg rfl rfl) rfl rfl ?_
            refine reg_nil ?_
            refine fn_next ?_
            refine cw_ret ?_
            refine fn_block_ret (fn_then_ret ?_)
            refine fn_retn (vs := [_, _]) rfl ⟨rfl, rfl, trivial⟩ rfl ?_
            rw [newC_sz hs]
            exact ⟨rfl, H7.base⟩
          · exfalso; omega

set_option maxRecDepth 100000 in
theorem slabNew_v (a h v : Int) (w : World) (hs : 1 ≤ a ∧ a ≤ 16 ∧ 1 ≤ h ∧ h ≤ 16) (hv : ¬ B32 v) :
    Ret Try.prog 26 [.int .i64 a, .int .i64 h, .int .i64 v] w (fun z w' => z = .tuple #[.pointer none, .int .i64 (newC a h v)] ∧ Below w.heap.size w w') := by
  refine ret_enter Try.func26 rfl rfl rfl ?_
  have H0 := HS.start w
  refine cw_seq ?_
  refine cw_reg ?_
  refine ry (y_asg rfl rfl) rfl rfl ?_
  refine ry (y_asg rfl rfl) rfl rfl ?_
  refine reg_nil ?_
  refine fn_next ?_
  refine cw_seq ?_
  refine cw_block ?_
  refine cw_seq ?_
  refine cw_reg ?_
  refine ry (y_mov rfl rfl) rfl rfl ?_
  refine ry (y_lss rfl rfl rfl) rfl rfl ?_
  refine ry (y_mov rfl rfl) rfl rfl ?_
  refine rg_splitd (d := 11) rfl (fun h1 => ?_) (fun h1 => ?_)
  · exfalso; omega
  · skip
    refine rgy (y_mov rfl rfl) rfl rfl rfl rfl ?_
    refine rgy (y_gtr rfl rfl rfl) rfl rfl rfl rfl ?_
    refine ry (y_pick rfl rfl rfl) rfl rfl ?_
    refine ry (y_mov rfl rfl) rfl rfl ?_
    refine rg_splitd (d := 15) rfl (fun h2 => ?_) (fun h2 => ?_)
    · exfalso; omega
    · skip
      refine rgy (y_mov rfl rfl) rfl rfl rfl rfl ?_
      refine rgy (y_lss rfl rfl rfl) rfl rfl rfl rfl ?_
      refine ry (y_pick rfl rfl rfl) rfl rfl ?_
      refine ry (y_mov rfl rfl) rfl rfl ?_
      refine rg_splitd (d := 19) rfl (fun h3 => ?_) (fun h3 => ?_)
      · exfalso; omega
      · skip
        refine rgy (y_mov rfl rfl) rfl rfl rfl rfl ?_
        refine rgy (y_gtr rfl rfl rfl) rfl rfl rfl rfl ?_
        refine ry (y_pick rfl rfl rfl) rfl rfl ?_
        refine ry (y_mov rfl rfl) rfl rfl ?_
        refine rg_splitd (d := 23) rfl (fun h4 => ?_) (fun h4 => ?_)
        · exfalso; omega
        · skip
          refine rgy (y_mov rfl rfl) rfl rfl rfl rfl ?_
          refine rgy (y_mov rfl rfl) rfl rfl rfl rfl ?_
          refine rg_on rfl rfl rfl (op_call (tileRight_any a h _) rfl kfref8_1 ⟨rfl, rfl, trivial⟩) rfl ?_
          rintro _ w6 ⟨rfl, e5⟩
          have H7 := H0.ext e5
          refine rgy (y_notd rfl rfl) rfl rfl rfl rfl ?_
          refine ry (y_pick rfl rfl rfl) rfl rfl ?_
          refine ry (y_asg rfl rfl) rfl rfl ?_
          refine reg_nil ?_
          refine fn_next ?_
          refine cw_condd rfl (fun h8 => ?_) (fun h8 => ?_)
          · exfalso; omega
          · skip
            refine cw_seq ?_
            refine cw_reg ?_
            refine ry (y_mov rfl rfl) rfl rfl ?_
            refine reg_op (op_call (slabMay_any v _) rfl kfref8_2 ⟨rfl, trivial⟩) rfl rfl ?_
            rintro _ w10 ⟨rfl, e9⟩
            have H11 := H7.ext e9
            refine ry (y_notd rfl rfl) rfl rfl ?_
            refine ry (y_asg rfl rfl) rfl rfl ?_
            refine reg_nil ?_
            refine fn_next ?_
            refine cw_condd rfl (fun h12 => ?_) (fun h12 => ?_)
            · skip
              refine cw_seq ?_
              refine cw_reg ?_
              refine ry (y_asg rfl rfl) rfl rfl ?_
              refine ry (y_asg rfl rfl) rfl rfl ?_
              refine reg_nil ?_
              refine fn_next ?_
              refine cw_ret ?_
              refine fn_block_ret (fn_then_ret ?_)
              refine fn_retn (vs := [_, _]) rfl ⟨rfl, rfl, trivial⟩ rfl ?_
              rw [newC_v hs hv]
              exact ⟨rfl, H11.base⟩
            · exact absurd (Classical.not_not.1 h12) hv

set_option maxRecDepth 100000 in
theorem refMay_any (v : Int) (w : World) :
    Ret Try.prog 32 [.int .i64 v] w (fun u w' => u = .bool (decide (B32 v)) ∧ Below w.heap.size w w') := by
  refine ret_enter Try.func32 rfl rfl rfl ?_
  have H0 := HS.start w
  refine cw_seq ?_
  refine cw_reg ?_
  refine ry (y_asg rfl rfl) rfl rfl ?_
  refine reg_nil ?_
  refine fn_next ?_
  refine cw_seq ?_
  refine cw_reg ?_
  refine ry (y_mov rfl rfl) rfl rfl ?_
  refine ry (y_geq rfl rfl rfl) rfl rfl ?_
  refine ry (y_mov rfl rfl) rfl rfl ?_
  refine rg_splitd (d := 5) rfl (fun h1 => ?_) (fun h1 => ?_)
  · skip
    refine rgy (y_mov rfl rfl) rfl rfl rfl rfl ?_
    refine rgy (y_leq rfl rfl rfl) rfl rfl rfl rfl ?_
    refine ry (y_pick rfl rfl rfl) rfl rfl ?_
    refine ry (y_asg rfl rfl) rfl rfl ?_
    refine reg_nil ?_
    refine fn_next ?_
    refine cw_ret ?_
    refine fn_ret1 rfl rfl ?_
    refine ⟨?_, H0.base⟩
    first | exact bdec (by unfold B32; omega) | exact bfls (by unfold B32; omega)
  · skip
    refine rg_off rfl rfl rfl rfl rfl ?_
    refine rg_off rfl rfl rfl rfl rfl ?_
    refine ry (y_pick rfl rfl rfl) rfl rfl ?_
    refine ry (y_asg rfl rfl) rfl rfl ?_
    refine reg_nil ?_
    refine fn_next ?_
    refine cw_ret ?_
    refine fn_ret1 rfl rfl ?_
    refine ⟨?_, H0.base⟩
    first | exact bdec (by unfold B32; omega) | exact bfls (by unfold B32; omega)

set_option maxRecDepth 100000 in
theorem refNew_sz (a h v : Int) (w : World) (hs : ¬ (1 ≤ a ∧ a ≤ 16 ∧ 1 ≤ h ∧ h ≤ 16)) :
    Ret Try.prog 33 [.int .i64 a, .int .i64 h, .int .i64 v, .int .i64 16] w (fun z w' => z = .tuple #[.agg #[.int .i64 0, .int .i64 0, .slice none 0 0], .int .i64 (newC a h v)] ∧ Below w.heap.size w w') := by
  refine ret_enter Try.func33 rfl rfl rfl ?_
  have H0 := HS.start w
  refine cw_seq ?_
  refine cw_reg ?_
  refine reg_op (op_alloc H0 rfl kfref8_3) rfl rfl ?_
  rintro _ w2 ⟨b1, rfl, H3⟩
  refine ry (y_asg rfl rfl) rfl rfl ?_
  refine reg_nil ?_
  refine fn_next ?_
  refine cw_seq ?_
  refine cw_seq ?_
  refine cw_reg ?_
  refine ry (y_mov rfl rfl) rfl rfl ?_
  refine ry (y_lss rfl rfl rfl) rfl rfl ?_
  refine ry (y_mov rfl rfl) rfl rfl ?_
  refine rg_splitd (d := 14) rfl (fun h4 => ?_) (fun h4 => ?_)
  · skip
    refine rg_off rfl rfl rfl rfl rfl ?_
    refine rg_off rfl rfl rfl rfl rfl ?_
    refine rg_off rfl rfl rfl rfl rfl ?_
    refine ry (y_pick rfl rfl rfl) rfl rfl ?_
    refine ry (y_mov rfl rfl) rfl rfl ?_
    refine rg_off rfl rfl rfl rfl rfl ?_
    refine rg_off rfl rfl rfl rfl rfl ?_
    refine ry (y_pick rfl rfl rfl) rfl rfl ?_
    refine ry (y_mov rfl rfl) rfl rfl ?_
    refine rg_off rfl rfl rfl rfl rfl ?_
    refine rg_off rfl rfl rfl rfl rfl ?_
    refine rg_off rfl rfl rfl rfl rfl ?_
    refine ry (y_pick rfl rfl rfl) rfl rfl ?_
    refine reg_nil ?_
    refine fn_next ?_
    refine cw_condt rfl ?_
    refine cw_seq ?_
    refine cw_reg ?_
    refine ry (y_build (places := [(0, 1), (1, 1), (2, 1)]) (parts := []) (vs := []) (cs := [.int _ _, .int _ _, .slice _ _ _]) rfl Try.underlying34 (by kernel_rfl) kfref8_3 rfl trivial rfl) rfl rfl ?_
    refine reg_op (op_st (i := 0) (vs := [.int _ _, .int _ _, .slice _ _ _]) H3 rfl rfl rfl rfl rfl kfref8_4 rfl rfl rfl) rfl rfl ?_
    rintro _ w5 H6
    refine ry (y_asg rfl rfl) rfl rfl ?_
    refine reg_nil ?_
    refine fn_next ?_
    refine cw_ret ?_
    refine fn_then_ret ?_
    refine fn_retn (vs := [_, _]) rfl ⟨⟨_, rfl, load_agg (cs := [_, _, _]) kfref8_5 rfl fun j v hv => by rw [Nat.zero_add]; exact H6.cell (i := 0) rfl hv⟩, rfl, trivial⟩ rfl ?_
    rw [newC_sz hs]
    exact ⟨rfl, H6.base⟩
  · skip
    refine rgy (y_mov rfl rfl) rfl rfl rfl rfl ?_
    refine rgy (y_mov rfl rfl) rfl rfl rfl rfl ?_
    refine rgy (y_gtr rfl rfl rfl) rfl rfl rfl rfl ?_
    refine ry (y_pick rfl rfl rfl) rfl rfl ?_
    refine ry (y_mov rfl rfl) rfl rfl ?_
    refine rg_splitd (d := 19) rfl (fun h7 => ?_) (fun h7 => ?_)
    · skip
      refine rg_off rfl rfl rfl rfl rfl ?_
      refine rg_off rfl rfl rfl rfl rfl ?_
      refine ry (y_pick rfl rfl rfl) rfl rfl ?_
      refine ry (y_mov rfl rfl) rfl rfl ?_
      refine rg_off rfl rfl rfl rfl rfl ?_
      refine rg_off rfl rfl rfl rfl rfl ?_
      refine rg_off rfl rfl rfl rfl rfl ?_
      refine ry (y_pick rfl rfl rfl) rfl rfl ?_
      refine reg_nil ?_
      refine fn_next ?_
      refine cw_condt rfl ?_
      refine cw_seq ?_
      refine cw_reg ?_
      refine ry (y_build (places := [(0, 1), (1, 1), (2, 1)]) (parts := []) (vs := []) (cs := [.int _ _, .int _ _, .slice _ _ _]) rfl Try.underlying34 (by kernel_rfl) kfref8_3 rfl trivial rfl) rfl rfl ?_
      refine reg_op (op_st (i := 0) (vs := [.int _ _, .int _ _, .slice _ _ _]) H3 rfl rfl rfl rfl rfl kfref8_4 rfl rfl rfl) rfl rfl ?_
      rintro _ w8 H9
      refine ry (y_asg rfl rfl) rfl rfl ?_
      refine reg_nil ?_
      refine fn_next ?_
      refine cw_ret ?_
      refine fn_then_ret ?_
      refine fn_retn (vs := [_, _]) rfl ⟨⟨_, rfl, load_agg (cs := [_, _, _]) kfref8_5 rfl fun j v hv => by rw [Nat.zero_add]; exact H9.cell (i := 0) rfl hv⟩, rfl, trivial⟩ rfl ?_
      rw [newC_sz hs]
      exact ⟨rfl, H9.base⟩
    · skip
      refine rgy (y_mov rfl rfl) rfl rfl rfl rfl ?_
      refine rgy (y_lss rfl rfl rfl) rfl rfl rfl rfl ?_
      refine ry (y_pick rfl rfl rfl) rfl rfl ?_
      refine ry (y_mov rfl rfl) rfl rfl ?_
      refine rg_splitd (d := 23) rfl (fun h10 => ?_) (fun h10 => ?_)
      · skip
        refine rg_off rfl rfl rfl rfl rfl ?_
        refine rg_off rfl rfl rfl rfl rfl ?_
        refine rg_off rfl rfl rfl rfl rfl ?_
        refine ry (y_pick rfl rfl rfl) rfl rfl ?_
        refine reg_nil ?_
        refine fn_next ?_
        refine cw_condt rfl ?_
        refine cw_seq ?_
        refine cw_reg ?_
        refine ry (y_build (places := [(0, 1), (1, 1), (2, 1)]) (parts := []) (vs := []) (cs := [.int _ _, .int _ _, .slice _ _ _]) rfl Try.underlying34 (by kernel_rfl) kfref8_3 rfl trivial rfl) rfl rfl ?_
        refine reg_op (op_st (i := 0) (vs := [.int _ _, .int _ _, .slice _ _ _]) H3 rfl rfl rfl rfl rfl kfref8_4 rfl rfl rfl) rfl rfl ?_
        rintro _ w11 H12
        refine ry (y_asg rfl rfl) rfl rfl ?_
        refine reg_nil ?_
        refine fn_next ?_
        refine cw_ret ?_
        refine fn_then_ret ?_
        refine fn_retn (vs := [_, _]) rfl ⟨⟨_, rfl, load_agg (cs := [_, _, _]) kfref8_5 rfl fun j v hv => by rw [Nat.zero_add]; exact H12.cell (i := 0) rfl hv⟩, rfl, trivial⟩ rfl ?_
        rw [newC_sz hs]
        exact ⟨rfl, H12.base⟩
      · skip
        refine rgy (y_mov rfl rfl) rfl rfl rfl rfl ?_
        refine rgy (y_mov rfl rfl) rfl rfl rfl rfl ?_
        refine rgy (y_gtr rfl rfl rfl) rfl rfl rfl rfl ?_
        refine ry (y_pick rfl rfl rfl) rfl rfl ?_
        refine reg_nil ?_
        refine fn_next ?_
        refine cw_condd rfl (fun h13 => ?_) (fun h13 => ?_)
        · skip
          refine cw_seq ?_
          refine cw_reg ?_
          refine ry (y_build (places := [(0, 1), (1, 1), (2, 1)]) (parts := []) (vs := []) (cs := [.int _ _, .int _ _, .slice _ _ _]) rfl Try.underlying34 (by kernel_rfl) kfref8_3 rfl trivial rfl) rfl rfl ?_
          refine reg_op (op_st (i := 0) (vs := [.int _ _, .int _ _, .slice _ _ _]) H3 rfl rfl rfl rfl rfl kfref8_4 rfl rfl rfl) rfl rfl ?_
          rintro _ w14 H15
          refine ry (y_asg rfl rfl) rfl rfl ?_
          refine reg_nil ?_
          refine fn_next ?_
          refine cw_ret ?_
          refine fn_then_ret ?_
          refine fn_retn (vs := [_, _]) rfl ⟨⟨_, rfl, load_agg (cs := [_, _, _]) kfref8_5 rfl fun j v hv => by rw [Nat.zero_add]; exact H15.cell (i := 0) rfl hv⟩, rfl, trivial⟩ rfl ?_
          rw [newC_sz hs]
          exact ⟨rfl, H15.base⟩
        · exfalso; omega

set_option maxRecDepth 100000 in
theorem refNew_v (a h v : Int) (w : World) (hs : 1 ≤ a ∧ a ≤ 16 ∧ 1 ≤ h ∧ h ≤ 16) (hv : ¬ B32 v) :
    Ret Try.prog 33 [.int .i64 a, .int .i64 h, .int .i64 v, .int .i64 16] w (fun z w' => z = .tuple #[.agg #[.int .i64 0, .int .i64 0, .slice none 0 0], .int .i64 (newC a h v)] ∧ Below w.heap.size w w') := by
  refine ret_enter Try.func33 rfl rfl rfl ?_
  have H0 := HS.start w
  refine cw_seq ?_
  refine cw_reg ?_
  refine reg_op (op_alloc H0 rfl kfref8_3) rfl rfl ?_
  rintro _ w2 ⟨b1, rfl, H3⟩
  refine ry (y_asg rfl rfl) rfl rfl ?_
  refine reg_nil ?_
  refine fn_next ?_
  refine cw_seq ?_
  refine cw_seq ?_
  refine cw_reg ?_
  refine ry (y_mov rfl rfl) rfl rfl ?_
  refine ry (y_lss rfl rfl rfl) rfl rfl ?_
  refine ry (y_mov rfl rfl) rfl rfl ?_
  refine rg_splitd (d := 14) rfl (fun h4 => ?_) (fun h4 => ?_)
  · exfalso; omega
  · skip
    refine rgy (y_mov rfl rfl) rfl rfl rfl rfl ?_
    refine rgy (y_mov rfl rfl) rfl rfl rfl rfl ?_
    refine rgy (y_gtr rfl rfl rfl) rfl rfl rfl rfl ?_
    refine ry (y_pick rfl rfl rfl) rfl rfl ?_
    refine ry (y_mov rfl rfl) rfl rfl ?_
    refine rg_splitd (d := 19) rfl (fun h5 => ?_) (fun h5 => ?_)
    · exfalso; omega
    · skip
      refine rgy (y_mov rfl rfl) rfl rfl rfl rfl ?_
      refine rgy (y_lss rfl rfl rfl) rfl rfl rfl rfl ?_
      refine ry (y_pick rfl rfl rfl) rfl rfl ?_
      refine ry (y_mov rfl rfl) rfl rfl ?_
      refine rg_splitd (d := 23) rfl (fun h6 => ?_) (fun h6 => ?_)
      · exfalso; omega
      · skip
        refine rgy (y_mov rfl rfl) rfl rfl rfl rfl ?_
        refine rgy (y_mov rfl rfl) rfl rfl rfl rfl ?_
        refine rgy (y_gtr rfl rfl rfl) rfl rfl rfl rfl ?_
        refine ry (y_pick rfl rfl rfl) rfl rfl ?_
        refine reg_nil ?_
        refine fn_next ?_
        refine cw_condd rfl (fun h7 => ?_) (fun h7 => ?_)
        · exfalso; omega
        · skip
          refine cw_skip ?_
          refine fn_next ?_
          refine cw_seq ?_
          refine cw_seq ?_
          refine cw_reg ?_
          refine ry (y_mov rfl rfl) rfl rfl ?_
          refine reg_op (op_call (refMay_any v _) rfl kfref8_6 ⟨rfl, trivial⟩) rfl rfl ?_
          rintro _ w9 ⟨rfl, e8⟩
          have H10 := H3.ext e8
          refine ry (y_notd rfl rfl) rfl rfl ?_
          refine reg_nil ?_
          refine fn_next ?_
          refine cw_condd rfl (fun h11 => ?_) (fun h11 => ?_)
          · skip
            refine cw_seq ?_
            refine cw_reg ?_
            refine ry (y_build (places := [(0, 1), (1, 1), (2, 1)]) (parts := []) (vs := []) (cs := [.int _ _, .int _ _, .slice _ _ _]) rfl Try.underlying34 (by kernel_rfl) kfref8_3 rfl trivial rfl) rfl rfl ?_
            refine reg_op (op_st (i := 0) (vs := [.int _ _, .int _ _, .slice _ _ _]) H10 rfl rfl rfl rfl rfl kfref8_4 rfl rfl rfl) rfl rfl ?_
            rintro _ w12 H13
            refine ry (y_asg rfl rfl) rfl rfl ?_
            refine reg_nil ?_
            refine fn_next ?_
            refine cw_ret ?_
            refine fn_then_ret ?_
            refine fn_retn (vs := [_, _]) rfl ⟨⟨_, rfl, load_agg (cs := [_, _, _]) kfref8_5 rfl fun j v hv => by rw [Nat.zero_add]; exact H13.cell (i := 0) rfl hv⟩, rfl, trivial⟩ rfl ?_
            rw [newC_v hs hv]
            exact ⟨rfl, H13.base⟩
          · exact absurd (Classical.not_not.1 h11) hv

theorem slabNew_no (a h v : Int) (w : World) (hc : ¬ newC a h v = 0) : Ret Try.prog 26 [.int .i64 a, .int .i64 h, .int .i64 v] w (fun z w' => z = .tuple #[.pointer none, .int .i64 (newC a h v)] ∧ Below w.heap.size w w') := by
  by_cases hs : 1 ≤ a ∧ a ≤ 16 ∧ 1 ≤ h ∧ h ≤ 16
  · exact slabNew_v a h v w hs fun hv => hc (by unfold newC; rw [if_pos hs, if_pos hv])
  · exact slabNew_sz a h v w hs
theorem refNew_no (a h v : Int) (w : World) (hc : ¬ newC a h v = 0) : Ret Try.prog 33 [.int .i64 a, .int .i64 h, .int .i64 v, .int .i64 16] w (fun z w' => z = .tuple #[.agg #[.int .i64 0, .int .i64 0, .slice none 0 0], .int .i64 (newC a h v)] ∧ Below w.heap.size w w') := by
  by_cases hs : 1 ≤ a ∧ a ≤ 16 ∧ 1 ≤ h ∧ h ≤ 16
  · exact refNew_v a h v w hs fun hv => hc (by unfold newC; rw [if_pos hs, if_pos hv])
  · exact refNew_sz a h v w hs

set_option maxRecDepth 100000 in
theorem refNew_ok (a h : Nat) (v : Int) (w : World) (p : sizeP a h) (hv : B32 v) :
    Ret Try.prog 33 [.int .i64 (a : Int), .int .i64 (h : Int), .int .i64 v, .int .i64 16] w (fun z w' => ∃ A cap, z = .tuple #[.agg #[.int .i64 (a : Int), .int .i64 (h : Int), .slice A (a * h) cap], .int .i64 0] ∧ HS w w' [.row A (a * h) cap (vi .i64 (List.replicate (a * h) v)) 2 1]) := by
  have hm := p.mul
  obtain ⟨s1, s2, s3, s4⟩ := id p
  refine ret_enter Try.func33 rfl rfl rfl ?_
  have H0 := HS.start w
  refine cw_seq ?_
  refine cw_reg ?_
  refine reg_op (op_alloc H0 rfl kfref8_3) rfl rfl ?_
  rintro _ w2 ⟨b1, rfl, H3⟩
  refine ry (y_asg rfl rfl) rfl rfl ?_
  refine reg_nil ?_
  refine fn_next ?_
  refine cw_seq ?_
  refine cw_seq ?_
  refine cw_reg ?_
  refine ry (y_mov rfl rfl) rfl rfl ?_
  refine ry (y_lss rfl rfl rfl) rfl rfl ?_
  refine ry (y_mov rfl rfl) rfl rfl ?_
  refine rg_splitd (d := 14) rfl (fun h4 => ?_) (fun h4 => ?_)
  · exfalso; omega
  · skip
    refine rgy (y_mov rfl rfl) rfl rfl rfl rfl ?_
    refine rgy (y_mov rfl rfl) rfl rfl rfl rfl ?_
    refine rgy (y_gtr rfl rfl rfl) rfl rfl rfl rfl ?_
    refine ry (y_pick rfl rfl rfl) rfl rfl ?_
    refine ry (y_mov rfl rfl) rfl rfl ?_
    refine rg_splitd (d := 19) rfl (fun h5 => ?_) (fun h5 => ?_)
    · exfalso; omega
    · skip
      refine rgy (y_mov rfl rfl) rfl rfl rfl rfl ?_
      refine rgy (y_lss rfl rfl rfl) rfl rfl rfl rfl ?_
      refine ry (y_pick rfl rfl rfl) rfl rfl ?_
      refine ry (y_mov rfl rfl) rfl rfl ?_
      refine rg_splitd (d := 23) rfl (fun h6 => ?_) (fun h6 => ?_)
      · exfalso; omega
      · skip
        refine rgy (y_mov rfl rfl) rfl rfl rfl rfl ?_
        refine rgy (y_mov rfl rfl) rfl rfl rfl rfl ?_
        refine rgy (y_gtr rfl rfl rfl) rfl rfl rfl rfl ?_
        refine ry (y_pick rfl rfl rfl) rfl rfl ?_
        refine reg_nil ?_
        refine fn_next ?_
        refine cw_condd rfl (fun h7 => ?_) (fun h7 => ?_)
        · exfalso; omega
        · skip
          refine cw_skip ?_
          refine fn_next ?_
          refine cw_seq ?_
          refine cw_seq ?_
          refine cw_reg ?_
          refine ry (y_mov rfl rfl) rfl rfl ?_
          refine reg_op (op_call (refMay_any v _) rfl kfref8_6 ⟨rfl, trivial⟩) rfl rfl ?_
          rintro _ w9 ⟨rfl, e8⟩
          have H10 := H3.ext e8
          refine ry (y_notd rfl rfl) rfl rfl ?_
          refine reg_nil ?_
          refine fn_next ?_
          refine cw_condd rfl (fun h11 => ?_) (fun h11 => ?_)
          · exact absurd hv h11
          · skip
            refine cw_skip ?_
            refine fn_next ?_
            refine cw_seq ?_
            refine cw_reg ?_
            refine ry (y_mov rfl rfl) rfl rfl ?_
            refine ry (y_mov rfl rfl) rfl rfl ?_
            refine ry (y_build (places := [(0, 1), (1, 1), (2, 1)]) (parts := [(0, _), (1, _)]) (vs := [(0, _), (1, _)]) (cs := [.int _ _, .int _ _, .slice _ _ _]) rfl Try.underlying34 (by kernel_rfl) kfref8_3 rfl ⟨rfl, rfl, trivial⟩ rfl) rfl rfl ?_
            refine reg_op (op_alloc H10 rfl kfref8_3) rfl rfl ?_
            rintro _ w13 ⟨b12, rfl, H14⟩
            refine reg_op (op_st (i := 0) (vs := [.int _ _, .int _ _, .slice _ _ _]) H14 rfl rfl rfl rfl rfl kfref8_4 rfl rfl rfl) rfl rfl ?_
            rintro _ w15 H16
            refine reg_nil ?_
            refine fn_next ?_
            refine cw_seq ?_
            refine cw_seq ?_
            refine cw_reg ?_
            refine ry (y_asg rfl rfl) rfl rfl ?_
            refine reg_nil ?_
            refine fn_next ?_
            refine cw_block ?_
            have Hn := H16.nilrow 2 1
            refine cw_loopJ [11, 36, 37, 38, 39, 40, 41, 42, 43, 44, 45, 46, 47, 48] (fun M wl ml => ∃ (i : Nat) (A : Option Addr) (cap : Nat), M = [(11, .int .i64 (i : Int))] ∧ HS w wl [Ob.row A i cap (vi .i64 (List.replicate i v)) 2 1, Ob.blk b12 [.int .i64 (a : Int), .int .i64 (h : Int), .slice A i cap] 34, Ob.blk b1 [.int .i64 0, .int .i64 0, .slice none 0 0] 34] ∧ (i ≤ a * h) ∧ ml = a * h - i) ⟨0, _, _, rfl, Hn, Nat.zero_le _, rfl⟩ ⟨rfl, trivial⟩ ?_
            rintro M w17 m19 ⟨i, A, cap, rfl, H18, hp0, rfl⟩
            refine cw_seq ?_
            refine cw_seq ?_
            refine cw_reg ?_
            refine ry (y_mov rfl rfl) rfl rfl ?_
            refine ry (y_mov rfl rfl) rfl rfl ?_
            refine ry (y_mov rfl rfl) rfl rfl ?_
            refine ry (y_mul rfl rfl rfl (show _ = ((a * h : Nat) : Int) from by rw [← Int.natCast_mul]; exact wi (by omega))) rfl rfl ?_
            refine ry (y_lss rfl rfl rfl) rfl rfl ?_
            refine reg_nil ?_
            refine fn_next ?_
            refine cw_condd rfl (fun h20 => ?_) (fun h20 => ?_)
            · skip
              refine cw_skip ?_
              refine fn_next ?_
              refine cw_seq ?_
              refine cw_block ?_
              refine cw_reg ?_
              refine ry (y_fa rfl rfl kfref8_7 rfl) rfl rfl ?_
              refine ry (y_ld rfl rfl kfref8_8 (H18.cell (i := 1) rfl rfl)) rfl rfl ?_
              refine ry (y_mov rfl rfl) rfl rfl ?_
              refine reg_op (op_lit (parts := [(0, _)]) (vs := [(0, _)]) (cs := [.int _ _]) H18 rfl Try.underlying32 kfref8_9 rfl ⟨rfl, trivial⟩ rfl rfl) rfl rfl ?_
              rintro _ w22 ⟨b21, rfl, H23⟩
              have H24 := H23.asrow (m := 1) (size := 1) rfl (by decide)
              refine reg_op (op_app (i := 1) H24 rfl rfl rfl rfl (H24.rd (i := 0) rfl) (rfl) (rfl) Try.underlying32 kfref8_10 rfl rfl (by unfold maxLen; omega) (by omega)) rfl rfl ?_
              rintro _ w27 ⟨A25, c26, rfl, H28⟩
              refine ry (y_fa rfl rfl kfref8_7 rfl) rfl rfl ?_
              refine reg_op (op_st (i := 2) (vs := [.slice _ _ _]) H28 rfl rfl rfl rfl rfl kfref8_11 rfl rfl rfl) rfl rfl ?_
              rintro _ w29 H30
              refine reg_nil ?_
              refine fn_block ?_
              refine fn_next ?_
              refine cw_reg ?_
              refine ry (y_mov rfl rfl) rfl rfl ?_
              refine ry (y_add rfl rfl rfl (wi (by omega))) rfl rfl ?_
              refine ry (y_asg rfl rfl) rfl rfl ?_
              refine reg_nil ?_
              rw [rep_push] at H30
              refine fn_roundJ ⟨i + 1, _, _, rfl, (H30.pick (m := [_, _, _]) [1, 2, 3] rfl (by decide)), by omega, rfl⟩ ⟨rfl, trivial⟩ (by omega) (by repeat (first | exact kp_refl | refine kp_app rfl rfl ?_ | refine kp_cons rfl ?_)) rfl
            · skip
              have hie : i = a * h := by omega
              subst hie
              refine cw_exit ?_
              refine fn_then_exit (fn_then_exit (fn_block_exit ?_))
              refine fn_next ?_
              refine cw_seq ?_
              refine cw_reg ?_
              refine ry (y_ldb (i := 1) (cs := [_, _, _]) H18 rfl rfl kfref8_5 rfl rfl) rfl rfl ?_
              refine reg_op (op_st (i := 2) (vs := [.int _ _, .int _ _, .slice _ _ _]) H18 rfl rfl rfl rfl rfl kfref8_4 rfl rfl rfl) rfl rfl ?_
              rintro _ w31 H32
              refine ry (y_asg rfl rfl) rfl rfl ?_
              refine reg_nil ?_
              refine fn_next ?_
              refine cw_ret ?_
              refine fn_retn (vs := [_, _]) rfl ⟨⟨_, rfl, load_agg (cs := [_, _, _]) kfref8_5 rfl fun j v hv => by rw [Nat.zero_add]; exact H32.cell (i := 2) rfl hv⟩, rfl, trivial⟩ rfl ?_
              exact ⟨_, _, rfl, (H32.pick (m := [_]) [0] rfl (by decide))⟩

set_option maxRecDepth 100000 in
theorem refSame_any (A : Option Addr) (n cap : Nat) (zs : List Int) (A2 : Option Addr) (m cap2 : Nat) (ys : List Int) (w : World) (h1 : Rd w A (vi .i64 zs)) (hl1 : zs.length = n) (h2 : Rd w A2 (vi .i64 ys)) (hl2 : ys.length = m) (hn : n ≤ 4000000) :
    Ret Try.prog 31 [.slice A n cap, .slice A2 m cap2] w (fun z w' => z = .bool (decide (zs = ys)) ∧ Below w.heap.size w w') := by
  refine ret_enter Try.func31 rfl rfl rfl ?_
  have H0 := HS.start w
  refine cw_seq ?_
  refine cw_reg ?_
  refine ry (y_asg rfl rfl) rfl rfl ?_
  refine reg_nil ?_
  refine fn_next ?_
  refine cw_seq ?_
  refine cw_seq ?_
  refine cw_reg ?_
  refine ry (y_mov rfl rfl) rfl rfl ?_
  refine ry (y_len rfl Try.underlying32 rfl) rfl rfl ?_
  refine ry (y_mov rfl rfl) rfl rfl ?_
  refine ry (y_len rfl Try.underlying32 rfl) rfl rfl ?_
  refine ry (y_neq rfl rfl rfl) rfl rfl ?_
  refine reg_nil ?_
  refine fn_next ?_
  refine cw_condd rfl (fun hd => ?_) (fun hd => ?_)
  · skip
    refine cw_seq ?_
    refine cw_reg ?_
    refine ry (y_asg rfl rfl) rfl rfl ?_
    refine reg_nil ?_
    refine fn_next ?_
    refine cw_ret ?_
    refine fn_then_ret ?_
    refine fn_ret1 rfl rfl ?_
    rw [decide_eq_false (fun e => hd (by subst e; omega))]
    exact ⟨rfl, H0.base⟩
  · skip
    refine cw_skip ?_
    refine fn_next ?_
    refine cw_seq ?_
    refine cw_seq ?_
    refine cw_reg ?_
    refine ry (y_asg rfl rfl) rfl rfl ?_
    refine reg_nil ?_
    refine fn_next ?_
    refine cw_block ?_
    refine cw_loopJ [4, 5, 11, 12, 13, 14, 15, 16, 17, 18, 19, 20, 21, 22, 23, 24, 25] (fun M wl ml => ∃ (i : Nat), M = [(5, .int .i64 (i : Int))] ∧ HS w wl [] ∧ (i ≤ n) ∧ (Hid (∀ j, j < i → nth zs j = nth ys j)) ∧ ml = n - i) ⟨0, rfl, H0, Nat.zero_le _, Lib.hid (fun j hj => absurd hj (Nat.not_lt_zero _)), rfl⟩ ⟨rfl, trivial⟩ ?_
    rintro M w2 m4 ⟨i, rfl, H3, hp0, hp1, rfl⟩
    refine cw_seq ?_
    refine cw_seq ?_
    refine cw_reg ?_
    refine ry (y_mov rfl rfl) rfl rfl ?_
    refine ry (y_mov rfl rfl) rfl rfl ?_
    refine ry (y_len rfl Try.underlying32 rfl) rfl rfl ?_
    refine ry (y_lss rfl rfl rfl) rfl rfl ?_
    refine reg_nil ?_
    refine fn_next ?_
    refine cw_condd rfl (fun h5 => ?_) (fun h5 => ?_)
    · skip
      have hmn : m = n := by omega
      have hg1 := vi_get (k := .i64) (zs := zs) (i := i) (by omega)
      have hg2 := vi_get (k := .i64) (zs := ys) (i := i) (by omega)
      refine cw_skip ?_
      refine fn_next ?_
      refine cw_seq ?_
      refine cw_block ?_
      refine cw_seq ?_
      refine cw_draw H3 [0, 1, 2, 3, 4, 5, 6, 7, 8] [] (fun X HX => HX) (by kernel_rfl) (by kernel_rfl) (by rfl) ?_
      simp only [pick, List.getElem?_cons_succ, List.getElem?_cons_zero]
      refine hk_y (fun Y HY => y_mov rfl rfl) rfl rfl ?_
      refine hk_y (fun Y HY => y_mov rfl rfl) rfl rfl ?_
      refine hk_y (fun Y HY => y_iar (h1.below HY.base) rfl rfl rfl kfref8_12 (rfl) (by omega) (Nat.mul_one _) (hg1)) rfl rfl ?_
      refine hk_y (fun Y HY => y_ldr (h1.below HY.base) rfl rfl kfref8_13 (hg1)) rfl rfl ?_
      refine hk_y (fun Y HY => y_mov rfl rfl) rfl rfl ?_
      refine hk_y (fun Y HY => y_mov rfl rfl) rfl rfl ?_
      refine hk_y (fun Y HY => y_iar (h2.below HY.base) rfl rfl rfl kfref8_12 (rfl) (by omega) (Nat.mul_one _) (hg2)) rfl rfl ?_
      refine hk_y (fun Y HY => y_ldr (h2.below HY.base) rfl rfl kfref8_13 (hg2)) rfl rfl ?_
      refine hk_y (fun Y HY => y_neq rfl rfl rfl) rfl rfl ?_
      refine hk_nil ?_
      intro w6 H7
      refine tv_nil ?_
      refine fn_next ?_
      refine cw_condd rfl (fun hne => ?_) (fun hne => ?_)
      · skip
        refine cw_seq ?_
        refine cw_reg ?_
        refine ry (y_asg rfl rfl) rfl rfl ?_
        refine reg_nil ?_
        refine fn_next ?_
        refine cw_ret ?_
        refine fn_block_ret (fn_then_ret (fn_then_ret (fn_block_ret (fn_then_ret ?_))))
        refine fn_ret1 rfl rfl ?_
        rw [decide_eq_false (fun e => hne (by rw [e]))]
        exact ⟨rfl, H7.base⟩
      · skip
        refine cw_skip ?_
        refine fn_block ?_
        refine fn_next ?_
        refine cw_reg ?_
        refine ry (y_mov rfl rfl) rfl rfl ?_
        refine ry (y_add rfl rfl rfl (wi (by omega))) rfl rfl ?_
        refine ry (y_asg rfl rfl) rfl rfl ?_
        refine reg_nil ?_
        refine fn_roundJ ⟨i + 1, rfl, H7, by omega, Lib.hid (fun j hj => (Nat.lt_or_eq_of_le (Nat.le_of_lt_succ hj)).elim (hp1.out j) (fun e => e ▸ Classical.not_not.1 hne)), rfl⟩ ⟨rfl, trivial⟩ (by omega) (by repeat (first | exact kp_refl | refine kp_app rfl rfl ?_ | refine kp_cons rfl ?_)) rfl
    · skip
      obtain rfl : i = n := by omega
      refine cw_exit ?_
      refine fn_then_exit (fn_then_exit (fn_block_exit ?_))
      refine fn_next ?_
      refine cw_seq ?_
      refine cw_reg ?_
      refine ry (y_asg rfl rfl) rfl rfl ?_
      refine reg_nil ?_
      refine fn_next ?_
      refine cw_ret ?_
      refine fn_ret1 rfl rfl ?_
      rw [decide_eq_true (take_eq_of hl1 (by omega) hp1.out)]
      exact ⟨rfl, H3.base⟩

set_option maxRecDepth 100000 in
theorem refRange_any (A : Option Addr) (n cap : Nat) (V : List Int) (w : World) (h : Rd w A (vi .i64 V)) (hl : V.length = n) (h0 : 1 ≤ n) (hn : n ≤ 4000000) :
    Ret Try.prog 38 [.slice A n cap] w (fun z w' => z = .agg #[.int .i64 (mnI V n), .int .i64 (mxI V n)] ∧ Below w.heap.size w w') := by
  have hg0 := vi_get (k := .i64) (zs := V) (i := 0) (by omega)
  refine ret_enter Try.func38 rfl rfl rfl ?_
  have H0 := HS.start w
  refine cw_seq ?_
  refine cw_reg ?_
  refine reg_op (op_alloc H0 rfl kfref8_14) rfl rfl ?_
  rintro _ w2 ⟨b1, rfl, H3⟩
  refine reg_nil ?_
  refine fn_next ?_
  refine cw_seq ?_
  refine cw_seq ?_
  refine cw_reg ?_
  refine ry (y_mov rfl rfl) rfl rfl ?_
  refine ry (y_len rfl Try.underlying32 rfl) rfl rfl ?_
  refine ry (y_eql rfl rfl rfl) rfl rfl ?_
  refine reg_nil ?_
  refine fn_next ?_
  refine cw_condd rfl (fun h4 => ?_) (fun h4 => ?_)
  · exfalso; omega
  · skip
    refine cw_skip ?_
    refine fn_next ?_
    refine cw_seq ?_
    refine cw_draw H3 [0, 1, 2, 3, 4, 5, 6] [7, 8] (fun X HX => HX) (by kernel_rfl) (by kernel_rfl) (by rfl) ?_
    simp only [pick, List.getElem?_cons_succ, List.getElem?_cons_zero]
    refine hk_y (fun Y HY => y_mov rfl rfl) rfl rfl ?_
    refine hk_y (fun Y HY => y_iar (i := 0) (h.below HY.base) rfl rfl rfl kfref8_12 (rfl) (by omega) (Nat.mul_one _) (hg0)) rfl rfl ?_
    refine hk_y (fun Y HY => y_ldr (h.below HY.base) rfl rfl kfref8_13 (hg0)) rfl rfl ?_
    refine hk_y (fun Y HY => y_mov rfl rfl) rfl rfl ?_
    refine hk_y (fun Y HY => y_iar (i := 0) (h.below HY.base) rfl rfl rfl kfref8_12 (rfl) (by omega) (Nat.mul_one _) (hg0)) rfl rfl ?_
    refine hk_y (fun Y HY => y_ldr (h.below HY.base) rfl rfl kfref8_13 (hg0)) rfl rfl ?_
    refine hk_y (fun Y HY => y_build (places := [(0, 1), (1, 1)]) (parts := [(0, _), (1, _)]) (vs := [(0, _), (1, _)]) (cs := [.int _ _, .int _ _]) rfl Try.underlying68 (by kernel_rfl) kfref8_14 rfl ⟨rfl, rfl, trivial⟩ rfl) rfl rfl ?_
    refine hk_nil ?_
    intro w5 H6
    refine tv_op (op_alloc H6 rfl kfref8_14) rfl rfl ?_
    rintro _ w8 ⟨b7, rfl, H9⟩
    refine ⟨(H9.pick (m := [_]) [1] rfl (by decide)), fun w10 e12 => ?_⟩
    have H11 := H9.ext e12
    refine tv_op (op_st (i := 0) (vs := [.int _ _, .int _ _]) H11 rfl rfl rfl rfl rfl kfref8_15 rfl rfl rfl) rfl rfl ?_
    rintro _ w13 H14
    refine ⟨(H14.pick (m := [_]) [1] rfl (by decide)), fun w15 e17 => ?_⟩
    have H16 := H14.ext e17
    refine tv_nil ?_
    refine fn_next ?_
    refine cw_seq ?_
    refine cw_seq ?_
    refine cw_reg ?_
    refine ry (y_asg rfl rfl) rfl rfl ?_
    refine reg_nil ?_
    refine fn_next ?_
    refine cw_block ?_
    have e1 : nth V 0 = mnI V 1 := mnI_one.symm
    have hRg : HS w w15 [Ob.blk b7 [.int .i64 (mnI V 1), .int .i64 (mxI V 1)] 68, Ob.blk b1 [.int .i64 0, .int .i64 0] 68] := by rw [mnI_one, mxI_one]; exact (H16.pick (m := [_, _]) [0, 1] rfl (by decide))
    refine cw_loopJ [4, 16, 17, 18, 19, 20, 21, 22, 23, 24, 25, 26, 27, 28, 29, 30, 31, 32, 33, 34, 35, 36, 37, 38, 39, 40, 41, 42, 43, 44, 45] (fun M wl ml => ∃ (i : Nat), M = [(4, .int .i64 (i : Int))] ∧ HS w wl [Ob.blk b7 [.int .i64 (mnI V i), .int .i64 (mxI V i)] 68, Ob.blk b1 [.int .i64 0, .int .i64 0] 68] ∧ (1 ≤ i ∧ i ≤ n) ∧ ml = n - i) ⟨1, rfl, hRg, ⟨by omega, by omega⟩, rfl⟩ ⟨rfl, trivial⟩ ?_
    rintro M w18 m20 ⟨i, rfl, H19, hp0, rfl⟩
    refine cw_seq ?_
    refine cw_seq ?_
    refine cw_reg ?_
    refine ry (y_mov rfl rfl) rfl rfl ?_
    refine ry (y_mov rfl rfl) rfl rfl ?_
    refine ry (y_len rfl Try.underlying32 rfl) rfl rfl ?_
    refine ry (y_lss rfl rfl rfl) rfl rfl ?_
    refine reg_nil ?_
    refine fn_next ?_
    refine cw_condd rfl (fun h21 => ?_) (fun h21 => ?_)
    · skip
      have hgi := vi_get (k := .i64) (zs := V) (i := i) (by omega)
      refine cw_skip ?_
      refine fn_next ?_
      refine cw_seq ?_
      refine cw_block ?_
      refine cw_seq ?_
      refine cw_seq ?_
      refine cw_draw H19 [0, 1, 2, 3, 4, 5, 6] [] (fun X HX => HX) (by kernel_rfl) (by kernel_rfl) (by rfl) ?_
      simp only [pick, List.getElem?_cons_succ, List.getElem?_cons_zero]
      refine hk_y (fun Y HY => y_mov rfl rfl) rfl rfl ?_
      refine hk_y (fun Y HY => y_mov rfl rfl) rfl rfl ?_
      refine hk_y (fun Y HY => y_iar (h.below HY.base) rfl rfl rfl kfref8_12 (rfl) (by omega) (Nat.mul_one _) (hgi)) rfl rfl ?_
      refine hk_y (fun Y HY => y_ldr (h.below HY.base) rfl rfl kfref8_13 (hgi)) rfl rfl ?_
      refine hk_y (fun Y HY => y_fa rfl rfl kfref8_16 rfl) rfl rfl ?_
      refine hk_y (fun Y HY => y_ld rfl rfl kfref8_13 (HY.cell (i := 0) rfl rfl)) rfl rfl ?_
      refine hk_y (fun Y HY => y_lss rfl rfl rfl) rfl rfl ?_
      refine hk_nil ?_
      intro w22 H23
      refine tv_nil ?_
      refine fn_next ?_
      refine cw_condd rfl (fun h24 => ?_) (fun h24 => ?_)
      · skip
        refine cw_reg ?_
        refine ry (y_mov rfl rfl) rfl rfl ?_
        refine ry (y_mov rfl rfl) rfl rfl ?_
        refine ry (y_iar (h.below H23.base) rfl rfl rfl kfref8_12 (rfl) (by omega) (Nat.mul_one _) (hgi)) rfl rfl ?_
        refine ry (y_ldr (h.below H23.base) rfl rfl kfref8_13 (hgi)) rfl rfl ?_
        refine ry (y_fa rfl rfl kfref8_16 rfl) rfl rfl ?_
        refine reg_op (op_st (i := 0) (vs := [.int _ _]) H23 rfl rfl rfl rfl rfl kfref8_17 rfl rfl rfl) rfl rfl ?_
        rintro _ w25 H26
        refine reg_nil ?_
        refine fn_next ?_
        refine cw_seq ?_
        refine cw_draw H26 [0, 1, 2, 3, 4, 5, 6] [] (fun X HX => HX) (by kernel_rfl) (by kernel_rfl) (by rfl) ?_
        simp only [pick, List.getElem?_cons_succ, List.getElem?_cons_zero]
        refine hk_y (fun Y HY => y_mov rfl rfl) rfl rfl ?_
        refine hk_y (fun Y HY => y_mov rfl rfl) rfl rfl ?_
        refine hk_y (fun Y HY => y_iar (h.below HY.base) rfl rfl rfl kfref8_12 (rfl) (by omega) (Nat.mul_one _) (hgi)) rfl rfl ?_
        refine hk_y (fun Y HY => y_ldr (h.below HY.base) rfl rfl kfref8_13 (hgi)) rfl rfl ?_
        refine hk_y (fun Y HY => y_fa rfl rfl kfref8_18 rfl) rfl rfl ?_
        refine hk_y (fun Y HY => y_ld rfl rfl kfref8_13 (HY.cell (i := 0) rfl rfl)) rfl rfl ?_
        refine hk_y (fun Y HY => y_gtr rfl rfl rfl) rfl rfl ?_
        refine hk_nil ?_
        intro w27 H28
        refine tv_nil ?_
        refine fn_next ?_
        refine cw_condd rfl (fun h29 => ?_) (fun h29 => ?_)
        · skip
          refine cw_reg ?_
          refine ry (y_mov rfl rfl) rfl rfl ?_
          refine ry (y_mov rfl rfl) rfl rfl ?_
          refine ry (y_iar (h.below H28.base) rfl rfl rfl kfref8_12 (rfl) (by omega) (Nat.mul_one _) (hgi)) rfl rfl ?_
          refine ry (y_ldr (h.below H28.base) rfl rfl kfref8_13 (hgi)) rfl rfl ?_
          refine ry (y_fa rfl rfl kfref8_18 rfl) rfl rfl ?_
          refine reg_op (op_st (i := 0) (vs := [.int _ _]) H28 rfl rfl rfl rfl rfl kfref8_17 rfl rfl rfl) rfl rfl ?_
          rintro _ w30 H31
          refine reg_nil ?_
          refine fn_block ?_
          refine fn_next ?_
          refine cw_reg ?_
          refine ry (y_mov rfl rfl) rfl rfl ?_
          refine ry (y_add rfl rfl rfl (wi (by omega))) rfl rfl ?_
          refine ry (y_asg rfl rfl) rfl rfl ?_
          refine reg_nil ?_
          have em : mnI V (i + 1) = min (mnI V i) (nth V i) := rfl
          have ex : mxI V (i + 1) = max (mxI V i) (nth V i) := rfl
          have hNx : HS w w30 [Ob.blk b7 [.int .i64 (mnI V (i + 1)), .int .i64 (mxI V (i + 1))] 68, Ob.blk b1 [.int .i64 0, .int .i64 0] 68] := by
            first
            | (rw [show mnI V (i + 1) = nth V i by omega, show mxI V (i + 1) = nth V i by omega]; exact H31)
            | (rw [show mnI V (i + 1) = nth V i by omega, show mxI V (i + 1) = mxI V i by omega]; exact H31)
            | (rw [show mnI V (i + 1) = mnI V i by omega, show mxI V (i + 1) = nth V i by omega]; exact H31)
            | (rw [show mnI V (i + 1) = mnI V i by omega, show mxI V (i + 1) = mxI V i by omega]; exact H31)
          refine fn_roundJ ⟨i + 1, rfl, hNx, ⟨by omega, by omega⟩, rfl⟩ ⟨rfl, trivial⟩ (by omega) (by repeat (first | exact kp_refl | refine kp_app rfl rfl ?_ | refine kp_cons rfl ?_)) rfl
        · skip
          refine cw_skip ?_
          refine fn_block ?_
          refine fn_next ?_
          refine cw_reg ?_
          refine ry (y_mov rfl rfl) rfl rfl ?_
          refine ry (y_add rfl rfl rfl (wi (by omega))) rfl rfl ?_
          refine ry (y_asg rfl rfl) rfl rfl ?_
          refine reg_nil ?_
          have em : mnI V (i + 1) = min (mnI V i) (nth V i) := rfl
          have ex : mxI V (i + 1) = max (mxI V i) (nth V i) := rfl
          have hNx : HS w w27 [Ob.blk b7 [.int .i64 (mnI V (i + 1)), .int .i64 (mxI V (i + 1))] 68, Ob.blk b1 [.int .i64 0, .int .i64 0] 68] := by
            first
            | (rw [show mnI V (i + 1) = nth V i by omega, show mxI V (i + 1) = nth V i by omega]; exact H28)
            | (rw [show mnI V (i + 1) = nth V i by omega, show mxI V (i + 1) = mxI V i by omega]; exact H28)
            | (rw [show mnI V (i + 1) = mnI V i by omega, show mxI V (i + 1) = nth V i by omega]; exact H28)
            | (rw [show mnI V (i + 1) = mnI V i by omega, show mxI V (i + 1) = mxI V i by omega]; exact H28)
          refine fn_roundJ ⟨i + 1, rfl, hNx, ⟨by omega, by omega⟩, rfl⟩ ⟨rfl, trivial⟩ (by omega) (by repeat (first | exact kp_refl | refine kp_app rfl rfl ?_ | refine kp_cons rfl ?_)) rfl
      · skip
        refine cw_skip ?_
        refine fn_next ?_
        refine cw_seq ?_
        refine cw_draw H23 [0, 1, 2, 3, 4, 5, 6] [] (fun X HX => HX) (by kernel_rfl) (by kernel_rfl) (by rfl) ?_
        simp only [pick, List.getElem?_cons_succ, List.getElem?_cons_zero]
        refine hk_y (fun Y HY => y_mov rfl rfl) rfl rfl ?_
        refine hk_y (fun Y HY => y_mov rfl rfl) rfl rfl ?_
        refine hk_y (fun Y HY => y_iar (h.below HY.base) rfl rfl rfl kfref8_12 (rfl) (by omega) (Nat.mul_one _) (hgi)) rfl rfl ?_
        refine hk_y (fun Y HY => y_ldr (h.below HY.base) rfl rfl kfref8_13 (hgi)) rfl rfl ?_
        refine hk_y (fun Y HY => y_fa rfl rfl kfref8_18 rfl) rfl rfl ?_
        refine hk_y (fun Y HY => y_ld rfl rfl kfref8_13 (HY.cell (i := 0) rfl rfl)) rfl rfl ?_
        refine hk_y (fun Y HY => y_gtr rfl rfl rfl) rfl rfl ?_
        refine hk_nil ?_
        intro w32 H33
        refine tv_nil ?_
        refine fn_next ?_
        refine cw_condd rfl (fun h34 => ?_) (fun h34 => ?_)
        · skip
          refine cw_reg ?_
          refine ry (y_mov rfl rfl) rfl rfl ?_
          refine ry (y_mov rfl rfl) rfl rfl ?_
          refine ry (y_iar (h.below H33.base) rfl rfl rfl kfref8_12 (rfl) (by omega) (Nat.mul_one _) (hgi)) rfl rfl ?_
          refine ry (y_ldr (h.below H33.base) rfl rfl kfref8_13 (hgi)) rfl rfl ?_
          refine ry (y_fa rfl rfl kfref8_18 rfl) rfl rfl ?_
          refine reg_op (op_st (i := 0) (vs := [.int _ _]) H33 rfl rfl rfl rfl rfl kfref8_17 rfl rfl rfl) rfl rfl ?_
          rintro _ w35 H36
          refine reg_nil ?_
          refine fn_block ?_
          refine fn_next ?_
          refine cw_reg ?_
          refine ry (y_mov rfl rfl) rfl rfl ?_
          refine ry (y_add rfl rfl rfl (wi (by omega))) rfl rfl ?_
          refine ry (y_asg rfl rfl) rfl rfl ?_
          refine reg_nil ?_
          have em : mnI V (i + 1) = min (mnI V i) (nth V i) := rfl
          have ex : mxI V (i + 1) = max (mxI V i) (nth V i) := rfl
          have hNx : HS w w35 [Ob.blk b7 [.int .i64 (mnI V (i + 1)), .int .i64 (mxI V (i + 1))] 68, Ob.blk b1 [.int .i64 0, .int .i64 0] 68] := by
            first
            | (rw [show mnI V (i + 1) = nth V i by omega, show mxI V (i + 1) = nth V i by omega]; exact H36)
            | (rw [show mnI V (i + 1) = nth V i by omega, show mxI V (i + 1) = mxI V i by omega]; exact H36)
            | (rw [show mnI V (i + 1) = mnI V i by omega, show mxI V (i + 1) = nth V i by omega]; exact H36)
            | (rw [show mnI V (i + 1) = mnI V i by omega, show mxI V (i + 1) = mxI V i by omega]; exact H36)
          refine fn_roundJ ⟨i + 1, rfl, hNx, ⟨by omega, by omega⟩, rfl⟩ ⟨rfl, trivial⟩ (by omega) (by repeat (first | exact kp_refl | refine kp_app rfl rfl ?_ | refine kp_cons rfl ?_)) rfl
        · skip
          refine cw_skip ?_
          refine fn_block ?_
          refine fn_next ?_
          refine cw_reg ?_
          refine ry (y_mov rfl rfl) rfl rfl ?_
          refine ry (y_add rfl rfl rfl (wi (by omega))) rfl rfl ?_
          refine ry (y_asg rfl rfl) rfl rfl ?_
          refine reg_nil ?_
          have em : mnI V (i + 1) = min (mnI V i) (nth V i) := rfl
          have ex : mxI V (i + 1) = max (mxI V i) (nth V i) := rfl
          have hNx : HS w w32 [Ob.blk b7 [.int .i64 (mnI V (i + 1)), .int .i64 (mxI V (i + 1))] 68, Ob.blk b1 [.int .i64 0, .int .i64 0] 68] := by
            first
            | (rw [show mnI V (i + 1) = nth V i by omega, show mxI V (i + 1) = nth V i by omega]; exact H33)
            | (rw [show mnI V (i + 1) = nth V i by omega, show mxI V (i + 1) = mxI V i by omega]; exact H33)
            | (rw [show mnI V (i + 1) = mnI V i by omega, show mxI V (i + 1) = nth V i by omega]; exact H33)
            | (rw [show mnI V (i + 1) = mnI V i by omega, show mxI V (i + 1) = mxI V i by omega]; exact H33)
          refine fn_roundJ ⟨i + 1, rfl, hNx, ⟨by omega, by omega⟩, rfl⟩ ⟨rfl, trivial⟩ (by omega) (by repeat (first | exact kp_refl | refine kp_app rfl rfl ?_ | refine kp_cons rfl ?_)) rfl
    · skip
      obtain rfl : i = n := by omega
      refine cw_exit ?_
      refine fn_then_exit (fn_then_exit (fn_block_exit ?_))
      refine fn_next ?_
      refine cw_seq ?_
      refine cw_reg ?_
      refine ry (y_ldb (i := 0) (cs := [_, _]) H19 rfl rfl kfref8_19 rfl rfl) rfl rfl ?_
      refine reg_op (op_st (i := 1) (vs := [.int _ _, .int _ _]) H19 rfl rfl rfl rfl rfl kfref8_15 rfl rfl rfl) rfl rfl ?_
      rintro _ w37 H38
      refine reg_nil ?_
      refine fn_next ?_
      refine cw_ret ?_
      refine fn_ret1 rfl (⟨_, rfl, load_agg (cs := [_, _]) kfref8_19 rfl fun j v hv => by rw [Nat.zero_add]; exact H38.cell (i := 1) rfl hv⟩) ?_
      exact ⟨rfl, H38.base⟩

set_option maxRecDepth 100000 in
theorem refFlat_any (A : Option Addr) (n cap : Nat) (V : List Int) (w : World) (h : Rd w A (vi .i64 V)) (hl : V.length = n) (h0 : 1 ≤ n) (hn : n ≤ 4000000) :
    Ret Try.prog 36 [.slice A n cap] w (fun z w' => z = .tuple #[.int .i64 (flS V n).1, .bool (flS V n).2] ∧ Below w.heap.size w w') := by
  refine ret_enter Try.func36 rfl rfl rfl ?_
  have H0 := HS.start w
  refine cw_seq ?_
  refine cw_reg ?_
  refine ry (y_asg rfl rfl) rfl rfl ?_
  refine ry (y_asg rfl rfl) rfl rfl ?_
  refine reg_nil ?_
  refine fn_next ?_
  refine cw_seq ?_
  refine cw_reg ?_
  refine ry (y_mov rfl rfl) rfl rfl ?_
  refine reg_op (op_call (refRange_any A n cap V _ (h.below H0.base) hl h0 hn) rfl kfref8_20 ⟨rfl, trivial⟩) rfl rfl ?_
  rintro _ w2 ⟨rfl, e1⟩
  have H3 := H0.ext e1
  refine reg_op (op_alloc H3 rfl kfref8_14) rfl rfl ?_
  rintro _ w5 ⟨b4, rfl, H6⟩
  refine reg_op (op_st (i := 0) (vs := [.int _ _, .int _ _]) H6 rfl rfl rfl rfl rfl kfref8_15 rfl rfl rfl) rfl rfl ?_
  rintro _ w7 H8
  refine reg_nil ?_
  refine fn_next ?_
  refine cw_seq ?_
  refine cw_seq ?_
  refine cw_reg ?_
  refine ry (y_fa rfl rfl kfref8_16 rfl) rfl rfl ?_
  refine ry (y_ld rfl rfl kfref8_13 (H8.cell (i := 0) rfl rfl)) rfl rfl ?_
  refine ry (y_fa rfl rfl kfref8_18 rfl) rfl rfl ?_
  refine ry (y_ld rfl rfl kfref8_13 (H8.cell (i := 0) rfl rfl)) rfl rfl ?_
  refine ry (y_neq rfl rfl rfl) rfl rfl ?_
  refine ry (y_mov rfl rfl) rfl rfl ?_
  refine rg_splitd (d := 12) rfl (fun h9 => ?_) (fun h9 => ?_)
  · skip
    refine rg_off rfl rfl rfl rfl rfl ?_
    refine rg_off rfl rfl rfl rfl rfl ?_
    refine rg_off rfl rfl rfl rfl rfl ?_
    refine ry (y_pick rfl rfl rfl) rfl rfl ?_
    refine reg_nil ?_
    refine fn_next ?_
    refine cw_condt rfl ?_
    refine cw_seq ?_
    refine cw_reg ?_
    refine ry (y_asg rfl rfl) rfl rfl ?_
    refine ry (y_asg rfl rfl) rfl rfl ?_
    refine reg_nil ?_
    refine fn_next ?_
    refine cw_ret ?_
    refine fn_then_ret ?_
    refine fn_retn (vs := [_, _]) rfl ⟨rfl, rfl, trivial⟩ rfl ?_
    have hf : flS V n = (0, false) := by unfold flS; exact if_neg (by omega)
    rw [hf]
    exact ⟨rfl, H8.base⟩
  · skip
    refine rgy (y_mov rfl rfl) rfl rfl rfl rfl ?_
    refine rgy (y_len rfl Try.underlying32 rfl) rfl rfl rfl rfl ?_
    refine rgy (y_eql rfl rfl rfl) rfl rfl rfl rfl ?_
    refine ry (y_pick rfl rfl rfl) rfl rfl ?_
    refine reg_nil ?_
    refine fn_next ?_
    refine cw_condd rfl (fun hd => ?_) (fun hd => ?_)
    · skip
      refine cw_seq ?_
      refine cw_reg ?_
      refine ry (y_asg rfl rfl) rfl rfl ?_
      refine ry (y_asg rfl rfl) rfl rfl ?_
      refine reg_nil ?_
      refine fn_next ?_
      refine cw_ret ?_
      refine fn_then_ret ?_
      refine fn_retn (vs := [_, _]) rfl ⟨rfl, rfl, trivial⟩ rfl ?_
      have hf : flS V n = (0, false) := by unfold flS; exact if_neg (by omega)
      rw [hf]
      exact ⟨rfl, H8.base⟩
    · skip
      refine cw_skip ?_
      refine fn_next ?_
      refine cw_seq ?_
      refine cw_reg ?_
      refine ry (y_fa rfl rfl kfref8_16 rfl) rfl rfl ?_
      refine ry (y_ld rfl rfl kfref8_13 (H8.cell (i := 0) rfl rfl)) rfl rfl ?_
      refine ry (y_asg rfl rfl) rfl rfl ?_
      refine ry (y_asg rfl rfl) rfl rfl ?_
      refine reg_nil ?_
      refine fn_next ?_
      refine cw_ret ?_
      refine fn_retn (vs := [_, _]) rfl ⟨rfl, rfl, trivial⟩ rfl ?_
      have hq : mnI V n = mxI V n := by omega
      have hz := mnI_le (V := V) (n := n) (j := 0) (by omega)
      have hy := mxI_ge (V := V) (n := n) (j := 0) (by omega)
      have hf : flS V n = (nth V 0, true) := by unfold flS; exact if_pos hq
      rw [hf, show nth V 0 = mnI V n by omega]
      exact ⟨rfl, H8.base⟩

set_option maxRecDepth 100000 in
theorem refAt_no (a h : Nat) (A : Option Addr) (cap : Nat) (x y : Int) (V : List Int) (w : World) (p : sizeP a h) (hw : ¬ atC a h x y = 0) :
    Ret Try.prog 22 [.agg #[.int .i64 (a : Int), .int .i64 (h : Int), .slice A (a * h) cap], .agg #[.int .i64 x, .int .i64 y]] w (fun z w' => z = .tuple #[.int .i64 (atV V a h x y), .int .i64 (atC a h x y)] ∧ Below w.heap.size w w') := by
  have hc : atC a h x y = 4 := by obtain ⟨s1, s2, s3, s4⟩ := p; unfold atC withinC at hw ⊢; simp only [insideB_not] at hw ⊢; rw [if_neg (by unfold wrap64; omega)] at hw ⊢; split <;> rename_i hq; rfl; rw [if_neg hq, if_neg (by omega)] at hw; exact absurd rfl hw
  have hz : 0 ≤ x ∧ x < a ∧ 0 ≤ y ∧ y < h → atC a h x y = 0 := fun hz => by exfalso; obtain ⟨s1, s2, s3, s4⟩ := p; unfold atC withinC at hw; simp only [insideB_not] at hw; rw [if_neg (by unfold wrap64; omega), if_neg (by omega), if_neg (by omega)] at hw; exact hw rfl
  refine ret_enter Try.func22 rfl rfl rfl ?_
  have H0 := HS.start w
  refine cw_seq ?_
  refine cw_reg ?_
  refine reg_op (op_box (cs := [.int _ _, .int _ _, .slice _ _ _]) H0 rfl rfl rfl) rfl rfl ?_
  rintro _ w2 ⟨b1, rfl, H3⟩
  refine reg_op (op_box (cs := [.int _ _, .int _ _]) H3 rfl rfl rfl) rfl rfl ?_
  rintro _ w5 ⟨b4, rfl, H6⟩
  refine ry (y_asg rfl rfl) rfl rfl ?_
  refine ry (y_asg rfl rfl) rfl rfl ?_
  refine reg_nil ?_
  refine fn_next ?_
  refine cw_seq ?_
  refine cw_seq ?_
  refine cw_reg ?_
  refine ry (y_fa rfl rfl kfref8_21 rfl) rfl rfl ?_
  refine ry (y_ld rfl rfl kfref8_13 (H6.cell (i := 0) rfl rfl)) rfl rfl ?_
  refine ry (y_lss rfl rfl rfl) rfl rfl ?_
  refine ry (y_mov rfl rfl) rfl rfl ?_
  refine rg_splitd (d := 9) rfl (fun h7 => ?_) (fun h7 => ?_)
  · skip
    refine rg_off rfl rfl rfl rfl rfl ?_
    refine rg_off rfl rfl rfl rfl rfl ?_
    refine rg_off rfl rfl rfl rfl rfl ?_
    refine rg_off rfl rfl rfl rfl rfl ?_
    refine rg_off rfl rfl rfl rfl rfl ?_
    refine ry (y_pick rfl rfl rfl) rfl rfl ?_
    refine ry (y_mov rfl rfl) rfl rfl ?_
    refine rg_off rfl rfl rfl rfl rfl ?_
    refine rg_off rfl rfl rfl rfl rfl ?_
    refine rg_off rfl rfl rfl rfl rfl ?_
    refine ry (y_pick rfl rfl rfl) rfl rfl ?_
    refine ry (y_mov rfl rfl) rfl rfl ?_
    refine rg_off rfl rfl rfl rfl rfl ?_
    refine rg_off rfl rfl rfl rfl rfl ?_
    refine rg_off rfl rfl rfl rfl rfl ?_
    refine rg_off rfl rfl rfl rfl rfl ?_
    refine rg_off rfl rfl rfl rfl rfl ?_
    refine ry (y_pick rfl rfl rfl) rfl rfl ?_
    refine reg_nil ?_
    refine fn_next ?_
    refine cw_condt rfl ?_
    refine cw_seq ?_
    refine cw_reg ?_
    refine ry (y_asg rfl rfl) rfl rfl ?_
    refine ry (y_asg rfl rfl) rfl rfl ?_
    refine reg_nil ?_
    refine fn_next ?_
    refine cw_ret ?_
    refine fn_then_ret ?_
    refine fn_retn (vs := [_, _]) rfl ⟨rfl, rfl, trivial⟩ rfl ?_
    rw [atV_no hw]
    exact ⟨by rw [hc], H6.base⟩
  · skip
    refine rgy (y_fa rfl rfl kfref8_21 rfl) rfl rfl rfl rfl ?_
    refine rgy (y_ld rfl rfl kfref8_13 (H6.cell (i := 0) rfl rfl)) rfl rfl rfl rfl ?_
    refine rgy (y_fa rfl rfl kfref8_22 rfl) rfl rfl rfl rfl ?_
    refine rgy (y_ld rfl rfl kfref8_13 (H6.cell (i := 1) rfl rfl)) rfl rfl rfl rfl ?_
    refine rgy (y_geq rfl rfl rfl) rfl rfl rfl rfl ?_
    refine ry (y_pick rfl rfl rfl) rfl rfl ?_
    refine ry (y_mov rfl rfl) rfl rfl ?_
    refine rg_splitd (d := 16) rfl (fun h8 => ?_) (fun h8 => ?_)
    · skip
      refine rg_off rfl rfl rfl rfl rfl ?_
      refine rg_off rfl rfl rfl rfl rfl ?_
      refine rg_off rfl rfl rfl rfl rfl ?_
      refine ry (y_pick rfl rfl rfl) rfl rfl ?_
      refine ry (y_mov rfl rfl) rfl rfl ?_
      refine rg_off rfl rfl rfl rfl rfl ?_
      refine rg_off rfl rfl rfl rfl rfl ?_
      refine rg_off rfl rfl rfl rfl rfl ?_
      refine rg_off rfl rfl rfl rfl rfl ?_
      refine rg_off rfl rfl rfl rfl rfl ?_
      refine ry (y_pick rfl rfl rfl) rfl rfl ?_
      refine reg_nil ?_
      refine fn_next ?_
      refine cw_condt rfl ?_
      refine cw_seq ?_
      refine cw_reg ?_
      refine ry (y_asg rfl rfl) rfl rfl ?_
      refine ry (y_asg rfl rfl) rfl rfl ?_
      refine reg_nil ?_
      refine fn_next ?_
      refine cw_ret ?_
      refine fn_then_ret ?_
      refine fn_retn (vs := [_, _]) rfl ⟨rfl, rfl, trivial⟩ rfl ?_
      rw [atV_no hw]
      exact ⟨by rw [hc], H6.base⟩
    · skip
      refine rgy (y_fa rfl rfl kfref8_23 rfl) rfl rfl rfl rfl ?_
      refine rgy (y_ld rfl rfl kfref8_13 (H6.cell (i := 0) rfl rfl)) rfl rfl rfl rfl ?_
      refine rgy (y_lss rfl rfl rfl) rfl rfl rfl rfl ?_
      refine ry (y_pick rfl rfl rfl) rfl rfl ?_
      refine ry (y_mov rfl rfl) rfl rfl ?_
      refine rg_splitd (d := 21) rfl (fun h9 => ?_) (fun h9 => ?_)
      · skip
        refine rg_off rfl rfl rfl rfl rfl ?_
        refine rg_off rfl rfl rfl rfl rfl ?_
        refine rg_off rfl rfl rfl rfl rfl ?_
        refine rg_off rfl rfl rfl rfl rfl ?_
        refine rg_off rfl rfl rfl rfl rfl ?_
        refine ry (y_pick rfl rfl rfl) rfl rfl ?_
        refine reg_nil ?_
        refine fn_next ?_
        refine cw_condt rfl ?_
        refine cw_seq ?_
        refine cw_reg ?_
        refine ry (y_asg rfl rfl) rfl rfl ?_
        refine ry (y_asg rfl rfl) rfl rfl ?_
        refine reg_nil ?_
        refine fn_next ?_
        refine cw_ret ?_
        refine fn_then_ret ?_
        refine fn_retn (vs := [_, _]) rfl ⟨rfl, rfl, trivial⟩ rfl ?_
        rw [atV_no hw]
        exact ⟨by rw [hc], H6.base⟩
      · skip
        refine rgy (y_fa rfl rfl kfref8_23 rfl) rfl rfl rfl rfl ?_
        refine rgy (y_ld rfl rfl kfref8_13 (H6.cell (i := 0) rfl rfl)) rfl rfl rfl rfl ?_
        refine rgy (y_fa rfl rfl kfref8_24 rfl) rfl rfl rfl rfl ?_
        refine rgy (y_ld rfl rfl kfref8_13 (H6.cell (i := 1) rfl rfl)) rfl rfl rfl rfl ?_
        refine rgy (y_geq rfl rfl rfl) rfl rfl rfl rfl ?_
        refine ry (y_pick rfl rfl rfl) rfl rfl ?_
        refine reg_nil ?_
        refine fn_next ?_
        refine cw_condd rfl (fun h10 => ?_) (fun h10 => ?_)
        · skip
          refine cw_seq ?_
          refine cw_reg ?_
          refine ry (y_asg rfl rfl) rfl rfl ?_
          refine ry (y_asg rfl rfl) rfl rfl ?_
          refine reg_nil ?_
          refine fn_next ?_
          refine cw_ret ?_
          refine fn_then_ret ?_
          refine fn_retn (vs := [_, _]) rfl ⟨rfl, rfl, trivial⟩ rfl ?_
          rw [atV_no hw]
          exact ⟨by rw [hc], H6.base⟩
        · exact absurd (hz (by omega)) hw

set_option maxRecDepth 100000 in
theorem refAt_ok (a h : Nat) (A : Option Addr) (cap : Nat) (x y : Int) (V : List Int) (w : World) (p : sizeP a h) (hr : Rd w A (vi .i64 V)) (hl : V.length = a * h) (hw : atC a h x y = 0) :
    Ret Try.prog 22 [.agg #[.int .i64 (a : Int), .int .i64 (h : Int), .slice A (a * h) cap], .agg #[.int .i64 x, .int .i64 y]] w (fun z w' => z = .tuple #[.int .i64 (atV V a h x y), .int .i64 (atC a h x y)] ∧ Below w.heap.size w w') := by
  obtain ⟨x, y, rfl, rfl, hx, hy⟩ := at_nat p hw
  obtain ⟨e1, e2, e3⟩ := row_bd p hx hy
  have hgi := vi_get (k := .i64) (zs := V) (i := y * a + x) (by omega)
  refine ret_enter Try.func22 rfl rfl rfl ?_
  have H0 := HS.start w
  refine cw_seq ?_
  refine cw_reg ?_
  refine reg_op (op_box (cs := [.int _ _, .int _ _, .slice _ _ _]) H0 rfl rfl rfl) rfl rfl ?_
  rintro _ w2 ⟨b1, rfl, H3⟩
  refine reg_op (op_box (cs := [.int _ _, .int _ _]) H3 rfl rfl rfl) rfl rfl ?_
  rintro _ w5 ⟨b4, rfl, H6⟩
  refine ry (y_asg rfl rfl) rfl rfl ?_
  refine ry (y_asg rfl rfl) rfl rfl ?_
  refine reg_nil ?_
  refine fn_next ?_
  refine cw_seq ?_
  refine cw_seq ?_
  refine cw_reg ?_
  refine ry (y_fa rfl rfl kfref8_21 rfl) rfl rfl ?_
  refine ry (y_ld rfl rfl kfref8_13 (H6.cell (i := 0) rfl rfl)) rfl rfl ?_
  refine ry (y_lss rfl rfl rfl) rfl rfl ?_
  refine ry (y_mov rfl rfl) rfl rfl ?_
  refine rg_splitd (d := 9) rfl (fun h7 => ?_) (fun h7 => ?_)
  · exfalso; omega
  · skip
    refine rgy (y_fa rfl rfl kfref8_21 rfl) rfl rfl rfl rfl ?_
    refine rgy (y_ld rfl rfl kfref8_13 (H6.cell (i := 0) rfl rfl)) rfl rfl rfl rfl ?_
    refine rgy (y_fa rfl rfl kfref8_22 rfl) rfl rfl rfl rfl ?_
    refine rgy (y_ld rfl rfl kfref8_13 (H6.cell (i := 1) rfl rfl)) rfl rfl rfl rfl ?_
    refine rgy (y_geq rfl rfl rfl) rfl rfl rfl rfl ?_
    refine ry (y_pick rfl rfl rfl) rfl rfl ?_
    refine ry (y_mov rfl rfl) rfl rfl ?_
    refine rg_splitd (d := 16) rfl (fun h8 => ?_) (fun h8 => ?_)
    · exfalso; omega
    · skip
      refine rgy (y_fa rfl rfl kfref8_23 rfl) rfl rfl rfl rfl ?_
      refine rgy (y_ld rfl rfl kfref8_13 (H6.cell (i := 0) rfl rfl)) rfl rfl rfl rfl ?_
      refine rgy (y_lss rfl rfl rfl) rfl rfl rfl rfl ?_
      refine ry (y_pick rfl rfl rfl) rfl rfl ?_
      refine ry (y_mov rfl rfl) rfl rfl ?_
      refine rg_splitd (d := 21) rfl (fun h9 => ?_) (fun h9 => ?_)
      · exfalso; omega
      · skip
        refine rgy (y_fa rfl rfl kfref8_23 rfl) rfl rfl rfl rfl ?_
        refine rgy (y_ld rfl rfl kfref8_13 (H6.cell (i := 0) rfl rfl)) rfl rfl rfl rfl ?_
        refine rgy (y_fa rfl rfl kfref8_24 rfl) rfl rfl rfl rfl ?_
        refine rgy (y_ld rfl rfl kfref8_13 (H6.cell (i := 1) rfl rfl)) rfl rfl rfl rfl ?_
        refine rgy (y_geq rfl rfl rfl) rfl rfl rfl rfl ?_
        refine ry (y_pick rfl rfl rfl) rfl rfl ?_
        refine reg_nil ?_
        refine fn_next ?_
        refine cw_condd rfl (fun h10 => ?_) (fun h10 => ?_)
        · exfalso; omega
        · skip
          refine cw_skip ?_
          refine fn_next ?_
          refine cw_seq ?_
          refine cw_reg ?_
          refine ry (y_fa rfl rfl kfref8_7 rfl) rfl rfl ?_
          refine ry (y_ld rfl rfl kfref8_8 (H6.cell (i := 1) rfl rfl)) rfl rfl ?_
          refine ry (y_fa rfl rfl kfref8_23 rfl) rfl rfl ?_
          refine ry (y_ld rfl rfl kfref8_13 (H6.cell (i := 0) rfl rfl)) rfl rfl ?_
          refine ry (y_fa rfl rfl kfref8_22 rfl) rfl rfl ?_
          refine ry (y_ld rfl rfl kfref8_13 (H6.cell (i := 1) rfl rfl)) rfl rfl ?_
          refine ry (y_mul rfl rfl rfl (show _ = ((y * a : Nat) : Int) from by rw [e1]; exact wi (by omega))) rfl rfl ?_
          refine ry (y_fa rfl rfl kfref8_21 rfl) rfl rfl ?_
          refine ry (y_ld rfl rfl kfref8_13 (H6.cell (i := 0) rfl rfl)) rfl rfl ?_
          refine ry (y_add rfl rfl rfl (show _ = ((y * a + x : Nat) : Int) from by rw [← Int.natCast_add]; exact wi (by omega))) rfl rfl ?_
          refine ry (y_iar (hr.below H6.base) rfl rfl rfl kfref8_12 (rfl) (by omega) (Nat.mul_one _) (hgi)) rfl rfl ?_
          refine ry (y_ldr (hr.below H6.base) rfl rfl kfref8_13 (hgi)) rfl rfl ?_
          refine ry (y_asg rfl rfl) rfl rfl ?_
          refine ry (y_asg rfl rfl) rfl rfl ?_
          refine reg_nil ?_
          refine fn_next ?_
          refine cw_ret ?_
          refine fn_retn (vs := [_, _]) rfl ⟨rfl, rfl, trivial⟩ rfl ?_
          rw [atV_ok hw, hw]
          exact ⟨rfl, H6.base⟩

theorem refAt_any (a h : Nat) (A : Option Addr) (cap : Nat) (x y : Int) (V : List Int) (w : World) (p : sizeP a h) (hr : Rd w A (vi .i64 V)) (hl : V.length = a * h) : Ret Try.prog 22 [.agg #[.int .i64 (a : Int), .int .i64 (h : Int), .slice A (a * h) cap], .agg #[.int .i64 x, .int .i64 y]] w (fun z w' => z = .tuple #[.int .i64 (atV V a h x y), .int .i64 (atC a h x y)] ∧ Below w.heap.size w w') := by
  by_cases hw : atC a h x y = 0
  · exact refAt_ok a h A cap x y V w p hr hl hw
  · exact refAt_no a h A cap x y V w p hw

end Go.Proofs.Ytkphmcaoioaglaa
