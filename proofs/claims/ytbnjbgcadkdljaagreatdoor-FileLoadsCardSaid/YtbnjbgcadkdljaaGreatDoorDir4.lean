/- Layer 13: Get, the program's and the reference's. -/
import Derived.Test.YtbnjbgcadkdljaaGreatDoorDir3
set_option linter.unusedVariables false
set_option linter.unusedSimpArgs false
namespace Go.Proofs.YtbnjbgcadkdljaaGreatDoor
open Go Go.RowKit
theorem kfdir4_1 : (Tryz.prog.info? 5).map (fun i => (i.size, i.zero.map Value.cells)) = some (1, some (List.toArray [(.int .u8 0)])) := by kernel_rfl
theorem kfdir4_2 : callB Tryz.prog 55 = true := by kernel_rfl
theorem kfdir4_3 : (Tryz.prog.info? 97).bind (fun i => i.zero.map Value.cells) = some (List.toArray [(.slice none 0 0), (.int .i64 0)]) := by kernel_rfl
theorem kfdir4_4 : callB Tryz.prog 56 = true := by kernel_rfl
theorem kfdir4_5 : callB Tryz.prog 57 = true := by kernel_rfl
theorem kfdir4_6 : callB Tryz.prog 58 = true := by kernel_rfl
theorem kfdir4_7 : (Tryz.prog.info? 50).bind (fun i => i.zero.map Value.cells) = some (List.toArray [(.int .i64 0), (.int .i64 0)]) := by kernel_rfl
theorem kfdir4_8 : szB Tryz.prog 50 2 = true := by kernel_rfl
theorem kfdir4_9 : fldB Tryz.prog 50 0 0 = true := by kernel_rfl
theorem kfdir4_10 : oneB Tryz.prog 2 = true := by kernel_rfl
theorem kfdir4_11 : fldB Tryz.prog 50 1 1 = true := by kernel_rfl
theorem kfdir4_12 : aggB Tryz.prog 50 2 = true := by kernel_rfl
theorem kfdir4_13 : (Tryz.prog.info? 50).map (fun i => (i.size, i.zero.map Value.cells)) = some (2, some (List.toArray [(.int .i64 0), (.int .i64 0)])) := by kernel_rfl
theorem kfdir4_14 : (Tryz.prog.info? 50).map (fun i => (i.zero.map (·.cells.toList), i.size, i.bytes)) = some (some [(.int .i64 0), (.int .i64 0)], 2, 16) := by kernel_rfl
theorem kfdir4_15 : elB Tryz.prog 22 1 = true := by kernel_rfl
theorem kfdir4_16 : callB Tryz.prog 40 = true := by kernel_rfl
theorem kfdir4_17 : callB Tryz.prog 41 = true := by kernel_rfl
theorem lens_take {zs : List Int} {i : Nat} (hi : i < nOf zs) : (lensOf zs (nOf zs)).take (i + 1) = (lensOf zs (nOf zs)).take i ++ [num zs (17 + 8 * i) 4] := by
  rw [take_succ_nth (by rw [lensOf_len]; exact hi), lensOf_at hi]
theorem wh_bd {zs : List Int} (hB : Byt zs) : (1 ≤ wOf zs ∧ wOf zs ≤ 4294967296) ∧ 1 ≤ hOf zs ∧ hOf zs ≤ 4294967296 := by
  have h1 := num_bd hB 5 (k := 2) (by omega)
  have h2 := num_bd hB 7 (k := 2) (by omega)
  unfold wOf hOf; omega

set_option maxRecDepth 100000 in
theorem dirGet_any (A : Option Addr) (m cap : Nat) (zs : List Int) (w : World) (h : Rd w A (vi .u8 zs)) (hl : zs.length = m) (hm : m ≤ 1000000) (hcap : m ≤ cap) (hB : Byt zs) :
    Ret Tryz.prog 19 [.slice A m cap] w (DirGetR zs w) := by
  have hwh := wh_bd hB
  have n5 := num_bd hB 5 (k := 2) (by omega)
  have n7 := num_bd hB 7 (k := 2) (by omega)
  have n9 := num_bd hB 9 (k := 4) (by omega)
  refine ret_enter Tryz.func19 rfl rfl rfl ?_
  have H0 := HS.start w
  refine cw_seq ?_
  refine cw_reg ?_
  refine ry (y_asg rfl rfl) rfl rfl ?_
  refine ry (y_asg rfl rfl) rfl rfl ?_
  refine ry (y_asg rfl rfl) rfl rfl ?_
  refine ry (y_asg rfl rfl) rfl rfl ?_
  refine reg_nil ?_
  refine fn_next ?_
  refine cw_seq ?_
  refine cw_block ?_
  refine cw_seq ?_
  refine cw_reg ?_
  refine ry (y_mov rfl rfl) rfl rfl ?_
  refine ry (y_len rfl Tryz.underlying22 rfl) rfl rfl ?_
  refine ry (y_lss rfl rfl rfl) rfl rfl ?_
  refine ry (y_asg rfl rfl) rfl rfl ?_
  refine reg_nil ?_
  refine fn_next ?_
  refine cw_condd rfl (fun g1 => ?_) (fun g1 => ?_)
  · skip
    refine cw_seq ?_
    refine cw_reg ?_
    refine ry (y_asg rfl rfl) rfl rfl ?_
    refine ry (y_asg rfl rfl) rfl rfl ?_
    refine ry (y_asg rfl rfl) rfl rfl ?_
    refine ry (y_asg rfl rfl) rfl rfl ?_
    refine reg_nil ?_
    refine fn_next ?_
    refine cw_ret ?_
    refine fn_block_ret (fn_then_ret ?_)
    refine fn_retn (vs := [_, _, _, _]) rfl ⟨rfl, rfl, rfl, rfl, trivial⟩ rfl ?_
    unfold DirGetR; rw [dg_14 (by omega)]
    exact ⟨none, 0, rfl, (H0.nilrow _ _).pick [0] rfl (by decide)⟩
  · skip
    refine cw_seq ?_
    refine cw_reg ?_
    refine ry (y_mov rfl rfl) rfl rfl ?_
    refine reg_op (op_lit (parts := [(0, _), (1, _), (2, _), (3, _), (4, _)]) (vs := [(0, _), (1, _), (2, _), (3, _), (4, _)]) (cs := [.int _ _, .int _ _, .int _ _, .int _ _, .int _ _]) H0 rfl Tryz.underlying22 kfdir4_1 rfl ⟨rfl, rfl, rfl, rfl, rfl, trivial⟩ rfl rfl) rfl rfl ?_
    rintro _ w3 ⟨b2, rfl, H4⟩
    have H5 := H4.asrow (m := 5) (size := 1) rfl (by decide)
    refine reg_op (op_cvsl (i := 0) H5 rfl Tryz.underlying22 Tryz.underlying5 rfl rfl rfl rfl) rfl rfl ?_
    rintro _ w6 ⟨rfl, H7⟩
    refine reg_op (op_call (hasPrefix_any A m cap zs _ 5 _ magic _ (h.below H7.base) hl hB (H7.rdo (i := 0) rfl) rfl magic_byt (by omega) hcap) rfl kfdir4_2 ⟨rfl, rfl, trivial⟩) rfl rfl ?_
    rintro _ w9 ⟨rfl, e8⟩
    have H10 := H7.ext e8
    refine ry (y_notd rfl rfl) rfl rfl ?_
    refine ry (y_asg rfl rfl) rfl rfl ?_
    refine reg_nil ?_
    refine fn_next ?_
    refine cw_condd rfl (fun g2 => ?_) (fun g2 => ?_)
    · skip
      refine cw_seq ?_
      refine cw_reg ?_
      refine ry (y_asg rfl rfl) rfl rfl ?_
      refine ry (y_asg rfl rfl) rfl rfl ?_
      refine ry (y_asg rfl rfl) rfl rfl ?_
      refine ry (y_asg rfl rfl) rfl rfl ?_
      refine reg_nil ?_
      refine fn_next ?_
      refine cw_ret ?_
      refine fn_block_ret (fn_then_ret ?_)
      refine fn_retn (vs := [_, _, _, _]) rfl ⟨rfl, rfl, rfl, rfl, trivial⟩ rfl ?_
      unfold DirGetR; rw [dg_13 (by omega) g2]
      exact ⟨none, 0, rfl, (H10.nilrow _ _).pick [0] rfl (by decide)⟩
    · skip
      have g2' := Classical.not_not.1 g2
      refine cw_skip ?_
      refine fn_block ?_
      refine fn_next ?_
      refine cw_seq ?_
      refine cw_reg ?_
      refine ry (y_mov rfl rfl) rfl rfl ?_
      refine ry (y_build (places := [(0, 1), (1, 1)]) (parts := [(0, _), (1, _)]) (vs := [(0, _), (1, _)]) (cs := [.slice _ _ _, .int _ _]) rfl Tryz.underlying97 (by kernel_rfl) kfdir4_3 rfl ⟨rfl, rfl, trivial⟩ rfl) rfl rfl ?_
      refine reg_op (op_box (cs := [.slice _ _ _, .int _ _]) H10 rfl rfl rfl) rfl rfl ?_
      rintro _ w13 ⟨b12, rfl, H14⟩
      refine ry (y_asg rfl rfl) rfl rfl ?_
      refine reg_nil ?_
      refine fn_next ?_
      refine cw_seq ?_
      refine cw_reg ?_
      refine ry (y_mov rfl rfl) rfl rfl ?_
      refine reg_op (op_call (next_any w _ b12 A m cap zs 5 2 _ H14 h hl hm hcap hB (by omega) (by omega) (by omega)) rfl kfdir4_4 ⟨rfl, rfl, trivial⟩) rfl rfl ?_
      rintro _ w16 ⟨rfl, H15⟩
      refine ry (y_add rfl rfl rfl (wi (by omega))) rfl rfl ?_
      refine ry (y_mov rfl rfl) rfl rfl ?_
      refine reg_op (op_call (next_any w _ b12 A m cap zs 7 2 _ H15 h hl hm hcap hB (by omega) (by omega) (by omega)) rfl kfdir4_4 ⟨rfl, rfl, trivial⟩) rfl rfl ?_
      rintro _ w18 ⟨rfl, H17⟩
      refine ry (y_add rfl rfl rfl (wi (by omega))) rfl rfl ?_
      refine ry (y_asg rfl rfl) rfl rfl ?_
      refine ry (y_asg rfl rfl) rfl rfl ?_
      refine reg_nil ?_
      refine fn_next ?_
      refine cw_seq ?_
      refine cw_reg ?_
      refine ry (y_mov rfl rfl) rfl rfl ?_
      refine ry (y_mov rfl rfl) rfl rfl ?_
      refine reg_op (op_call (Tiles_any (wOf zs) (hOf zs) _ (by omega) (by omega)) rfl kfdir4_5 ⟨rfl, rfl, trivial⟩) rfl rfl ?_
      rintro _ w20 ⟨rfl, e19⟩
      have H21 := H17.ext e19
      refine ry (y_mov rfl rfl) rfl rfl ?_
      refine ry (y_ext rfl rfl rfl) rfl rfl ?_
      refine ry (y_ext rfl rfl rfl) rfl rfl ?_
      refine ry (y_asg rfl rfl) rfl rfl ?_
      refine ry (y_asg rfl rfl) rfl rfl ?_
      refine reg_nil ?_
      refine fn_next ?_
      refine cw_seq ?_
      refine cw_reg ?_
      refine ry (y_mov rfl rfl) rfl rfl ?_
      refine ry (y_mov rfl rfl) rfl rfl ?_
      refine reg_op (op_call (Size_any (wOf zs) (hOf zs) _ (by omega) (by omega)) rfl kfdir4_6 ⟨rfl, rfl, trivial⟩) rfl rfl ?_
      rintro _ w23 ⟨rfl, e22⟩
      have H24 := H21.ext e22
      refine ry (y_mov rfl rfl) rfl rfl ?_
      refine ry (y_ext rfl rfl rfl) rfl rfl ?_
      refine ry (y_ext rfl rfl rfl) rfl rfl ?_
      refine ry (y_asg rfl rfl) rfl rfl ?_
      refine ry (y_asg rfl rfl) rfl rfl ?_
      refine reg_nil ?_
      refine fn_next ?_
      refine cw_seq ?_
      refine cw_block ?_
      refine cw_seq ?_
      refine cw_reg ?_
      refine ry (y_mov rfl rfl) rfl rfl ?_
      refine ry (y_neq rfl rfl rfl) rfl rfl ?_
      refine ry (y_asg rfl rfl) rfl rfl ?_
      refine reg_nil ?_
      refine fn_next ?_
      refine cw_condd rfl (fun g3 => ?_) (fun g3 => ?_)
      · skip
        refine cw_seq ?_
        refine cw_reg ?_
        refine ry (y_mov rfl rfl) rfl rfl ?_
        refine ry (y_asg rfl rfl) rfl rfl ?_
        refine ry (y_asg rfl rfl) rfl rfl ?_
        refine ry (y_asg rfl rfl) rfl rfl ?_
        refine ry (y_asg rfl rfl) rfl rfl ?_
        refine reg_nil ?_
        refine fn_next ?_
        refine cw_ret ?_
        refine fn_block_ret (fn_then_ret ?_)
        refine fn_retn (vs := [_, _, _, _]) rfl ⟨rfl, rfl, rfl, rfl, trivial⟩ rfl ?_
        unfold DirGetR; rw [dg_3 (by omega) g2' (tilS_bad g3).1, (tilS_bad g3).2]
        exact ⟨none, 0, rfl, (H24.nilrow _ _).pick [0] rfl (by decide)⟩
      · skip
        have hb := tilS_zero (Classical.not_not.1 g3)
        have ht := tilS_fst hb
        have hs := sizS_fst hb
        have htb := tilN_bd hb
        have hno : ((nOf zs : Nat) : Int) = tilN (wOf zs) (hOf zs) := by unfold nOf; omega
        have hbase : baseOf zs = 13 + 8 * tilN (wOf zs) (hOf zs) := rfl
        refine cw_seq ?_
        refine cw_reg ?_
        refine ry (y_mov rfl rfl) rfl rfl ?_
        refine reg_op (op_call (next_any w _ b12 A m cap zs 9 4 _ H24 h hl hm hcap hB (by omega) (by omega) (by omega)) rfl kfdir4_4 ⟨rfl, rfl, trivial⟩) rfl rfl ?_
        rintro _ w27 ⟨rfl, H26⟩
        refine ry (y_mov rfl rfl) rfl rfl ?_
        refine ry (y_neq rfl rfl rfl) rfl rfl ?_
        refine ry (y_asg rfl rfl) rfl rfl ?_
        refine reg_nil ?_
        refine fn_next ?_
        refine cw_condd rfl (fun g4 => ?_) (fun g4 => ?_)
        · skip
          rw [ht] at g4
          refine cw_seq ?_
          refine cw_reg ?_
          refine ry (y_asg rfl rfl) rfl rfl ?_
          refine ry (y_asg rfl rfl) rfl rfl ?_
          refine ry (y_asg rfl rfl) rfl rfl ?_
          refine ry (y_asg rfl rfl) rfl rfl ?_
          refine reg_nil ?_
          refine fn_next ?_
          refine cw_ret ?_
          refine fn_block_ret (fn_then_ret ?_)
          refine fn_retn (vs := [_, _, _, _]) rfl ⟨rfl, rfl, rfl, rfl, trivial⟩ rfl ?_
          unfold DirGetR; rw [dg_6 (by omega) g2' hb g4]
          exact ⟨none, 0, rfl, (H26.nilrow _ _).pick [0] rfl (by decide)⟩
        · skip
          rw [ht] at g4
          have g4' := Classical.not_not.1 g4
          refine cw_seq ?_
          refine cw_reg ?_
          refine ry (y_mov rfl rfl) rfl rfl ?_
          refine ry (y_len rfl Tryz.underlying22 rfl) rfl rfl ?_
          refine ry (y_mov rfl rfl) rfl rfl ?_
          refine ry (y_lss rfl rfl rfl) rfl rfl ?_
          refine ry (y_asg rfl rfl) rfl rfl ?_
          refine reg_nil ?_
          refine fn_next ?_
          refine cw_condd rfl (fun g5 => ?_) (fun g5 => ?_)
          · skip
            rw [hs] at g5
            refine cw_seq ?_
            refine cw_reg ?_
            refine ry (y_asg rfl rfl) rfl rfl ?_
            refine ry (y_asg rfl rfl) rfl rfl ?_
            refine ry (y_asg rfl rfl) rfl rfl ?_
            refine ry (y_asg rfl rfl) rfl rfl ?_
            refine reg_nil ?_
            refine fn_next ?_
            refine cw_ret ?_
            refine fn_block_ret (fn_then_ret ?_)
            refine fn_retn (vs := [_, _, _, _]) rfl ⟨rfl, rfl, rfl, rfl, trivial⟩ rfl ?_
            unfold DirGetR; rw [dg_14b (by omega) g2' hb g4' (by omega)]
            exact ⟨none, 0, rfl, (H26.nilrow _ _).pick [0] rfl (by decide)⟩
          · skip
            rw [hs] at g5
            refine cw_skip ?_
            refine fn_block ?_
            refine fn_next ?_
            refine cw_seq ?_
            refine cw_reg ?_
            refine ry (y_asg rfl rfl) rfl rfl ?_
            refine reg_nil ?_
            refine fn_next ?_
            refine cw_seq ?_
            refine cw_reg ?_
            refine ry (y_mov rfl rfl) rfl rfl ?_
            refine ry (y_asg rfl rfl) rfl rfl ?_
            refine reg_nil ?_
            refine fn_next ?_
            refine cw_seq ?_
            refine cw_seq ?_
            refine cw_reg ?_
            refine ry (y_mov rfl rfl) rfl rfl ?_
            refine ry (y_mov rfl rfl) rfl rfl ?_
            refine reg_nil ?_
            refine fn_next ?_
            refine cw_block ?_
            have H30 := H26.nilrow 50 2
            refine cw_loopJ [2, 3, 4, 5, 13, 14, 15, 63, 64, 65, 66, 67, 68, 69, 70, 71, 72, 73, 74, 75, 76, 77, 78, 79, 80, 81, 82, 83, 84, 85, 86, 87, 88, 89, 90, 91, 92] (fun M wl ml => ∃ (i : Nat) (A' : Option Addr) (cap' : Nat), M = [(13, .slice A' i cap'), (14, .int .i64 (baseOf zs + sumL ((lensOf zs (nOf zs)).take i))), (63, .int .i64 (i : Int))] ∧ HS w wl [.row A' i cap' (vi .i64 (entF (baseOf zs) ((lensOf zs (nOf zs)).take i))) 50 2, .blk b12 [.slice A m cap, .int .i64 ((13 + 8 * i : Nat) : Int)] 97] ∧ (i ≤ nOf zs) ∧ (Hid (∀ j, j < i → okE zs (nOf zs) j)) ∧ ml = nOf zs - i) ⟨0, _, _, rfl, (H30.pick (m := [_, _]) [0, 1] rfl (by decide)), Nat.zero_le _, Lib.hid (fun j hj => absurd hj (Nat.not_lt_zero _)), rfl⟩ ⟨rfl, si (by simp [sumL]; omega), rfl, trivial⟩ ?_
            rintro M w31 m33 ⟨i, A', cap', rfl, H32, hp0, hp1, rfl⟩
            refine cw_seq ?_
            refine cw_reg ?_
            refine ry (y_lss rfl rfl rfl) rfl rfl ?_
            refine reg_nil ?_
            refine fn_next ?_
            refine cw_seq ?_
            refine cw_condd rfl (fun h34 => ?_) (fun h34 => ?_)
            · skip
              have hil : i < nOf zs := by omega
              have hnb1 := num_bd hB (13 + 8 * i) (k := 4) (by omega)
              have hnb2 := num_bd hB (17 + 8 * i) (k := 4) (by omega)
              have hLb := upto_bd hp0 hp1.out
              have hsb := sumL_bd hLb
              have hLl : ((lensOf zs (nOf zs)).take i).length = i := by rw [List.length_take, lensOf_len]; omega
              have hlt := lens_take hil
              refine cw_skip ?_
              refine fn_next ?_
              refine cw_seq ?_
              refine cw_block ?_
              refine cw_seq ?_
              refine cw_reg ?_
              refine ry (y_mov rfl rfl) rfl rfl ?_
              refine reg_op (op_call (next_any w _ b12 A m cap zs (13 + 8 * i) 4 _ (H32.pick (m := [_, _]) [1, 0] rfl (by decide)) h hl hm hcap hB (by omega) (by omega) (by omega)) rfl kfdir4_4 ⟨rfl, rfl, trivial⟩) rfl rfl ?_
              rintro _ w36 ⟨rfl, H35⟩
              refine ry (y_mov rfl rfl) rfl rfl ?_
              rw [show 13 + 8 * i + 4 = 17 + 8 * i by omega] at H35
              refine reg_op (op_call (next_any w _ b12 A m cap zs (17 + 8 * i) 4 _ H35 h hl hm hcap hB (by omega) (by omega) (by omega)) rfl kfdir4_4 ⟨rfl, rfl, trivial⟩) rfl rfl ?_
              rintro _ w38 ⟨rfl, H37⟩
              refine ry (y_build (places := [(0, 1), (1, 1)]) (parts := [(0, _), (1, _)]) (vs := [(0, _), (1, _)]) (cs := [.int _ _, .int _ _]) rfl Tryz.underlying50 (by kernel_rfl) kfdir4_7 rfl ⟨rfl, rfl, trivial⟩ rfl) rfl rfl ?_
              refine reg_op (op_alloc H37 rfl kfdir4_7) rfl rfl ?_
              rintro _ w40 ⟨b39, rfl, H41⟩
              refine reg_op (op_st (i := 0) (vs := [.int _ _, .int _ _]) H41 rfl rfl rfl rfl rfl kfdir4_8 rfl rfl rfl) rfl rfl ?_
              rintro _ w42 H43
              refine reg_nil ?_
              refine fn_next ?_
              refine cw_seq ?_
              refine cw_seq ?_
              refine cw_reg ?_
              refine ry (y_fa rfl rfl kfdir4_9 rfl) rfl rfl ?_
              refine ry (y_ld rfl rfl kfdir4_10 (H43.cell (i := 0) rfl rfl)) rfl rfl ?_
              refine ry (y_mov rfl rfl) rfl rfl ?_
              refine ry (y_neq rfl rfl rfl) rfl rfl ?_
              refine ry (y_mov rfl rfl) rfl rfl ?_
              refine rg_splitd (d := 74) rfl (fun h44 => ?_) (fun h44 => ?_)
              · skip
                refine rg_off rfl rfl rfl rfl rfl ?_
                refine rg_off rfl rfl rfl rfl rfl ?_
                refine rg_off rfl rfl rfl rfl rfl ?_
                refine ry (y_pick rfl rfl rfl) rfl rfl ?_
                refine ry (y_mov rfl rfl) rfl rfl ?_
                refine rg_off rfl rfl rfl rfl rfl ?_
                refine rg_off rfl rfl rfl rfl rfl ?_
                refine rg_off rfl rfl rfl rfl rfl ?_
                refine ry (y_pick rfl rfl rfl) rfl rfl ?_
                refine reg_nil ?_
                refine fn_next ?_
                refine cw_condt rfl ?_
                refine cw_seq ?_
                refine cw_reg ?_
                refine ry (y_asg rfl rfl) rfl rfl ?_
                refine ry (y_asg rfl rfl) rfl rfl ?_
                refine ry (y_asg rfl rfl) rfl rfl ?_
                refine ry (y_asg rfl rfl) rfl rfl ?_
                refine reg_nil ?_
                refine fn_next ?_
                refine cw_ret ?_
                refine fn_then_ret (fn_block_ret (fn_then_ret (fn_then_ret (fn_block_ret (fn_then_ret ?_)))))
                refine fn_retn (vs := [_, _, _, _]) rfl ⟨rfl, rfl, rfl, rfl, trivial⟩ rfl ?_
                unfold DirGetR; rw [dg_13b (by omega) g2' hb g4' (by omega) (fun ho => by have := ho i hil; unfold okE at this; omega)]
                exact ⟨none, 0, rfl, (H43.nilrow _ _).pick [0] rfl (by decide)⟩
              · skip
                refine rgy (y_fa rfl rfl kfdir4_11 rfl) rfl rfl rfl rfl ?_
                refine rgy (y_ld rfl rfl kfdir4_10 (H43.cell (i := 0) rfl rfl)) rfl rfl rfl rfl ?_
                refine rgy (y_lss rfl rfl rfl) rfl rfl rfl rfl ?_
                refine ry (y_pick rfl rfl rfl) rfl rfl ?_
                refine ry (y_mov rfl rfl) rfl rfl ?_
                refine rg_splitd (d := 79) rfl (fun h45 => ?_) (fun h45 => ?_)
                · skip
                  refine rg_off rfl rfl rfl rfl rfl ?_
                  refine rg_off rfl rfl rfl rfl rfl ?_
                  refine rg_off rfl rfl rfl rfl rfl ?_
                  refine ry (y_pick rfl rfl rfl) rfl rfl ?_
                  refine reg_nil ?_
                  refine fn_next ?_
                  refine cw_condt rfl ?_
                  refine cw_seq ?_
                  refine cw_reg ?_
                  refine ry (y_asg rfl rfl) rfl rfl ?_
                  refine ry (y_asg rfl rfl) rfl rfl ?_
                  refine ry (y_asg rfl rfl) rfl rfl ?_
                  refine ry (y_asg rfl rfl) rfl rfl ?_
                  refine reg_nil ?_
                  refine fn_next ?_
                  refine cw_ret ?_
                  refine fn_then_ret (fn_block_ret (fn_then_ret (fn_then_ret (fn_block_ret (fn_then_ret ?_)))))
                  refine fn_retn (vs := [_, _, _, _]) rfl ⟨rfl, rfl, rfl, rfl, trivial⟩ rfl ?_
                  unfold DirGetR; rw [dg_13b (by omega) g2' hb g4' (by omega) (fun ho => by have := ho i hil; unfold okE at this; omega)]
                  exact ⟨none, 0, rfl, (H43.nilrow _ _).pick [0] rfl (by decide)⟩
                · skip
                  refine rgy (y_fa rfl rfl kfdir4_11 rfl) rfl rfl rfl rfl ?_
                  refine rgy (y_ld rfl rfl kfdir4_10 (H43.cell (i := 0) rfl rfl)) rfl rfl rfl rfl ?_
                  refine rgy (y_gtr rfl rfl rfl) rfl rfl rfl rfl ?_
                  refine ry (y_pick rfl rfl rfl) rfl rfl ?_
                  refine reg_nil ?_
                  refine fn_next ?_
                  refine cw_condd rfl (fun h46 => ?_) (fun h46 => ?_)
                  · skip
                    refine cw_seq ?_
                    refine cw_reg ?_
                    refine ry (y_asg rfl rfl) rfl rfl ?_
                    refine ry (y_asg rfl rfl) rfl rfl ?_
                    refine ry (y_asg rfl rfl) rfl rfl ?_
                    refine ry (y_asg rfl rfl) rfl rfl ?_
                    refine reg_nil ?_
                    refine fn_next ?_
                    refine cw_ret ?_
                    refine fn_then_ret (fn_block_ret (fn_then_ret (fn_then_ret (fn_block_ret (fn_then_ret ?_)))))
                    refine fn_retn (vs := [_, _, _, _]) rfl ⟨rfl, rfl, rfl, rfl, trivial⟩ rfl ?_
                    unfold DirGetR; rw [dg_13b (by omega) g2' hb g4' (by omega) (fun ho => by have := ho i hil; unfold okE at this; omega)]
                    exact ⟨none, 0, rfl, (H43.nilrow _ _).pick [0] rfl (by decide)⟩
                  · skip
                    refine cw_skip ?_
                    refine fn_next ?_
                    refine cw_seq ?_
                    refine cw_reg ?_
                    refine ry (y_mov rfl rfl) rfl rfl ?_
                    refine ry (y_ldb (i := 0) (cs := [_, _]) H43 rfl rfl kfdir4_12 rfl rfl) rfl rfl ?_
                    refine reg_op (op_lit (parts := [(0, _)]) (vs := [(0, _)]) (cs := [.int _ _, .int _ _]) H43 rfl Tryz.underlying42 kfdir4_13 rfl ⟨rfl, trivial⟩ rfl rfl) rfl rfl ?_
                    rintro _ w48 ⟨b47, rfl, H49⟩
                    have H50 := H49.asrow (m := 1) (size := 2) rfl (by decide)
                    refine reg_op (op_app (i := 3) H50 rfl rfl rfl rfl (H50.rd (i := 0) rfl) (rfl) (rfl) Tryz.underlying42 kfdir4_14 rfl rfl (by unfold maxLen; omega) (by omega)) rfl rfl ?_
                    rintro _ w53 ⟨A51, c52, rfl, H54⟩
                    refine ry (y_asg rfl rfl) rfl rfl ?_
                    refine reg_nil ?_
                    refine fn_next ?_
                    refine cw_reg ?_
                    refine ry (y_mov rfl rfl) rfl rfl ?_
                    refine ry (y_fa rfl rfl kfdir4_11 rfl) rfl rfl ?_
                    refine ry (y_ld rfl rfl kfdir4_10 (H54.cell (i := 1) rfl rfl)) rfl rfl ?_
                    refine ry (y_add rfl rfl rfl (wi (by omega))) rfl rfl ?_
                    refine ry (y_asg rfl rfl) rfl rfl ?_
                    refine reg_nil ?_
                    refine fn_block ?_
                    refine fn_next ?_
                    refine cw_reg ?_
                    refine ry (y_add rfl rfl rfl (wi (by omega))) rfl rfl ?_
                    refine ry (y_mov rfl rfl) rfl rfl ?_
                    refine reg_nil ?_
                    rw [show num zs (13 + 8 * i) 4 = baseOf zs + sumL ((lensOf zs (nOf zs)).take i) by omega, vi_app2, ← entF_snoc, ← hlt, show 17 + 8 * i + 4 = 13 + 8 * (i + 1) by omega] at H54
                    refine fn_roundJ ⟨i + 1, _, _, rfl, (H54.pick (m := [_, _]) [3, 2] rfl (by decide)), by omega, Lib.hid (upto_ok hp1.out ⟨by omega, by omega, by omega⟩), rfl⟩ ⟨rfl, si (by rw [hlt, sumL_snoc]; omega), rfl, trivial⟩ (by omega) (by repeat (first | exact kp_refl | refine kp_app rfl rfl ?_ | refine kp_cons rfl ?_)) rfl
            · skip
              have hin : i = nOf zs := by omega
              have hie : (lensOf zs (nOf zs)).take i = lensOf zs (nOf zs) := List.take_of_length_le (by rw [lensOf_len]; omega)
              refine cw_exit ?_
              refine fn_then_exit (fn_then_exit (fn_block_exit ?_))
              refine fn_next ?_
              refine cw_seq ?_
              refine cw_reg ?_
              refine ry (y_mov rfl rfl) rfl rfl ?_
              refine ry (y_mov rfl rfl) rfl rfl ?_
              refine ry (y_mov rfl rfl) rfl rfl ?_
              refine ry (y_asg rfl rfl) rfl rfl ?_
              refine ry (y_asg rfl rfl) rfl rfl ?_
              refine ry (y_asg rfl rfl) rfl rfl ?_
              refine ry (y_asg rfl rfl) rfl rfl ?_
              refine reg_nil ?_
              refine fn_next ?_
              refine cw_ret ?_
              refine fn_retn (vs := [_, _, _, _]) rfl ⟨rfl, rfl, rfl, rfl, trivial⟩ rfl ?_
              have hok : okD zs := fun j hj => hp1.out j (by omega)
              rw [hie] at H32
              unfold DirGetR; rw [dg_ok (by omega) g2' hb g4' (by omega) hok]
              simp only [lensOf_len]
              rw [← hin] at H32 ⊢
              exact ⟨_, _, rfl, H32.pick [0] rfl (by decide)⟩

set_option maxRecDepth 100000 in
theorem refDirGet_any (A : Option Addr) (m cap : Nat) (zs : List Int) (w : World) (h : Rd w A (vi .u8 zs)) (hl : zs.length = m) (hm : m ≤ 1000000) (hcap : m ≤ cap) (hB : Byt zs) :
    Ret Tryz.prog 12 [.slice A m cap] w (DirGetR zs w) := by
  have hwh := wh_bd hB
  have n5 := num_bd hB 5 (k := 2) (by omega)
  have n7 := num_bd hB 7 (k := 2) (by omega)
  have n9 := num_bd hB 9 (k := 4) (by omega)
  refine ret_enter Tryz.func12 rfl rfl rfl ?_
  have H0 := HS.start w
  refine cw_seq ?_
  refine cw_reg ?_
  refine ry (y_asg rfl rfl) rfl rfl ?_
  refine ry (y_asg rfl rfl) rfl rfl ?_
  refine ry (y_asg rfl rfl) rfl rfl ?_
  refine ry (y_asg rfl rfl) rfl rfl ?_
  refine reg_nil ?_
  refine fn_next ?_
  refine cw_seq ?_
  refine cw_seq ?_
  refine cw_reg ?_
  refine ry (y_mov rfl rfl) rfl rfl ?_
  refine ry (y_len rfl Tryz.underlying22 rfl) rfl rfl ?_
  refine ry (y_lss rfl rfl rfl) rfl rfl ?_
  refine reg_nil ?_
  refine fn_next ?_
  refine cw_condd rfl (fun g1 => ?_) (fun g1 => ?_)
  · skip
    refine cw_seq ?_
    refine cw_reg ?_
    refine ry (y_asg rfl rfl) rfl rfl ?_
    refine ry (y_asg rfl rfl) rfl rfl ?_
    refine ry (y_asg rfl rfl) rfl rfl ?_
    refine ry (y_asg rfl rfl) rfl rfl ?_
    refine reg_nil ?_
    refine fn_next ?_
    refine cw_ret ?_
    refine fn_then_ret ?_
    refine fn_retn (vs := [_, _, _, _]) rfl ⟨rfl, rfl, rfl, rfl, trivial⟩ rfl ?_
    unfold DirGetR; rw [dg_14 (by omega)]
    exact ⟨none, 0, rfl, (H0.nilrow _ _).pick [0] rfl (by decide)⟩
  · skip
    have hsub : Rd w (subA A cap 0 1) (vi .u8 (zs.take 5)) := by
      have := Rd.slice (lo := 0) (hi := 5) (size := 1) (cap := cap) h (by omega) (by omega)
      simp only [Nat.zero_mul, List.drop_zero] at this
      rw [vi_take] at this
      exact this
    refine cw_skip ?_
    refine fn_next ?_
    refine cw_seq ?_
    refine cw_seq ?_
    refine cw_reg ?_
    refine ry (y_mov rfl rfl) rfl rfl ?_
    refine ry (y_sh (hi := 5) rfl rfl rfl kfdir4_15 (rfl) (by omega)) rfl rfl ?_
    refine ry (y_str rfl Tryz.underlying22 Tryz.underlying5 Tryz.underlying9 rfl (hsub.below H0.base) (by rw [List.length_take]; omega)) rfl rfl ?_
    refine ry (y_strne (b := magic) rfl rfl rfl (hB.take 5) magic_byt) rfl rfl ?_
    refine reg_nil ?_
    refine fn_next ?_
    refine cw_condd rfl (fun g2 => ?_) (fun g2 => ?_)
    · skip
      refine cw_seq ?_
      refine cw_reg ?_
      refine ry (y_asg rfl rfl) rfl rfl ?_
      refine ry (y_asg rfl rfl) rfl rfl ?_
      refine ry (y_asg rfl rfl) rfl rfl ?_
      refine ry (y_asg rfl rfl) rfl rfl ?_
      refine reg_nil ?_
      refine fn_next ?_
      refine cw_ret ?_
      refine fn_then_ret ?_
      refine fn_retn (vs := [_, _, _, _]) rfl ⟨rfl, rfl, rfl, rfl, trivial⟩ rfl ?_
      unfold DirGetR; rw [dg_13 (by omega) g2]
      exact ⟨none, 0, rfl, (H0.nilrow _ _).pick [0] rfl (by decide)⟩
    · skip
      have g2' := Classical.not_not.1 g2
      refine cw_skip ?_
      refine fn_next ?_
      refine cw_seq ?_
      refine cw_reg ?_
      refine ry (y_mov rfl rfl) rfl rfl ?_
      refine reg_op (op_call (refget_any A m cap zs 5 2 _ (h.below H0.base) hl hm hcap hB (by omega) (by omega) (by omega)) rfl kfdir4_16 ⟨rfl, rfl, rfl, trivial⟩) rfl rfl ?_
      rintro _ w4 ⟨rfl, e3⟩
      have H5 := H0.ext e3
      refine ry (y_add rfl rfl rfl (wi (by omega))) rfl rfl ?_
      refine ry (y_mov rfl rfl) rfl rfl ?_
      refine reg_op (op_call (refget_any A m cap zs 7 2 _ (h.below H5.base) hl hm hcap hB (by omega) (by omega) (by omega)) rfl kfdir4_16 ⟨rfl, rfl, rfl, trivial⟩) rfl rfl ?_
      rintro _ w7 ⟨rfl, e6⟩
      have H8 := H5.ext e6
      refine ry (y_add rfl rfl rfl (wi (by omega))) rfl rfl ?_
      refine ry (y_asg rfl rfl) rfl rfl ?_
      refine ry (y_asg rfl rfl) rfl rfl ?_
      refine reg_nil ?_
      refine fn_next ?_
      refine cw_seq ?_
      refine cw_reg ?_
      refine ry (y_mov rfl rfl) rfl rfl ?_
      refine ry (y_mov rfl rfl) rfl rfl ?_
      refine reg_op (op_call (refTiles_any (wOf zs) (hOf zs) _ (by omega) (by omega)) rfl kfdir4_17 ⟨rfl, rfl, trivial⟩) rfl rfl ?_
      rintro _ w10 ⟨rfl, e9⟩
      have H11 := H8.ext e9
      refine ry (y_mov rfl rfl) rfl rfl ?_
      refine ry (y_ext rfl rfl rfl) rfl rfl ?_
      refine ry (y_ext rfl rfl rfl) rfl rfl ?_
      refine ry (y_asg rfl rfl) rfl rfl ?_
      refine ry (y_asg rfl rfl) rfl rfl ?_
      refine reg_nil ?_
      refine fn_next ?_
      refine cw_seq ?_
      refine cw_seq ?_
      refine cw_reg ?_
      refine ry (y_mov rfl rfl) rfl rfl ?_
      refine ry (y_neq rfl rfl rfl) rfl rfl ?_
      refine reg_nil ?_
      refine fn_next ?_
      refine cw_condd rfl (fun g3 => ?_) (fun g3 => ?_)
      · skip
        refine cw_seq ?_
        refine cw_reg ?_
        refine ry (y_mov rfl rfl) rfl rfl ?_
        refine ry (y_asg rfl rfl) rfl rfl ?_
        refine ry (y_asg rfl rfl) rfl rfl ?_
        refine ry (y_asg rfl rfl) rfl rfl ?_
        refine ry (y_asg rfl rfl) rfl rfl ?_
        refine reg_nil ?_
        refine fn_next ?_
        refine cw_ret ?_
        refine fn_then_ret ?_
        refine fn_retn (vs := [_, _, _, _]) rfl ⟨rfl, rfl, rfl, rfl, trivial⟩ rfl ?_
        unfold DirGetR; rw [dg_3 (by omega) g2' (tilS_bad g3).1, (tilS_bad g3).2]
        exact ⟨none, 0, rfl, (H11.nilrow _ _).pick [0] rfl (by decide)⟩
      · skip
        have hb := tilS_zero (Classical.not_not.1 g3)
        have ht := tilS_fst hb
        have hs := sizS_fst hb
        have htb := tilN_bd hb
        have hno : ((nOf zs : Nat) : Int) = tilN (wOf zs) (hOf zs) := by unfold nOf; omega
        have hbase : baseOf zs = 13 + 8 * tilN (wOf zs) (hOf zs) := rfl
        refine cw_skip ?_
        refine fn_next ?_
        refine cw_seq ?_
        refine cw_seq ?_
        refine cw_reg ?_
        refine ry (y_mov rfl rfl) rfl rfl ?_
        refine reg_op (op_call (refget_any A m cap zs 9 4 _ (h.below H11.base) hl hm hcap hB (by omega) (by omega) (by omega)) rfl kfdir4_16 ⟨rfl, rfl, rfl, trivial⟩) rfl rfl ?_
        rintro _ w14 ⟨rfl, e13⟩
        have H15 := H11.ext e13
        refine ry (y_mov rfl rfl) rfl rfl ?_
        refine ry (y_neq rfl rfl rfl) rfl rfl ?_
        refine reg_nil ?_
        refine fn_next ?_
        refine cw_condd rfl (fun g4 => ?_) (fun g4 => ?_)
        · skip
          rw [ht] at g4
          refine cw_seq ?_
          refine cw_reg ?_
          refine ry (y_asg rfl rfl) rfl rfl ?_
          refine ry (y_asg rfl rfl) rfl rfl ?_
          refine ry (y_asg rfl rfl) rfl rfl ?_
          refine ry (y_asg rfl rfl) rfl rfl ?_
          refine reg_nil ?_
          refine fn_next ?_
          refine cw_ret ?_
          refine fn_then_ret ?_
          refine fn_retn (vs := [_, _, _, _]) rfl ⟨rfl, rfl, rfl, rfl, trivial⟩ rfl ?_
          unfold DirGetR; rw [dg_6 (by omega) g2' hb g4]
          exact ⟨none, 0, rfl, (H15.nilrow _ _).pick [0] rfl (by decide)⟩
        · skip
          rw [ht] at g4
          have g4' := Classical.not_not.1 g4
          refine cw_skip ?_
          refine fn_next ?_
          refine cw_seq ?_
          refine cw_seq ?_
          refine cw_reg ?_
          refine ry (y_mov rfl rfl) rfl rfl ?_
          refine ry (y_len rfl Tryz.underlying22 rfl) rfl rfl ?_
          refine ry (y_mov rfl rfl) rfl rfl ?_
          refine ry (y_mul rfl rfl rfl (wi (by rw [ht]; omega))) rfl rfl ?_
          refine ry (y_add rfl rfl rfl (wi (by rw [ht]; omega))) rfl rfl ?_
          refine ry (y_lss rfl rfl rfl) rfl rfl ?_
          refine reg_nil ?_
          refine fn_next ?_
          refine cw_condd rfl (fun g5 => ?_) (fun g5 => ?_)
          · skip
            rw [ht] at g5
            refine cw_seq ?_
            refine cw_reg ?_
            refine ry (y_asg rfl rfl) rfl rfl ?_
            refine ry (y_asg rfl rfl) rfl rfl ?_
            refine ry (y_asg rfl rfl) rfl rfl ?_
            refine ry (y_asg rfl rfl) rfl rfl ?_
            refine reg_nil ?_
            refine fn_next ?_
            refine cw_ret ?_
            refine fn_then_ret ?_
            refine fn_retn (vs := [_, _, _, _]) rfl ⟨rfl, rfl, rfl, rfl, trivial⟩ rfl ?_
            unfold DirGetR; rw [dg_14b (by omega) g2' hb g4' (by omega)]
            exact ⟨none, 0, rfl, (H15.nilrow _ _).pick [0] rfl (by decide)⟩
          · skip
            rw [ht] at g5
            refine cw_skip ?_
            refine fn_next ?_
            refine cw_seq ?_
            refine cw_reg ?_
            refine ry (y_mov rfl rfl) rfl rfl ?_
            refine ry (y_mul rfl rfl rfl (wi (by rw [ht]; omega))) rfl rfl ?_
            refine ry (y_add rfl rfl rfl (wi (by rw [ht]; omega))) rfl rfl ?_
            refine ry (y_asg rfl rfl) rfl rfl ?_
            refine reg_nil ?_
            refine fn_next ?_
            refine cw_seq ?_
            refine cw_reg ?_
            refine reg_op (op_lit (parts := []) (vs := []) (cs := []) H15 rfl Tryz.underlying42 kfdir4_13 rfl trivial rfl rfl) rfl rfl ?_
            rintro _ w19 ⟨b18, rfl, H20⟩
            have H21 := H20.asrow (m := 0) (size := 2) rfl (by decide)
            refine ry (y_asg rfl rfl) rfl rfl ?_
            refine reg_nil ?_
            refine fn_next ?_
            refine cw_seq ?_
            refine cw_seq ?_
            refine cw_reg ?_
            refine ry (y_asg rfl rfl) rfl rfl ?_
            refine reg_nil ?_
            refine fn_next ?_
            refine cw_block ?_
            refine cw_loopJ [2, 3, 4, 5, 10, 11, 12, 13, 50, 51, 52, 53, 54, 55, 56, 57, 58, 59, 60, 61, 62, 63, 64, 65, 66, 67, 68, 69, 70, 71, 72, 73, 74, 75, 76, 77, 78, 79, 80, 81, 82, 83, 84, 85, 86, 87] (fun M wl ml => ∃ (i : Nat) (A' : Option Addr) (cap' : Nat), M = [(11, .slice A' i cap'), (10, .int .i64 (baseOf zs + sumL ((lensOf zs (nOf zs)).take i))), (12, .int .i64 (i : Int))] ∧ HS w wl [.row A' i cap' (vi .i64 (entF (baseOf zs) ((lensOf zs (nOf zs)).take i))) 50 2] ∧ (i ≤ nOf zs) ∧ (Hid (∀ j, j < i → okE zs (nOf zs) j)) ∧ ml = nOf zs - i) ⟨0, _, _, rfl, H21, Nat.zero_le _, Lib.hid (fun j hj => absurd hj (Nat.not_lt_zero _)), rfl⟩ ⟨rfl, si (by simp [sumL]; omega), rfl, trivial⟩ ?_
            rintro M w22 m24 ⟨i, A', cap', rfl, H23, hp0, hp1, rfl⟩
            refine cw_seq ?_
            refine cw_seq ?_
            refine cw_reg ?_
            refine ry (y_mov rfl rfl) rfl rfl ?_
            refine ry (y_mov rfl rfl) rfl rfl ?_
            refine ry (y_lss rfl rfl rfl) rfl rfl ?_
            refine reg_nil ?_
            refine fn_next ?_
            refine cw_condd rfl (fun h25 => ?_) (fun h25 => ?_)
            · skip
              have hil : i < nOf zs := by omega
              have hnb1 := num_bd hB (13 + 8 * i) (k := 4) (by omega)
              have hnb2 := num_bd hB (17 + 8 * i) (k := 4) (by omega)
              have hLb := upto_bd hp0 hp1.out
              have hsb := sumL_bd hLb
              have hLl : ((lensOf zs (nOf zs)).take i).length = i := by rw [List.length_take, lensOf_len]; omega
              have hlt := lens_take hil
              refine cw_skip ?_
              refine fn_next ?_
              refine cw_seq ?_
              refine cw_block ?_
              refine cw_seq ?_
              refine cw_reg ?_
              refine ry (y_mov rfl rfl) rfl rfl ?_
              refine ry (y_mov rfl rfl) rfl rfl ?_
              refine ry (y_mul rfl rfl rfl (wi (by omega))) rfl rfl ?_
              refine ry (y_add rfl rfl rfl (wi (by omega))) rfl rfl ?_
              refine reg_op (op_call (refget_any A m cap zs (13 + 8 * i) 4 _ (h.below H23.base) hl hm hcap hB (by omega) (by omega) (by omega)) rfl kfdir4_16 ⟨rfl, rfl, rfl, trivial⟩) rfl rfl ?_
              rintro _ w27 ⟨rfl, e26⟩
              have H28 := H23.ext e26
              refine ry (y_mov rfl rfl) rfl rfl ?_
              refine ry (y_mov rfl rfl) rfl rfl ?_
              refine ry (y_mul rfl rfl rfl (wi (by omega))) rfl rfl ?_
              refine ry (y_add rfl rfl rfl (wi (by omega))) rfl rfl ?_
              refine reg_op (op_call (refget_any A m cap zs (17 + 8 * i) 4 _ (h.below H28.base) hl hm hcap hB (by omega) (by omega) (by omega)) rfl kfdir4_16 ⟨rfl, rfl, rfl, trivial⟩) rfl rfl ?_
              rintro _ w30 ⟨rfl, e29⟩
              have H31 := H28.ext e29
              refine ry (y_build (places := [(0, 1), (1, 1)]) (parts := [(0, _), (1, _)]) (vs := [(0, _), (1, _)]) (cs := [.int _ _, .int _ _]) rfl Tryz.underlying50 (by kernel_rfl) kfdir4_7 rfl ⟨rfl, rfl, trivial⟩ rfl) rfl rfl ?_
              refine reg_op (op_alloc H31 rfl kfdir4_7) rfl rfl ?_
              rintro _ w33 ⟨b32, rfl, H34⟩
              refine reg_op (op_st (i := 0) (vs := [.int _ _, .int _ _]) H34 rfl rfl rfl rfl rfl kfdir4_8 rfl rfl rfl) rfl rfl ?_
              rintro _ w35 H36
              refine reg_nil ?_
              refine fn_next ?_
              refine cw_seq ?_
              refine cw_seq ?_
              refine cw_reg ?_
              refine ry (y_fa rfl rfl kfdir4_9 rfl) rfl rfl ?_
              refine ry (y_ld rfl rfl kfdir4_10 (H36.cell (i := 0) rfl rfl)) rfl rfl ?_
              refine ry (y_mov rfl rfl) rfl rfl ?_
              refine ry (y_neq rfl rfl rfl) rfl rfl ?_
              refine ry (y_mov rfl rfl) rfl rfl ?_
              refine rg_splitd (d := 70) rfl (fun h37 => ?_) (fun h37 => ?_)
              · skip
                refine rg_off rfl rfl rfl rfl rfl ?_
                refine rg_off rfl rfl rfl rfl rfl ?_
                refine rg_off rfl rfl rfl rfl rfl ?_
                refine ry (y_pick rfl rfl rfl) rfl rfl ?_
                refine ry (y_mov rfl rfl) rfl rfl ?_
                refine rg_off rfl rfl rfl rfl rfl ?_
                refine rg_off rfl rfl rfl rfl rfl ?_
                refine rg_off rfl rfl rfl rfl rfl ?_
                refine ry (y_pick rfl rfl rfl) rfl rfl ?_
                refine reg_nil ?_
                refine fn_next ?_
                refine cw_condt rfl ?_
                refine cw_seq ?_
                refine cw_reg ?_
                refine ry (y_asg rfl rfl) rfl rfl ?_
                refine ry (y_asg rfl rfl) rfl rfl ?_
                refine ry (y_asg rfl rfl) rfl rfl ?_
                refine ry (y_asg rfl rfl) rfl rfl ?_
                refine reg_nil ?_
                refine fn_next ?_
                refine cw_ret ?_
                refine fn_then_ret (fn_block_ret (fn_then_ret (fn_then_ret (fn_block_ret (fn_then_ret ?_)))))
                refine fn_retn (vs := [_, _, _, _]) rfl ⟨rfl, rfl, rfl, rfl, trivial⟩ rfl ?_
                unfold DirGetR; rw [dg_13b (by omega) g2' hb g4' (by omega) (fun ho => by have := ho i hil; unfold okE at this; omega)]
                exact ⟨none, 0, rfl, (H36.nilrow _ _).pick [0] rfl (by decide)⟩
              · skip
                refine rgy (y_fa rfl rfl kfdir4_11 rfl) rfl rfl rfl rfl ?_
                refine rgy (y_ld rfl rfl kfdir4_10 (H36.cell (i := 0) rfl rfl)) rfl rfl rfl rfl ?_
                refine rgy (y_lss rfl rfl rfl) rfl rfl rfl rfl ?_
                refine ry (y_pick rfl rfl rfl) rfl rfl ?_
                refine ry (y_mov rfl rfl) rfl rfl ?_
                refine rg_splitd (d := 75) rfl (fun h38 => ?_) (fun h38 => ?_)
                · skip
                  refine rg_off rfl rfl rfl rfl rfl ?_
                  refine rg_off rfl rfl rfl rfl rfl ?_
                  refine rg_off rfl rfl rfl rfl rfl ?_
                  refine ry (y_pick rfl rfl rfl) rfl rfl ?_
                  refine reg_nil ?_
                  refine fn_next ?_
                  refine cw_condt rfl ?_
                  refine cw_seq ?_
                  refine cw_reg ?_
                  refine ry (y_asg rfl rfl) rfl rfl ?_
                  refine ry (y_asg rfl rfl) rfl rfl ?_
                  refine ry (y_asg rfl rfl) rfl rfl ?_
                  refine ry (y_asg rfl rfl) rfl rfl ?_
                  refine reg_nil ?_
                  refine fn_next ?_
                  refine cw_ret ?_
                  refine fn_then_ret (fn_block_ret (fn_then_ret (fn_then_ret (fn_block_ret (fn_then_ret ?_)))))
                  refine fn_retn (vs := [_, _, _, _]) rfl ⟨rfl, rfl, rfl, rfl, trivial⟩ rfl ?_
                  unfold DirGetR; rw [dg_13b (by omega) g2' hb g4' (by omega) (fun ho => by have := ho i hil; unfold okE at this; omega)]
                  exact ⟨none, 0, rfl, (H36.nilrow _ _).pick [0] rfl (by decide)⟩
                · skip
                  refine rgy (y_fa rfl rfl kfdir4_11 rfl) rfl rfl rfl rfl ?_
                  refine rgy (y_ld rfl rfl kfdir4_10 (H36.cell (i := 0) rfl rfl)) rfl rfl rfl rfl ?_
                  refine rgy (y_gtr rfl rfl rfl) rfl rfl rfl rfl ?_
                  refine ry (y_pick rfl rfl rfl) rfl rfl ?_
                  refine reg_nil ?_
                  refine fn_next ?_
                  refine cw_condd rfl (fun h39 => ?_) (fun h39 => ?_)
                  · skip
                    refine cw_seq ?_
                    refine cw_reg ?_
                    refine ry (y_asg rfl rfl) rfl rfl ?_
                    refine ry (y_asg rfl rfl) rfl rfl ?_
                    refine ry (y_asg rfl rfl) rfl rfl ?_
                    refine ry (y_asg rfl rfl) rfl rfl ?_
                    refine reg_nil ?_
                    refine fn_next ?_
                    refine cw_ret ?_
                    refine fn_then_ret (fn_block_ret (fn_then_ret (fn_then_ret (fn_block_ret (fn_then_ret ?_)))))
                    refine fn_retn (vs := [_, _, _, _]) rfl ⟨rfl, rfl, rfl, rfl, trivial⟩ rfl ?_
                    unfold DirGetR; rw [dg_13b (by omega) g2' hb g4' (by omega) (fun ho => by have := ho i hil; unfold okE at this; omega)]
                    exact ⟨none, 0, rfl, (H36.nilrow _ _).pick [0] rfl (by decide)⟩
                  · skip
                    refine cw_skip ?_
                    refine fn_next ?_
                    refine cw_seq ?_
                    refine cw_reg ?_
                    refine ry (y_mov rfl rfl) rfl rfl ?_
                    refine ry (y_ldb (i := 0) (cs := [_, _]) H36 rfl rfl kfdir4_12 rfl rfl) rfl rfl ?_
                    refine reg_op (op_lit (parts := [(0, _)]) (vs := [(0, _)]) (cs := [.int _ _, .int _ _]) H36 rfl Tryz.underlying42 kfdir4_13 rfl ⟨rfl, trivial⟩ rfl rfl) rfl rfl ?_
                    rintro _ w41 ⟨b40, rfl, H42⟩
                    have H43 := H42.asrow (m := 1) (size := 2) rfl (by decide)
                    refine reg_op (op_app (i := 2) H43 rfl rfl rfl rfl (H43.rd (i := 0) rfl) (rfl) (rfl) Tryz.underlying42 kfdir4_14 rfl rfl (by unfold maxLen; omega) (by omega)) rfl rfl ?_
                    rintro _ w46 ⟨A44, c45, rfl, H47⟩
                    refine ry (y_asg rfl rfl) rfl rfl ?_
                    refine reg_nil ?_
                    refine fn_next ?_
                    refine cw_reg ?_
                    refine ry (y_mov rfl rfl) rfl rfl ?_
                    refine ry (y_fa rfl rfl kfdir4_11 rfl) rfl rfl ?_
                    refine ry (y_ld rfl rfl kfdir4_10 (H47.cell (i := 1) rfl rfl)) rfl rfl ?_
                    refine ry (y_add rfl rfl rfl (wi (by omega))) rfl rfl ?_
                    refine ry (y_asg rfl rfl) rfl rfl ?_
                    refine reg_nil ?_
                    refine fn_block ?_
                    refine fn_next ?_
                    refine cw_reg ?_
                    refine ry (y_mov rfl rfl) rfl rfl ?_
                    refine ry (y_add rfl rfl rfl (wi (by omega))) rfl rfl ?_
                    refine ry (y_asg rfl rfl) rfl rfl ?_
                    refine reg_nil ?_
                    rw [show num zs (13 + 8 * i) 4 = baseOf zs + sumL ((lensOf zs (nOf zs)).take i) by omega, vi_app2, ← entF_snoc, ← hlt] at H47
                    refine fn_roundJ ⟨i + 1, _, _, rfl, (H47.pick (m := [_]) [2] rfl (by decide)), by omega, Lib.hid (upto_ok hp1.out ⟨by omega, by omega, by omega⟩), rfl⟩ ⟨rfl, si (by rw [hlt, sumL_snoc]; omega), rfl, trivial⟩ (by omega) (by repeat (first | exact kp_refl | refine kp_app rfl rfl ?_ | refine kp_cons rfl ?_)) rfl
            · skip
              have hin : i = nOf zs := by omega
              have hie : (lensOf zs (nOf zs)).take i = lensOf zs (nOf zs) := List.take_of_length_le (by rw [lensOf_len]; omega)
              refine cw_exit ?_
              refine fn_then_exit (fn_then_exit (fn_block_exit ?_))
              refine fn_next ?_
              refine cw_seq ?_
              refine cw_reg ?_
              refine ry (y_mov rfl rfl) rfl rfl ?_
              refine ry (y_mov rfl rfl) rfl rfl ?_
              refine ry (y_mov rfl rfl) rfl rfl ?_
              refine ry (y_asg rfl rfl) rfl rfl ?_
              refine ry (y_asg rfl rfl) rfl rfl ?_
              refine ry (y_asg rfl rfl) rfl rfl ?_
              refine ry (y_asg rfl rfl) rfl rfl ?_
              refine reg_nil ?_
              refine fn_next ?_
              refine cw_ret ?_
              refine fn_retn (vs := [_, _, _, _]) rfl ⟨rfl, rfl, rfl, rfl, trivial⟩ rfl ?_
              have hok : okD zs := fun j hj => hp1.out j (by omega)
              rw [hie] at H23
              unfold DirGetR; rw [dg_ok (by omega) g2' hb g4' (by omega) hok]
              simp only [lensOf_len]
              rw [← hin] at H23 ⊢
              exact ⟨_, _, rfl, H23.pick [0] rfl (by decide)⟩

end Go.Proofs.YtbnjbgcadkdljaaGreatDoor
