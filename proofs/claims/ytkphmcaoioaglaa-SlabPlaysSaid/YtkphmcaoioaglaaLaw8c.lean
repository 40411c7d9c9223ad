/- Layer 8: SlabPlays. -/
import Derived.Test.YtkphmcaoioaglaaLaw8b
import Derived.Test.YtkphmcaoioaglaaRef8b
set_option linter.unusedVariables false
set_option linter.unusedSimpArgs false
namespace Go.Proofs.Ytkphmcaoioaglaa
open Go Go.RowKit
theorem kflaw8c_1 : callB Try.prog 25 = true := by kernel_rfl
theorem kflaw8c_2 : callB Try.prog 26 = true := by kernel_rfl
theorem kflaw8c_3 : callB Try.prog 33 = true := by kernel_rfl
theorem kflaw8c_4 : (Try.prog.info? 34).bind (fun i => i.zero.map Value.cells) = some (List.toArray [(.int .i64 0), (.int .i64 0), (.slice none 0 0)]) := by kernel_rfl
theorem kflaw8c_5 : szB Try.prog 34 3 = true := by kernel_rfl
theorem kflaw8c_6 : aggB Try.prog 34 3 = true := by kernel_rfl
theorem kflaw8c_7 : elB Try.prog 50 5 = true := by kernel_rfl
theorem kflaw8c_8 : fldB Try.prog 56 0 0 = true := by kernel_rfl
theorem kflaw8c_9 : aggB Try.prog 24 4 = true := by kernel_rfl
theorem kflaw8c_10 : fldB Try.prog 56 1 4 = true := by kernel_rfl
theorem kflaw8c_11 : oneB Try.prog 2 = true := by kernel_rfl
theorem kflaw8c_12 : callB Try.prog 34 = true := by kernel_rfl
theorem kflaw8c_13 : callB Try.prog 27 = true := by kernel_rfl
theorem kflaw8c_14 : callB Try.prog 35 = true := by kernel_rfl
theorem kflaw8c_15 : fldB Try.prog 34 2 2 = true := by kernel_rfl
theorem kflaw8c_16 : oneB Try.prog 32 = true := by kernel_rfl
theorem kflaw8c_17 : callB Try.prog 36 = true := by kernel_rfl
theorem kflaw8c_18 : callB Try.prog 37 = true := by kernel_rfl
theorem kflaw8c_19 : callB Try.prog 38 = true := by kernel_rfl
theorem kflaw8c_20 : seqB Try.prog 68 2 = true := by kernel_rfl
theorem kflaw8c_21 : aggB Try.prog 26 2 = true := by kernel_rfl
theorem kflaw8c_22 : callB Try.prog 39 = true := by kernel_rfl
theorem kflaw8c_23 : callB Try.prog 22 = true := by kernel_rfl
theorem kflaw8c_24 : callB Try.prog 40 = true := by kernel_rfl
theorem kflaw8c_25 : callB Try.prog 28 = true := by kernel_rfl
theorem kflaw8c_26 : callB Try.prog 31 = true := by kernel_rfl

set_option maxRecDepth 100000 in
theorem slabPlays_bad (a h : Int) (v : Int) (zs : List Int) (A : Option Addr) (m cap : Nat) (x y : Int) (w : World) (hz : Rd w A (vi .i64 zs)) (hl : zs.length = m * 5) (hc : ¬ newC a h v = 0) :
    Ret Try.prog 6 [.int .i64 a, .int .i64 h, .int .i64 v, .slice A m cap, .agg #[.int .i64 x, .int .i64 y]] w (fun z w' => z = .bool true ∧ Below w.heap.size w w') := by
  refine ret_enter Try.func6 rfl rfl rfl ?_
  have H0 := HS.start w
  refine cw_seq ?_
  refine cw_reg ?_
  refine reg_op (op_box (cs := [.int _ _, .int _ _]) H0 rfl rfl rfl) rfl rfl ?_
  rintro _ w2 ⟨b1, rfl, H3⟩
  refine ry (y_asg rfl rfl) rfl rfl ?_
  refine reg_nil ?_
  refine fn_next ?_
  refine cw_seq ?_
  refine cw_seq ?_
  refine cw_reg ?_
  refine reg_op (op_call (slabAwake _) rfl kflaw8c_1 trivial) rfl rfl ?_
  rintro _ w5 ⟨rfl, e4⟩
  have H6 := H3.ext e4
  refine ry (y_not rfl rfl) rfl rfl ?_
  refine reg_nil ?_
  refine fn_next ?_
  refine cw_condf rfl ?_
  refine cw_skip ?_
  refine fn_next ?_
  refine cw_seq ?_
  refine cw_seq ?_
  refine cw_reg ?_
  refine ry (y_mov rfl rfl) rfl rfl ?_
  refine ry (y_len rfl Try.underlying50 rfl) rfl rfl ?_
  refine ry (y_gtr rfl rfl rfl) rfl rfl ?_
  refine reg_nil ?_
  refine fn_next ?_
  refine cw_condd rfl (fun h7 => ?_) (fun h7 => ?_)
  · skip
    refine cw_seq ?_
    refine cw_reg ?_
    refine ry (y_asg rfl rfl) rfl rfl ?_
    refine reg_nil ?_
    refine fn_next ?_
    refine cw_ret ?_
    refine fn_then_ret ?_
    refine fn_ret1 rfl rfl ?_
    exact ⟨rfl, H6.base⟩
  · skip
    refine cw_skip ?_
    refine fn_next ?_
    refine cw_seq ?_
    refine cw_reg ?_
    refine ry (y_mov rfl rfl) rfl rfl ?_
    refine ry (y_mov rfl rfl) rfl rfl ?_
    refine ry (y_mov rfl rfl) rfl rfl ?_
    refine reg_op (op_call (slabNew_no a h v _ hc) rfl kflaw8c_2 ⟨rfl, rfl, rfl, trivial⟩) rfl rfl ?_
    rintro _ w9 ⟨rfl, e8⟩
    have H10 := H6.ext e8
    refine ry (y_mov rfl rfl) rfl rfl ?_
    refine ry (y_ext rfl rfl rfl) rfl rfl ?_
    refine ry (y_ext rfl rfl rfl) rfl rfl ?_
    refine ry (y_asg rfl rfl) rfl rfl ?_
    refine ry (y_asg rfl rfl) rfl rfl ?_
    refine reg_nil ?_
    refine fn_next ?_
    refine cw_seq ?_
    refine cw_reg ?_
    refine ry (y_mov rfl rfl) rfl rfl ?_
    refine ry (y_mov rfl rfl) rfl rfl ?_
    refine ry (y_mov rfl rfl) rfl rfl ?_
    refine reg_op (op_call (refNew_no a h v _ hc) rfl kflaw8c_3 ⟨rfl, rfl, rfl, rfl, trivial⟩) rfl rfl ?_
    rintro _ w12 ⟨rfl, e11⟩
    have H13 := H10.ext e11
    refine ry (y_mov rfl rfl) rfl rfl ?_
    refine ry (y_ext rfl rfl rfl) rfl rfl ?_
    refine ry (y_ext rfl rfl rfl) rfl rfl ?_
    refine reg_op (op_alloc H13 rfl kflaw8c_4) rfl rfl ?_
    rintro _ w15 ⟨b14, rfl, H16⟩
    refine reg_op (op_st (i := 0) (vs := [.int _ _, .int _ _, .slice _ _ _]) H16 rfl rfl rfl rfl rfl kflaw8c_5 rfl rfl rfl) rfl rfl ?_
    rintro _ w17 H18
    refine ry (y_asg rfl rfl) rfl rfl ?_
    refine reg_nil ?_
    refine fn_next ?_
    refine cw_seq ?_
    refine cw_seq ?_
    refine cw_reg ?_
    refine ry (y_mov rfl rfl) rfl rfl ?_
    refine ry (y_mov rfl rfl) rfl rfl ?_
    refine ry (y_neq rfl rfl rfl) rfl rfl ?_
    refine ry (y_mov rfl rfl) rfl rfl ?_
    refine rg_splitd (d := 50) rfl (fun h19 => ?_) (fun h19 => ?_)
    · exact absurd rfl h19
    · skip
      refine rgy (y_mov rfl rfl) rfl rfl rfl rfl ?_
      refine rgy (y_neq rfl rfl rfl) rfl rfl rfl rfl ?_
      refine rgy (y_mov rfl rfl) rfl rfl rfl rfl ?_
      refine rg_splitd (d := 53) rfl (fun h20 => ?_) (fun h20 => ?_)
      · skip
        refine rgy (y_mov rfl rfl) rfl rfl rfl rfl ?_
        refine rgy (y_pneqnil rfl Try.underlying51 rfl rfl) rfl rfl rfl rfl ?_
        refine rgy (y_pick rfl rfl rfl) rfl rfl rfl rfl ?_
        refine ry (y_pick rfl rfl rfl) rfl rfl ?_
        refine reg_nil ?_
        refine fn_next ?_
        refine cw_condf rfl ?_
        refine cw_skip ?_
        refine fn_next ?_
        refine cw_seq ?_
        refine cw_seq ?_
        refine cw_reg ?_
        refine ry (y_mov rfl rfl) rfl rfl ?_
        refine ry (y_neq rfl rfl rfl) rfl rfl ?_
        refine reg_nil ?_
        refine fn_next ?_
        refine cw_condd rfl (fun h21 => ?_) (fun h21 => ?_)
        · skip
          refine cw_seq ?_
          refine cw_reg ?_
          refine ry (y_asg rfl rfl) rfl rfl ?_
          refine reg_nil ?_
          refine fn_next ?_
          refine cw_ret ?_
          refine fn_then_ret ?_
          refine fn_ret1 rfl rfl ?_
          exact ⟨rfl, H18.base⟩
        · exact absurd (Classical.not_not.1 h21) hc
      · exact absurd (Classical.not_not.1 h20) hc

set_option maxRecDepth 100000 in
set_option maxHeartbeats 2000000 in
theorem slabPlays_ok (a h : Nat) (v : Int) (zs : List Int) (A : Option Addr) (m cap : Nat) (x y : Int) (w : World) (hz : Rd w A (vi .i64 zs)) (hl : zs.length = m * 5) (p : sizeP a h) (hv : B32 v) :
    Ret Try.prog 6 [.int .i64 (a : Int), .int .i64 (h : Int), .int .i64 v, .slice A m cap, .agg #[.int .i64 x, .int .i64 y]] w (fun z w' => z = .bool true ∧ Below w.heap.size w w') := by
  have hm := p.mul
  refine ret_enter Try.func6 rfl rfl rfl ?_
  have H0 := HS.start w
  refine cw_seq ?_
  refine cw_reg ?_
  refine reg_op (op_box (cs := [.int _ _, .int _ _]) H0 rfl rfl rfl) rfl rfl ?_
  rintro _ w2 ⟨b1, rfl, H3⟩
  refine ry (y_asg rfl rfl) rfl rfl ?_
  refine reg_nil ?_
  refine fn_next ?_
  refine cw_seq ?_
  refine cw_seq ?_
  refine cw_reg ?_
  refine reg_op (op_call (slabAwake _) rfl kflaw8c_1 trivial) rfl rfl ?_
  rintro _ w5 ⟨rfl, e4⟩
  have H6 := H3.ext e4
  refine ry (y_not rfl rfl) rfl rfl ?_
  refine reg_nil ?_
  refine fn_next ?_
  refine cw_condf rfl ?_
  refine cw_skip ?_
  refine fn_next ?_
  refine cw_seq ?_
  refine cw_seq ?_
  refine cw_reg ?_
  refine ry (y_mov rfl rfl) rfl rfl ?_
  refine ry (y_len rfl Try.underlying50 rfl) rfl rfl ?_
  refine ry (y_gtr rfl rfl rfl) rfl rfl ?_
  refine reg_nil ?_
  refine fn_next ?_
  refine cw_condd rfl (fun h7 => ?_) (fun h7 => ?_)
  · skip
    refine cw_seq ?_
    refine cw_reg ?_
    refine ry (y_asg rfl rfl) rfl rfl ?_
    refine reg_nil ?_
    refine fn_next ?_
    refine cw_ret ?_
    refine fn_then_ret ?_
    refine fn_ret1 rfl rfl ?_
    first | exact ⟨rfl, H6.base⟩ | (rw [decide_eq_true rfl]; exact ⟨rfl, H6.base⟩)
  · skip
    refine cw_skip ?_
    refine fn_next ?_
    refine cw_seq ?_
    refine cw_reg ?_
    refine ry (y_mov rfl rfl) rfl rfl ?_
    refine ry (y_mov rfl rfl) rfl rfl ?_
    refine ry (y_mov rfl rfl) rfl rfl ?_
    refine reg_op (op_call (slabNew_two a h v _ (p) (hv)) rfl kflaw8c_2 ⟨rfl, rfl, rfl, trivial⟩) rfl rfl ?_
    rintro _ w9 ⟨b11, rfl, k8⟩
    have H10 := H6.call k8
    refine ry (y_mov rfl rfl) rfl rfl ?_
    refine ry (y_ext rfl rfl rfl) rfl rfl ?_
    refine ry (y_ext rfl rfl rfl) rfl rfl ?_
    refine ry (y_asg rfl rfl) rfl rfl ?_
    refine ry (y_asg rfl rfl) rfl rfl ?_
    refine reg_nil ?_
    refine fn_next ?_
    refine cw_seq ?_
    refine cw_reg ?_
    refine ry (y_mov rfl rfl) rfl rfl ?_
    refine ry (y_mov rfl rfl) rfl rfl ?_
    refine ry (y_mov rfl rfl) rfl rfl ?_
    refine reg_op (op_call (refNew_ok a h v _ p hv) rfl kflaw8c_3 ⟨rfl, rfl, rfl, rfl, trivial⟩) rfl rfl ?_
    rintro _ w13 ⟨A15, c16, rfl, k12⟩
    have H14 := H10.call k12
    refine ry (y_mov rfl rfl) rfl rfl ?_
    refine ry (y_ext rfl rfl rfl) rfl rfl ?_
    refine ry (y_ext rfl rfl rfl) rfl rfl ?_
    refine reg_op (op_alloc H14 rfl kflaw8c_4) rfl rfl ?_
    rintro _ w18 ⟨b17, rfl, H19⟩
    refine reg_op (op_st (i := 0) (vs := [.int _ _, .int _ _, .slice _ _ _]) H19 rfl rfl rfl rfl rfl kflaw8c_5 rfl rfl rfl) rfl rfl ?_
    rintro _ w20 H21
    refine ry (y_asg rfl rfl) rfl rfl ?_
    refine reg_nil ?_
    refine fn_next ?_
    refine cw_seq ?_
    refine cw_seq ?_
    refine cw_reg ?_
    refine ry (y_mov rfl rfl) rfl rfl ?_
    refine ry (y_mov rfl rfl) rfl rfl ?_
    refine ry (y_neq rfl rfl rfl) rfl rfl ?_
    refine ry (y_mov rfl rfl) rfl rfl ?_
    refine rg_splitd (d := 50) rfl (fun h22 => ?_) (fun h22 => ?_)
    · exact absurd rfl h22
    · skip
      refine rgy (y_mov rfl rfl) rfl rfl rfl rfl ?_
      refine rgy (y_neq rfl rfl rfl) rfl rfl rfl rfl ?_
      refine rgy (y_mov rfl rfl) rfl rfl rfl rfl ?_
      refine rg_splitd (d := 53) rfl (fun h23 => ?_) (fun h23 => ?_)
      · exact absurd rfl h23
      · skip
        refine rg_off rfl rfl rfl rfl rfl ?_
        refine rg_off rfl rfl rfl rfl rfl ?_
        refine rgy (y_pick rfl rfl rfl) rfl rfl rfl rfl ?_
        refine ry (y_pick rfl rfl rfl) rfl rfl ?_
        refine reg_nil ?_
        refine fn_next ?_
        refine cw_condf rfl ?_
        refine cw_skip ?_
        refine fn_next ?_
        refine cw_seq ?_
        refine cw_seq ?_
        refine cw_reg ?_
        refine ry (y_mov rfl rfl) rfl rfl ?_
        refine ry (y_neq rfl rfl rfl) rfl rfl ?_
        refine reg_nil ?_
        refine fn_next ?_
        refine cw_condd rfl (fun h24 => ?_) (fun h24 => ?_)
        · exact absurd rfl h24
        · skip
          refine cw_skip ?_
          refine fn_next ?_
          refine cw_seq ?_
          refine cw_seq ?_
          refine cw_reg ?_
          refine ry (y_asg rfl rfl) rfl rfl ?_
          refine reg_nil ?_
          refine fn_next ?_
          refine cw_block ?_
          refine cw_loopJ [10, 15, 16, 17, 18, 19, 20, 21, 60, 61, 62, 63, 64, 65, 66, 67, 68, 69, 70, 71, 72, 73, 74, 75, 76, 77, 78, 79, 80, 81, 82, 83, 84, 85, 86, 87, 88, 89, 90, 91, 92, 93, 94, 95, 96, 97, 98, 99, 100, 101, 102, 103, 104, 105, 106, 107, 108, 109, 110, 111, 112, 113, 114, 115, 116, 117, 118, 119, 120, 121, 122] (fun M wl ml => ∃ (k : Nat) (L : Ld) (A' : Option Addr) (cap' : Nat), M = [(15, .int .i64 (k : Int))] ∧ HS w wl [Ob.blk b11 [.int .i64 ((a : Nat) : Int), .int .i64 ((h : Nat) : Int), L.val (a * h)] 124, Ld.ob (a * h) L, Ob.blk b17 [.int .i64 (a : Int), .int .i64 (h : Int), .slice A' (a * h) cap'] 34, Ob.row A' (a * h) cap' (vi .i64 (L.lst (a * h))) 2 1, Ob.blk b1 [.int .i64 x, .int .i64 y] 26] ∧ (k ≤ m) ∧ (L.ok (a * h)) ∧ ml = m - k) ⟨0, .flat v, _, _, rfl, (H21.pick (m := [_, _, _, _, _]) [2, 3, 0, 1, 4] rfl (by decide)), Nat.zero_le _, hv, rfl⟩ ⟨rfl, trivial⟩ ?_
          rintro M w25 m27 ⟨k, L, A', cap', rfl, H26, hp0, hp1, rfl⟩
          refine cw_seq ?_
          refine cw_seq ?_
          refine cw_reg ?_
          refine ry (y_mov rfl rfl) rfl rfl ?_
          refine ry (y_mov rfl rfl) rfl rfl ?_
          refine ry (y_len rfl Try.underlying50 rfl) rfl rfl ?_
          refine ry (y_lss rfl rfl rfl) rfl rfl ?_
          refine reg_nil ?_
          refine fn_next ?_
          refine cw_condd rfl (fun h28 => ?_) (fun h28 => ?_)
          · skip
            have g4 := vi_get (k := .i64) (zs := zs) (i := k * 5 + 4) (by omega)
            have g0 := vi_get (k := .i64) (zs := zs) (i := k * 5) (by omega)
            refine cw_skip ?_
            refine fn_next ?_
            refine cw_seq ?_
            refine cw_block ?_
            refine cw_seq ?_
            refine cw_drawT H26 [0, 1, 2, 3, 4, 5, 6, 7, 8, 9, 10] (.alt (.step 11 (.alt (.step 12 (.alt (.step 13 (.alt (.step 14 (.step 15 (.step 16 (.step 17 (.leaf))))) (.step 15 (.alt (.step 14 (.step 16 (.step 17 (.leaf)))) (.step 16 (.step 14 (.step 17 (.leaf)))))))) (.alt (.step 14 (.alt (.step 13 (.step 15 (.step 16 (.step 17 (.leaf))))) (.step 15 (.step 13 (.step 16 (.step 17 (.leaf))))))) (.step 15 (.alt (.step 13 (.alt (.step 14 (.step 16 (.step 17 (.leaf)))) (.step 16 (.step 14 (.step 17 (.leaf)))))) (.step 14 (.step 13 (.step 16 (.step 17 (.leaf)))))))))) (.step 15 (.step 12 (.alt (.step 13 (.alt (.step 14 (.step 16 (.step 17 (.leaf)))) (.step 16 (.step 14 (.step 17 (.leaf)))))) (.step 14 (.step 13 (.step 16 (.step 17 (.leaf)))))))))) (.step 15 (.step 11 (.step 12 (.alt (.step 13 (.alt (.step 14 (.step 16 (.step 17 (.leaf)))) (.step 16 (.step 14 (.step 17 (.leaf)))))) (.step 14 (.step 13 (.step 16 (.step 17 (.leaf)))))))))) (fun X HX => (HX.pick (m := [_, _, _, _]) [0, 1, 2, 4] rfl (by decide))) (by kernel_rfl) (by kernel_rfl) (by rfl) ?_
            simp only [pick, List.getElem?_cons_succ, List.getElem?_cons_zero]
            refine hk_y (fun Y HY => y_ldb (i := 2) (cs := [_, _, _]) HY rfl rfl kflaw8c_6 rfl rfl) rfl rfl ?_
            refine hk_y (fun Y HY => y_mov rfl rfl) rfl rfl ?_
            refine hk_y (fun Y HY => y_mov rfl rfl) rfl rfl ?_
            refine hk_y (fun Y HY => y_iar (i := k) (hz.below HY.base) rfl rfl rfl kflaw8c_7 (rfl) (by omega) (rfl) (g0)) rfl rfl ?_
            refine hk_y (fun Y HY => y_far (hz.below HY.base) rfl rfl kflaw8c_8 rfl (g0)) rfl rfl ?_
            refine hk_y (fun Y HY => y_ldra (cs := [_, _, _, _]) (hz.below HY.base) rfl rfl kflaw8c_9 rfl (by decide) ((fun j v hv => vi_part4 (zs := zs) (p := k * 5) (by omega) j v hv))) rfl rfl ?_
            refine hk_y (fun Y HY => y_mov rfl rfl) rfl rfl ?_
            refine hk_y (fun Y HY => y_mov rfl rfl) rfl rfl ?_
            refine hk_y (fun Y HY => y_iar (i := k) (hz.below HY.base) rfl rfl rfl kflaw8c_7 (rfl) (by omega) (rfl) (g0)) rfl rfl ?_
            refine hk_y (fun Y HY => y_far (hz.below HY.base) rfl rfl kflaw8c_10 rfl (g0)) rfl rfl ?_
            refine hk_y (fun Y HY => y_ldr (hz.below HY.base) rfl rfl kflaw8c_11 (g4)) rfl rfl ?_
            refine hkt_nil [16, 17, 66, 78, 79, 80] (fun M wl => ∃ (b' : Nat) (A2 : Option Addr) (cap2 : Nat), M = [(16, .pointer (some ⟨b', 0, none⟩)), (17, .int .i64 (fillC a h (nth zs (k * 5)) (nth zs (k * 5 + 1)) (nth zs (k * 5 + 2)) (nth zs (k * 5 + 3)) (nth zs (k * 5 + 4))))] ∧ HS w wl [Ob.blk b' [.int .i64 (a : Int), .int .i64 (h : Int), .slice A2 (a * h) cap2] 34, Ob.row A2 (a * h) cap2 (vi .i64 (fillV (L.lst (a * h)) a h (nth zs (k * 5)) (nth zs (k * 5 + 1)) (nth zs (k * 5 + 2)) (nth zs (k * 5 + 3)) (nth zs (k * 5 + 4)))) 2 1, Ob.blk b11 [.int .i64 ((a : Nat) : Int), .int .i64 ((h : Nat) : Int), L.val (a * h)] 124, Ld.ob (a * h) L, Ob.blk b17 [.int .i64 (a : Int), .int .i64 (h : Int), .slice A' (a * h) cap'] 34, Ob.blk b1 [.int .i64 x, .int .i64 y] 26]) (fun wX HX => ?_) ?_
            · skip
              refine tt_alt ?_ ?_
              · skip
                refine tt_op rfl (op_call (refFill_any w _ a h A' cap' (L.lst (a * h)) (nth zs (k * 5)) (nth zs (k * 5 + 1)) (nth zs (k * 5 + 2)) (nth zs (k * 5 + 3)) (nth zs (k * 5 + 4)) _ p (Ld.len hp1) (HX.pick (m := [_, _, _, _, _]) [3, 0, 1, 2, 4] rfl (by decide))) rfl kflaw8c_12 ⟨rfl, rfl, rfl, trivial⟩) rfl rfl ?_
                rintro _ w30 ⟨A31, c32, rfl, H29⟩
                refine ⟨(H29.pick (m := [_, _, _, _]) [1, 2, 3, 4] rfl (by decide)), fun w33 e35 => ?_⟩
                have H34 := H29.ext e35
                refine tt_alt ?_ ?_
                · skip
                  refine tt_op rfl (Yd.op (y_mov rfl rfl)) rfl rfl ?_
                  rintro _ _ ⟨rfl, rfl⟩
                  refine ⟨(H34.pick (m := [_, _, _, _]) [1, 2, 3, 4] rfl (by decide)), fun w36 e38 => ?_⟩
                  have H37 := H34.ext e38
                  refine tt_alt ?_ ?_
                  · skip
                    refine tt_op rfl (Yd.op (y_ext rfl rfl rfl)) rfl rfl ?_
                    rintro _ _ ⟨rfl, rfl⟩
                    refine ⟨(H37.pick (m := [_, _, _, _]) [1, 2, 3, 4] rfl (by decide)), fun w39 e41 => ?_⟩
                    have H40 := H37.ext e41
                    refine tt_alt ?_ ?_
                    · skip
                      refine tt_op rfl (Yd.op (y_ext rfl rfl rfl)) rfl rfl ?_
                      rintro _ _ ⟨rfl, rfl⟩
                      refine ⟨(H40.pick (m := [_, _, _, _]) [1, 2, 3, 4] rfl (by decide)), fun w42 e44 => ?_⟩
                      have H43 := H40.ext e44
                      refine tt_op rfl (op_alloc H43 rfl kflaw8c_4) rfl rfl ?_
                      rintro _ w46 ⟨b45, rfl, H47⟩
                      refine ⟨(H47.pick (m := [_, _, _, _]) [2, 3, 4, 5] rfl (by decide)), fun w48 e50 => ?_⟩
                      have H49 := H47.ext e50
                      refine tt_op rfl (op_st (i := 0) (vs := [.int _ _, .int _ _, .slice _ _ _]) H49 rfl rfl rfl rfl rfl kflaw8c_5 rfl rfl rfl) rfl rfl ?_
                      rintro _ w51 H52
                      refine ⟨(H52.pick (m := [_, _, _, _]) [2, 3, 4, 5] rfl (by decide)), fun w53 e55 => ?_⟩
                      have H54 := H52.ext e55
                      refine tt_op rfl (Yd.op (y_asg rfl rfl)) rfl rfl ?_
                      rintro _ _ ⟨rfl, rfl⟩
                      refine ⟨(H54.pick (m := [_, _, _, _]) [2, 3, 4, 5] rfl (by decide)), fun w56 e58 => ?_⟩
                      have H57 := H54.ext e58
                      exact tt_leaf ⟨b45, A31, c32, rfl, H57⟩ ⟨rfl, rfl, trivial⟩ (by repeat (first | exact kp_refl | refine kp_app rfl rfl ?_ | refine kp_cons rfl ?_))
                    refine tt_op rfl (op_alloc H40 rfl kflaw8c_4) rfl rfl ?_
                    rintro _ w60 ⟨b59, rfl, H61⟩
                    refine ⟨(H61.pick (m := [_, _, _, _]) [2, 3, 4, 5] rfl (by decide)), fun w62 e64 => ?_⟩
                    have H63 := H61.ext e64
                    refine tt_alt ?_ ?_
                    · skip
                      refine tt_op rfl (Yd.op (y_ext rfl rfl rfl)) rfl rfl ?_
                      rintro _ _ ⟨rfl, rfl⟩
                      refine ⟨(H63.pick (m := [_, _, _, _]) [2, 3, 4, 5] rfl (by decide)), fun w65 e67 => ?_⟩
                      have H66 := H63.ext e67
                      refine tt_op rfl (op_st (i := 0) (vs := [.int _ _, .int _ _, .slice _ _ _]) H66 rfl rfl rfl rfl rfl kflaw8c_5 rfl rfl rfl) rfl rfl ?_
                      rintro _ w68 H69
                      refine ⟨(H69.pick (m := [_, _, _, _]) [2, 3, 4, 5] rfl (by decide)), fun w70 e72 => ?_⟩
                      have H71 := H69.ext e72
                      refine tt_op rfl (Yd.op (y_asg rfl rfl)) rfl rfl ?_
                      rintro _ _ ⟨rfl, rfl⟩
                      refine ⟨(H71.pick (m := [_, _, _, _]) [2, 3, 4, 5] rfl (by decide)), fun w73 e75 => ?_⟩
                      have H74 := H71.ext e75
                      exact tt_leaf ⟨b59, A31, c32, rfl, H74⟩ ⟨rfl, rfl, trivial⟩ (by repeat (first | exact kp_refl | refine kp_app rfl rfl ?_ | refine kp_cons rfl ?_))
                    refine tt_op rfl (op_st (i := 0) (vs := [.int _ _, .int _ _, .slice _ _ _]) H63 rfl rfl rfl rfl rfl kflaw8c_5 rfl rfl rfl) rfl rfl ?_
                    rintro _ w76 H77
                    refine ⟨(H77.pick (m := [_, _, _, _]) [2, 3, 4, 5] rfl (by decide)), fun w78 e80 => ?_⟩
                    have H79 := H77.ext e80
                    refine tt_op rfl (Yd.op (y_ext rfl rfl rfl)) rfl rfl ?_
                    rintro _ _ ⟨rfl, rfl⟩
                    refine ⟨(H79.pick (m := [_, _, _, _]) [2, 3, 4, 5] rfl (by decide)), fun w81 e83 => ?_⟩
                    have H82 := H79.ext e83
                    refine tt_op rfl (Yd.op (y_asg rfl rfl)) rfl rfl ?_
                    rintro _ _ ⟨rfl, rfl⟩
                    refine ⟨(H82.pick (m := [_, _, _, _]) [2, 3, 4, 5] rfl (by decide)), fun w84 e86 => ?_⟩
                    have H85 := H82.ext e86
                    exact tt_leaf ⟨b59, A31, c32, rfl, H85⟩ ⟨rfl, rfl, trivial⟩ (by repeat (first | exact kp_refl | refine kp_app rfl rfl ?_ | refine kp_cons rfl ?_))
                  refine tt_alt ?_ ?_
                  · skip
                    refine tt_op rfl (Yd.op (y_ext rfl rfl rfl)) rfl rfl ?_
                    rintro _ _ ⟨rfl, rfl⟩
                    refine ⟨(H37.pick (m := [_, _, _, _]) [1, 2, 3, 4] rfl (by decide)), fun w87 e89 => ?_⟩
                    have H88 := H37.ext e89
                    refine tt_alt ?_ ?_
                    · skip
                      refine tt_op rfl (Yd.op (y_ext rfl rfl rfl)) rfl rfl ?_
                      rintro _ _ ⟨rfl, rfl⟩
                      refine ⟨(H88.pick (m := [_, _, _, _]) [1, 2, 3, 4] rfl (by decide)), fun w90 e92 => ?_⟩
                      have H91 := H88.ext e92
                      refine tt_op rfl (op_alloc H91 rfl kflaw8c_4) rfl rfl ?_
                      rintro _ w94 ⟨b93, rfl, H95⟩
                      refine ⟨(H95.pick (m := [_, _, _, _]) [2, 3, 4, 5] rfl (by decide)), fun w96 e98 => ?_⟩
                      have H97 := H95.ext e98
                      refine tt_op rfl (op_st (i := 0) (vs := [.int _ _, .int _ _, .slice _ _ _]) H97 rfl rfl rfl rfl rfl kflaw8c_5 rfl rfl rfl) rfl rfl ?_
                      rintro _ w99 H100
                      refine ⟨(H100.pick (m := [_, _, _, _]) [2, 3, 4, 5] rfl (by decide)), fun w101 e103 => ?_⟩
                      have H102 := H100.ext e103
                      refine tt_op rfl (Yd.op (y_asg rfl rfl)) rfl rfl ?_
                      rintro _ _ ⟨rfl, rfl⟩
                      refine ⟨(H102.pick (m := [_, _, _, _]) [2, 3, 4, 5] rfl (by decide)), fun w104 e106 => ?_⟩
                      have H105 := H102.ext e106
                      exact tt_leaf ⟨b93, A31, c32, rfl, H105⟩ ⟨rfl, rfl, trivial⟩ (by repeat (first | exact kp_refl | refine kp_app rfl rfl ?_ | refine kp_cons rfl ?_))
                    refine tt_op rfl (op_alloc H88 rfl kflaw8c_4) rfl rfl ?_
                    rintro _ w108 ⟨b107, rfl, H109⟩
                    refine ⟨(H109.pick (m := [_, _, _, _]) [2, 3, 4, 5] rfl (by decide)), fun w110 e112 => ?_⟩
                    have H111 := H109.ext e112
                    refine tt_op rfl (Yd.op (y_ext rfl rfl rfl)) rfl rfl ?_
                    rintro _ _ ⟨rfl, rfl⟩
                    refine ⟨(H111.pick (m := [_, _, _, _]) [2, 3, 4, 5] rfl (by decide)), fun w113 e115 => ?_⟩
                    have H114 := H111.ext e115
                    refine tt_op rfl (op_st (i := 0) (vs := [.int _ _, .int _ _, .slice _ _ _]) H114 rfl rfl rfl rfl rfl kflaw8c_5 rfl rfl rfl) rfl rfl ?_
                    rintro _ w116 H117
                    refine ⟨(H117.pick (m := [_, _, _, _]) [2, 3, 4, 5] rfl (by decide)), fun w118 e120 => ?_⟩
                    have H119 := H117.ext e120
                    refine tt_op rfl (Yd.op (y_asg rfl rfl)) rfl rfl ?_
                    rintro _ _ ⟨rfl, rfl⟩
                    refine ⟨(H119.pick (m := [_, _, _, _]) [2, 3, 4, 5] rfl (by decide)), fun w121 e123 => ?_⟩
                    have H122 := H119.ext e123
                    exact tt_leaf ⟨b107, A31, c32, rfl, H122⟩ ⟨rfl, rfl, trivial⟩ (by repeat (first | exact kp_refl | refine kp_app rfl rfl ?_ | refine kp_cons rfl ?_))
                  refine tt_op rfl (op_alloc H37 rfl kflaw8c_4) rfl rfl ?_
                  rintro _ w125 ⟨b124, rfl, H126⟩
                  refine ⟨(H126.pick (m := [_, _, _, _]) [2, 3, 4, 5] rfl (by decide)), fun w127 e129 => ?_⟩
                  have H128 := H126.ext e129
                  refine tt_alt ?_ ?_
                  · skip
                    refine tt_op rfl (Yd.op (y_ext rfl rfl rfl)) rfl rfl ?_
                    rintro _ _ ⟨rfl, rfl⟩
                    refine ⟨(H128.pick (m := [_, _, _, _]) [2, 3, 4, 5] rfl (by decide)), fun w130 e132 => ?_⟩
                    have H131 := H128.ext e132
                    refine tt_alt ?_ ?_
                    · skip
                      refine tt_op rfl (Yd.op (y_ext rfl rfl rfl)) rfl rfl ?_
                      rintro _ _ ⟨rfl, rfl⟩
                      refine ⟨(H131.pick (m := [_, _, _, _]) [2, 3, 4, 5] rfl (by decide)), fun w133 e135 => ?_⟩
                      have H134 := H131.ext e135
                      refine tt_op rfl (op_st (i := 0) (vs := [.int _ _, .int _ _, .slice _ _ _]) H134 rfl rfl rfl rfl rfl kflaw8c_5 rfl rfl rfl) rfl rfl ?_
                      rintro _ w136 H137
                      refine ⟨(H137.pick (m := [_, _, _, _]) [2, 3, 4, 5] rfl (by decide)), fun w138 e140 => ?_⟩
                      have H139 := H137.ext e140
                      refine tt_op rfl (Yd.op (y_asg rfl rfl)) rfl rfl ?_
                      rintro _ _ ⟨rfl, rfl⟩
                      refine ⟨(H139.pick (m := [_, _, _, _]) [2, 3, 4, 5] rfl (by decide)), fun w141 e143 => ?_⟩
                      have H142 := H139.ext e143
                      exact tt_leaf ⟨b124, A31, c32, rfl, H142⟩ ⟨rfl, rfl, trivial⟩ (by repeat (first | exact kp_refl | refine kp_app rfl rfl ?_ | refine kp_cons rfl ?_))
                    refine tt_op rfl (op_st (i := 0) (vs := [.int _ _, .int _ _, .slice _ _ _]) H131 rfl rfl rfl rfl rfl kflaw8c_5 rfl rfl rfl) rfl rfl ?_
                    rintro _ w144 H145
                    refine ⟨(H145.pick (m := [_, _, _, _]) [2, 3, 4, 5] rfl (by decide)), fun w146 e148 => ?_⟩
                    have H147 := H145.ext e148
                    refine tt_op rfl (Yd.op (y_ext rfl rfl rfl)) rfl rfl ?_
                    rintro _ _ ⟨rfl, rfl⟩
                    refine ⟨(H147.pick (m := [_, _, _, _]) [2, 3, 4, 5] rfl (by decide)), fun w149 e151 => ?_⟩
                    have H150 := H147.ext e151
                    refine tt_op rfl (Yd.op (y_asg rfl rfl)) rfl rfl ?_
                    rintro _ _ ⟨rfl, rfl⟩
                    refine ⟨(H150.pick (m := [_, _, _, _]) [2, 3, 4, 5] rfl (by decide)), fun w152 e154 => ?_⟩
                    have H153 := H150.ext e154
                    exact tt_leaf ⟨b124, A31, c32, rfl, H153⟩ ⟨rfl, rfl, trivial⟩ (by repeat (first | exact kp_refl | refine kp_app rfl rfl ?_ | refine kp_cons rfl ?_))
                  refine tt_op rfl (Yd.op (y_ext rfl rfl rfl)) rfl rfl ?_
                  rintro _ _ ⟨rfl, rfl⟩
                  refine ⟨(H128.pick (m := [_, _, _, _]) [2, 3, 4, 5] rfl (by decide)), fun w155 e157 => ?_⟩
                  have H156 := H128.ext e157
                  refine tt_op rfl (Yd.op (y_ext rfl rfl rfl)) rfl rfl ?_
                  rintro _ _ ⟨rfl, rfl⟩
                  refine ⟨(H156.pick (m := [_, _, _, _]) [2, 3, 4, 5] rfl (by decide)), fun w158 e160 => ?_⟩
                  have H159 := H156.ext e160
                  refine tt_op rfl (op_st (i := 0) (vs := [.int _ _, .int _ _, .slice _ _ _]) H159 rfl rfl rfl rfl rfl kflaw8c_5 rfl rfl rfl) rfl rfl ?_
                  rintro _ w161 H162
                  refine ⟨(H162.pick (m := [_, _, _, _]) [2, 3, 4, 5] rfl (by decide)), fun w163 e165 => ?_⟩
                  have H164 := H162.ext e165
                  refine tt_op rfl (Yd.op (y_asg rfl rfl)) rfl rfl ?_
                  rintro _ _ ⟨rfl, rfl⟩
                  refine ⟨(H164.pick (m := [_, _, _, _]) [2, 3, 4, 5] rfl (by decide)), fun w166 e168 => ?_⟩
                  have H167 := H164.ext e168
                  exact tt_leaf ⟨b124, A31, c32, rfl, H167⟩ ⟨rfl, rfl, trivial⟩ (by repeat (first | exact kp_refl | refine kp_app rfl rfl ?_ | refine kp_cons rfl ?_))
                refine tt_op rfl (op_alloc H34 rfl kflaw8c_4) rfl rfl ?_
                rintro _ w170 ⟨b169, rfl, H171⟩
                refine ⟨(H171.pick (m := [_, _, _, _]) [2, 3, 4, 5] rfl (by decide)), fun w172 e174 => ?_⟩
                have H173 := H171.ext e174
                refine tt_op rfl (Yd.op (y_mov rfl rfl)) rfl rfl ?_
                rintro _ _ ⟨rfl, rfl⟩
                refine ⟨(H173.pick (m := [_, _, _, _]) [2, 3, 4, 5] rfl (by decide)), fun w175 e177 => ?_⟩
                have H176 := H173.ext e177
                refine tt_alt ?_ ?_
                · skip
                  refine tt_op rfl (Yd.op (y_ext rfl rfl rfl)) rfl rfl ?_
                  rintro _ _ ⟨rfl, rfl⟩
                  refine ⟨(H176.pick (m := [_, _, _, _]) [2, 3, 4, 5] rfl (by decide)), fun w178 e180 => ?_⟩
                  have H179 := H176.ext e180
                  refine tt_alt ?_ ?_
                  · skip
                    refine tt_op rfl (Yd.op (y_ext rfl rfl rfl)) rfl rfl ?_
                    rintro _ _ ⟨rfl, rfl⟩
                    refine ⟨(H179.pick (m := [_, _, _, _]) [2, 3, 4, 5] rfl (by decide)), fun w181 e183 => ?_⟩
                    have H182 := H179.ext e183
                    refine tt_op rfl (op_st (i := 0) (vs := [.int _ _, .int _ _, .slice _ _ _]) H182 rfl rfl rfl rfl rfl kflaw8c_5 rfl rfl rfl) rfl rfl ?_
                    rintro _ w184 H185
                    refine ⟨(H185.pick (m := [_, _, _, _]) [2, 3, 4, 5] rfl (by decide)), fun w186 e188 => ?_⟩
                    have H187 := H185.ext e188
                    refine tt_op rfl (Yd.op (y_asg rfl rfl)) rfl rfl ?_
                    rintro _ _ ⟨rfl, rfl⟩
                    refine ⟨(H187.pick (m := [_, _, _, _]) [2, 3, 4, 5] rfl (by decide)), fun w189 e191 => ?_⟩
                    have H190 := H187.ext e191
                    exact tt_leaf ⟨b169, A31, c32, rfl, H190⟩ ⟨rfl, rfl, trivial⟩ (by repeat (first | exact kp_refl | refine kp_app rfl rfl ?_ | refine kp_cons rfl ?_))
                  refine tt_op rfl (op_st (i := 0) (vs := [.int _ _, .int _ _, .slice _ _ _]) H179 rfl rfl rfl rfl rfl kflaw8c_5 rfl rfl rfl) rfl rfl ?_
                  rintro _ w192 H193
                  refine ⟨(H193.pick (m := [_, _, _, _]) [2, 3, 4, 5] rfl (by decide)), fun w194 e196 => ?_⟩
                  have H195 := H193.ext e196
                  refine tt_op rfl (Yd.op (y_ext rfl rfl rfl)) rfl rfl ?_
                  rintro _ _ ⟨rfl, rfl⟩
                  refine ⟨(H195.pick (m := [_, _, _, _]) [2, 3, 4, 5] rfl (by decide)), fun w197 e199 => ?_⟩
                  have H198 := H195.ext e199
                  refine tt_op rfl (Yd.op (y_asg rfl rfl)) rfl rfl ?_
                  rintro _ _ ⟨rfl, rfl⟩
                  refine ⟨(H198.pick (m := [_, _, _, _]) [2, 3, 4, 5] rfl (by decide)), fun w200 e202 => ?_⟩
                  have H201 := H198.ext e202
                  exact tt_leaf ⟨b169, A31, c32, rfl, H201⟩ ⟨rfl, rfl, trivial⟩ (by repeat (first | exact kp_refl | refine kp_app rfl rfl ?_ | refine kp_cons rfl ?_))
                refine tt_op rfl (Yd.op (y_ext rfl rfl rfl)) rfl rfl ?_
                rintro _ _ ⟨rfl, rfl⟩
                refine ⟨(H176.pick (m := [_, _, _, _]) [2, 3, 4, 5] rfl (by decide)), fun w203 e205 => ?_⟩
                have H204 := H176.ext e205
                refine tt_op rfl (Yd.op (y_ext rfl rfl rfl)) rfl rfl ?_
                rintro _ _ ⟨rfl, rfl⟩
                refine ⟨(H204.pick (m := [_, _, _, _]) [2, 3, 4, 5] rfl (by decide)), fun w206 e208 => ?_⟩
                have H207 := H204.ext e208
                refine tt_op rfl (op_st (i := 0) (vs := [.int _ _, .int _ _, .slice _ _ _]) H207 rfl rfl rfl rfl rfl kflaw8c_5 rfl rfl rfl) rfl rfl ?_
                rintro _ w209 H210
                refine ⟨(H210.pick (m := [_, _, _, _]) [2, 3, 4, 5] rfl (by decide)), fun w211 e213 => ?_⟩
                have H212 := H210.ext e213
                refine tt_op rfl (Yd.op (y_asg rfl rfl)) rfl rfl ?_
                rintro _ _ ⟨rfl, rfl⟩
                refine ⟨(H212.pick (m := [_, _, _, _]) [2, 3, 4, 5] rfl (by decide)), fun w214 e216 => ?_⟩
                have H215 := H212.ext e216
                exact tt_leaf ⟨b169, A31, c32, rfl, H215⟩ ⟨rfl, rfl, trivial⟩ (by repeat (first | exact kp_refl | refine kp_app rfl rfl ?_ | refine kp_cons rfl ?_))
              refine tt_op rfl (op_alloc HX rfl kflaw8c_4) rfl rfl ?_
              rintro _ w218 ⟨b217, rfl, H219⟩
              refine ⟨(H219.pick (m := [_, _, _, _]) [1, 2, 3, 5] rfl (by decide)), fun w220 e222 => ?_⟩
              have H221 := H219.ext e222
              refine tt_op rfl (op_call (refFill_any w _ a h A' cap' (L.lst (a * h)) (nth zs (k * 5)) (nth zs (k * 5 + 1)) (nth zs (k * 5 + 2)) (nth zs (k * 5 + 3)) (nth zs (k * 5 + 4)) _ p (Ld.len hp1) (H221.pick (m := [_, _, _, _, _, _]) [4, 0, 1, 2, 3, 5] rfl (by decide))) rfl kflaw8c_12 ⟨rfl, rfl, rfl, trivial⟩) rfl rfl ?_
              rintro _ w224 ⟨A225, c226, rfl, H223⟩
              refine ⟨(H223.pick (m := [_, _, _, _]) [2, 3, 4, 5] rfl (by decide)), fun w227 e229 => ?_⟩
              have H228 := H223.ext e229
              refine tt_op rfl (Yd.op (y_mov rfl rfl)) rfl rfl ?_
              rintro _ _ ⟨rfl, rfl⟩
              refine ⟨(H228.pick (m := [_, _, _, _]) [2, 3, 4, 5] rfl (by decide)), fun w230 e232 => ?_⟩
              have H231 := H228.ext e232
              refine tt_alt ?_ ?_
              · skip
                refine tt_op rfl (Yd.op (y_ext rfl rfl rfl)) rfl rfl ?_
                rintro _ _ ⟨rfl, rfl⟩
                refine ⟨(H231.pick (m := [_, _, _, _]) [2, 3, 4, 5] rfl (by decide)), fun w233 e235 => ?_⟩
                have H234 := H231.ext e235
                refine tt_alt ?_ ?_
                · skip
                  refine tt_op rfl (Yd.op (y_ext rfl rfl rfl)) rfl rfl ?_
                  rintro _ _ ⟨rfl, rfl⟩
                  refine ⟨(H234.pick (m := [_, _, _, _]) [2, 3, 4, 5] rfl (by decide)), fun w236 e238 => ?_⟩
                  have H237 := H234.ext e238
                  refine tt_op rfl (op_st (i := 1) (vs := [.int _ _, .int _ _, .slice _ _ _]) H237 rfl rfl rfl rfl rfl kflaw8c_5 rfl rfl rfl) rfl rfl ?_
                  rintro _ w239 H240
                  refine ⟨(H240.pick (m := [_, _, _, _]) [2, 3, 4, 5] rfl (by decide)), fun w241 e243 => ?_⟩
                  have H242 := H240.ext e243
                  refine tt_op rfl (Yd.op (y_asg rfl rfl)) rfl rfl ?_
                  rintro _ _ ⟨rfl, rfl⟩
                  refine ⟨(H242.pick (m := [_, _, _, _]) [2, 3, 4, 5] rfl (by decide)), fun w244 e246 => ?_⟩
                  have H245 := H242.ext e246
                  exact tt_leaf ⟨b217, A225, c226, rfl, (H245.pick (m := [_, _, _, _, _, _]) [1, 0, 2, 3, 4, 5] rfl (by decide))⟩ ⟨rfl, rfl, trivial⟩ (by repeat (first | exact kp_refl | refine kp_app rfl rfl ?_ | refine kp_cons rfl ?_))
                refine tt_op rfl (op_st (i := 1) (vs := [.int _ _, .int _ _, .slice _ _ _]) H234 rfl rfl rfl rfl rfl kflaw8c_5 rfl rfl rfl) rfl rfl ?_
                rintro _ w247 H248
                refine ⟨(H248.pick (m := [_, _, _, _]) [2, 3, 4, 5] rfl (by decide)), fun w249 e251 => ?_⟩
                have H250 := H248.ext e251
                refine tt_op rfl (Yd.op (y_ext rfl rfl rfl)) rfl rfl ?_
                rintro _ _ ⟨rfl, rfl⟩
                refine ⟨(H250.pick (m := [_, _, _, _]) [2, 3, 4, 5] rfl (by decide)), fun w252 e254 => ?_⟩
                have H253 := H250.ext e254
                refine tt_op rfl (Yd.op (y_asg rfl rfl)) rfl rfl ?_
                rintro _ _ ⟨rfl, rfl⟩
                refine ⟨(H253.pick (m := [_, _, _, _]) [2, 3, 4, 5] rfl (by decide)), fun w255 e257 => ?_⟩
                have H256 := H253.ext e257
                exact tt_leaf ⟨b217, A225, c226, rfl, (H256.pick (m := [_, _, _, _, _, _]) [1, 0, 2, 3, 4, 5] rfl (by decide))⟩ ⟨rfl, rfl, trivial⟩ (by repeat (first | exact kp_refl | refine kp_app rfl rfl ?_ | refine kp_cons rfl ?_))
              refine tt_op rfl (Yd.op (y_ext rfl rfl rfl)) rfl rfl ?_
              rintro _ _ ⟨rfl, rfl⟩
              refine ⟨(H231.pick (m := [_, _, _, _]) [2, 3, 4, 5] rfl (by decide)), fun w258 e260 => ?_⟩
              have H259 := H231.ext e260
              refine tt_op rfl (Yd.op (y_ext rfl rfl rfl)) rfl rfl ?_
              rintro _ _ ⟨rfl, rfl⟩
              refine ⟨(H259.pick (m := [_, _, _, _]) [2, 3, 4, 5] rfl (by decide)), fun w261 e263 => ?_⟩
              have H262 := H259.ext e263
              refine tt_op rfl (op_st (i := 1) (vs := [.int _ _, .int _ _, .slice _ _ _]) H262 rfl rfl rfl rfl rfl kflaw8c_5 rfl rfl rfl) rfl rfl ?_
              rintro _ w264 H265
              refine ⟨(H265.pick (m := [_, _, _, _]) [2, 3, 4, 5] rfl (by decide)), fun w266 e268 => ?_⟩
              have H267 := H265.ext e268
              refine tt_op rfl (Yd.op (y_asg rfl rfl)) rfl rfl ?_
              rintro _ _ ⟨rfl, rfl⟩
              refine ⟨(H267.pick (m := [_, _, _, _]) [2, 3, 4, 5] rfl (by decide)), fun w269 e271 => ?_⟩
              have H270 := H267.ext e271
              exact tt_leaf ⟨b217, A225, c226, rfl, (H270.pick (m := [_, _, _, _, _, _]) [1, 0, 2, 3, 4, 5] rfl (by decide))⟩ ⟨rfl, rfl, trivial⟩ (by repeat (first | exact kp_refl | refine kp_app rfl rfl ?_ | refine kp_cons rfl ?_))
            · skip
              rintro M w273 ⟨b', A2, cap2, rfl, H272⟩
              refine fn_next ?_
              refine cw_seq ?_
              refine cw_seq ?_
              refine cw_draw H272 [0, 1, 2, 3, 4, 5, 6, 7, 8, 9, 10, 12] [11, 13] (fun X HX => (HX.pick (m := [_, _, _, _]) [0, 1, 4, 5] rfl (by decide))) (by kernel_rfl) (by kernel_rfl) (by rfl) ?_
              simp only [pick, List.getElem?_cons_succ, List.getElem?_cons_zero]
              refine hk_y (fun Y HY => y_mov rfl rfl) rfl rfl ?_
              refine hk_y (fun Y HY => y_mov rfl rfl) rfl rfl ?_
              refine hk_y (fun Y HY => y_mov rfl rfl) rfl rfl ?_
              refine hk_y (fun Y HY => y_iar (i := k) (hz.below HY.base) rfl rfl rfl kflaw8c_7 (rfl) (by omega) (rfl) (g0)) rfl rfl ?_
              refine hk_y (fun Y HY => y_far (hz.below HY.base) rfl rfl kflaw8c_8 rfl (g0)) rfl rfl ?_
              refine hk_y (fun Y HY => y_ldra (cs := [_, _, _, _]) (hz.below HY.base) rfl rfl kflaw8c_9 rfl (by decide) ((fun j v hv => vi_part4 (zs := zs) (p := k * 5) (by omega) j v hv))) rfl rfl ?_
              refine hk_y (fun Y HY => y_mov rfl rfl) rfl rfl ?_
              refine hk_y (fun Y HY => y_mov rfl rfl) rfl rfl ?_
              refine hk_y (fun Y HY => y_iar (i := k) (hz.below HY.base) rfl rfl rfl kflaw8c_7 (rfl) (by omega) (rfl) (g0)) rfl rfl ?_
              refine hk_y (fun Y HY => y_far (hz.below HY.base) rfl rfl kflaw8c_10 rfl (g0)) rfl rfl ?_
              refine hk_y (fun Y HY => y_ldr (hz.below HY.base) rfl rfl kflaw8c_11 (g4)) rfl rfl ?_
              refine hk_y (fun Y HY => y_mov rfl rfl) rfl rfl ?_
              refine hk_nil ?_
              intro w274 H275
              refine tv_op (op_call (slabFill_any w _ b11 a h L (nth zs (k * 5)) (nth zs (k * 5 + 1)) (nth zs (k * 5 + 2)) (nth zs (k * 5 + 3)) (nth zs (k * 5 + 4)) _ p hp1 (H275.pick (m := [_, _, _, _, _, _]) [2, 3, 0, 1, 4, 5] rfl (by decide))) rfl kflaw8c_13 ⟨rfl, rfl, rfl, trivial⟩) rfl rfl ?_
              rintro _ w277 ⟨L278, rfl, H276, o279, e280⟩
              have hfe := e280
              refine ⟨(H276.pick (m := [_, _, _, _]) [2, 3, 4, 5] rfl (by decide)), fun w281 e283 => ?_⟩
              have H282 := H276.ext e283
              refine tv_op (Yd.op (y_neq rfl rfl rfl)) rfl rfl ?_
              rintro _ _ ⟨rfl, rfl⟩
              refine ⟨(H282.pick (m := [_, _, _, _]) [2, 3, 4, 5] rfl (by decide)), fun w284 e286 => ?_⟩
              have H285 := H282.ext e286
              refine tv_nil ?_
              refine fn_next ?_
              refine cw_condd rfl (fun h287 => ?_) (fun h287 => ?_)
              · exact absurd rfl h287
              · skip
                rw [← hfe] at H285
                refine cw_skip ?_
                refine fn_next ?_
                refine cw_seq ?_
                refine cw_reg ?_
                refine ry (y_ldb (i := 2) (cs := [_, _, _]) H285 rfl rfl kflaw8c_6 rfl rfl) rfl rfl ?_
                refine reg_op (op_st (i := 4) (vs := [.int _ _, .int _ _, .slice _ _ _]) H285 rfl rfl rfl rfl rfl kflaw8c_5 rfl rfl rfl) rfl rfl ?_
                rintro _ w288 H289
                refine reg_nil ?_
                refine fn_next ?_
                refine cw_seq ?_
                refine cw_reg ?_
                refine ry (y_mov rfl rfl) rfl rfl ?_
                refine reg_op (op_call (slabFlat_any b11 a h L278 _ p o279 (Ld.rd_of (L := L278) H289 (i := 1) rfl) (H289.rdb (i := 0) rfl)) rfl kflaw8c_14 ⟨rfl, trivial⟩) rfl rfl ?_
                rintro _ w291 ⟨rfl, e290⟩
                have H292 := H289.ext e290
                refine ry (y_mov rfl rfl) rfl rfl ?_
                refine ry (y_ext rfl rfl rfl) rfl rfl ?_
                refine ry (y_ext rfl rfl rfl) rfl rfl ?_
                refine ry (y_asg rfl rfl) rfl rfl ?_
                refine ry (y_asg rfl rfl) rfl rfl ?_
                refine reg_nil ?_
                refine fn_next ?_
                refine cw_seq ?_
                refine cw_reg ?_
                refine ry (y_fa rfl rfl kflaw8c_15 rfl) rfl rfl ?_
                refine ry (y_ld rfl rfl kflaw8c_16 (H292.cell (i := 4) rfl rfl)) rfl rfl ?_
                refine reg_op (op_call (refFlat_any _ (a * h) _ (L278.lst (a * h)) _ (H292.rd (i := 3) rfl) (Ld.len o279) hm.1 (by omega)) rfl kflaw8c_17 ⟨rfl, trivial⟩) rfl rfl ?_
                rintro _ w294 ⟨rfl, e293⟩
                have H295 := H292.ext e293
                refine ry (y_mov rfl rfl) rfl rfl ?_
                refine ry (y_ext rfl rfl rfl) rfl rfl ?_
                refine ry (y_ext rfl rfl rfl) rfl rfl ?_
                refine ry (y_asg rfl rfl) rfl rfl ?_
                refine ry (y_asg rfl rfl) rfl rfl ?_
                refine reg_nil ?_
                refine fn_next ?_
                refine cw_seq ?_
                refine cw_draw H295 [0, 1, 2, 3, 4, 5, 6, 7, 8, 9, 10, 11, 12, 13, 14, 15] [] (fun X HX => HX) (by kernel_rfl) (by kernel_rfl) (by rfl) ?_
                simp only [pick, List.getElem?_cons_succ, List.getElem?_cons_zero]
                refine hk_y (fun Y HY => y_mov rfl rfl) rfl rfl ?_
                refine hk_y (fun Y HY => y_mov rfl rfl) rfl rfl ?_
                refine hk_y (fun Y HY => y_neq rfl rfl rfl) rfl rfl ?_
                refine hk_y (fun Y HY => y_mov rfl rfl) rfl rfl ?_
                refine hk_splitd tv_all (d := 110) rfl (fun h296 => ?_) (fun h296 => ?_)
                · exact absurd rfl h296
                · skip
                  refine hk_on (qy_yd fun Y HY => y_mov rfl rfl) rfl rfl rfl rfl ?_
                  refine hk_on (qy_yd fun Y HY => y_mov rfl rfl) rfl rfl rfl rfl ?_
                  refine hk_on (qy_yd fun Y HY => y_bneq rfl Try.underlying4 rfl rfl) rfl rfl rfl rfl ?_
                  refine hk_y (fun Y HY => y_pick rfl rfl rfl) rfl rfl ?_
                  refine hk_y (fun Y HY => y_mov rfl rfl) rfl rfl ?_
                  refine hk_split tv_all (d := 115) rfl (fun h297 => ?_) (fun h297 => ?_)
                  · exact absurd h297 (by simp)
                  · skip
                    refine hk_on (qy_yd fun Y HY => y_mov rfl rfl) rfl rfl rfl rfl ?_
                    refine hk_on (qy_call (fun Y HY => slabRange_any b11 a h L278 _ p o279 (Ld.rd_of (L := L278) HY (i := 1) rfl) (HY.rdb (i := 0) rfl)) rfl kflaw8c_18 ⟨rfl, trivial⟩) rfl rfl rfl rfl ?_
                    refine hk_on (qy_yd fun Y HY => y_fa rfl rfl kflaw8c_15 rfl) rfl rfl rfl rfl ?_
                    refine hk_on (qy_yd fun Y HY => y_ld rfl rfl kflaw8c_16 (HY.cell (i := 4) rfl rfl)) rfl rfl rfl rfl ?_
                    refine hk_on (qy_call (fun Y HY => refRange_any _ (a * h) _ (L278.lst (a * h)) _ (HY.rd (i := 3) rfl) (Ld.len o279) hm.1 (by omega)) rfl kflaw8c_19 ⟨rfl, trivial⟩) rfl rfl rfl rfl ?_
                    refine hk_on (qy_yd fun Y HY => y_seq (ks := [.i64, .i64]) (a := [mnI (L278.lst (a * h)) (a * h), mxI (L278.lst (a * h)) (a * h)]) (b := [mnI (L278.lst (a * h)) (a * h), mxI (L278.lst (a * h)) (a * h)]) rfl (.inr ⟨rfl, rfl⟩) kflaw8c_20 rfl rfl rfl rfl rfl rfl rfl) rfl rfl rfl rfl ?_
                    refine hk_y (fun Y HY => y_pick rfl rfl rfl) rfl rfl ?_
                    refine hk_nil ?_
                    intro w298 H299
                    refine tv_nil ?_
                    refine fn_next ?_
                    refine cw_condd rfl (fun h300 => ?_) (fun h300 => ?_)
                    · exact absurd rfl h300
                    · skip
                      refine cw_skip ?_
                      refine fn_block ?_
                      refine fn_next ?_
                      refine cw_reg ?_
                      refine ry (y_mov rfl rfl) rfl rfl ?_
                      refine ry (y_add rfl rfl rfl (wi (by omega))) rfl rfl ?_
                      refine ry (y_asg rfl rfl) rfl rfl ?_
                      refine reg_nil ?_
                      refine fn_roundJ ⟨k + 1, _, _, _, rfl, (H299.pick (m := [_, _, _, _, _]) [0, 1, 4, 3, 5] rfl (by decide)), by omega, o279, rfl⟩ ⟨rfl, trivial⟩ (by omega) (by repeat (first | exact kp_refl | refine kp_app rfl rfl ?_ | refine kp_cons rfl ?_)) rfl
          · skip
            refine cw_exit ?_
            refine fn_then_exit (fn_then_exit (fn_block_exit ?_))
            refine fn_next ?_
            refine cw_seq ?_
            refine cw_reg ?_
            refine ry (y_mov rfl rfl) rfl rfl ?_
            refine ry (y_ldb (i := 4) (cs := [_, _]) H26 rfl rfl kflaw8c_21 rfl rfl) rfl rfl ?_
            refine reg_op (op_call (slabAt_any b11 a h L x y _ p hp1 (Ld.rd_of (L := L) H26 (i := 1) rfl) (H26.rdb (i := 0) rfl)) rfl kflaw8c_22 ⟨rfl, rfl, trivial⟩) rfl rfl ?_
            rintro _ w302 ⟨rfl, e301⟩
            have H303 := H26.ext e301
            refine ry (y_mov rfl rfl) rfl rfl ?_
            refine ry (y_ext rfl rfl rfl) rfl rfl ?_
            refine ry (y_ext rfl rfl rfl) rfl rfl ?_
            refine ry (y_asg rfl rfl) rfl rfl ?_
            refine ry (y_asg rfl rfl) rfl rfl ?_
            refine reg_nil ?_
            refine fn_next ?_
            refine cw_seq ?_
            refine cw_reg ?_
            refine ry (y_ldb (i := 2) (cs := [_, _, _]) H303 rfl rfl kflaw8c_6 rfl rfl) rfl rfl ?_
            refine ry (y_ldb (i := 4) (cs := [_, _]) H303 rfl rfl kflaw8c_21 rfl rfl) rfl rfl ?_
            refine reg_op (op_call (refAt_any a h _ _ x y (L.lst (a * h)) _ p (H303.rd (i := 3) rfl) (Ld.len hp1)) rfl kflaw8c_23 ⟨rfl, rfl, trivial⟩) rfl rfl ?_
            rintro _ w305 ⟨rfl, e304⟩
            have H306 := H303.ext e304
            refine ry (y_mov rfl rfl) rfl rfl ?_
            refine ry (y_ext rfl rfl rfl) rfl rfl ?_
            refine ry (y_ext rfl rfl rfl) rfl rfl ?_
            refine ry (y_asg rfl rfl) rfl rfl ?_
            refine ry (y_asg rfl rfl) rfl rfl ?_
            refine reg_nil ?_
            refine fn_next ?_
            refine cw_seq ?_
            refine cw_reg ?_
            refine ry (y_mov rfl rfl) rfl rfl ?_
            refine reg_op (op_call (slabSize_any b11 a h _ _ (H306.rdb (i := 0) rfl)) rfl kflaw8c_24 ⟨rfl, trivial⟩) rfl rfl ?_
            rintro _ w308 ⟨rfl, e307⟩
            have H309 := H306.ext e307
            refine ry (y_mov rfl rfl) rfl rfl ?_
            refine ry (y_ext rfl rfl rfl) rfl rfl ?_
            refine ry (y_ext rfl rfl rfl) rfl rfl ?_
            refine ry (y_asg rfl rfl) rfl rfl ?_
            refine ry (y_asg rfl rfl) rfl rfl ?_
            refine reg_nil ?_
            refine fn_next ?_
            refine cw_seq ?_
            refine cw_drawT H309 [0, 1, 2, 3, 4, 5, 6, 7, 8, 9, 11, 12] (.step 10 (.step 13 (.step 14 (.step 15 (.alt (.step 16 (.step 17 (.step 18 (.step 19 (.step 20 (.alt (.step 21 (.step 22 (.step 23 (.step 24 (.step 25 (.leaf)))))) (.step 22 (.step 21 (.step 23 (.step 24 (.step 25 (.leaf)))))))))))) (.step 17 (.step 16 (.step 18 (.step 19 (.step 20 (.alt (.step 21 (.step 22 (.step 23 (.step 24 (.step 25 (.leaf)))))) (.step 22 (.step 21 (.step 23 (.step 24 (.step 25 (.leaf))))))))))))))))) (fun X HX => HX) (by kernel_rfl) (by kernel_rfl) (by rfl) ?_
            simp only [pick, List.getElem?_cons_succ, List.getElem?_cons_zero]
            refine hk_y (fun Y HY => y_mov rfl rfl) rfl rfl ?_
            refine hk_y (fun Y HY => y_mov rfl rfl) rfl rfl ?_
            refine hk_y (fun Y HY => y_eql rfl rfl rfl) rfl rfl ?_
            refine hk_y (fun Y HY => y_mov rfl rfl) rfl rfl ?_
            refine hk_splitd tree_all (d := 143) rfl (fun h310 => ?_) (fun h310 => ?_)
            · skip
              refine hk_on (qy_yd fun Y HY => y_mov rfl rfl) rfl rfl rfl rfl ?_
              refine hk_on (qy_yd fun Y HY => y_mov rfl rfl) rfl rfl rfl rfl ?_
              refine hk_on (qy_yd fun Y HY => y_eql rfl rfl rfl) rfl rfl rfl rfl ?_
              refine hk_y (fun Y HY => y_pick rfl rfl rfl) rfl rfl ?_
              refine hk_y (fun Y HY => y_mov rfl rfl) rfl rfl ?_
              refine hk_splitd tree_all (d := 148) rfl (fun h311 => ?_) (fun h311 => ?_)
              · skip
                refine hk_on (qy_yd fun Y HY => y_mov rfl rfl) rfl rfl rfl rfl ?_
                refine hk_on (qy_yd fun Y HY => y_fa rfl rfl kflaw8c_15 rfl) rfl rfl rfl rfl ?_
                refine hk_on (qy_yd fun Y HY => y_ld rfl rfl kflaw8c_16 (HY.cell (i := 2) rfl rfl)) rfl rfl rfl rfl ?_
                refine hkt_nil [10, 150, 153, 154, 155, 156, 157, 158, 159, 160, 161, 162, 163, 164] (fun M wl => M = [(10, .bool (decide ((h : Int) = (h : Int))))] ∧ HS w wl []) (fun wX HX => ?_) ?_
                · skip
                  refine tt_on rfl rfl rfl rfl (op_call (slabCells_any b11 a h L _ p hp1 (Ld.rd_of (L := L) HX (i := 1) rfl) (HX.rdb (i := 0) rfl)) rfl kflaw8c_25 ⟨rfl, trivial⟩) rfl ?_
                  rintro _ w313 ⟨A315, c316, rfl, k312⟩
                  have H314 := HX.call k312
                  refine ⟨(H314.pick (m := [_, _, _, _, _]) [1, 2, 3, 4, 5] rfl (by decide)), fun w317 e319 => ?_⟩
                  have H318 := H314.ext e319
                  refine tt_on rfl rfl rfl rfl (op_call (refSame_any _ (a * h) _ (L.lst (a * h)) _ (a * h) _ (L.lst (a * h)) _ (H318.rd (i := 0) rfl) (Ld.len hp1) (H318.rd (i := 4) rfl) (Ld.len hp1) (by omega)) rfl kflaw8c_26 ⟨rfl, rfl, trivial⟩) rfl ?_
                  rintro _ w321 ⟨rfl, e320⟩
                  have H322 := H318.ext e320
                  refine ⟨(H322.pick (m := [_, _, _, _, _]) [1, 2, 3, 4, 5] rfl (by decide)), fun w323 e325 => ?_⟩
                  have H324 := H322.ext e325
                  refine tt_op rfl (Yd.op (y_pick rfl rfl rfl)) rfl rfl ?_
                  rintro _ _ ⟨rfl, rfl⟩
                  refine ⟨(H324.pick (m := [_, _, _, _, _]) [1, 2, 3, 4, 5] rfl (by decide)), fun w326 e328 => ?_⟩
                  have H327 := H324.ext e328
                  refine tt_op rfl (Yd.op (y_mov rfl rfl)) rfl rfl ?_
                  rintro _ _ ⟨rfl, rfl⟩
                  refine ⟨(H327.pick (m := [_, _, _, _, _]) [1, 2, 3, 4, 5] rfl (by decide)), fun w329 e331 => ?_⟩
                  have H330 := H327.ext e331
                  refine tt_alt ?_ ?_
                  · skip
                    refine tt_splitd (d := 155) rfl (fun h332 => ?_) (fun h332 => ?_)
                    · skip
                      refine tt_on rfl rfl rfl rfl (Yd.op (y_mov rfl rfl)) rfl ?_
                      rintro _ _ ⟨rfl, rfl⟩
                      refine ⟨(H330.pick (m := [_, _, _, _, _]) [1, 2, 3, 4, 5] rfl (by decide)), fun w333 e335 => ?_⟩
                      have H334 := H330.ext e335
                      refine tt_on rfl rfl rfl rfl (Yd.op (y_mov rfl rfl)) rfl ?_
                      rintro _ _ ⟨rfl, rfl⟩
                      refine ⟨(H334.pick (m := [_, _, _, _, _]) [1, 2, 3, 4, 5] rfl (by decide)), fun w336 e338 => ?_⟩
                      have H337 := H334.ext e338
                      refine tt_on rfl rfl rfl rfl (Yd.op (y_eql rfl rfl rfl)) rfl ?_
                      rintro _ _ ⟨rfl, rfl⟩
                      refine ⟨(H337.pick (m := [_, _, _, _, _]) [1, 2, 3, 4, 5] rfl (by decide)), fun w339 e341 => ?_⟩
                      have H340 := H337.ext e341
                      refine tt_op rfl (Yd.op (y_pick rfl rfl rfl)) rfl rfl ?_
                      rintro _ _ ⟨rfl, rfl⟩
                      refine ⟨(H340.pick (m := [_, _, _, _, _]) [1, 2, 3, 4, 5] rfl (by decide)), fun w342 e344 => ?_⟩
                      have H343 := H340.ext e344
                      refine tt_op rfl (Yd.op (y_mov rfl rfl)) rfl rfl ?_
                      rintro _ _ ⟨rfl, rfl⟩
                      refine ⟨(H343.pick (m := [_, _, _, _, _]) [1, 2, 3, 4, 5] rfl (by decide)), fun w345 e347 => ?_⟩
                      have H346 := H343.ext e347
                      refine tt_alt ?_ ?_
                      · skip
                        refine tt_splitd (d := 160) rfl (fun h348 => ?_) (fun h348 => ?_)
                        · skip
                          refine tt_on rfl rfl rfl rfl (Yd.op (y_mov rfl rfl)) rfl ?_
                          rintro _ _ ⟨rfl, rfl⟩
                          refine ⟨(H346.pick (m := [_, _, _, _, _]) [1, 2, 3, 4, 5] rfl (by decide)), fun w349 e351 => ?_⟩
                          have H350 := H346.ext e351
                          refine tt_on rfl rfl rfl rfl (Yd.op (y_mov rfl rfl)) rfl ?_
                          rintro _ _ ⟨rfl, rfl⟩
                          refine ⟨(H350.pick (m := [_, _, _, _, _]) [1, 2, 3, 4, 5] rfl (by decide)), fun w352 e354 => ?_⟩
                          have H353 := H350.ext e354
                          refine tt_on rfl rfl rfl rfl (Yd.op (y_eql rfl rfl rfl)) rfl ?_
                          rintro _ _ ⟨rfl, rfl⟩
                          refine ⟨(H353.pick (m := [_, _, _, _, _]) [1, 2, 3, 4, 5] rfl (by decide)), fun w355 e357 => ?_⟩
                          have H356 := H353.ext e357
                          refine tt_op rfl (Yd.op (y_pick rfl rfl rfl)) rfl rfl ?_
                          rintro _ _ ⟨rfl, rfl⟩
                          refine ⟨(H356.pick (m := [_, _, _, _, _]) [1, 2, 3, 4, 5] rfl (by decide)), fun w358 e360 => ?_⟩
                          have H359 := H356.ext e360
                          refine tt_op rfl (Yd.op (y_asg rfl rfl)) rfl rfl ?_
                          rintro _ _ ⟨rfl, rfl⟩
                          refine ⟨(H359.pick (m := [_, _, _, _, _]) [1, 2, 3, 4, 5] rfl (by decide)), fun w361 e363 => ?_⟩
                          have H362 := H359.ext e363
                          exact tt_leaf ⟨rfl, (H362.pick (m := []) [] rfl (by decide))⟩ ⟨rfl, trivial⟩ (by repeat (first | exact kp_refl | refine kp_app rfl rfl ?_ | refine kp_cons rfl ?_))
                        · exact absurd rfl h348
                      refine tt_splitd (d := 160) rfl (fun h364 => ?_) (fun h364 => ?_)
                      · skip
                        refine tt_on rfl rfl rfl rfl (Yd.op (y_mov rfl rfl)) rfl ?_
                        rintro _ _ ⟨rfl, rfl⟩
                        refine ⟨(H346.pick (m := [_, _, _, _, _]) [1, 2, 3, 4, 5] rfl (by decide)), fun w365 e367 => ?_⟩
                        have H366 := H346.ext e367
                        refine tt_on rfl rfl rfl rfl (Yd.op (y_mov rfl rfl)) rfl ?_
                        rintro _ _ ⟨rfl, rfl⟩
                        refine ⟨(H366.pick (m := [_, _, _, _, _]) [1, 2, 3, 4, 5] rfl (by decide)), fun w368 e370 => ?_⟩
                        have H369 := H366.ext e370
                        refine tt_on rfl rfl rfl rfl (Yd.op (y_eql rfl rfl rfl)) rfl ?_
                        rintro _ _ ⟨rfl, rfl⟩
                        refine ⟨(H369.pick (m := [_, _, _, _, _]) [1, 2, 3, 4, 5] rfl (by decide)), fun w371 e373 => ?_⟩
                        have H372 := H369.ext e373
                        refine tt_op rfl (Yd.op (y_pick rfl rfl rfl)) rfl rfl ?_
                        rintro _ _ ⟨rfl, rfl⟩
                        refine ⟨(H372.pick (m := [_, _, _, _, _]) [1, 2, 3, 4, 5] rfl (by decide)), fun w374 e376 => ?_⟩
                        have H375 := H372.ext e376
                        refine tt_op rfl (Yd.op (y_asg rfl rfl)) rfl rfl ?_
                        rintro _ _ ⟨rfl, rfl⟩
                        refine ⟨(H375.pick (m := [_, _, _, _, _]) [1, 2, 3, 4, 5] rfl (by decide)), fun w377 e379 => ?_⟩
                        have H378 := H375.ext e379
                        exact tt_leaf ⟨rfl, (H378.pick (m := []) [] rfl (by decide))⟩ ⟨rfl, trivial⟩ (by repeat (first | exact kp_refl | refine kp_app rfl rfl ?_ | refine kp_cons rfl ?_))
                      · exact absurd rfl h364
                    · exact absurd rfl h332
                  refine tt_splitd (d := 155) rfl (fun h380 => ?_) (fun h380 => ?_)
                  · skip
                    refine tt_on rfl rfl rfl rfl (Yd.op (y_mov rfl rfl)) rfl ?_
                    rintro _ _ ⟨rfl, rfl⟩
                    refine ⟨(H330.pick (m := [_, _, _, _, _]) [1, 2, 3, 4, 5] rfl (by decide)), fun w381 e383 => ?_⟩
                    have H382 := H330.ext e383
                    refine tt_on rfl rfl rfl rfl (Yd.op (y_mov rfl rfl)) rfl ?_
                    rintro _ _ ⟨rfl, rfl⟩
                    refine ⟨(H382.pick (m := [_, _, _, _, _]) [1, 2, 3, 4, 5] rfl (by decide)), fun w384 e386 => ?_⟩
                    have H385 := H382.ext e386
                    refine tt_on rfl rfl rfl rfl (Yd.op (y_eql rfl rfl rfl)) rfl ?_
                    rintro _ _ ⟨rfl, rfl⟩
                    refine ⟨(H385.pick (m := [_, _, _, _, _]) [1, 2, 3, 4, 5] rfl (by decide)), fun w387 e389 => ?_⟩
                    have H388 := H385.ext e389
                    refine tt_op rfl (Yd.op (y_pick rfl rfl rfl)) rfl rfl ?_
                    rintro _ _ ⟨rfl, rfl⟩
                    refine ⟨(H388.pick (m := [_, _, _, _, _]) [1, 2, 3, 4, 5] rfl (by decide)), fun w390 e392 => ?_⟩
                    have H391 := H388.ext e392
                    refine tt_op rfl (Yd.op (y_mov rfl rfl)) rfl rfl ?_
                    rintro _ _ ⟨rfl, rfl⟩
                    refine ⟨(H391.pick (m := [_, _, _, _, _]) [1, 2, 3, 4, 5] rfl (by decide)), fun w393 e395 => ?_⟩
                    have H394 := H391.ext e395
                    refine tt_alt ?_ ?_
                    · skip
                      refine tt_splitd (d := 160) rfl (fun h396 => ?_) (fun h396 => ?_)
                      · skip
                        refine tt_on rfl rfl rfl rfl (Yd.op (y_mov rfl rfl)) rfl ?_
                        rintro _ _ ⟨rfl, rfl⟩
                        refine ⟨(H394.pick (m := [_, _, _, _, _]) [1, 2, 3, 4, 5] rfl (by decide)), fun w397 e399 => ?_⟩
                        have H398 := H394.ext e399
                        refine tt_on rfl rfl rfl rfl (Yd.op (y_mov rfl rfl)) rfl ?_
                        rintro _ _ ⟨rfl, rfl⟩
                        refine ⟨(H398.pick (m := [_, _, _, _, _]) [1, 2, 3, 4, 5] rfl (by decide)), fun w400 e402 => ?_⟩
                        have H401 := H398.ext e402
                        refine tt_on rfl rfl rfl rfl (Yd.op (y_eql rfl rfl rfl)) rfl ?_
                        rintro _ _ ⟨rfl, rfl⟩
                        refine ⟨(H401.pick (m := [_, _, _, _, _]) [1, 2, 3, 4, 5] rfl (by decide)), fun w403 e405 => ?_⟩
                        have H404 := H401.ext e405
                        refine tt_op rfl (Yd.op (y_pick rfl rfl rfl)) rfl rfl ?_
                        rintro _ _ ⟨rfl, rfl⟩
                        refine ⟨(H404.pick (m := [_, _, _, _, _]) [1, 2, 3, 4, 5] rfl (by decide)), fun w406 e408 => ?_⟩
                        have H407 := H404.ext e408
                        refine tt_op rfl (Yd.op (y_asg rfl rfl)) rfl rfl ?_
                        rintro _ _ ⟨rfl, rfl⟩
                        refine ⟨(H407.pick (m := [_, _, _, _, _]) [1, 2, 3, 4, 5] rfl (by decide)), fun w409 e411 => ?_⟩
                        have H410 := H407.ext e411
                        exact tt_leaf ⟨rfl, (H410.pick (m := []) [] rfl (by decide))⟩ ⟨rfl, trivial⟩ (by repeat (first | exact kp_refl | refine kp_app rfl rfl ?_ | refine kp_cons rfl ?_))
                      · exact absurd rfl h396
                    refine tt_splitd (d := 160) rfl (fun h412 => ?_) (fun h412 => ?_)
                    · skip
                      refine tt_on rfl rfl rfl rfl (Yd.op (y_mov rfl rfl)) rfl ?_
                      rintro _ _ ⟨rfl, rfl⟩
                      refine ⟨(H394.pick (m := [_, _, _, _, _]) [1, 2, 3, 4, 5] rfl (by decide)), fun w413 e415 => ?_⟩
                      have H414 := H394.ext e415
                      refine tt_on rfl rfl rfl rfl (Yd.op (y_mov rfl rfl)) rfl ?_
                      rintro _ _ ⟨rfl, rfl⟩
                      refine ⟨(H414.pick (m := [_, _, _, _, _]) [1, 2, 3, 4, 5] rfl (by decide)), fun w416 e418 => ?_⟩
                      have H417 := H414.ext e418
                      refine tt_on rfl rfl rfl rfl (Yd.op (y_eql rfl rfl rfl)) rfl ?_
                      rintro _ _ ⟨rfl, rfl⟩
                      refine ⟨(H417.pick (m := [_, _, _, _, _]) [1, 2, 3, 4, 5] rfl (by decide)), fun w419 e421 => ?_⟩
                      have H420 := H417.ext e421
                      refine tt_op rfl (Yd.op (y_pick rfl rfl rfl)) rfl rfl ?_
                      rintro _ _ ⟨rfl, rfl⟩
                      refine ⟨(H420.pick (m := [_, _, _, _, _]) [1, 2, 3, 4, 5] rfl (by decide)), fun w422 e424 => ?_⟩
                      have H423 := H420.ext e424
                      refine tt_op rfl (Yd.op (y_asg rfl rfl)) rfl rfl ?_
                      rintro _ _ ⟨rfl, rfl⟩
                      refine ⟨(H423.pick (m := [_, _, _, _, _]) [1, 2, 3, 4, 5] rfl (by decide)), fun w425 e427 => ?_⟩
                      have H426 := H423.ext e427
                      exact tt_leaf ⟨rfl, (H426.pick (m := []) [] rfl (by decide))⟩ ⟨rfl, trivial⟩ (by repeat (first | exact kp_refl | refine kp_app rfl rfl ?_ | refine kp_cons rfl ?_))
                    · exact absurd rfl h412
                  · exact absurd rfl h380
                · skip
                  rintro M w429 ⟨rfl, H428⟩
                  refine fn_next ?_
                  refine cw_ret ?_
                  refine fn_ret1 rfl rfl ?_
                  first | exact ⟨rfl, H428.base⟩ | (rw [decide_eq_true rfl]; exact ⟨rfl, H428.base⟩)
              · exact absurd rfl h311
            · exact absurd rfl h310

theorem slabPlays_law (a h v : Int) (zs : List Int) (A : Option Addr) (m cap : Nat) (x y : Int) (W : World) (_ : I64b a) (_ : I64b h) (_ : I64b v) (hz : Rd W A (vi .i64 zs)) (hl : zs.length = m * 5) (_ : m ≤ cap) (_ : cap ≤ maxLen) (_ : ∀ z ∈ zs, I64b z) (_ : I64b x) (_ : I64b y) :
    Calls Try.prog 6 #[.int .i64 a, .int .i64 h, .int .i64 v, .slice A m cap, .agg #[.int .i64 x, .int .i64 y]] W fun e w' => e = .returned (.bool true) ∧ Below W.heap.size W w' := by
  by_cases hc : newC a h v = 0
  · obtain ⟨a, h, rfl, rfl, p, hv⟩ := newC_zero hc
    exact law_of (slabPlays_ok a h v zs A m cap x y W hz hl p hv)
  · exact law_of (slabPlays_bad a h v zs A m cap x y W hz hl hc)

end Go.Proofs.Ytkphmcaoioaglaa
