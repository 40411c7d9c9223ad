/- Layer 8: SlabSets. -/
import Derived.Test.YtkphmcaoioaglaaLaw8a
import Derived.Test.YtkphmcaoioaglaaFlats
set_option linter.unusedVariables false
set_option linter.unusedSimpArgs false
namespace Go.Proofs.Ytkphmcaoioaglaa
open Go Go.RowKit
theorem kflaw8b_1 : callB Try.prog 25 = true := by kernel_rfl
theorem kflaw8b_2 : callB Try.prog 26 = true := by kernel_rfl
theorem kflaw8b_3 : elB Try.prog 50 5 = true := by kernel_rfl
theorem kflaw8b_4 : fldB Try.prog 56 0 0 = true := by kernel_rfl
theorem kflaw8b_5 : aggB Try.prog 24 4 = true := by kernel_rfl
theorem kflaw8b_6 : fldB Try.prog 56 1 4 = true := by kernel_rfl
theorem kflaw8b_7 : oneB Try.prog 2 = true := by kernel_rfl
theorem kflaw8b_8 : callB Try.prog 27 = true := by kernel_rfl
theorem kflaw8b_9 : callB Try.prog 28 = true := by kernel_rfl
theorem kflaw8b_10 : callB Try.prog 29 = true := by kernel_rfl
theorem kflaw8b_11 : aggB Try.prog 26 2 = true := by kernel_rfl
theorem kflaw8b_12 : callB Try.prog 30 = true := by kernel_rfl
theorem kflaw8b_13 : callB Try.prog 31 = true := by kernel_rfl
theorem kflaw8b_14 : fldB Try.prog 26 0 0 = true := by kernel_rfl
theorem kflaw8b_15 : fldB Try.prog 26 1 1 = true := by kernel_rfl
theorem kflaw8b_16 : elB Try.prog 32 1 = true := by kernel_rfl
theorem kflaw8b_17 : (Try.prog.info? 24).bind (fun i => i.zero.map Value.cells) = some (List.toArray [(.int .i64 0), (.int .i64 0), (.int .i64 0), (.int .i64 0)]) := by kernel_rfl
theorem kflaw8b_18 : callB Try.prog 32 = true := by kernel_rfl
theorem vi_part4 {zs : List Int} {p : Nat} (h : p + 4 < zs.length) : ∀ j v, ([.int .i64 (nth zs p), .int .i64 (nth zs (p + 1)), .int .i64 (nth zs (p + 2)), .int .i64 (nth zs (p + 3))] : List Value)[j]? = some v → (vi .i64 zs)[p + j]? = some v := fun j v hv => by
  have h4 : j < 4 := by
    have := (List.getElem?_eq_some_iff.1 hv).1
    simpa using this
  rw [vi_get (by omega), ← hv]
  match j, h4 with
  | 0, _ => rfl
  | 1, _ => rfl
  | 2, _ => rfl
  | 3, _ => rfl
theorem fillC_out {a h : Nat} {x y u : Int} (p : sizeP a h) (ho : ¬ (0 ≤ x ∧ x < a ∧ 0 ≤ y ∧ y < h)) : fillC a h x y x y u = 4 := by
  obtain ⟨s1, s2, s3, s4⟩ := p
  have h4 : withinC x y x y a h = 4 := by
    unfold withinC; simp only [insideB_not]
    rw [if_neg (by unfold wrap64; omega), if_pos (by omega)]
  rw [fillC_w (by rw [h4]; decide), h4]
theorem within_in {a h : Nat} {x y : Int} (p : sizeP a h) (hi : 0 ≤ x ∧ x < a ∧ 0 ≤ y ∧ y < h) : withinC x y x y a h = 0 := by
  obtain ⟨s1, s2, s3, s4⟩ := p
  unfold withinC; simp only [insideB_not]
  rw [if_neg (by unfold wrap64; omega), if_neg (by omega), if_neg (by omega)]
theorem setV_at {V : List Int} {a h : Nat} {x y u : Int} (p : sizeP a h) (hl : V.length = a * h) (hi : 0 ≤ x ∧ x < a ∧ 0 ≤ y ∧ y < h) (hv : B32 u) {i : Nat} (hii : i < a * h) : nth (fillV V a h x y x y u) i = if (i : Int) = y * a + x then u else nth V i := by
  obtain ⟨q, hq⟩ : ∃ q : Nat, x = q := ⟨x.toNat, by omega⟩
  obtain ⟨r, hr⟩ : ∃ r : Nat, y = r := ⟨y.toNat, by omega⟩
  subst hq; subst hr
  rw [fillV_ok (within_in p hi) hv, fillL_cell (by omega) (by omega)]
  have : (i : Int) = (r : Int) * (a : Int) + (q : Int) ↔ i = r * a + q := by rw [← Int.natCast_mul]; omega
  by_cases hc : i = r * a + q
  · rw [if_pos hc, if_pos (this.2 hc)]
  · rw [if_neg hc, if_neg (fun k => hc (this.1 k))]
theorem fillV_no {V : List Int} {a h : Nat} {x0 y0 x1 y1 v : Int} (hc : ¬ fillC a h x0 y0 x1 y1 v = 0) : fillV V a h x0 y0 x1 y1 v = V := by unfold fillV; rw [if_neg hc]
theorem mul_bd {a h : Nat} {x y : Int} (p : sizeP a h) (hi : 0 ≤ x ∧ x < a ∧ 0 ≤ y ∧ y < h) : 0 ≤ y * (a : Int) ∧ y * (a : Int) ≤ 256 := by
  obtain ⟨s1, s2, s3, s4⟩ := p
  constructor
  · exact Int.mul_nonneg (by omega) (by omega)
  · have h1 : y * (a : Int) ≤ 16 * (a : Int) := Int.mul_le_mul_of_nonneg_right (by omega) (by omega)
    omega

set_option maxRecDepth 100000 in
set_option maxHeartbeats 1000000 in
theorem slabSets_bad (a h : Int) (v : Int) (zs : List Int) (A : Option Addr) (m cap : Nat) (x y u : Int) (w : World) (hz : Rd w A (vi .i64 zs)) (hl : zs.length = m * 5) (hc : ¬ newC a h v = 0) :
    Ret Try.prog 5 [.int .i64 a, .int .i64 h, .int .i64 v, .slice A m cap, .agg #[.int .i64 x, .int .i64 y], .int .i64 u] w (fun z w' => z = .bool true ∧ Below w.heap.size w w') := by
  refine ret_enter Try.func5 rfl rfl rfl ?_
  have H0 := HS.start w
  refine cw_seq ?_
  refine cw_reg ?_
  refine reg_op (op_box (cs := [.int _ _, .int _ _]) H0 rfl rfl rfl) rfl rfl ?_
  rintro _ w2 ⟨b1, rfl, H3⟩
  refine ry (y_asg rfl rfl) rfl rfl ?_
  refine reg_nil ?_
  refine fn_next ?_
  refine cw_seq ?_
  refine cw_seq ?_
  refine cw_reg ?_
  refine reg_op (op_call (slabAwake _) rfl kflaw8b_1 trivial) rfl rfl ?_
  rintro _ w5 ⟨rfl, e4⟩
  have H6 := H3.ext e4
  refine ry (y_not rfl rfl) rfl rfl ?_
  refine reg_nil ?_
  refine fn_next ?_
  refine cw_condf rfl ?_
  refine cw_skip ?_
  refine fn_next ?_
  refine cw_seq ?_
  refine cw_seq ?_
  refine cw_reg ?_
  refine ry (y_mov rfl rfl) rfl rfl ?_
  refine ry (y_len rfl Try.underlying50 rfl) rfl rfl ?_
  refine ry (y_gtr rfl rfl rfl) rfl rfl ?_
  refine reg_nil ?_
  refine fn_next ?_
  refine cw_condd rfl (fun h7 => ?_) (fun h7 => ?_)
  · skip
    refine cw_seq ?_
    refine cw_reg ?_
    refine ry (y_asg rfl rfl) rfl rfl ?_
    refine reg_nil ?_
    refine fn_next ?_
    refine cw_ret ?_
    refine fn_then_ret ?_
    refine fn_ret1 rfl rfl ?_
    exact ⟨rfl, H6.base⟩
  · skip
    refine cw_skip ?_
    refine fn_next ?_
    refine cw_seq ?_
    refine cw_reg ?_
    refine ry (y_mov rfl rfl) rfl rfl ?_
    refine ry (y_mov rfl rfl) rfl rfl ?_
    refine ry (y_mov rfl rfl) rfl rfl ?_
    refine reg_op (op_call (slabNew_no a h v _ hc) rfl kflaw8b_2 ⟨rfl, rfl, rfl, trivial⟩) rfl rfl ?_
    rintro _ w9 ⟨rfl, e8⟩
    have H10 := H6.ext e8
    refine ry (y_mov rfl rfl) rfl rfl ?_
    refine ry (y_ext rfl rfl rfl) rfl rfl ?_
    refine ry (y_ext rfl rfl rfl) rfl rfl ?_
    refine ry (y_asg rfl rfl) rfl rfl ?_
    refine ry (y_asg rfl rfl) rfl rfl ?_
    refine reg_nil ?_
    refine fn_next ?_
    refine cw_seq ?_
    refine cw_seq ?_
    refine cw_reg ?_
    refine ry (y_mov rfl rfl) rfl rfl ?_
    refine ry (y_neq rfl rfl rfl) rfl rfl ?_
    refine reg_nil ?_
    refine fn_next ?_
    refine cw_condd rfl (fun h11 => ?_) (fun h11 => ?_)
    · skip
      refine cw_seq ?_
      refine cw_reg ?_
      refine ry (y_asg rfl rfl) rfl rfl ?_
      refine reg_nil ?_
      refine fn_next ?_
      refine cw_ret ?_
      refine fn_then_ret ?_
      refine fn_ret1 rfl rfl ?_
      exact ⟨rfl, H10.base⟩
    · exact absurd (Classical.not_not.1 h11) hc

set_option maxRecDepth 100000 in
set_option maxHeartbeats 1000000 in
theorem slabSets_out (a h : Nat) (v : Int) (zs : List Int) (A : Option Addr) (m cap : Nat) (x y u : Int) (w : World) (hz : Rd w A (vi .i64 zs)) (hl : zs.length = m * 5) (p : sizeP a h) (hv : B32 v) (ho : ¬ (0 ≤ x ∧ x < a ∧ 0 ≤ y ∧ y < h)) :
    Ret Try.prog 5 [.int .i64 (a : Int), .int .i64 (h : Int), .int .i64 v, .slice A m cap, .agg #[.int .i64 x, .int .i64 y], .int .i64 u] w (fun z w' => z = .bool true ∧ Below w.heap.size w w') := by
  have hm := p.mul
  obtain ⟨s1, s2, s3, s4⟩ := id p
  refine ret_enter Try.func5 rfl rfl rfl ?_
  have H0 := HS.start w
  refine cw_seq ?_
  refine cw_reg ?_
  refine reg_op (op_box (cs := [.int _ _, .int _ _]) H0 rfl rfl rfl) rfl rfl ?_
  rintro _ w2 ⟨b1, rfl, H3⟩
  refine ry (y_asg rfl rfl) rfl rfl ?_
  refine reg_nil ?_
  refine fn_next ?_
  refine cw_seq ?_
  refine cw_seq ?_
  refine cw_reg ?_
  refine reg_op (op_call (slabAwake _) rfl kflaw8b_1 trivial) rfl rfl ?_
  rintro _ w5 ⟨rfl, e4⟩
  have H6 := H3.ext e4
  refine ry (y_not rfl rfl) rfl rfl ?_
  refine reg_nil ?_
  refine fn_next ?_
  refine cw_condf rfl ?_
  refine cw_skip ?_
  refine fn_next ?_
  refine cw_seq ?_
  refine cw_seq ?_
  refine cw_reg ?_
  refine ry (y_mov rfl rfl) rfl rfl ?_
  refine ry (y_len rfl Try.underlying50 rfl) rfl rfl ?_
  refine ry (y_gtr rfl rfl rfl) rfl rfl ?_
  refine reg_nil ?_
  refine fn_next ?_
  refine cw_condd rfl (fun h7 => ?_) (fun h7 => ?_)
  · skip
    refine cw_seq ?_
    refine cw_reg ?_
    refine ry (y_asg rfl rfl) rfl rfl ?_
    refine reg_nil ?_
    refine fn_next ?_
    refine cw_ret ?_
    refine fn_then_ret ?_
    refine fn_ret1 rfl rfl ?_
    exact ⟨rfl, H6.base⟩
  · skip
    refine cw_skip ?_
    refine fn_next ?_
    refine cw_seq ?_
    refine cw_reg ?_
    refine ry (y_mov rfl rfl) rfl rfl ?_
    refine ry (y_mov rfl rfl) rfl rfl ?_
    refine ry (y_mov rfl rfl) rfl rfl ?_
    refine reg_op (op_call (slabNew_two a h v _ (p) (hv)) rfl kflaw8b_2 ⟨rfl, rfl, rfl, trivial⟩) rfl rfl ?_
    rintro _ w9 ⟨b11, rfl, k8⟩
    have H10 := H6.call k8
    refine ry (y_mov rfl rfl) rfl rfl ?_
    refine ry (y_ext rfl rfl rfl) rfl rfl ?_
    refine ry (y_ext rfl rfl rfl) rfl rfl ?_
    refine ry (y_asg rfl rfl) rfl rfl ?_
    refine ry (y_asg rfl rfl) rfl rfl ?_
    refine reg_nil ?_
    refine fn_next ?_
    refine cw_seq ?_
    refine cw_seq ?_
    refine cw_reg ?_
    refine ry (y_mov rfl rfl) rfl rfl ?_
    refine ry (y_neq rfl rfl rfl) rfl rfl ?_
    refine reg_nil ?_
    refine fn_next ?_
    refine cw_condd rfl (fun h12 => ?_) (fun h12 => ?_)
    · exact absurd rfl h12
    · skip
      refine cw_skip ?_
      refine fn_next ?_
      refine cw_seq ?_
      refine cw_seq ?_
      refine cw_reg ?_
      refine ry (y_asg rfl rfl) rfl rfl ?_
      refine reg_nil ?_
      refine fn_next ?_
      refine cw_block ?_
      refine cw_loopJ [15, 37, 38, 39, 40, 41, 42, 43, 44, 45, 46, 47, 48, 49, 50, 51, 52, 53, 54] (fun M wl ml => ∃ (k : Nat) (L : Ld), M = [(15, .int .i64 (k : Int))] ∧ HS w wl [Ob.blk b11 [.int .i64 ((a : Nat) : Int), .int .i64 ((h : Nat) : Int), L.val (a * h)] 124, Ld.ob (a * h) L, Ob.blk b1 [.int .i64 x, .int .i64 y] 26] ∧ (k ≤ m) ∧ (L.ok (a * h)) ∧ ml = m - k) ⟨0, .flat v, rfl, H10, Nat.zero_le _, hv, rfl⟩ ⟨rfl, trivial⟩ ?_
      rintro M w13 m15 ⟨k, L, rfl, H14, hp0, hp1, rfl⟩
      refine cw_seq ?_
      refine cw_seq ?_
      refine cw_reg ?_
      refine ry (y_mov rfl rfl) rfl rfl ?_
      refine ry (y_mov rfl rfl) rfl rfl ?_
      refine ry (y_len rfl Try.underlying50 rfl) rfl rfl ?_
      refine ry (y_lss rfl rfl rfl) rfl rfl ?_
      refine reg_nil ?_
      refine fn_next ?_
      refine cw_condd rfl (fun h16 => ?_) (fun h16 => ?_)
      · skip
        have g4 := vi_get (k := .i64) (zs := zs) (i := k * 5 + 4) (by omega)
        have g0 := vi_get (k := .i64) (zs := zs) (i := k * 5) (by omega)
        refine cw_skip ?_
        refine fn_next ?_
        refine cw_seq ?_
        refine cw_block ?_
        refine cw_draw H14 [0, 1, 2, 3, 4, 5, 6, 7, 8, 9, 10] [11] (fun X HX => (HX.pick (m := [_]) [2] rfl (by decide))) (by kernel_rfl) (by kernel_rfl) (by rfl) ?_
        simp only [pick, List.getElem?_cons_succ, List.getElem?_cons_zero]
        refine hk_y (fun Y HY => y_mov rfl rfl) rfl rfl ?_
        refine hk_y (fun Y HY => y_mov rfl rfl) rfl rfl ?_
        refine hk_y (fun Y HY => y_mov rfl rfl) rfl rfl ?_
        refine hk_y (fun Y HY => y_iar (i := k) (hz.below HY.base) rfl rfl rfl kflaw8b_3 (rfl) (by omega) (rfl) (g0)) rfl rfl ?_
        refine hk_y (fun Y HY => y_far (hz.below HY.base) rfl rfl kflaw8b_4 rfl (g0)) rfl rfl ?_
        refine hk_y (fun Y HY => y_ldra (cs := [_, _, _, _]) (hz.below HY.base) rfl rfl kflaw8b_5 rfl (by decide) ((fun j v hv => vi_part4 (zs := zs) (p := k * 5) (by omega) j v hv))) rfl rfl ?_
        refine hk_y (fun Y HY => y_mov rfl rfl) rfl rfl ?_
        refine hk_y (fun Y HY => y_mov rfl rfl) rfl rfl ?_
        refine hk_y (fun Y HY => y_iar (i := k) (hz.below HY.base) rfl rfl rfl kflaw8b_3 (rfl) (by omega) (rfl) (g0)) rfl rfl ?_
        refine hk_y (fun Y HY => y_far (hz.below HY.base) rfl rfl kflaw8b_6 rfl (g0)) rfl rfl ?_
        refine hk_y (fun Y HY => y_ldr (hz.below HY.base) rfl rfl kflaw8b_7 (g4)) rfl rfl ?_
        refine hk_nil ?_
        intro w17 H18
        refine tv_op (op_call (slabFill_any w _ b11 a h L (nth zs (k * 5)) (nth zs (k * 5 + 1)) (nth zs (k * 5 + 2)) (nth zs (k * 5 + 3)) (nth zs (k * 5 + 4)) _ p hp1 H18) rfl kflaw8b_8 ⟨rfl, rfl, rfl, trivial⟩) rfl rfl ?_
        rintro _ w20 ⟨L21, rfl, H19, o22, e23⟩
        refine ⟨(H19.pick (m := [_]) [2] rfl (by decide)), fun w24 e26 => ?_⟩
        have H25 := H19.ext e26
        refine tv_nil ?_
        refine fn_block ?_
        refine fn_next ?_
        refine cw_reg ?_
        refine ry (y_mov rfl rfl) rfl rfl ?_
        refine ry (y_add rfl rfl rfl (wi (by omega))) rfl rfl ?_
        refine ry (y_asg rfl rfl) rfl rfl ?_
        refine reg_nil ?_
        refine fn_roundJ ⟨k + 1, _, rfl, H25, by omega, o22, rfl⟩ ⟨rfl, trivial⟩ (by omega) (by repeat (first | exact kp_refl | refine kp_app rfl rfl ?_ | refine kp_cons rfl ?_)) rfl
      · skip
        refine cw_exit ?_
        refine fn_then_exit (fn_then_exit (fn_block_exit ?_))
        refine fn_next ?_
        refine cw_seq ?_
        refine cw_reg ?_
        refine ry (y_mov rfl rfl) rfl rfl ?_
        refine reg_op (op_call (slabCells_any b11 a h L _ p hp1 (Ld.rd_of (L := L) H14 (i := 1) rfl) (H14.rdb (i := 0) rfl)) rfl kflaw8b_9 ⟨rfl, trivial⟩) rfl rfl ?_
        rintro _ w28 ⟨A30, c31, rfl, k27⟩
        have H29 := H14.call k27
        refine ry (y_asg rfl rfl) rfl rfl ?_
        refine reg_nil ?_
        refine fn_next ?_
        refine cw_seq ?_
        refine cw_reg ?_
        refine ry (y_mov rfl rfl) rfl rfl ?_
        refine reg_op (op_call (slabCopy_any b11 a h L _ p hp1 (Ld.rd_of (L := L) H29 (i := 2) rfl) (H29.rdb (i := 1) rfl)) rfl kflaw8b_10 ⟨rfl, trivial⟩) rfl rfl ?_
        rintro _ w33 ⟨b35, L36, rfl, k32, o37, e38⟩
        have H34 := H29.call k32
        have hcp := e38
        refine ry (y_asg rfl rfl) rfl rfl ?_
        refine reg_nil ?_
        refine fn_next ?_
        refine cw_seq ?_
        refine cw_reg ?_
        refine ry (y_mov rfl rfl) rfl rfl ?_
        refine ry (y_ldb (i := 5) (cs := [_, _]) H34 rfl rfl kflaw8b_11 rfl rfl) rfl rfl ?_
        refine ry (y_mov rfl rfl) rfl rfl ?_
        refine reg_op (op_call (slabSet_any w _ b11 a h L x y u _ p hp1 (H34.pick (m := [_, _, _, _, _, _]) [3, 4, 0, 1, 2, 5] rfl (by decide))) rfl kflaw8b_12 ⟨rfl, rfl, rfl, trivial⟩) rfl rfl ?_
        rintro _ w40 ⟨L41, rfl, H39, o42, e43⟩
        have hst := e43
        refine ry (y_asg rfl rfl) rfl rfl ?_
        refine reg_nil ?_
        refine fn_next ?_
        refine cw_seq ?_
        refine cw_reg ?_
        refine ry (y_mov rfl rfl) rfl rfl ?_
        refine reg_op (op_call (slabCells_any b11 a h L41 _ p o42 (Ld.rd_of (L := L41) H39 (i := 1) rfl) (H39.rdb (i := 0) rfl)) rfl kflaw8b_9 ⟨rfl, trivial⟩) rfl rfl ?_
        rintro _ w45 ⟨A47, c48, rfl, k44⟩
        have H46 := H39.call k44
        refine ry (y_asg rfl rfl) rfl rfl ?_
        refine reg_nil ?_
        refine fn_next ?_
        refine cw_seq ?_
        refine cw_seq ?_
        refine cw_reg ?_
        refine ry (y_mov rfl rfl) rfl rfl ?_
        refine ry (y_len rfl Try.underlying32 rfl) rfl rfl ?_
        refine ry (y_mov rfl rfl) rfl rfl ?_
        refine ry (y_len rfl Try.underlying32 rfl) rfl rfl ?_
        refine ry (y_neq rfl rfl rfl) rfl rfl ?_
        refine ry (y_mov rfl rfl) rfl rfl ?_
        refine rg_splitd (d := 70) rfl (fun h49 => ?_) (fun h49 => ?_)
        · exact absurd rfl h49
        · skip
          refine rgy (y_mov rfl rfl) rfl rfl rfl rfl ?_
          refine rg_on rfl rfl rfl (op_call (slabCells_any b35 a h L36 _ p o37 (Ld.rd_of (L := L36) H46 (i := 4) rfl) (H46.rdb (i := 3) rfl)) rfl kflaw8b_9 ⟨rfl, trivial⟩) rfl ?_
          rintro _ w51 ⟨A53, c54, rfl, k50⟩
          have H52 := H46.call k50
          refine rgy (y_mov rfl rfl) rfl rfl rfl rfl ?_
          refine rg_on rfl rfl rfl (op_call (refSame_any _ (a * h) _ (L36.lst (a * h)) _ (a * h) _ (L.lst (a * h)) _ (H52.rd (i := 0) rfl) (Ld.len o37) (H52.rd (i := 6) rfl) (Ld.len hp1) (by omega)) rfl kflaw8b_13 ⟨rfl, rfl, trivial⟩) rfl ?_
          rintro _ w56 ⟨rfl, e55⟩
          have H57 := H52.ext e55
          refine rgy (y_notd rfl rfl) rfl rfl rfl rfl ?_
          refine ry (y_pick rfl rfl rfl) rfl rfl ?_
          refine reg_nil ?_
          refine fn_next ?_
          refine cw_condd rfl (fun h58 => ?_) (fun h58 => ?_)
          · exact absurd (by rw [hcp]) h58
          · skip
            refine cw_skip ?_
            refine fn_next ?_
            refine cw_seq ?_
            refine cw_reg ?_
            refine ry (y_fa rfl rfl kflaw8b_14 rfl) rfl rfl ?_
            refine ry (y_ld rfl rfl kflaw8b_7 (H57.cell (i := 7) rfl rfl)) rfl rfl ?_
            refine ry (y_geq rfl rfl rfl) rfl rfl ?_
            refine ry (y_mov rfl rfl) rfl rfl ?_
            refine rg_splitd (d := 80) rfl (fun h59 => ?_) (fun h59 => ?_)
            · skip
              refine rgy (y_fa rfl rfl kflaw8b_14 rfl) rfl rfl rfl rfl ?_
              refine rgy (y_ld rfl rfl kflaw8b_7 (H57.cell (i := 7) rfl rfl)) rfl rfl rfl rfl ?_
              refine rgy (y_mov rfl rfl) rfl rfl rfl rfl ?_
              refine rgy (y_lss rfl rfl rfl) rfl rfl rfl rfl ?_
              refine ry (y_pick rfl rfl rfl) rfl rfl ?_
              refine ry (y_mov rfl rfl) rfl rfl ?_
              refine rg_splitd (d := 86) rfl (fun h60 => ?_) (fun h60 => ?_)
              · skip
                refine rgy (y_fa rfl rfl kflaw8b_15 rfl) rfl rfl rfl rfl ?_
                refine rgy (y_ld rfl rfl kflaw8b_7 (H57.cell (i := 7) rfl rfl)) rfl rfl rfl rfl ?_
                refine rgy (y_geq rfl rfl rfl) rfl rfl rfl rfl ?_
                refine ry (y_pick rfl rfl rfl) rfl rfl ?_
                refine ry (y_mov rfl rfl) rfl rfl ?_
                refine rg_splitd (d := 91) rfl (fun h61 => ?_) (fun h61 => ?_)
                · skip
                  refine rgy (y_fa rfl rfl kflaw8b_15 rfl) rfl rfl rfl rfl ?_
                  refine rgy (y_ld rfl rfl kflaw8b_7 (H57.cell (i := 7) rfl rfl)) rfl rfl rfl rfl ?_
                  refine rgy (y_mov rfl rfl) rfl rfl rfl rfl ?_
                  refine rgy (y_lss rfl rfl rfl) rfl rfl rfl rfl ?_
                  refine ry (y_pick rfl rfl rfl) rfl rfl ?_
                  refine ry (y_asg rfl rfl) rfl rfl ?_
                  refine reg_nil ?_
                  refine fn_next ?_
                  refine cw_seq ?_
                  refine cw_reg ?_
                  refine ry (y_asg rfl rfl) rfl rfl ?_
                  refine reg_nil ?_
                  refine fn_next ?_
                  refine cw_seq ?_
                  refine cw_seq ?_
                  refine cw_reg ?_
                  refine ry (y_mov rfl rfl) rfl rfl ?_
                  refine ry (y_notd rfl rfl) rfl rfl ?_
                  refine reg_nil ?_
                  refine fn_next ?_
                  refine cw_condd rfl (fun h62 => ?_) (fun h62 => ?_)
                  · skip
                    refine cw_reg ?_
                    refine ry (y_asg rfl rfl) rfl rfl ?_
                    refine reg_nil ?_
                    refine fn_next ?_
                    refine cw_seq ?_
                    refine cw_seq ?_
                    refine cw_reg ?_
                    refine ry (y_mov rfl rfl) rfl rfl ?_
                    refine ry (y_mov rfl rfl) rfl rfl ?_
                    refine ry (y_neq rfl rfl rfl) rfl rfl ?_
                    refine reg_nil ?_
                    refine fn_next ?_
                    refine cw_condd rfl (fun h63 => ?_) (fun h63 => ?_)
                    · exact absurd (fillC_out p ho) h63
                    · skip
                      refine cw_skip ?_
                      refine fn_next ?_
                      refine cw_seq ?_
                      refine cw_seq ?_
                      refine cw_reg ?_
                      refine ry (y_asg rfl rfl) rfl rfl ?_
                      refine reg_nil ?_
                      refine fn_next ?_
                      refine cw_block ?_
                      have hl1 := Ld.len hp1
                      have hl2 := Ld.len o42
                      refine cw_loopJ [12, 22, 105, 106, 107, 108, 109, 110, 111, 112, 113, 114, 115, 116, 117, 118, 119, 120, 121, 122, 123, 124, 125, 126, 127, 128, 129, 130, 131, 132, 133, 134, 135, 136, 137, 138] (fun M wl ml => ∃ (i : Nat), M = [(22, .int .i64 (i : Int))] ∧ HS w wl [Ob.row A53 (a * h) c54 (vi .i64 (L36.lst (a * h))) 2 1, Ob.row A47 (a * h) c48 (vi .i64 (L41.lst (a * h))) 2 1, Ob.blk b11 [.int .i64 ((a : Nat) : Int), .int .i64 ((h : Nat) : Int), L41.val (a * h)] 124, L41.ob (a * h), Ob.blk b35 [.int .i64 ((a : Nat) : Int), .int .i64 ((h : Nat) : Int), L36.val (a * h)] 124, L36.ob (a * h), Ob.row A30 (a * h) c31 (vi .i64 (L.lst (a * h))) 2 1, Ob.blk b1 [.int .i64 x, .int .i64 y] 26] ∧ (i ≤ a * h) ∧ ml = a * h - i) ⟨0, rfl, H57, Nat.zero_le _, rfl⟩ ⟨rfl, trivial⟩ ?_
                      rintro M w64 m66 ⟨i, rfl, H65, hp0, rfl⟩
                      refine cw_seq ?_
                      refine cw_seq ?_
                      refine cw_reg ?_
                      refine ry (y_mov rfl rfl) rfl rfl ?_
                      refine ry (y_mov rfl rfl) rfl rfl ?_
                      refine ry (y_len rfl Try.underlying32 rfl) rfl rfl ?_
                      refine ry (y_lss rfl rfl rfl) rfl rfl ?_
                      refine reg_nil ?_
                      refine fn_next ?_
                      refine cw_condd rfl (fun h67 => ?_) (fun h67 => ?_)
                      · skip
                        have gi1 := vi_get (k := .i64) (zs := L.lst (a * h)) (i := i) (by omega)
                        have gi2 := vi_get (k := .i64) (zs := L41.lst (a * h)) (i := i) (by omega)
                        refine cw_skip ?_
                        refine fn_next ?_
                        refine cw_seq ?_
                        refine cw_block ?_
                        refine cw_seq ?_
                        refine cw_reg ?_
                        refine ry (y_mov rfl rfl) rfl rfl ?_
                        refine ry (y_eql rfl rfl rfl) rfl rfl ?_
                        refine ry (y_mov rfl rfl) rfl rfl ?_
                        refine rg_splitd (d := 113) rfl (fun h68 => ?_) (fun h68 => ?_)
                        · exact absurd h68 (by decide)
                        · skip
                          refine rg_off rfl rfl rfl rfl rfl ?_
                          refine rg_off rfl rfl rfl rfl rfl ?_
                          refine rg_off rfl rfl rfl rfl rfl ?_
                          refine rg_off rfl rfl rfl rfl rfl ?_
                          refine rg_off rfl rfl rfl rfl rfl ?_
                          refine rg_off rfl rfl rfl rfl rfl ?_
                          refine rg_off rfl rfl rfl rfl rfl ?_
                          refine rg_off rfl rfl rfl rfl rfl ?_
                          refine rg_off rfl rfl rfl rfl rfl ?_
                          refine ry (y_pick rfl rfl rfl) rfl rfl ?_
                          refine reg_nil ?_
                          refine fn_next ?_
                          refine cw_condf rfl ?_
                          refine cw_seq ?_
                          refine cw_draw H65 [0, 1, 2, 3, 4, 5, 6, 7, 8] [] (fun X HX => HX) (by kernel_rfl) (by kernel_rfl) (by rfl) ?_
                          simp only [pick, List.getElem?_cons_succ, List.getElem?_cons_zero]
                          refine hk_y (fun Y HY => y_mov rfl rfl) rfl rfl ?_
                          refine hk_y (fun Y HY => y_mov rfl rfl) rfl rfl ?_
                          refine hk_y (fun Y HY => y_iar (HY.rd (i := 1) rfl) rfl rfl rfl kflaw8b_16 (rfl) (by omega) (Nat.mul_one _) (gi2)) rfl rfl ?_
                          refine hk_y (fun Y HY => y_ldr (HY.rd (i := 1) rfl) rfl rfl kflaw8b_7 (gi2)) rfl rfl ?_
                          refine hk_y (fun Y HY => y_mov rfl rfl) rfl rfl ?_
                          refine hk_y (fun Y HY => y_mov rfl rfl) rfl rfl ?_
                          refine hk_y (fun Y HY => y_iar (HY.rd (i := 6) rfl) rfl rfl rfl kflaw8b_16 (rfl) (by omega) (Nat.mul_one _) (gi1)) rfl rfl ?_
                          refine hk_y (fun Y HY => y_ldr (HY.rd (i := 6) rfl) rfl rfl kflaw8b_7 (gi1)) rfl rfl ?_
                          refine hk_y (fun Y HY => y_neq rfl rfl rfl) rfl rfl ?_
                          refine hk_nil ?_
                          intro w69 H70
                          refine tv_nil ?_
                          refine fn_next ?_
                          refine cw_condd rfl (fun h71 => ?_) (fun h71 => ?_)
                          · exact absurd (by rw [hst, fillV_no (by rw [fillC_out p ho]; decide)]) h71
                          · skip
                            refine cw_skip ?_
                            refine fn_block ?_
                            refine fn_next ?_
                            refine cw_reg ?_
                            refine ry (y_mov rfl rfl) rfl rfl ?_
                            refine ry (y_add rfl rfl rfl (wi (by omega))) rfl rfl ?_
                            refine ry (y_asg rfl rfl) rfl rfl ?_
                            refine reg_nil ?_
                            refine fn_roundJ ⟨i + 1, rfl, H70, by omega, rfl⟩ ⟨rfl, trivial⟩ (by omega) (by repeat (first | exact kp_refl | refine kp_app rfl rfl ?_ | refine kp_cons rfl ?_)) rfl
                      · skip
                        refine cw_exit ?_
                        refine fn_then_exit (fn_then_exit (fn_block_exit ?_))
                        refine fn_next ?_
                        refine cw_seq ?_
                        refine cw_reg ?_
                        refine ry (y_mov rfl rfl) rfl rfl ?_
                        refine ry (y_mov rfl rfl) rfl rfl ?_
                        refine ry (y_sub rfl rfl rfl (wi (by omega))) rfl rfl ?_
                        refine ry (y_mov rfl rfl) rfl rfl ?_
                        refine ry (y_sub rfl rfl rfl (wi (by omega))) rfl rfl ?_
                        refine ry (y_build (places := [(0, 1), (1, 1), (2, 1), (3, 1)]) (parts := [(2, _), (3, _)]) (vs := [(2, _), (3, _)]) (cs := [.int _ _, .int _ _, .int _ _, .int _ _]) rfl Try.underlying24 (by kernel_rfl) kflaw8b_17 rfl ⟨rfl, rfl, trivial⟩ rfl) rfl rfl ?_
                        refine reg_op (op_call (slabFill_any w _ b35 a h L36 0 0 ((a : Int) - 1) ((h : Int) - 1) 77 _ p o37 (H65.pick (m := [_, _, _, _, _, _, _, _]) [4, 5, 0, 1, 2, 3, 6, 7] rfl (by decide))) rfl kflaw8b_8 ⟨rfl, rfl, rfl, trivial⟩) rfl rfl ?_
                        rintro _ w73 ⟨L74, rfl, H72, o75, e76⟩
                        refine reg_nil ?_
                        refine fn_next ?_
                        refine cw_seq ?_
                        refine cw_reg ?_
                        refine ry (y_mov rfl rfl) rfl rfl ?_
                        refine reg_op (op_call (slabCells_any b11 a h L41 _ p o42 (Ld.rd_of (L := L41) H72 (i := 5) rfl) (H72.rdb (i := 4) rfl)) rfl kflaw8b_9 ⟨rfl, trivial⟩) rfl rfl ?_
                        rintro _ w78 ⟨A80, c81, rfl, k77⟩
                        have H79 := H72.call k77
                        refine ry (y_mov rfl rfl) rfl rfl ?_
                        refine reg_op (op_call (refSame_any _ (a * h) _ (L41.lst (a * h)) _ (a * h) _ (L41.lst (a * h)) _ (H79.rd (i := 0) rfl) (Ld.len o42) (H79.rd (i := 4) rfl) (Ld.len o42) (by omega)) rfl kflaw8b_13 ⟨rfl, rfl, trivial⟩) rfl rfl ?_
                        rintro _ w83 ⟨rfl, e82⟩
                        have H84 := H79.ext e82
                        refine ry (y_asg rfl rfl) rfl rfl ?_
                        refine reg_nil ?_
                        refine fn_next ?_
                        refine cw_ret ?_
                        refine fn_ret1 rfl rfl ?_
                        rw [decide_eq_true rfl]
                        exact ⟨rfl, H84.base⟩
                  · exfalso; omega
                · skip
                  refine rg_off rfl rfl rfl rfl rfl ?_
                  refine rg_off rfl rfl rfl rfl rfl ?_
                  refine rg_off rfl rfl rfl rfl rfl ?_
                  refine rg_off rfl rfl rfl rfl rfl ?_
                  refine ry (y_pick rfl rfl rfl) rfl rfl ?_
                  refine ry (y_asg rfl rfl) rfl rfl ?_
                  refine reg_nil ?_
                  refine fn_next ?_
                  refine cw_seq ?_
                  refine cw_reg ?_
                  refine ry (y_asg rfl rfl) rfl rfl ?_
                  refine reg_nil ?_
                  refine fn_next ?_
                  refine cw_seq ?_
                  refine cw_seq ?_
                  refine cw_reg ?_
                  refine ry (y_mov rfl rfl) rfl rfl ?_
                  refine ry (y_not rfl rfl) rfl rfl ?_
                  refine reg_nil ?_
                  refine fn_next ?_
                  refine cw_condt rfl ?_
                  refine cw_reg ?_
                  refine ry (y_asg rfl rfl) rfl rfl ?_
                  refine reg_nil ?_
                  refine fn_next ?_
                  refine cw_seq ?_
                  refine cw_seq ?_
                  refine cw_reg ?_
                  refine ry (y_mov rfl rfl) rfl rfl ?_
                  refine ry (y_mov rfl rfl) rfl rfl ?_
                  refine ry (y_neq rfl rfl rfl) rfl rfl ?_
                  refine reg_nil ?_
                  refine fn_next ?_
                  refine cw_condd rfl (fun h85 => ?_) (fun h85 => ?_)
                  · exact absurd (fillC_out p ho) h85
                  · skip
                    refine cw_skip ?_
                    refine fn_next ?_
                    refine cw_seq ?_
                    refine cw_seq ?_
                    refine cw_reg ?_
                    refine ry (y_asg rfl rfl) rfl rfl ?_
                    refine reg_nil ?_
                    refine fn_next ?_
                    refine cw_block ?_
                    have hl1 := Ld.len hp1
                    have hl2 := Ld.len o42
                    refine cw_loopJ [12, 22, 105, 106, 107, 108, 109, 110, 111, 112, 113, 114, 115, 116, 117, 118, 119, 120, 121, 122, 123, 124, 125, 126, 127, 128, 129, 130, 131, 132, 133, 134, 135, 136, 137, 138] (fun M wl ml => ∃ (i : Nat), M = [(22, .int .i64 (i : Int))] ∧ HS w wl [Ob.row A53 (a * h) c54 (vi .i64 (L36.lst (a * h))) 2 1, Ob.row A47 (a * h) c48 (vi .i64 (L41.lst (a * h))) 2 1, Ob.blk b11 [.int .i64 ((a : Nat) : Int), .int .i64 ((h : Nat) : Int), L41.val (a * h)] 124, L41.ob (a * h), Ob.blk b35 [.int .i64 ((a : Nat) : Int), .int .i64 ((h : Nat) : Int), L36.val (a * h)] 124, L36.ob (a * h), Ob.row A30 (a * h) c31 (vi .i64 (L.lst (a * h))) 2 1, Ob.blk b1 [.int .i64 x, .int .i64 y] 26] ∧ (i ≤ a * h) ∧ ml = a * h - i) ⟨0, rfl, H57, Nat.zero_le _, rfl⟩ ⟨rfl, trivial⟩ ?_
                    rintro M w86 m88 ⟨i, rfl, H87, hp0, rfl⟩
                    refine cw_seq ?_
                    refine cw_seq ?_
                    refine cw_reg ?_
                    refine ry (y_mov rfl rfl) rfl rfl ?_
                    refine ry (y_mov rfl rfl) rfl rfl ?_
                    refine ry (y_len rfl Try.underlying32 rfl) rfl rfl ?_
                    refine ry (y_lss rfl rfl rfl) rfl rfl ?_
                    refine reg_nil ?_
                    refine fn_next ?_
                    refine cw_condd rfl (fun h89 => ?_) (fun h89 => ?_)
                    · skip
                      have gi1 := vi_get (k := .i64) (zs := L.lst (a * h)) (i := i) (by omega)
                      have gi2 := vi_get (k := .i64) (zs := L41.lst (a * h)) (i := i) (by omega)
                      refine cw_skip ?_
                      refine fn_next ?_
                      refine cw_seq ?_
                      refine cw_block ?_
                      refine cw_seq ?_
                      refine cw_reg ?_
                      refine ry (y_mov rfl rfl) rfl rfl ?_
                      refine ry (y_eql rfl rfl rfl) rfl rfl ?_
                      refine ry (y_mov rfl rfl) rfl rfl ?_
                      refine rg_splitd (d := 113) rfl (fun h90 => ?_) (fun h90 => ?_)
                      · exact absurd h90 (by decide)
                      · skip
                        refine rg_off rfl rfl rfl rfl rfl ?_
                        refine rg_off rfl rfl rfl rfl rfl ?_
                        refine rg_off rfl rfl rfl rfl rfl ?_
                        refine rg_off rfl rfl rfl rfl rfl ?_
                        refine rg_off rfl rfl rfl rfl rfl ?_
                        refine rg_off rfl rfl rfl rfl rfl ?_
                        refine rg_off rfl rfl rfl rfl rfl ?_
                        refine rg_off rfl rfl rfl rfl rfl ?_
                        refine rg_off rfl rfl rfl rfl rfl ?_
                        refine ry (y_pick rfl rfl rfl) rfl rfl ?_
                        refine reg_nil ?_
                        refine fn_next ?_
                        refine cw_condf rfl ?_
                        refine cw_seq ?_
                        refine cw_draw H87 [0, 1, 2, 3, 4, 5, 6, 7, 8] [] (fun X HX => HX) (by kernel_rfl) (by kernel_rfl) (by rfl) ?_
                        simp only [pick, List.getElem?_cons_succ, List.getElem?_cons_zero]
                        refine hk_y (fun Y HY => y_mov rfl rfl) rfl rfl ?_
                        refine hk_y (fun Y HY => y_mov rfl rfl) rfl rfl ?_
                        refine hk_y (fun Y HY => y_iar (HY.rd (i := 1) rfl) rfl rfl rfl kflaw8b_16 (rfl) (by omega) (Nat.mul_one _) (gi2)) rfl rfl ?_
                        refine hk_y (fun Y HY => y_ldr (HY.rd (i := 1) rfl) rfl rfl kflaw8b_7 (gi2)) rfl rfl ?_
                        refine hk_y (fun Y HY => y_mov rfl rfl) rfl rfl ?_
                        refine hk_y (fun Y HY => y_mov rfl rfl) rfl rfl ?_
                        refine hk_y (fun Y HY => y_iar (HY.rd (i := 6) rfl) rfl rfl rfl kflaw8b_16 (rfl) (by omega) (Nat.mul_one _) (gi1)) rfl rfl ?_
                        refine hk_y (fun Y HY => y_ldr (HY.rd (i := 6) rfl) rfl rfl kflaw8b_7 (gi1)) rfl rfl ?_
                        refine hk_y (fun Y HY => y_neq rfl rfl rfl) rfl rfl ?_
                        refine hk_nil ?_
                        intro w91 H92
                        refine tv_nil ?_
                        refine fn_next ?_
                        refine cw_condd rfl (fun h93 => ?_) (fun h93 => ?_)
                        · exact absurd (by rw [hst, fillV_no (by rw [fillC_out p ho]; decide)]) h93
                        · skip
                          refine cw_skip ?_
                          refine fn_block ?_
                          refine fn_next ?_
                          refine cw_reg ?_
                          refine ry (y_mov rfl rfl) rfl rfl ?_
                          refine ry (y_add rfl rfl rfl (wi (by omega))) rfl rfl ?_
                          refine ry (y_asg rfl rfl) rfl rfl ?_
                          refine reg_nil ?_
                          refine fn_roundJ ⟨i + 1, rfl, H92, by omega, rfl⟩ ⟨rfl, trivial⟩ (by omega) (by repeat (first | exact kp_refl | refine kp_app rfl rfl ?_ | refine kp_cons rfl ?_)) rfl
                    · skip
                      refine cw_exit ?_
                      refine fn_then_exit (fn_then_exit (fn_block_exit ?_))
                      refine fn_next ?_
                      refine cw_seq ?_
                      refine cw_reg ?_
                      refine ry (y_mov rfl rfl) rfl rfl ?_
                      refine ry (y_mov rfl rfl) rfl rfl ?_
                      refine ry (y_sub rfl rfl rfl (wi (by omega))) rfl rfl ?_
                      refine ry (y_mov rfl rfl) rfl rfl ?_
                      refine ry (y_sub rfl rfl rfl (wi (by omega))) rfl rfl ?_
                      refine ry (y_build (places := [(0, 1), (1, 1), (2, 1), (3, 1)]) (parts := [(2, _), (3, _)]) (vs := [(2, _), (3, _)]) (cs := [.int _ _, .int _ _, .int _ _, .int _ _]) rfl Try.underlying24 (by kernel_rfl) kflaw8b_17 rfl ⟨rfl, rfl, trivial⟩ rfl) rfl rfl ?_
                      refine reg_op (op_call (slabFill_any w _ b35 a h L36 0 0 ((a : Int) - 1) ((h : Int) - 1) 77 _ p o37 (H87.pick (m := [_, _, _, _, _, _, _, _]) [4, 5, 0, 1, 2, 3, 6, 7] rfl (by decide))) rfl kflaw8b_8 ⟨rfl, rfl, rfl, trivial⟩) rfl rfl ?_
                      rintro _ w95 ⟨L96, rfl, H94, o97, e98⟩
                      refine reg_nil ?_
                      refine fn_next ?_
                      refine cw_seq ?_
                      refine cw_reg ?_
                      refine ry (y_mov rfl rfl) rfl rfl ?_
                      refine reg_op (op_call (slabCells_any b11 a h L41 _ p o42 (Ld.rd_of (L := L41) H94 (i := 5) rfl) (H94.rdb (i := 4) rfl)) rfl kflaw8b_9 ⟨rfl, trivial⟩) rfl rfl ?_
                      rintro _ w100 ⟨A102, c103, rfl, k99⟩
                      have H101 := H94.call k99
                      refine ry (y_mov rfl rfl) rfl rfl ?_
                      refine reg_op (op_call (refSame_any _ (a * h) _ (L41.lst (a * h)) _ (a * h) _ (L41.lst (a * h)) _ (H101.rd (i := 0) rfl) (Ld.len o42) (H101.rd (i := 4) rfl) (Ld.len o42) (by omega)) rfl kflaw8b_13 ⟨rfl, rfl, trivial⟩) rfl rfl ?_
                      rintro _ w105 ⟨rfl, e104⟩
                      have H106 := H101.ext e104
                      refine ry (y_asg rfl rfl) rfl rfl ?_
                      refine reg_nil ?_
                      refine fn_next ?_
                      refine cw_ret ?_
                      refine fn_ret1 rfl rfl ?_
                      rw [decide_eq_true rfl]
                      exact ⟨rfl, H106.base⟩
              · skip
                refine rg_off rfl rfl rfl rfl rfl ?_
                refine rg_off rfl rfl rfl rfl rfl ?_
                refine rg_off rfl rfl rfl rfl rfl ?_
                refine ry (y_pick rfl rfl rfl) rfl rfl ?_
                refine ry (y_mov rfl rfl) rfl rfl ?_
                refine rg_off rfl rfl rfl rfl rfl ?_
                refine rg_off rfl rfl rfl rfl rfl ?_
                refine rg_off rfl rfl rfl rfl rfl ?_
                refine rg_off rfl rfl rfl rfl rfl ?_
                refine ry (y_pick rfl rfl rfl) rfl rfl ?_
                refine ry (y_asg rfl rfl) rfl rfl ?_
                refine reg_nil ?_
                refine fn_next ?_
                refine cw_seq ?_
                refine cw_reg ?_
                refine ry (y_asg rfl rfl) rfl rfl ?_
                refine reg_nil ?_
                refine fn_next ?_
                refine cw_seq ?_
                refine cw_seq ?_
                refine cw_reg ?_
                refine ry (y_mov rfl rfl) rfl rfl ?_
                refine ry (y_not rfl rfl) rfl rfl ?_
                refine reg_nil ?_
                refine fn_next ?_
                refine cw_condt rfl ?_
                refine cw_reg ?_
                refine ry (y_asg rfl rfl) rfl rfl ?_
                refine reg_nil ?_
                refine fn_next ?_
                refine cw_seq ?_
                refine cw_seq ?_
                refine cw_reg ?_
                refine ry (y_mov rfl rfl) rfl rfl ?_
                refine ry (y_mov rfl rfl) rfl rfl ?_
                refine ry (y_neq rfl rfl rfl) rfl rfl ?_
                refine reg_nil ?_
                refine fn_next ?_
                refine cw_condd rfl (fun h107 => ?_) (fun h107 => ?_)
                · exact absurd (fillC_out p ho) h107
                · skip
                  refine cw_skip ?_
                  refine fn_next ?_
                  refine cw_seq ?_
                  refine cw_seq ?_
                  refine cw_reg ?_
                  refine ry (y_asg rfl rfl) rfl rfl ?_
                  refine reg_nil ?_
                  refine fn_next ?_
                  refine cw_block ?_
                  have hl1 := Ld.len hp1
                  have hl2 := Ld.len o42
                  refine cw_loopJ [12, 22, 105, 106, 107, 108, 109, 110, 111, 112, 113, 114, 115, 116, 117, 118, 119, 120, 121, 122, 123, 124, 125, 126, 127, 128, 129, 130, 131, 132, 133, 134, 135, 136, 137, 138] (fun M wl ml => ∃ (i : Nat), M = [(22, .int .i64 (i : Int))] ∧ HS w wl [Ob.row A53 (a * h) c54 (vi .i64 (L36.lst (a * h))) 2 1, Ob.row A47 (a * h) c48 (vi .i64 (L41.lst (a * h))) 2 1, Ob.blk b11 [.int .i64 ((a : Nat) : Int), .int .i64 ((h : Nat) : Int), L41.val (a * h)] 124, L41.ob (a * h), Ob.blk b35 [.int .i64 ((a : Nat) : Int), .int .i64 ((h : Nat) : Int), L36.val (a * h)] 124, L36.ob (a * h), Ob.row A30 (a * h) c31 (vi .i64 (L.lst (a * h))) 2 1, Ob.blk b1 [.int .i64 x, .int .i64 y] 26] ∧ (i ≤ a * h) ∧ ml = a * h - i) ⟨0, rfl, H57, Nat.zero_le _, rfl⟩ ⟨rfl, trivial⟩ ?_
                  rintro M w108 m110 ⟨i, rfl, H109, hp0, rfl⟩
                  refine cw_seq ?_
                  refine cw_seq ?_
                  refine cw_reg ?_
                  refine ry (y_mov rfl rfl) rfl rfl ?_
                  refine ry (y_mov rfl rfl) rfl rfl ?_
                  refine ry (y_len rfl Try.underlying32 rfl) rfl rfl ?_
                  refine ry (y_lss rfl rfl rfl) rfl rfl ?_
                  refine reg_nil ?_
                  refine fn_next ?_
                  refine cw_condd rfl (fun h111 => ?_) (fun h111 => ?_)
                  · skip
                    have gi1 := vi_get (k := .i64) (zs := L.lst (a * h)) (i := i) (by omega)
                    have gi2 := vi_get (k := .i64) (zs := L41.lst (a * h)) (i := i) (by omega)
                    refine cw_skip ?_
                    refine fn_next ?_
                    refine cw_seq ?_
                    refine cw_block ?_
                    refine cw_seq ?_
                    refine cw_reg ?_
                    refine ry (y_mov rfl rfl) rfl rfl ?_
                    refine ry (y_eql rfl rfl rfl) rfl rfl ?_
                    refine ry (y_mov rfl rfl) rfl rfl ?_
                    refine rg_splitd (d := 113) rfl (fun h112 => ?_) (fun h112 => ?_)
                    · exact absurd h112 (by decide)
                    · skip
                      refine rg_off rfl rfl rfl rfl rfl ?_
                      refine rg_off rfl rfl rfl rfl rfl ?_
                      refine rg_off rfl rfl rfl rfl rfl ?_
                      refine rg_off rfl rfl rfl rfl rfl ?_
                      refine rg_off rfl rfl rfl rfl rfl ?_
                      refine rg_off rfl rfl rfl rfl rfl ?_
                      refine rg_off rfl rfl rfl rfl rfl ?_
                      refine rg_off rfl rfl rfl rfl rfl ?_
                      refine rg_off rfl rfl rfl rfl rfl ?_
                      refine ry (y_pick rfl rfl rfl) rfl rfl ?_
                      refine reg_nil ?_
                      refine fn_next ?_
                      refine cw_condf rfl ?_
                      refine cw_seq ?_
                      refine cw_draw H109 [0, 1, 2, 3, 4, 5, 6, 7, 8] [] (fun X HX => HX) (by kernel_rfl) (by kernel_rfl) (by rfl) ?_
                      simp only [pick, List.getElem?_cons_succ, List.getElem?_cons_zero]
                      refine hk_y (fun Y HY => y_mov rfl rfl) rfl rfl ?_
                      refine hk_y (fun Y HY => y_mov rfl rfl) rfl rfl ?_
                      refine hk_y (fun Y HY => y_iar (HY.rd (i := 1) rfl) rfl rfl rfl kflaw8b_16 (rfl) (by omega) (Nat.mul_one _) (gi2)) rfl rfl ?_
                      refine hk_y (fun Y HY => y_ldr (HY.rd (i := 1) rfl) rfl rfl kflaw8b_7 (gi2)) rfl rfl ?_
                      refine hk_y (fun Y HY => y_mov rfl rfl) rfl rfl ?_
                      refine hk_y (fun Y HY => y_mov rfl rfl) rfl rfl ?_
                      refine hk_y (fun Y HY => y_iar (HY.rd (i := 6) rfl) rfl rfl rfl kflaw8b_16 (rfl) (by omega) (Nat.mul_one _) (gi1)) rfl rfl ?_
                      refine hk_y (fun Y HY => y_ldr (HY.rd (i := 6) rfl) rfl rfl kflaw8b_7 (gi1)) rfl rfl ?_
                      refine hk_y (fun Y HY => y_neq rfl rfl rfl) rfl rfl ?_
                      refine hk_nil ?_
                      intro w113 H114
                      refine tv_nil ?_
                      refine fn_next ?_
                      refine cw_condd rfl (fun h115 => ?_) (fun h115 => ?_)
                      · exact absurd (by rw [hst, fillV_no (by rw [fillC_out p ho]; decide)]) h115
                      · skip
                        refine cw_skip ?_
                        refine fn_block ?_
                        refine fn_next ?_
                        refine cw_reg ?_
                        refine ry (y_mov rfl rfl) rfl rfl ?_
                        refine ry (y_add rfl rfl rfl (wi (by omega))) rfl rfl ?_
                        refine ry (y_asg rfl rfl) rfl rfl ?_
                        refine reg_nil ?_
                        refine fn_roundJ ⟨i + 1, rfl, H114, by omega, rfl⟩ ⟨rfl, trivial⟩ (by omega) (by repeat (first | exact kp_refl | refine kp_app rfl rfl ?_ | refine kp_cons rfl ?_)) rfl
                  · skip
                    refine cw_exit ?_
                    refine fn_then_exit (fn_then_exit (fn_block_exit ?_))
                    refine fn_next ?_
                    refine cw_seq ?_
                    refine cw_reg ?_
                    refine ry (y_mov rfl rfl) rfl rfl ?_
                    refine ry (y_mov rfl rfl) rfl rfl ?_
                    refine ry (y_sub rfl rfl rfl (wi (by omega))) rfl rfl ?_
                    refine ry (y_mov rfl rfl) rfl rfl ?_
                    refine ry (y_sub rfl rfl rfl (wi (by omega))) rfl rfl ?_
                    refine ry (y_build (places := [(0, 1), (1, 1), (2, 1), (3, 1)]) (parts := [(2, _), (3, _)]) (vs := [(2, _), (3, _)]) (cs := [.int _ _, .int _ _, .int _ _, .int _ _]) rfl Try.underlying24 (by kernel_rfl) kflaw8b_17 rfl ⟨rfl, rfl, trivial⟩ rfl) rfl rfl ?_
                    refine reg_op (op_call (slabFill_any w _ b35 a h L36 0 0 ((a : Int) - 1) ((h : Int) - 1) 77 _ p o37 (H109.pick (m := [_, _, _, _, _, _, _, _]) [4, 5, 0, 1, 2, 3, 6, 7] rfl (by decide))) rfl kflaw8b_8 ⟨rfl, rfl, rfl, trivial⟩) rfl rfl ?_
                    rintro _ w117 ⟨L118, rfl, H116, o119, e120⟩
                    refine reg_nil ?_
                    refine fn_next ?_
                    refine cw_seq ?_
                    refine cw_reg ?_
                    refine ry (y_mov rfl rfl) rfl rfl ?_
                    refine reg_op (op_call (slabCells_any b11 a h L41 _ p o42 (Ld.rd_of (L := L41) H116 (i := 5) rfl) (H116.rdb (i := 4) rfl)) rfl kflaw8b_9 ⟨rfl, trivial⟩) rfl rfl ?_
                    rintro _ w122 ⟨A124, c125, rfl, k121⟩
                    have H123 := H116.call k121
                    refine ry (y_mov rfl rfl) rfl rfl ?_
                    refine reg_op (op_call (refSame_any _ (a * h) _ (L41.lst (a * h)) _ (a * h) _ (L41.lst (a * h)) _ (H123.rd (i := 0) rfl) (Ld.len o42) (H123.rd (i := 4) rfl) (Ld.len o42) (by omega)) rfl kflaw8b_13 ⟨rfl, rfl, trivial⟩) rfl rfl ?_
                    rintro _ w127 ⟨rfl, e126⟩
                    have H128 := H123.ext e126
                    refine ry (y_asg rfl rfl) rfl rfl ?_
                    refine reg_nil ?_
                    refine fn_next ?_
                    refine cw_ret ?_
                    refine fn_ret1 rfl rfl ?_
                    rw [decide_eq_true rfl]
                    exact ⟨rfl, H128.base⟩
            · skip
              refine rg_off rfl rfl rfl rfl rfl ?_
              refine rg_off rfl rfl rfl rfl rfl ?_
              refine rg_off rfl rfl rfl rfl rfl ?_
              refine rg_off rfl rfl rfl rfl rfl ?_
              refine ry (y_pick rfl rfl rfl) rfl rfl ?_
              refine ry (y_mov rfl rfl) rfl rfl ?_
              refine rg_off rfl rfl rfl rfl rfl ?_
              refine rg_off rfl rfl rfl rfl rfl ?_
              refine rg_off rfl rfl rfl rfl rfl ?_
              refine ry (y_pick rfl rfl rfl) rfl rfl ?_
              refine ry (y_mov rfl rfl) rfl rfl ?_
              refine rg_off rfl rfl rfl rfl rfl ?_
              refine rg_off rfl rfl rfl rfl rfl ?_
              refine rg_off rfl rfl rfl rfl rfl ?_
              refine rg_off rfl rfl rfl rfl rfl ?_
              refine ry (y_pick rfl rfl rfl) rfl rfl ?_
              refine ry (y_asg rfl rfl) rfl rfl ?_
              refine reg_nil ?_
              refine fn_next ?_
              refine cw_seq ?_
              refine cw_reg ?_
              refine ry (y_asg rfl rfl) rfl rfl ?_
              refine reg_nil ?_
              refine fn_next ?_
              refine cw_seq ?_
              refine cw_seq ?_
              refine cw_reg ?_
              refine ry (y_mov rfl rfl) rfl rfl ?_
              refine ry (y_not rfl rfl) rfl rfl ?_
              refine reg_nil ?_
              refine fn_next ?_
              refine cw_condt rfl ?_
              refine cw_reg ?_
              refine ry (y_asg rfl rfl) rfl rfl ?_
              refine reg_nil ?_
              refine fn_next ?_
              refine cw_seq ?_
              refine cw_seq ?_
              refine cw_reg ?_
              refine ry (y_mov rfl rfl) rfl rfl ?_
              refine ry (y_mov rfl rfl) rfl rfl ?_
              refine ry (y_neq rfl rfl rfl) rfl rfl ?_
              refine reg_nil ?_
              refine fn_next ?_
              refine cw_condd rfl (fun h129 => ?_) (fun h129 => ?_)
              · exact absurd (fillC_out p ho) h129
              · skip
                refine cw_skip ?_
                refine fn_next ?_
                refine cw_seq ?_
                refine cw_seq ?_
                refine cw_reg ?_
                refine ry (y_asg rfl rfl) rfl rfl ?_
                refine reg_nil ?_
                refine fn_next ?_
                refine cw_block ?_
                have hl1 := Ld.len hp1
                have hl2 := Ld.len o42
                refine cw_loopJ [12, 22, 105, 106, 107, 108, 109, 110, 111, 112, 113, 114, 115, 116, 117, 118, 119, 120, 121, 122, 123, 124, 125, 126, 127, 128, 129, 130, 131, 132, 133, 134, 135, 136, 137, 138] (fun M wl ml => ∃ (i : Nat), M = [(22, .int .i64 (i : Int))] ∧ HS w wl [Ob.row A53 (a * h) c54 (vi .i64 (L36.lst (a * h))) 2 1, Ob.row A47 (a * h) c48 (vi .i64 (L41.lst (a * h))) 2 1, Ob.blk b11 [.int .i64 ((a : Nat) : Int), .int .i64 ((h : Nat) : Int), L41.val (a * h)] 124, L41.ob (a * h), Ob.blk b35 [.int .i64 ((a : Nat) : Int), .int .i64 ((h : Nat) : Int), L36.val (a * h)] 124, L36.ob (a * h), Ob.row A30 (a * h) c31 (vi .i64 (L.lst (a * h))) 2 1, Ob.blk b1 [.int .i64 x, .int .i64 y] 26] ∧ (i ≤ a * h) ∧ ml = a * h - i) ⟨0, rfl, H57, Nat.zero_le _, rfl⟩ ⟨rfl, trivial⟩ ?_
                rintro M w130 m132 ⟨i, rfl, H131, hp0, rfl⟩
                refine cw_seq ?_
                refine cw_seq ?_
                refine cw_reg ?_
                refine ry (y_mov rfl rfl) rfl rfl ?_
                refine ry (y_mov rfl rfl) rfl rfl ?_
                refine ry (y_len rfl Try.underlying32 rfl) rfl rfl ?_
                refine ry (y_lss rfl rfl rfl) rfl rfl ?_
                refine reg_nil ?_
                refine fn_next ?_
                refine cw_condd rfl (fun h133 => ?_) (fun h133 => ?_)
                · skip
                  have gi1 := vi_get (k := .i64) (zs := L.lst (a * h)) (i := i) (by omega)
                  have gi2 := vi_get (k := .i64) (zs := L41.lst (a * h)) (i := i) (by omega)
                  refine cw_skip ?_
                  refine fn_next ?_
                  refine cw_seq ?_
                  refine cw_block ?_
                  refine cw_seq ?_
                  refine cw_reg ?_
                  refine ry (y_mov rfl rfl) rfl rfl ?_
                  refine ry (y_eql rfl rfl rfl) rfl rfl ?_
                  refine ry (y_mov rfl rfl) rfl rfl ?_
                  refine rg_splitd (d := 113) rfl (fun h134 => ?_) (fun h134 => ?_)
                  · exact absurd h134 (by decide)
                  · skip
                    refine rg_off rfl rfl rfl rfl rfl ?_
                    refine rg_off rfl rfl rfl rfl rfl ?_
                    refine rg_off rfl rfl rfl rfl rfl ?_
                    refine rg_off rfl rfl rfl rfl rfl ?_
                    refine rg_off rfl rfl rfl rfl rfl ?_
                    refine rg_off rfl rfl rfl rfl rfl ?_
                    refine rg_off rfl rfl rfl rfl rfl ?_
                    refine rg_off rfl rfl rfl rfl rfl ?_
                    refine rg_off rfl rfl rfl rfl rfl ?_
                    refine ry (y_pick rfl rfl rfl) rfl rfl ?_
                    refine reg_nil ?_
                    refine fn_next ?_
                    refine cw_condf rfl ?_
                    refine cw_seq ?_
                    refine cw_draw H131 [0, 1, 2, 3, 4, 5, 6, 7, 8] [] (fun X HX => HX) (by kernel_rfl) (by kernel_rfl) (by rfl) ?_
                    simp only [pick, List.getElem?_cons_succ, List.getElem?_cons_zero]
                    refine hk_y (fun Y HY => y_mov rfl rfl) rfl rfl ?_
                    refine hk_y (fun Y HY => y_mov rfl rfl) rfl rfl ?_
                    refine hk_y (fun Y HY => y_iar (HY.rd (i := 1) rfl) rfl rfl rfl kflaw8b_16 (rfl) (by omega) (Nat.mul_one _) (gi2)) rfl rfl ?_
                    refine hk_y (fun Y HY => y_ldr (HY.rd (i := 1) rfl) rfl rfl kflaw8b_7 (gi2)) rfl rfl ?_
                    refine hk_y (fun Y HY => y_mov rfl rfl) rfl rfl ?_
                    refine hk_y (fun Y HY => y_mov rfl rfl) rfl rfl ?_
                    refine hk_y (fun Y HY => y_iar (HY.rd (i := 6) rfl) rfl rfl rfl kflaw8b_16 (rfl) (by omega) (Nat.mul_one _) (gi1)) rfl rfl ?_
                    refine hk_y (fun Y HY => y_ldr (HY.rd (i := 6) rfl) rfl rfl kflaw8b_7 (gi1)) rfl rfl ?_
                    refine hk_y (fun Y HY => y_neq rfl rfl rfl) rfl rfl ?_
                    refine hk_nil ?_
                    intro w135 H136
                    refine tv_nil ?_
                    refine fn_next ?_
                    refine cw_condd rfl (fun h137 => ?_) (fun h137 => ?_)
                    · exact absurd (by rw [hst, fillV_no (by rw [fillC_out p ho]; decide)]) h137
                    · skip
                      refine cw_skip ?_
                      refine fn_block ?_
                      refine fn_next ?_
                      refine cw_reg ?_
                      refine ry (y_mov rfl rfl) rfl rfl ?_
                      refine ry (y_add rfl rfl rfl (wi (by omega))) rfl rfl ?_
                      refine ry (y_asg rfl rfl) rfl rfl ?_
                      refine reg_nil ?_
                      refine fn_roundJ ⟨i + 1, rfl, H136, by omega, rfl⟩ ⟨rfl, trivial⟩ (by omega) (by repeat (first | exact kp_refl | refine kp_app rfl rfl ?_ | refine kp_cons rfl ?_)) rfl
                · skip
                  refine cw_exit ?_
                  refine fn_then_exit (fn_then_exit (fn_block_exit ?_))
                  refine fn_next ?_
                  refine cw_seq ?_
                  refine cw_reg ?_
                  refine ry (y_mov rfl rfl) rfl rfl ?_
                  refine ry (y_mov rfl rfl) rfl rfl ?_
                  refine ry (y_sub rfl rfl rfl (wi (by omega))) rfl rfl ?_
                  refine ry (y_mov rfl rfl) rfl rfl ?_
                  refine ry (y_sub rfl rfl rfl (wi (by omega))) rfl rfl ?_
                  refine ry (y_build (places := [(0, 1), (1, 1), (2, 1), (3, 1)]) (parts := [(2, _), (3, _)]) (vs := [(2, _), (3, _)]) (cs := [.int _ _, .int _ _, .int _ _, .int _ _]) rfl Try.underlying24 (by kernel_rfl) kflaw8b_17 rfl ⟨rfl, rfl, trivial⟩ rfl) rfl rfl ?_
                  refine reg_op (op_call (slabFill_any w _ b35 a h L36 0 0 ((a : Int) - 1) ((h : Int) - 1) 77 _ p o37 (H131.pick (m := [_, _, _, _, _, _, _, _]) [4, 5, 0, 1, 2, 3, 6, 7] rfl (by decide))) rfl kflaw8b_8 ⟨rfl, rfl, rfl, trivial⟩) rfl rfl ?_
                  rintro _ w139 ⟨L140, rfl, H138, o141, e142⟩
                  refine reg_nil ?_
                  refine fn_next ?_
                  refine cw_seq ?_
                  refine cw_reg ?_
                  refine ry (y_mov rfl rfl) rfl rfl ?_
                  refine reg_op (op_call (slabCells_any b11 a h L41 _ p o42 (Ld.rd_of (L := L41) H138 (i := 5) rfl) (H138.rdb (i := 4) rfl)) rfl kflaw8b_9 ⟨rfl, trivial⟩) rfl rfl ?_
                  rintro _ w144 ⟨A146, c147, rfl, k143⟩
                  have H145 := H138.call k143
                  refine ry (y_mov rfl rfl) rfl rfl ?_
                  refine reg_op (op_call (refSame_any _ (a * h) _ (L41.lst (a * h)) _ (a * h) _ (L41.lst (a * h)) _ (H145.rd (i := 0) rfl) (Ld.len o42) (H145.rd (i := 4) rfl) (Ld.len o42) (by omega)) rfl kflaw8b_13 ⟨rfl, rfl, trivial⟩) rfl rfl ?_
                  rintro _ w149 ⟨rfl, e148⟩
                  have H150 := H145.ext e148
                  refine ry (y_asg rfl rfl) rfl rfl ?_
                  refine reg_nil ?_
                  refine fn_next ?_
                  refine cw_ret ?_
                  refine fn_ret1 rfl rfl ?_
                  rw [decide_eq_true rfl]
                  exact ⟨rfl, H150.base⟩

set_option maxRecDepth 100000 in
set_option maxHeartbeats 1000000 in
theorem slabSets_val (a h : Nat) (v : Int) (zs : List Int) (A : Option Addr) (m cap : Nat) (x y u : Int) (w : World) (hz : Rd w A (vi .i64 zs)) (hl : zs.length = m * 5) (p : sizeP a h) (hv : B32 v) (hi : 0 ≤ x ∧ x < a ∧ 0 ≤ y ∧ y < h) (hu : ¬ B32 u) :
    Ret Try.prog 5 [.int .i64 (a : Int), .int .i64 (h : Int), .int .i64 v, .slice A m cap, .agg #[.int .i64 x, .int .i64 y], .int .i64 u] w (fun z w' => z = .bool true ∧ Below w.heap.size w w') := by
  have hm := p.mul
  obtain ⟨s1, s2, s3, s4⟩ := id p
  refine ret_enter Try.func5 rfl rfl rfl ?_
  have H0 := HS.start w
  refine cw_seq ?_
  refine cw_reg ?_
  refine reg_op (op_box (cs := [.int _ _, .int _ _]) H0 rfl rfl rfl) rfl rfl ?_
  rintro _ w2 ⟨b1, rfl, H3⟩
  refine ry (y_asg rfl rfl) rfl rfl ?_
  refine reg_nil ?_
  refine fn_next ?_
  refine cw_seq ?_
  refine cw_seq ?_
  refine cw_reg ?_
  refine reg_op (op_call (slabAwake _) rfl kflaw8b_1 trivial) rfl rfl ?_
  rintro _ w5 ⟨rfl, e4⟩
  have H6 := H3.ext e4
  refine ry (y_not rfl rfl) rfl rfl ?_
  refine reg_nil ?_
  refine fn_next ?_
  refine cw_condf rfl ?_
  refine cw_skip ?_
  refine fn_next ?_
  refine cw_seq ?_
  refine cw_seq ?_
  refine cw_reg ?_
  refine ry (y_mov rfl rfl) rfl rfl ?_
  refine ry (y_len rfl Try.underlying50 rfl) rfl rfl ?_
  refine ry (y_gtr rfl rfl rfl) rfl rfl ?_
  refine reg_nil ?_
  refine fn_next ?_
  refine cw_condd rfl (fun h7 => ?_) (fun h7 => ?_)
  · skip
    refine cw_seq ?_
    refine cw_reg ?_
    refine ry (y_asg rfl rfl) rfl rfl ?_
    refine reg_nil ?_
    refine fn_next ?_
    refine cw_ret ?_
    refine fn_then_ret ?_
    refine fn_ret1 rfl rfl ?_
    exact ⟨rfl, H6.base⟩
  · skip
    refine cw_skip ?_
    refine fn_next ?_
    refine cw_seq ?_
    refine cw_reg ?_
    refine ry (y_mov rfl rfl) rfl rfl ?_
    refine ry (y_mov rfl rfl) rfl rfl ?_
    refine ry (y_mov rfl rfl) rfl rfl ?_
    refine reg_op (op_call (slabNew_two a h v _ (p) (hv)) rfl kflaw8b_2 ⟨rfl, rfl, rfl, trivial⟩) rfl rfl ?_
    rintro _ w9 ⟨b11, rfl, k8⟩
    have H10 := H6.call k8
    refine ry (y_mov rfl rfl) rfl rfl ?_
    refine ry (y_ext rfl rfl rfl) rfl rfl ?_
    refine ry (y_ext rfl rfl rfl) rfl rfl ?_
    refine ry (y_asg rfl rfl) rfl rfl ?_
    refine ry (y_asg rfl rfl) rfl rfl ?_
    refine reg_nil ?_
    refine fn_next ?_
    refine cw_seq ?_
    refine cw_seq ?_
    refine cw_reg ?_
    refine ry (y_mov rfl rfl) rfl rfl ?_
    refine ry (y_neq rfl rfl rfl) rfl rfl ?_
    refine reg_nil ?_
    refine fn_next ?_
    refine cw_condd rfl (fun h12 => ?_) (fun h12 => ?_)
    · exact absurd rfl h12
    · skip
      refine cw_skip ?_
      refine fn_next ?_
      refine cw_seq ?_
      refine cw_seq ?_
      refine cw_reg ?_
      refine ry (y_asg rfl rfl) rfl rfl ?_
      refine reg_nil ?_
      refine fn_next ?_
      refine cw_block ?_
      refine cw_loopJ [15, 37, 38, 39, 40, 41, 42, 43, 44, 45, 46, 47, 48, 49, 50, 51, 52, 53, 54] (fun M wl ml => ∃ (k : Nat) (L : Ld), M = [(15, .int .i64 (k : Int))] ∧ HS w wl [Ob.blk b11 [.int .i64 ((a : Nat) : Int), .int .i64 ((h : Nat) : Int), L.val (a * h)] 124, Ld.ob (a * h) L, Ob.blk b1 [.int .i64 x, .int .i64 y] 26] ∧ (k ≤ m) ∧ (L.ok (a * h)) ∧ ml = m - k) ⟨0, .flat v, rfl, H10, Nat.zero_le _, hv, rfl⟩ ⟨rfl, trivial⟩ ?_
      rintro M w13 m15 ⟨k, L, rfl, H14, hp0, hp1, rfl⟩
      refine cw_seq ?_
      refine cw_seq ?_
      refine cw_reg ?_
      refine ry (y_mov rfl rfl) rfl rfl ?_
      refine ry (y_mov rfl rfl) rfl rfl ?_
      refine ry (y_len rfl Try.underlying50 rfl) rfl rfl ?_
      refine ry (y_lss rfl rfl rfl) rfl rfl ?_
      refine reg_nil ?_
      refine fn_next ?_
      refine cw_condd rfl (fun h16 => ?_) (fun h16 => ?_)
      · skip
        have g4 := vi_get (k := .i64) (zs := zs) (i := k * 5 + 4) (by omega)
        have g0 := vi_get (k := .i64) (zs := zs) (i := k * 5) (by omega)
        refine cw_skip ?_
        refine fn_next ?_
        refine cw_seq ?_
        refine cw_block ?_
        refine cw_draw H14 [0, 1, 2, 3, 4, 5, 6, 7, 8, 9, 10] [11] (fun X HX => (HX.pick (m := [_]) [2] rfl (by decide))) (by kernel_rfl) (by kernel_rfl) (by rfl) ?_
        simp only [pick, List.getElem?_cons_succ, List.getElem?_cons_zero]
        refine hk_y (fun Y HY => y_mov rfl rfl) rfl rfl ?_
        refine hk_y (fun Y HY => y_mov rfl rfl) rfl rfl ?_
        refine hk_y (fun Y HY => y_mov rfl rfl) rfl rfl ?_
        refine hk_y (fun Y HY => y_iar (i := k) (hz.below HY.base) rfl rfl rfl kflaw8b_3 (rfl) (by omega) (rfl) (g0)) rfl rfl ?_
        refine hk_y (fun Y HY => y_far (hz.below HY.base) rfl rfl kflaw8b_4 rfl (g0)) rfl rfl ?_
        refine hk_y (fun Y HY => y_ldra (cs := [_, _, _, _]) (hz.below HY.base) rfl rfl kflaw8b_5 rfl (by decide) ((fun j v hv => vi_part4 (zs := zs) (p := k * 5) (by omega) j v hv))) rfl rfl ?_
        refine hk_y (fun Y HY => y_mov rfl rfl) rfl rfl ?_
        refine hk_y (fun Y HY => y_mov rfl rfl) rfl rfl ?_
        refine hk_y (fun Y HY => y_iar (i := k) (hz.below HY.base) rfl rfl rfl kflaw8b_3 (rfl) (by omega) (rfl) (g0)) rfl rfl ?_
        refine hk_y (fun Y HY => y_far (hz.below HY.base) rfl rfl kflaw8b_6 rfl (g0)) rfl rfl ?_
        refine hk_y (fun Y HY => y_ldr (hz.below HY.base) rfl rfl kflaw8b_7 (g4)) rfl rfl ?_
        refine hk_nil ?_
        intro w17 H18
        refine tv_op (op_call (slabFill_any w _ b11 a h L (nth zs (k * 5)) (nth zs (k * 5 + 1)) (nth zs (k * 5 + 2)) (nth zs (k * 5 + 3)) (nth zs (k * 5 + 4)) _ p hp1 H18) rfl kflaw8b_8 ⟨rfl, rfl, rfl, trivial⟩) rfl rfl ?_
        rintro _ w20 ⟨L21, rfl, H19, o22, e23⟩
        refine ⟨(H19.pick (m := [_]) [2] rfl (by decide)), fun w24 e26 => ?_⟩
        have H25 := H19.ext e26
        refine tv_nil ?_
        refine fn_block ?_
        refine fn_next ?_
        refine cw_reg ?_
        refine ry (y_mov rfl rfl) rfl rfl ?_
        refine ry (y_add rfl rfl rfl (wi (by omega))) rfl rfl ?_
        refine ry (y_asg rfl rfl) rfl rfl ?_
        refine reg_nil ?_
        refine fn_roundJ ⟨k + 1, _, rfl, H25, by omega, o22, rfl⟩ ⟨rfl, trivial⟩ (by omega) (by repeat (first | exact kp_refl | refine kp_app rfl rfl ?_ | refine kp_cons rfl ?_)) rfl
      · skip
        refine cw_exit ?_
        refine fn_then_exit (fn_then_exit (fn_block_exit ?_))
        refine fn_next ?_
        refine cw_seq ?_
        refine cw_reg ?_
        refine ry (y_mov rfl rfl) rfl rfl ?_
        refine reg_op (op_call (slabCells_any b11 a h L _ p hp1 (Ld.rd_of (L := L) H14 (i := 1) rfl) (H14.rdb (i := 0) rfl)) rfl kflaw8b_9 ⟨rfl, trivial⟩) rfl rfl ?_
        rintro _ w28 ⟨A30, c31, rfl, k27⟩
        have H29 := H14.call k27
        refine ry (y_asg rfl rfl) rfl rfl ?_
        refine reg_nil ?_
        refine fn_next ?_
        refine cw_seq ?_
        refine cw_reg ?_
        refine ry (y_mov rfl rfl) rfl rfl ?_
        refine reg_op (op_call (slabCopy_any b11 a h L _ p hp1 (Ld.rd_of (L := L) H29 (i := 2) rfl) (H29.rdb (i := 1) rfl)) rfl kflaw8b_10 ⟨rfl, trivial⟩) rfl rfl ?_
        rintro _ w33 ⟨b35, L36, rfl, k32, o37, e38⟩
        have H34 := H29.call k32
        have hcp := e38
        refine ry (y_asg rfl rfl) rfl rfl ?_
        refine reg_nil ?_
        refine fn_next ?_
        refine cw_seq ?_
        refine cw_reg ?_
        refine ry (y_mov rfl rfl) rfl rfl ?_
        refine ry (y_ldb (i := 5) (cs := [_, _]) H34 rfl rfl kflaw8b_11 rfl rfl) rfl rfl ?_
        refine ry (y_mov rfl rfl) rfl rfl ?_
        refine reg_op (op_call (slabSet_any w _ b11 a h L x y u _ p hp1 (H34.pick (m := [_, _, _, _, _, _]) [3, 4, 0, 1, 2, 5] rfl (by decide))) rfl kflaw8b_12 ⟨rfl, rfl, rfl, trivial⟩) rfl rfl ?_
        rintro _ w40 ⟨L41, rfl, H39, o42, e43⟩
        have hst := e43
        refine ry (y_asg rfl rfl) rfl rfl ?_
        refine reg_nil ?_
        refine fn_next ?_
        refine cw_seq ?_
        refine cw_reg ?_
        refine ry (y_mov rfl rfl) rfl rfl ?_
        refine reg_op (op_call (slabCells_any b11 a h L41 _ p o42 (Ld.rd_of (L := L41) H39 (i := 1) rfl) (H39.rdb (i := 0) rfl)) rfl kflaw8b_9 ⟨rfl, trivial⟩) rfl rfl ?_
        rintro _ w45 ⟨A47, c48, rfl, k44⟩
        have H46 := H39.call k44
        refine ry (y_asg rfl rfl) rfl rfl ?_
        refine reg_nil ?_
        refine fn_next ?_
        refine cw_seq ?_
        refine cw_seq ?_
        refine cw_reg ?_
        refine ry (y_mov rfl rfl) rfl rfl ?_
        refine ry (y_len rfl Try.underlying32 rfl) rfl rfl ?_
        refine ry (y_mov rfl rfl) rfl rfl ?_
        refine ry (y_len rfl Try.underlying32 rfl) rfl rfl ?_
        refine ry (y_neq rfl rfl rfl) rfl rfl ?_
        refine ry (y_mov rfl rfl) rfl rfl ?_
        refine rg_splitd (d := 70) rfl (fun h49 => ?_) (fun h49 => ?_)
        · exact absurd rfl h49
        · skip
          refine rgy (y_mov rfl rfl) rfl rfl rfl rfl ?_
          refine rg_on rfl rfl rfl (op_call (slabCells_any b35 a h L36 _ p o37 (Ld.rd_of (L := L36) H46 (i := 4) rfl) (H46.rdb (i := 3) rfl)) rfl kflaw8b_9 ⟨rfl, trivial⟩) rfl ?_
          rintro _ w51 ⟨A53, c54, rfl, k50⟩
          have H52 := H46.call k50
          refine rgy (y_mov rfl rfl) rfl rfl rfl rfl ?_
          refine rg_on rfl rfl rfl (op_call (refSame_any _ (a * h) _ (L36.lst (a * h)) _ (a * h) _ (L.lst (a * h)) _ (H52.rd (i := 0) rfl) (Ld.len o37) (H52.rd (i := 6) rfl) (Ld.len hp1) (by omega)) rfl kflaw8b_13 ⟨rfl, rfl, trivial⟩) rfl ?_
          rintro _ w56 ⟨rfl, e55⟩
          have H57 := H52.ext e55
          refine rgy (y_notd rfl rfl) rfl rfl rfl rfl ?_
          refine ry (y_pick rfl rfl rfl) rfl rfl ?_
          refine reg_nil ?_
          refine fn_next ?_
          refine cw_condd rfl (fun h58 => ?_) (fun h58 => ?_)
          · exact absurd (by rw [hcp]) h58
          · skip
            refine cw_skip ?_
            refine fn_next ?_
            refine cw_seq ?_
            refine cw_reg ?_
            refine ry (y_fa rfl rfl kflaw8b_14 rfl) rfl rfl ?_
            refine ry (y_ld rfl rfl kflaw8b_7 (H57.cell (i := 7) rfl rfl)) rfl rfl ?_
            refine ry (y_geq rfl rfl rfl) rfl rfl ?_
            refine ry (y_mov rfl rfl) rfl rfl ?_
            refine rg_splitd (d := 80) rfl (fun h59 => ?_) (fun h59 => ?_)
            · skip
              refine rgy (y_fa rfl rfl kflaw8b_14 rfl) rfl rfl rfl rfl ?_
              refine rgy (y_ld rfl rfl kflaw8b_7 (H57.cell (i := 7) rfl rfl)) rfl rfl rfl rfl ?_
              refine rgy (y_mov rfl rfl) rfl rfl rfl rfl ?_
              refine rgy (y_lss rfl rfl rfl) rfl rfl rfl rfl ?_
              refine ry (y_pick rfl rfl rfl) rfl rfl ?_
              refine ry (y_mov rfl rfl) rfl rfl ?_
              refine rg_splitd (d := 86) rfl (fun h60 => ?_) (fun h60 => ?_)
              · skip
                refine rgy (y_fa rfl rfl kflaw8b_15 rfl) rfl rfl rfl rfl ?_
                refine rgy (y_ld rfl rfl kflaw8b_7 (H57.cell (i := 7) rfl rfl)) rfl rfl rfl rfl ?_
                refine rgy (y_geq rfl rfl rfl) rfl rfl rfl rfl ?_
                refine ry (y_pick rfl rfl rfl) rfl rfl ?_
                refine ry (y_mov rfl rfl) rfl rfl ?_
                refine rg_splitd (d := 91) rfl (fun h61 => ?_) (fun h61 => ?_)
                · skip
                  refine rgy (y_fa rfl rfl kflaw8b_15 rfl) rfl rfl rfl rfl ?_
                  refine rgy (y_ld rfl rfl kflaw8b_7 (H57.cell (i := 7) rfl rfl)) rfl rfl rfl rfl ?_
                  refine rgy (y_mov rfl rfl) rfl rfl rfl rfl ?_
                  refine rgy (y_lss rfl rfl rfl) rfl rfl rfl rfl ?_
                  refine ry (y_pick rfl rfl rfl) rfl rfl ?_
                  refine ry (y_asg rfl rfl) rfl rfl ?_
                  refine reg_nil ?_
                  refine fn_next ?_
                  refine cw_seq ?_
                  refine cw_reg ?_
                  refine ry (y_asg rfl rfl) rfl rfl ?_
                  refine reg_nil ?_
                  refine fn_next ?_
                  refine cw_seq ?_
                  refine cw_seq ?_
                  refine cw_reg ?_
                  refine ry (y_mov rfl rfl) rfl rfl ?_
                  refine ry (y_notd rfl rfl) rfl rfl ?_
                  refine reg_nil ?_
                  refine fn_next ?_
                  refine cw_condd rfl (fun h62 => ?_) (fun h62 => ?_)
                  · exact absurd hi.2.2.2 h62
                  · skip
                    refine cw_seq ?_
                    refine cw_reg ?_
                    refine ry (y_mov rfl rfl) rfl rfl ?_
                    refine reg_op (op_call (refMay_any u _) rfl kflaw8b_18 ⟨rfl, trivial⟩) rfl rfl ?_
                    rintro _ w64 ⟨rfl, e63⟩
                    have H65 := H57.ext e63
                    refine ry (y_notd rfl rfl) rfl rfl ?_
                    refine reg_nil ?_
                    refine fn_next ?_
                    refine cw_condd rfl (fun h66 => ?_) (fun h66 => ?_)
                    · skip
                      refine cw_reg ?_
                      refine ry (y_asg rfl rfl) rfl rfl ?_
                      refine reg_nil ?_
                      refine fn_next ?_
                      refine cw_seq ?_
                      refine cw_seq ?_
                      refine cw_reg ?_
                      refine ry (y_mov rfl rfl) rfl rfl ?_
                      refine ry (y_mov rfl rfl) rfl rfl ?_
                      refine ry (y_neq rfl rfl rfl) rfl rfl ?_
                      refine reg_nil ?_
                      refine fn_next ?_
                      refine cw_condd rfl (fun h67 => ?_) (fun h67 => ?_)
                      · exact absurd (fillC_v (within_in p hi) hu) h67
                      · skip
                        refine cw_skip ?_
                        refine fn_next ?_
                        refine cw_seq ?_
                        refine cw_seq ?_
                        refine cw_reg ?_
                        refine ry (y_asg rfl rfl) rfl rfl ?_
                        refine reg_nil ?_
                        refine fn_next ?_
                        refine cw_block ?_
                        have hl1 := Ld.len hp1
                        have hl2 := Ld.len o42
                        refine cw_loopJ [12, 22, 105, 106, 107, 108, 109, 110, 111, 112, 113, 114, 115, 116, 117, 118, 119, 120, 121, 122, 123, 124, 125, 126, 127, 128, 129, 130, 131, 132, 133, 134, 135, 136, 137, 138] (fun M wl ml => ∃ (i : Nat), M = [(22, .int .i64 (i : Int))] ∧ HS w wl [Ob.row A53 (a * h) c54 (vi .i64 (L36.lst (a * h))) 2 1, Ob.row A47 (a * h) c48 (vi .i64 (L41.lst (a * h))) 2 1, Ob.blk b11 [.int .i64 ((a : Nat) : Int), .int .i64 ((h : Nat) : Int), L41.val (a * h)] 124, L41.ob (a * h), Ob.blk b35 [.int .i64 ((a : Nat) : Int), .int .i64 ((h : Nat) : Int), L36.val (a * h)] 124, L36.ob (a * h), Ob.row A30 (a * h) c31 (vi .i64 (L.lst (a * h))) 2 1, Ob.blk b1 [.int .i64 x, .int .i64 y] 26] ∧ (i ≤ a * h) ∧ ml = a * h - i) ⟨0, rfl, H65, Nat.zero_le _, rfl⟩ ⟨rfl, trivial⟩ ?_
                        rintro M w68 m70 ⟨i, rfl, H69, hp0, rfl⟩
                        refine cw_seq ?_
                        refine cw_seq ?_
                        refine cw_reg ?_
                        refine ry (y_mov rfl rfl) rfl rfl ?_
                        refine ry (y_mov rfl rfl) rfl rfl ?_
                        refine ry (y_len rfl Try.underlying32 rfl) rfl rfl ?_
                        refine ry (y_lss rfl rfl rfl) rfl rfl ?_
                        refine reg_nil ?_
                        refine fn_next ?_
                        refine cw_condd rfl (fun h71 => ?_) (fun h71 => ?_)
                        · skip
                          have gi1 := vi_get (k := .i64) (zs := L.lst (a * h)) (i := i) (by omega)
                          have gi2 := vi_get (k := .i64) (zs := L41.lst (a * h)) (i := i) (by omega)
                          refine cw_skip ?_
                          refine fn_next ?_
                          refine cw_seq ?_
                          refine cw_block ?_
                          refine cw_seq ?_
                          refine cw_reg ?_
                          refine ry (y_mov rfl rfl) rfl rfl ?_
                          refine ry (y_eql rfl rfl rfl) rfl rfl ?_
                          refine ry (y_mov rfl rfl) rfl rfl ?_
                          refine rg_splitd (d := 113) rfl (fun h72 => ?_) (fun h72 => ?_)
                          · exact absurd h72 (by decide)
                          · skip
                            refine rg_off rfl rfl rfl rfl rfl ?_
                            refine rg_off rfl rfl rfl rfl rfl ?_
                            refine rg_off rfl rfl rfl rfl rfl ?_
                            refine rg_off rfl rfl rfl rfl rfl ?_
                            refine rg_off rfl rfl rfl rfl rfl ?_
                            refine rg_off rfl rfl rfl rfl rfl ?_
                            refine rg_off rfl rfl rfl rfl rfl ?_
                            refine rg_off rfl rfl rfl rfl rfl ?_
                            refine rg_off rfl rfl rfl rfl rfl ?_
                            refine ry (y_pick rfl rfl rfl) rfl rfl ?_
                            refine reg_nil ?_
                            refine fn_next ?_
                            refine cw_condf rfl ?_
                            refine cw_seq ?_
                            refine cw_draw H69 [0, 1, 2, 3, 4, 5, 6, 7, 8] [] (fun X HX => HX) (by kernel_rfl) (by kernel_rfl) (by rfl) ?_
                            simp only [pick, List.getElem?_cons_succ, List.getElem?_cons_zero]
                            refine hk_y (fun Y HY => y_mov rfl rfl) rfl rfl ?_
                            refine hk_y (fun Y HY => y_mov rfl rfl) rfl rfl ?_
                            refine hk_y (fun Y HY => y_iar (HY.rd (i := 1) rfl) rfl rfl rfl kflaw8b_16 (rfl) (by omega) (Nat.mul_one _) (gi2)) rfl rfl ?_
                            refine hk_y (fun Y HY => y_ldr (HY.rd (i := 1) rfl) rfl rfl kflaw8b_7 (gi2)) rfl rfl ?_
                            refine hk_y (fun Y HY => y_mov rfl rfl) rfl rfl ?_
                            refine hk_y (fun Y HY => y_mov rfl rfl) rfl rfl ?_
                            refine hk_y (fun Y HY => y_iar (HY.rd (i := 6) rfl) rfl rfl rfl kflaw8b_16 (rfl) (by omega) (Nat.mul_one _) (gi1)) rfl rfl ?_
                            refine hk_y (fun Y HY => y_ldr (HY.rd (i := 6) rfl) rfl rfl kflaw8b_7 (gi1)) rfl rfl ?_
                            refine hk_y (fun Y HY => y_neq rfl rfl rfl) rfl rfl ?_
                            refine hk_nil ?_
                            intro w73 H74
                            refine tv_nil ?_
                            refine fn_next ?_
                            refine cw_condd rfl (fun h75 => ?_) (fun h75 => ?_)
                            · exact absurd (by rw [hst, fillV_no (by rw [fillC_v (within_in p hi) hu]; decide)]) h75
                            · skip
                              refine cw_skip ?_
                              refine fn_block ?_
                              refine fn_next ?_
                              refine cw_reg ?_
                              refine ry (y_mov rfl rfl) rfl rfl ?_
                              refine ry (y_add rfl rfl rfl (wi (by omega))) rfl rfl ?_
                              refine ry (y_asg rfl rfl) rfl rfl ?_
                              refine reg_nil ?_
                              refine fn_roundJ ⟨i + 1, rfl, H74, by omega, rfl⟩ ⟨rfl, trivial⟩ (by omega) (by repeat (first | exact kp_refl | refine kp_app rfl rfl ?_ | refine kp_cons rfl ?_)) rfl
                        · skip
                          refine cw_exit ?_
                          refine fn_then_exit (fn_then_exit (fn_block_exit ?_))
                          refine fn_next ?_
                          refine cw_seq ?_
                          refine cw_reg ?_
                          refine ry (y_mov rfl rfl) rfl rfl ?_
                          refine ry (y_mov rfl rfl) rfl rfl ?_
                          refine ry (y_sub rfl rfl rfl (wi (by omega))) rfl rfl ?_
                          refine ry (y_mov rfl rfl) rfl rfl ?_
                          refine ry (y_sub rfl rfl rfl (wi (by omega))) rfl rfl ?_
                          refine ry (y_build (places := [(0, 1), (1, 1), (2, 1), (3, 1)]) (parts := [(2, _), (3, _)]) (vs := [(2, _), (3, _)]) (cs := [.int _ _, .int _ _, .int _ _, .int _ _]) rfl Try.underlying24 (by kernel_rfl) kflaw8b_17 rfl ⟨rfl, rfl, trivial⟩ rfl) rfl rfl ?_
                          refine reg_op (op_call (slabFill_any w _ b35 a h L36 0 0 ((a : Int) - 1) ((h : Int) - 1) 77 _ p o37 (H69.pick (m := [_, _, _, _, _, _, _, _]) [4, 5, 0, 1, 2, 3, 6, 7] rfl (by decide))) rfl kflaw8b_8 ⟨rfl, rfl, rfl, trivial⟩) rfl rfl ?_
                          rintro _ w77 ⟨L78, rfl, H76, o79, e80⟩
                          refine reg_nil ?_
                          refine fn_next ?_
                          refine cw_seq ?_
                          refine cw_reg ?_
                          refine ry (y_mov rfl rfl) rfl rfl ?_
                          refine reg_op (op_call (slabCells_any b11 a h L41 _ p o42 (Ld.rd_of (L := L41) H76 (i := 5) rfl) (H76.rdb (i := 4) rfl)) rfl kflaw8b_9 ⟨rfl, trivial⟩) rfl rfl ?_
                          rintro _ w82 ⟨A84, c85, rfl, k81⟩
                          have H83 := H76.call k81
                          refine ry (y_mov rfl rfl) rfl rfl ?_
                          refine reg_op (op_call (refSame_any _ (a * h) _ (L41.lst (a * h)) _ (a * h) _ (L41.lst (a * h)) _ (H83.rd (i := 0) rfl) (Ld.len o42) (H83.rd (i := 4) rfl) (Ld.len o42) (by omega)) rfl kflaw8b_13 ⟨rfl, rfl, trivial⟩) rfl rfl ?_
                          rintro _ w87 ⟨rfl, e86⟩
                          have H88 := H83.ext e86
                          refine ry (y_asg rfl rfl) rfl rfl ?_
                          refine reg_nil ?_
                          refine fn_next ?_
                          refine cw_ret ?_
                          refine fn_ret1 rfl rfl ?_
                          rw [decide_eq_true rfl]
                          exact ⟨rfl, H88.base⟩
                    · exact absurd (Classical.not_not.1 h66) hu
                · exfalso; omega
              · exfalso; omega
            · exfalso; omega

set_option maxRecDepth 100000 in
set_option maxHeartbeats 1000000 in
theorem slabSets_in (a h : Nat) (v : Int) (zs : List Int) (A : Option Addr) (m cap : Nat) (x y u : Int) (w : World) (hz : Rd w A (vi .i64 zs)) (hl : zs.length = m * 5) (p : sizeP a h) (hv : B32 v) (hi : 0 ≤ x ∧ x < a ∧ 0 ≤ y ∧ y < h) (hu : B32 u) :
    Ret Try.prog 5 [.int .i64 (a : Int), .int .i64 (h : Int), .int .i64 v, .slice A m cap, .agg #[.int .i64 x, .int .i64 y], .int .i64 u] w (fun z w' => z = .bool true ∧ Below w.heap.size w w') := by
  have hm := p.mul
  obtain ⟨s1, s2, s3, s4⟩ := id p
  refine ret_enter Try.func5 rfl rfl rfl ?_
  have H0 := HS.start w
  refine cw_seq ?_
  refine cw_reg ?_
  refine reg_op (op_box (cs := [.int _ _, .int _ _]) H0 rfl rfl rfl) rfl rfl ?_
  rintro _ w2 ⟨b1, rfl, H3⟩
  refine ry (y_asg rfl rfl) rfl rfl ?_
  refine reg_nil ?_
  refine fn_next ?_
  refine cw_seq ?_
  refine cw_seq ?_
  refine cw_reg ?_
  refine reg_op (op_call (slabAwake _) rfl kflaw8b_1 trivial) rfl rfl ?_
  rintro _ w5 ⟨rfl, e4⟩
  have H6 := H3.ext e4
  refine ry (y_not rfl rfl) rfl rfl ?_
  refine reg_nil ?_
  refine fn_next ?_
  refine cw_condf rfl ?_
  refine cw_skip ?_
  refine fn_next ?_
  refine cw_seq ?_
  refine cw_seq ?_
  refine cw_reg ?_
  refine ry (y_mov rfl rfl) rfl rfl ?_
  refine ry (y_len rfl Try.underlying50 rfl) rfl rfl ?_
  refine ry (y_gtr rfl rfl rfl) rfl rfl ?_
  refine reg_nil ?_
  refine fn_next ?_
  refine cw_condd rfl (fun h7 => ?_) (fun h7 => ?_)
  · skip
    refine cw_seq ?_
    refine cw_reg ?_
    refine ry (y_asg rfl rfl) rfl rfl ?_
    refine reg_nil ?_
    refine fn_next ?_
    refine cw_ret ?_
    refine fn_then_ret ?_
    refine fn_ret1 rfl rfl ?_
    exact ⟨rfl, H6.base⟩
  · skip
    refine cw_skip ?_
    refine fn_next ?_
    refine cw_seq ?_
    refine cw_reg ?_
    refine ry (y_mov rfl rfl) rfl rfl ?_
    refine ry (y_mov rfl rfl) rfl rfl ?_
    refine ry (y_mov rfl rfl) rfl rfl ?_
    refine reg_op (op_call (slabNew_two a h v _ (p) (hv)) rfl kflaw8b_2 ⟨rfl, rfl, rfl, trivial⟩) rfl rfl ?_
    rintro _ w9 ⟨b11, rfl, k8⟩
    have H10 := H6.call k8
    refine ry (y_mov rfl rfl) rfl rfl ?_
    refine ry (y_ext rfl rfl rfl) rfl rfl ?_
    refine ry (y_ext rfl rfl rfl) rfl rfl ?_
    refine ry (y_asg rfl rfl) rfl rfl ?_
    refine ry (y_asg rfl rfl) rfl rfl ?_
    refine reg_nil ?_
    refine fn_next ?_
    refine cw_seq ?_
    refine cw_seq ?_
    refine cw_reg ?_
    refine ry (y_mov rfl rfl) rfl rfl ?_
    refine ry (y_neq rfl rfl rfl) rfl rfl ?_
    refine reg_nil ?_
    refine fn_next ?_
    refine cw_condd rfl (fun h12 => ?_) (fun h12 => ?_)
    · exact absurd rfl h12
    · skip
      refine cw_skip ?_
      refine fn_next ?_
      refine cw_seq ?_
      refine cw_seq ?_
      refine cw_reg ?_
      refine ry (y_asg rfl rfl) rfl rfl ?_
      refine reg_nil ?_
      refine fn_next ?_
      refine cw_block ?_
      refine cw_loopJ [15, 37, 38, 39, 40, 41, 42, 43, 44, 45, 46, 47, 48, 49, 50, 51, 52, 53, 54] (fun M wl ml => ∃ (k : Nat) (L : Ld), M = [(15, .int .i64 (k : Int))] ∧ HS w wl [Ob.blk b11 [.int .i64 ((a : Nat) : Int), .int .i64 ((h : Nat) : Int), L.val (a * h)] 124, Ld.ob (a * h) L, Ob.blk b1 [.int .i64 x, .int .i64 y] 26] ∧ (k ≤ m) ∧ (L.ok (a * h)) ∧ ml = m - k) ⟨0, .flat v, rfl, H10, Nat.zero_le _, hv, rfl⟩ ⟨rfl, trivial⟩ ?_
      rintro M w13 m15 ⟨k, L, rfl, H14, hp0, hp1, rfl⟩
      refine cw_seq ?_
      refine cw_seq ?_
      refine cw_reg ?_
      refine ry (y_mov rfl rfl) rfl rfl ?_
      refine ry (y_mov rfl rfl) rfl rfl ?_
      refine ry (y_len rfl Try.underlying50 rfl) rfl rfl ?_
      refine ry (y_lss rfl rfl rfl) rfl rfl ?_
      refine reg_nil ?_
      refine fn_next ?_
      refine cw_condd rfl (fun h16 => ?_) (fun h16 => ?_)
      · skip
        have g4 := vi_get (k := .i64) (zs := zs) (i := k * 5 + 4) (by omega)
        have g0 := vi_get (k := .i64) (zs := zs) (i := k * 5) (by omega)
        refine cw_skip ?_
        refine fn_next ?_
        refine cw_seq ?_
        refine cw_block ?_
        refine cw_draw H14 [0, 1, 2, 3, 4, 5, 6, 7, 8, 9, 10] [11] (fun X HX => (HX.pick (m := [_]) [2] rfl (by decide))) (by kernel_rfl) (by kernel_rfl) (by rfl) ?_
        simp only [pick, List.getElem?_cons_succ, List.getElem?_cons_zero]
        refine hk_y (fun Y HY => y_mov rfl rfl) rfl rfl ?_
        refine hk_y (fun Y HY => y_mov rfl rfl) rfl rfl ?_
        refine hk_y (fun Y HY => y_mov rfl rfl) rfl rfl ?_
        refine hk_y (fun Y HY => y_iar (i := k) (hz.below HY.base) rfl rfl rfl kflaw8b_3 (rfl) (by omega) (rfl) (g0)) rfl rfl ?_
        refine hk_y (fun Y HY => y_far (hz.below HY.base) rfl rfl kflaw8b_4 rfl (g0)) rfl rfl ?_
        refine hk_y (fun Y HY => y_ldra (cs := [_, _, _, _]) (hz.below HY.base) rfl rfl kflaw8b_5 rfl (by decide) ((fun j v hv => vi_part4 (zs := zs) (p := k * 5) (by omega) j v hv))) rfl rfl ?_
        refine hk_y (fun Y HY => y_mov rfl rfl) rfl rfl ?_
        refine hk_y (fun Y HY => y_mov rfl rfl) rfl rfl ?_
        refine hk_y (fun Y HY => y_iar (i := k) (hz.below HY.base) rfl rfl rfl kflaw8b_3 (rfl) (by omega) (rfl) (g0)) rfl rfl ?_
        refine hk_y (fun Y HY => y_far (hz.below HY.base) rfl rfl kflaw8b_6 rfl (g0)) rfl rfl ?_
        refine hk_y (fun Y HY => y_ldr (hz.below HY.base) rfl rfl kflaw8b_7 (g4)) rfl rfl ?_
        refine hk_nil ?_
        intro w17 H18
        refine tv_op (op_call (slabFill_any w _ b11 a h L (nth zs (k * 5)) (nth zs (k * 5 + 1)) (nth zs (k * 5 + 2)) (nth zs (k * 5 + 3)) (nth zs (k * 5 + 4)) _ p hp1 H18) rfl kflaw8b_8 ⟨rfl, rfl, rfl, trivial⟩) rfl rfl ?_
        rintro _ w20 ⟨L21, rfl, H19, o22, e23⟩
        refine ⟨(H19.pick (m := [_]) [2] rfl (by decide)), fun w24 e26 => ?_⟩
        have H25 := H19.ext e26
        refine tv_nil ?_
        refine fn_block ?_
        refine fn_next ?_
        refine cw_reg ?_
        refine ry (y_mov rfl rfl) rfl rfl ?_
        refine ry (y_add rfl rfl rfl (wi (by omega))) rfl rfl ?_
        refine ry (y_asg rfl rfl) rfl rfl ?_
        refine reg_nil ?_
        refine fn_roundJ ⟨k + 1, _, rfl, H25, by omega, o22, rfl⟩ ⟨rfl, trivial⟩ (by omega) (by repeat (first | exact kp_refl | refine kp_app rfl rfl ?_ | refine kp_cons rfl ?_)) rfl
      · skip
        refine cw_exit ?_
        refine fn_then_exit (fn_then_exit (fn_block_exit ?_))
        refine fn_next ?_
        refine cw_seq ?_
        refine cw_reg ?_
        refine ry (y_mov rfl rfl) rfl rfl ?_
        refine reg_op (op_call (slabCells_any b11 a h L _ p hp1 (Ld.rd_of (L := L) H14 (i := 1) rfl) (H14.rdb (i := 0) rfl)) rfl kflaw8b_9 ⟨rfl, trivial⟩) rfl rfl ?_
        rintro _ w28 ⟨A30, c31, rfl, k27⟩
        have H29 := H14.call k27
        refine ry (y_asg rfl rfl) rfl rfl ?_
        refine reg_nil ?_
        refine fn_next ?_
        refine cw_seq ?_
        refine cw_reg ?_
        refine ry (y_mov rfl rfl) rfl rfl ?_
        refine reg_op (op_call (slabCopy_any b11 a h L _ p hp1 (Ld.rd_of (L := L) H29 (i := 2) rfl) (H29.rdb (i := 1) rfl)) rfl kflaw8b_10 ⟨rfl, trivial⟩) rfl rfl ?_
        rintro _ w33 ⟨b35, L36, rfl, k32, o37, e38⟩
        have H34 := H29.call k32
        have hcp := e38
        refine ry (y_asg rfl rfl) rfl rfl ?_
        refine reg_nil ?_
        refine fn_next ?_
        refine cw_seq ?_
        refine cw_reg ?_
        refine ry (y_mov rfl rfl) rfl rfl ?_
        refine ry (y_ldb (i := 5) (cs := [_, _]) H34 rfl rfl kflaw8b_11 rfl rfl) rfl rfl ?_
        refine ry (y_mov rfl rfl) rfl rfl ?_
        refine reg_op (op_call (slabSet_any w _ b11 a h L x y u _ p hp1 (H34.pick (m := [_, _, _, _, _, _]) [3, 4, 0, 1, 2, 5] rfl (by decide))) rfl kflaw8b_12 ⟨rfl, rfl, rfl, trivial⟩) rfl rfl ?_
        rintro _ w40 ⟨L41, rfl, H39, o42, e43⟩
        have hst := e43
        refine ry (y_asg rfl rfl) rfl rfl ?_
        refine reg_nil ?_
        refine fn_next ?_
        refine cw_seq ?_
        refine cw_reg ?_
        refine ry (y_mov rfl rfl) rfl rfl ?_
        refine reg_op (op_call (slabCells_any b11 a h L41 _ p o42 (Ld.rd_of (L := L41) H39 (i := 1) rfl) (H39.rdb (i := 0) rfl)) rfl kflaw8b_9 ⟨rfl, trivial⟩) rfl rfl ?_
        rintro _ w45 ⟨A47, c48, rfl, k44⟩
        have H46 := H39.call k44
        refine ry (y_asg rfl rfl) rfl rfl ?_
        refine reg_nil ?_
        refine fn_next ?_
        refine cw_seq ?_
        refine cw_seq ?_
        refine cw_reg ?_
        refine ry (y_mov rfl rfl) rfl rfl ?_
        refine ry (y_len rfl Try.underlying32 rfl) rfl rfl ?_
        refine ry (y_mov rfl rfl) rfl rfl ?_
        refine ry (y_len rfl Try.underlying32 rfl) rfl rfl ?_
        refine ry (y_neq rfl rfl rfl) rfl rfl ?_
        refine ry (y_mov rfl rfl) rfl rfl ?_
        refine rg_splitd (d := 70) rfl (fun h49 => ?_) (fun h49 => ?_)
        · exact absurd rfl h49
        · skip
          refine rgy (y_mov rfl rfl) rfl rfl rfl rfl ?_
          refine rg_on rfl rfl rfl (op_call (slabCells_any b35 a h L36 _ p o37 (Ld.rd_of (L := L36) H46 (i := 4) rfl) (H46.rdb (i := 3) rfl)) rfl kflaw8b_9 ⟨rfl, trivial⟩) rfl ?_
          rintro _ w51 ⟨A53, c54, rfl, k50⟩
          have H52 := H46.call k50
          refine rgy (y_mov rfl rfl) rfl rfl rfl rfl ?_
          refine rg_on rfl rfl rfl (op_call (refSame_any _ (a * h) _ (L36.lst (a * h)) _ (a * h) _ (L.lst (a * h)) _ (H52.rd (i := 0) rfl) (Ld.len o37) (H52.rd (i := 6) rfl) (Ld.len hp1) (by omega)) rfl kflaw8b_13 ⟨rfl, rfl, trivial⟩) rfl ?_
          rintro _ w56 ⟨rfl, e55⟩
          have H57 := H52.ext e55
          refine rgy (y_notd rfl rfl) rfl rfl rfl rfl ?_
          refine ry (y_pick rfl rfl rfl) rfl rfl ?_
          refine reg_nil ?_
          refine fn_next ?_
          refine cw_condd rfl (fun h58 => ?_) (fun h58 => ?_)
          · exact absurd (by rw [hcp]) h58
          · skip
            refine cw_skip ?_
            refine fn_next ?_
            refine cw_seq ?_
            refine cw_reg ?_
            refine ry (y_fa rfl rfl kflaw8b_14 rfl) rfl rfl ?_
            refine ry (y_ld rfl rfl kflaw8b_7 (H57.cell (i := 7) rfl rfl)) rfl rfl ?_
            refine ry (y_geq rfl rfl rfl) rfl rfl ?_
            refine ry (y_mov rfl rfl) rfl rfl ?_
            refine rg_splitd (d := 80) rfl (fun h59 => ?_) (fun h59 => ?_)
            · skip
              refine rgy (y_fa rfl rfl kflaw8b_14 rfl) rfl rfl rfl rfl ?_
              refine rgy (y_ld rfl rfl kflaw8b_7 (H57.cell (i := 7) rfl rfl)) rfl rfl rfl rfl ?_
              refine rgy (y_mov rfl rfl) rfl rfl rfl rfl ?_
              refine rgy (y_lss rfl rfl rfl) rfl rfl rfl rfl ?_
              refine ry (y_pick rfl rfl rfl) rfl rfl ?_
              refine ry (y_mov rfl rfl) rfl rfl ?_
              refine rg_splitd (d := 86) rfl (fun h60 => ?_) (fun h60 => ?_)
              · skip
                refine rgy (y_fa rfl rfl kflaw8b_15 rfl) rfl rfl rfl rfl ?_
                refine rgy (y_ld rfl rfl kflaw8b_7 (H57.cell (i := 7) rfl rfl)) rfl rfl rfl rfl ?_
                refine rgy (y_geq rfl rfl rfl) rfl rfl rfl rfl ?_
                refine ry (y_pick rfl rfl rfl) rfl rfl ?_
                refine ry (y_mov rfl rfl) rfl rfl ?_
                refine rg_splitd (d := 91) rfl (fun h61 => ?_) (fun h61 => ?_)
                · skip
                  refine rgy (y_fa rfl rfl kflaw8b_15 rfl) rfl rfl rfl rfl ?_
                  refine rgy (y_ld rfl rfl kflaw8b_7 (H57.cell (i := 7) rfl rfl)) rfl rfl rfl rfl ?_
                  refine rgy (y_mov rfl rfl) rfl rfl rfl rfl ?_
                  refine rgy (y_lss rfl rfl rfl) rfl rfl rfl rfl ?_
                  refine ry (y_pick rfl rfl rfl) rfl rfl ?_
                  refine ry (y_asg rfl rfl) rfl rfl ?_
                  refine reg_nil ?_
                  refine fn_next ?_
                  refine cw_seq ?_
                  refine cw_reg ?_
                  refine ry (y_asg rfl rfl) rfl rfl ?_
                  refine reg_nil ?_
                  refine fn_next ?_
                  refine cw_seq ?_
                  refine cw_seq ?_
                  refine cw_reg ?_
                  refine ry (y_mov rfl rfl) rfl rfl ?_
                  refine ry (y_notd rfl rfl) rfl rfl ?_
                  refine reg_nil ?_
                  refine fn_next ?_
                  refine cw_condd rfl (fun h62 => ?_) (fun h62 => ?_)
                  · exact absurd hi.2.2.2 h62
                  · skip
                    refine cw_seq ?_
                    refine cw_reg ?_
                    refine ry (y_mov rfl rfl) rfl rfl ?_
                    refine reg_op (op_call (refMay_any u _) rfl kflaw8b_18 ⟨rfl, trivial⟩) rfl rfl ?_
                    rintro _ w64 ⟨rfl, e63⟩
                    have H65 := H57.ext e63
                    refine ry (y_notd rfl rfl) rfl rfl ?_
                    refine reg_nil ?_
                    refine fn_next ?_
                    refine cw_condd rfl (fun h66 => ?_) (fun h66 => ?_)
                    · exact absurd hu h66
                    · skip
                      refine cw_skip ?_
                      refine fn_next ?_
                      refine cw_seq ?_
                      refine cw_seq ?_
                      refine cw_reg ?_
                      refine ry (y_mov rfl rfl) rfl rfl ?_
                      refine ry (y_mov rfl rfl) rfl rfl ?_
                      refine ry (y_neq rfl rfl rfl) rfl rfl ?_
                      refine reg_nil ?_
                      refine fn_next ?_
                      refine cw_condd rfl (fun h67 => ?_) (fun h67 => ?_)
                      · exact absurd (fillC_ok (within_in p hi) hu) h67
                      · skip
                        refine cw_skip ?_
                        refine fn_next ?_
                        refine cw_seq ?_
                        refine cw_seq ?_
                        refine cw_reg ?_
                        refine ry (y_asg rfl rfl) rfl rfl ?_
                        refine reg_nil ?_
                        refine fn_next ?_
                        refine cw_block ?_
                        have hl1 := Ld.len hp1
                        have hl2 := Ld.len o42
                        refine cw_loopJ [12, 22, 105, 106, 107, 108, 109, 110, 111, 112, 113, 114, 115, 116, 117, 118, 119, 120, 121, 122, 123, 124, 125, 126, 127, 128, 129, 130, 131, 132, 133, 134, 135, 136, 137, 138] (fun M wl ml => ∃ (i : Nat), M = [(22, .int .i64 (i : Int))] ∧ HS w wl [Ob.row A53 (a * h) c54 (vi .i64 (L36.lst (a * h))) 2 1, Ob.row A47 (a * h) c48 (vi .i64 (L41.lst (a * h))) 2 1, Ob.blk b11 [.int .i64 ((a : Nat) : Int), .int .i64 ((h : Nat) : Int), L41.val (a * h)] 124, L41.ob (a * h), Ob.blk b35 [.int .i64 ((a : Nat) : Int), .int .i64 ((h : Nat) : Int), L36.val (a * h)] 124, L36.ob (a * h), Ob.row A30 (a * h) c31 (vi .i64 (L.lst (a * h))) 2 1, Ob.blk b1 [.int .i64 x, .int .i64 y] 26] ∧ (i ≤ a * h) ∧ ml = a * h - i) ⟨0, rfl, H65, Nat.zero_le _, rfl⟩ ⟨rfl, trivial⟩ ?_
                        rintro M w68 m70 ⟨i, rfl, H69, hp0, rfl⟩
                        refine cw_seq ?_
                        refine cw_seq ?_
                        refine cw_reg ?_
                        refine ry (y_mov rfl rfl) rfl rfl ?_
                        refine ry (y_mov rfl rfl) rfl rfl ?_
                        refine ry (y_len rfl Try.underlying32 rfl) rfl rfl ?_
                        refine ry (y_lss rfl rfl rfl) rfl rfl ?_
                        refine reg_nil ?_
                        refine fn_next ?_
                        refine cw_condd rfl (fun h71 => ?_) (fun h71 => ?_)
                        · skip
                          have gi1 := vi_get (k := .i64) (zs := L.lst (a * h)) (i := i) (by omega)
                          have gi2 := vi_get (k := .i64) (zs := L41.lst (a * h)) (i := i) (by omega)
                          refine cw_skip ?_
                          refine fn_next ?_
                          refine cw_seq ?_
                          refine cw_block ?_
                          refine cw_seq ?_
                          refine cw_reg ?_
                          refine ry (y_mov rfl rfl) rfl rfl ?_
                          refine ry (y_eql rfl rfl rfl) rfl rfl ?_
                          refine ry (y_mov rfl rfl) rfl rfl ?_
                          refine rg_splitd (d := 113) rfl (fun h72 => ?_) (fun h72 => ?_)
                          · skip
                            refine rgy (y_mov rfl rfl) rfl rfl rfl rfl ?_
                            refine rgy (y_fa rfl rfl kflaw8b_15 rfl) rfl rfl rfl rfl ?_
                            refine rgy (y_ld rfl rfl kflaw8b_7 (H69.cell (i := 7) rfl rfl)) rfl rfl rfl rfl ?_
                            refine rgy (y_mov rfl rfl) rfl rfl rfl rfl ?_
                            refine rgy (y_mul rfl rfl rfl (wi (by have := mul_bd p hi; omega))) rfl rfl rfl rfl ?_
                            refine rgy (y_fa rfl rfl kflaw8b_14 rfl) rfl rfl rfl rfl ?_
                            refine rgy (y_ld rfl rfl kflaw8b_7 (H69.cell (i := 7) rfl rfl)) rfl rfl rfl rfl ?_
                            refine rgy (y_add rfl rfl rfl (wi (by have := mul_bd p hi; omega))) rfl rfl rfl rfl ?_
                            refine rgy (y_eql rfl rfl rfl) rfl rfl rfl rfl ?_
                            refine ry (y_pick rfl rfl rfl) rfl rfl ?_
                            refine reg_nil ?_
                            refine fn_next ?_
                            refine cw_condd rfl (fun hix => ?_) (fun hix => ?_)
                            · skip
                              refine cw_seq ?_
                              refine cw_reg ?_
                              refine ry (y_mov rfl rfl) rfl rfl ?_
                              refine ry (y_mov rfl rfl) rfl rfl ?_
                              refine ry (y_iar (H69.rd (i := 1) rfl) rfl rfl rfl kflaw8b_16 (rfl) (by omega) (Nat.mul_one _) (gi2)) rfl rfl ?_
                              refine ry (y_ldr (H69.rd (i := 1) rfl) rfl rfl kflaw8b_7 (gi2)) rfl rfl ?_
                              refine ry (y_mov rfl rfl) rfl rfl ?_
                              refine ry (y_neq rfl rfl rfl) rfl rfl ?_
                              refine reg_nil ?_
                              refine fn_next ?_
                              refine cw_condd rfl (fun h74 => ?_) (fun h74 => ?_)
                              · exact absurd (by rw [hst, setV_at p hl1 hi hu (by omega), if_pos hix]) h74
                              · skip
                                refine cw_skip ?_
                                refine fn_block ?_
                                refine fn_next ?_
                                refine cw_reg ?_
                                refine ry (y_mov rfl rfl) rfl rfl ?_
                                refine ry (y_add rfl rfl rfl (wi (by omega))) rfl rfl ?_
                                refine ry (y_asg rfl rfl) rfl rfl ?_
                                refine reg_nil ?_
                                refine fn_roundJ ⟨i + 1, rfl, H69, by omega, rfl⟩ ⟨rfl, trivial⟩ (by omega) (by repeat (first | exact kp_refl | refine kp_app rfl rfl ?_ | refine kp_cons rfl ?_)) rfl
                            · skip
                              refine cw_seq ?_
                              refine cw_draw H69 [0, 1, 2, 3, 4, 5, 6, 7, 8] [] (fun X HX => HX) (by kernel_rfl) (by kernel_rfl) (by rfl) ?_
                              simp only [pick, List.getElem?_cons_succ, List.getElem?_cons_zero]
                              refine hk_y (fun Y HY => y_mov rfl rfl) rfl rfl ?_
                              refine hk_y (fun Y HY => y_mov rfl rfl) rfl rfl ?_
                              refine hk_y (fun Y HY => y_iar (HY.rd (i := 1) rfl) rfl rfl rfl kflaw8b_16 (rfl) (by omega) (Nat.mul_one _) (gi2)) rfl rfl ?_
                              refine hk_y (fun Y HY => y_ldr (HY.rd (i := 1) rfl) rfl rfl kflaw8b_7 (gi2)) rfl rfl ?_
                              refine hk_y (fun Y HY => y_mov rfl rfl) rfl rfl ?_
                              refine hk_y (fun Y HY => y_mov rfl rfl) rfl rfl ?_
                              refine hk_y (fun Y HY => y_iar (HY.rd (i := 6) rfl) rfl rfl rfl kflaw8b_16 (rfl) (by omega) (Nat.mul_one _) (gi1)) rfl rfl ?_
                              refine hk_y (fun Y HY => y_ldr (HY.rd (i := 6) rfl) rfl rfl kflaw8b_7 (gi1)) rfl rfl ?_
                              refine hk_y (fun Y HY => y_neq rfl rfl rfl) rfl rfl ?_
                              refine hk_nil ?_
                              intro w75 H76
                              refine tv_nil ?_
                              refine fn_next ?_
                              refine cw_condd rfl (fun h77 => ?_) (fun h77 => ?_)
                              · exact absurd (by rw [hst, setV_at p hl1 hi hu (by omega), if_neg hix]) h77
                              · skip
                                refine cw_skip ?_
                                refine fn_block ?_
                                refine fn_next ?_
                                refine cw_reg ?_
                                refine ry (y_mov rfl rfl) rfl rfl ?_
                                refine ry (y_add rfl rfl rfl (wi (by omega))) rfl rfl ?_
                                refine ry (y_asg rfl rfl) rfl rfl ?_
                                refine reg_nil ?_
                                refine fn_roundJ ⟨i + 1, rfl, H76, by omega, rfl⟩ ⟨rfl, trivial⟩ (by omega) (by repeat (first | exact kp_refl | refine kp_app rfl rfl ?_ | refine kp_cons rfl ?_)) rfl
                          · exact absurd rfl h72
                        · skip
                          refine cw_exit ?_
                          refine fn_then_exit (fn_then_exit (fn_block_exit ?_))
                          refine fn_next ?_
                          refine cw_seq ?_
                          refine cw_reg ?_
                          refine ry (y_mov rfl rfl) rfl rfl ?_
                          refine ry (y_mov rfl rfl) rfl rfl ?_
                          refine ry (y_sub rfl rfl rfl (wi (by omega))) rfl rfl ?_
                          refine ry (y_mov rfl rfl) rfl rfl ?_
                          refine ry (y_sub rfl rfl rfl (wi (by omega))) rfl rfl ?_
                          refine ry (y_build (places := [(0, 1), (1, 1), (2, 1), (3, 1)]) (parts := [(2, _), (3, _)]) (vs := [(2, _), (3, _)]) (cs := [.int _ _, .int _ _, .int _ _, .int _ _]) rfl Try.underlying24 (by kernel_rfl) kflaw8b_17 rfl ⟨rfl, rfl, trivial⟩ rfl) rfl rfl ?_
                          refine reg_op (op_call (slabFill_any w _ b35 a h L36 0 0 ((a : Int) - 1) ((h : Int) - 1) 77 _ p o37 (H69.pick (m := [_, _, _, _, _, _, _, _]) [4, 5, 0, 1, 2, 3, 6, 7] rfl (by decide))) rfl kflaw8b_8 ⟨rfl, rfl, rfl, trivial⟩) rfl rfl ?_
                          rintro _ w79 ⟨L80, rfl, H78, o81, e82⟩
                          refine reg_nil ?_
                          refine fn_next ?_
                          refine cw_seq ?_
                          refine cw_reg ?_
                          refine ry (y_mov rfl rfl) rfl rfl ?_
                          refine reg_op (op_call (slabCells_any b11 a h L41 _ p o42 (Ld.rd_of (L := L41) H78 (i := 5) rfl) (H78.rdb (i := 4) rfl)) rfl kflaw8b_9 ⟨rfl, trivial⟩) rfl rfl ?_
                          rintro _ w84 ⟨A86, c87, rfl, k83⟩
                          have H85 := H78.call k83
                          refine ry (y_mov rfl rfl) rfl rfl ?_
                          refine reg_op (op_call (refSame_any _ (a * h) _ (L41.lst (a * h)) _ (a * h) _ (L41.lst (a * h)) _ (H85.rd (i := 0) rfl) (Ld.len o42) (H85.rd (i := 4) rfl) (Ld.len o42) (by omega)) rfl kflaw8b_13 ⟨rfl, rfl, trivial⟩) rfl rfl ?_
                          rintro _ w89 ⟨rfl, e88⟩
                          have H90 := H85.ext e88
                          refine ry (y_asg rfl rfl) rfl rfl ?_
                          refine reg_nil ?_
                          refine fn_next ?_
                          refine cw_ret ?_
                          refine fn_ret1 rfl rfl ?_
                          rw [decide_eq_true rfl]
                          exact ⟨rfl, H90.base⟩
                · exfalso; omega
              · exfalso; omega
            · exfalso; omega

theorem slabSets_law (a h v : Int) (zs : List Int) (A : Option Addr) (m cap : Nat) (x y u : Int) (W : World) (_ : I64b a) (_ : I64b h) (_ : I64b v) (hz : Rd W A (vi .i64 zs)) (hl : zs.length = m * 5) (_ : m ≤ cap) (_ : cap ≤ maxLen) (_ : ∀ z ∈ zs, I64b z) (_ : I64b x) (_ : I64b y) (_ : I64b u) :
    Calls Try.prog 5 #[.int .i64 a, .int .i64 h, .int .i64 v, .slice A m cap, .agg #[.int .i64 x, .int .i64 y], .int .i64 u] W fun e w' => e = .returned (.bool true) ∧ Below W.heap.size W w' := by
  by_cases hc : newC a h v = 0
  · obtain ⟨a, h, rfl, rfl, p, hv⟩ := newC_zero hc
    by_cases hi : 0 ≤ x ∧ x < a ∧ 0 ≤ y ∧ y < h
    · by_cases hu : B32 u
      · exact law_of (slabSets_in a h v zs A m cap x y u W hz hl p hv hi hu)
      · exact law_of (slabSets_val a h v zs A m cap x y u W hz hl p hv hi hu)
    · exact law_of (slabSets_out a h v zs A m cap x y u W hz hl p hv hi)
  · exact law_of (slabSets_bad a h v zs A m cap x y u W hz hl hc)

end Go.Proofs.Ytkphmcaoioaglaa
