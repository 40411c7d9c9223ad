/- Layer 42: greater, cut out, put together; what isn't there. -/
import Derived.Test.YtbhmkpnihgjlnaaTurn1
import Derived.Test.YtbhmkpnihgjlnaaK12
set_option linter.unusedVariables false
set_option linter.unusedSimpArgs false
namespace Go.Proofs.Ytbhmkpnihgjlnaa
open Go Go.RowKit
theorem kfturn2_1 : (Try.prog.info? 46).bind (fun i => i.zero.map Value.cells) = some (List.toArray [(.int .i64 0), (.int .i64 0)]) := by kernel_rfl
theorem kfturn2_2 : oneB Try.prog 2 = true := by kernel_rfl
theorem kfturn2_3 : szB Try.prog 46 2 = true := by kernel_rfl
theorem kfturn2_4 : aggB Try.prog 46 2 = true := by kernel_rfl
theorem kfturn2_5 : callB Try.prog 62 = true := by kernel_rfl
theorem kfturn2_6 : callB Try.prog 68 = true := by kernel_rfl
theorem kfturn2_7 : callB Try.prog 67 = true := by kernel_rfl
theorem kfturn2_8 : aggB Try.prog 55 4 = true := by kernel_rfl
theorem kfturn2_9 : callB Try.prog 58 = true := by kernel_rfl
theorem kfturn2_10 : fldB Try.prog 55 2 2 = true := by kernel_rfl
theorem kfturn2_11 : fldB Try.prog 55 0 0 = true := by kernel_rfl
theorem kfturn2_12 : fldB Try.prog 55 3 3 = true := by kernel_rfl
theorem kfturn2_13 : fldB Try.prog 55 1 1 = true := by kernel_rfl
theorem kfturn2_14 : callB Try.prog 52 = true := by kernel_rfl
theorem kfturn2_15 : callB Try.prog 45 = true := by kernel_rfl
theorem kfturn2_16 : (Try.prog.info? 157).bind (fun i => i.zero.map Value.cells) = some (List.toArray [(.pointer none), (.int .i64 0), (.int .i64 0)]) := by kernel_rfl
theorem kfturn2_17 : (Try.prog.info? 158).bind (fun i => i.zero.map Value.cells) = some (List.toArray [(.pointer none), (.int .i64 0), (.int .i64 0), (.pointer none), (.int .i64 0), (.int .i64 0)]) := by kernel_rfl
theorem kfturn2_18 : szB Try.prog 157 3 = true := by kernel_rfl
theorem kfturn2_19 : aggB Try.prog 157 3 = true := by kernel_rfl
theorem kfturn2_20 : fldB Try.prog 157 0 0 = true := by kernel_rfl
theorem kfturn2_21 : oneB Try.prog 28 = true := by kernel_rfl
theorem kfturn2_22 : callB Try.prog 59 = true := by kernel_rfl
theorem kfturn2_23 : fldB Try.prog 157 1 1 = true := by kernel_rfl
theorem kfturn2_24 : fldB Try.prog 46 0 0 = true := by kernel_rfl
theorem kfturn2_25 : fldB Try.prog 46 1 1 = true := by kernel_rfl
theorem kfturn2_26 : (Try.prog.info? 55).bind (fun i => i.zero.map Value.cells) = some (List.toArray [(.int .i64 0), (.int .i64 0), (.int .i64 0), (.int .i64 0)]) := by kernel_rfl
theorem kfturn2_27 : callB Try.prog 88 = true := by kernel_rfl
theorem gv_bd {V : List Int} {a h : Nat} {p0 q0 p1 q1 : Nat} (G : GV a h V) (hw : withinC p0 q0 p1 q1 a h = 0) (h1 : p0 ≤ p1) (h2 : p1 < a) (h3 : q0 ≤ q1) (h4 : q1 < h) : (gvalV V a h p0 q0 p1 q1).length = (p1 + 1 - p0) * (q1 + 1 - q0) ∧ AllB (gvalV V a h p0 q0 p1 q1) := by
  rw [gvalV_ok hw h1 h3]
  refine ⟨by rw [rvAll_len, Nat.mul_comm], allB_nth fun j hj => ?_⟩
  rw [rvAll_len] at hj
  obtain ⟨c1, c2, c3⟩ := cell_parts (n := p1 + 1 - p0) (m := q1 + 1 - q0) (by rw [Nat.mul_comm]; exact hj)
  rw [c3, rvAll_at _ _ _ c2 c1]
  exact G.bd.at_ (by rw [G.len]; exact cell_lt (by omega) (by omega))
theorem within_okG {a h p0 q0 p1 q1 : Nat} (s : SzG a h) (h1 : p0 ≤ p1) (h2 : p1 < a) (h3 : q0 ≤ q1) (h4 : q1 < h) : withinC p0 q0 p1 q1 a h = 0 := by
  obtain ⟨s1, s2, s3, s4⟩ := s
  unfold withinC; simp only [insideB_not]
  rw [if_neg (by unfold wrap64; omega), if_neg (by omega), if_neg (by omega)]
theorem maxQ {a h : Nat} (ha : 1 ≤ a) : IntKind.i64.wrap ((1024 : Int).tdiv (max (a : Int) (h : Int))) = ((1024 / max a h : Nat) : Int) := by
  rw [show max (a : Int) (h : Int) = ((max a h : Nat) : Int) by omega]
  exact quoN (i := 1024) (by decide)
theorem maxQ_iff {a h k : Nat} (ha : 1 ≤ a) : k ≤ 1024 / max a h ↔ a * k ≤ 1024 ∧ h * k ≤ 1024 := by
  rw [Nat.le_div_iff_mul_le (by omega)]
  constructor
  · intro H
    have h1 : k * a ≤ k * max a h := Nat.mul_le_mul_left _ (by omega)
    have h2 : k * h ≤ k * max a h := Nat.mul_le_mul_left _ (by omega)
    rw [Nat.mul_comm k a] at h1; rw [Nat.mul_comm k h] at h2
    omega
  · rintro ⟨h1, h2⟩
    rw [Nat.mul_comm] at h1; rw [Nat.mul_comm] at h2
    rcases Nat.le_total a h with c | c
    · rw [Nat.max_eq_right c]; exact h2
    · rw [Nat.max_eq_left c]; exact h1

set_option maxRecDepth 100000 in
theorem scAt (x y k b0 : Nat) (w : World) (hx : x ≤ 1048576) (hy : y ≤ 1048576) (hk : 1 ≤ k) (R0 : Rd w (some ⟨b0, 0, none⟩) [.int .i64 (k : Int)]) :
    Ret Try.prog 68 [.int .i64 (x : Int), .int .i64 (y : Int), .pointer (some ⟨b0, 0, none⟩)] w (fun v w' => v = .agg #[.int .i64 ((x / k : Nat) : Int), .int .i64 ((y / k : Nat) : Int)] ∧ Below w.heap.size w w') := by
  refine ret_enter Try.func68 rfl rfl rfl ?_
  have H0 := HS.start w
  refine cw_seq ?_
  refine cw_reg ?_
  refine reg_op (op_alloc H0 rfl kfturn2_1) rfl rfl ?_
  rintro _ w2 ⟨b1, rfl, H3⟩
  refine reg_nil ?_
  refine fn_next ?_
  refine cw_seq ?_
  refine cw_draw H3 [0, 1, 2, 3, 4, 5, 6] [7] (fun X HX => (HX.pick (m := []) [] rfl (by decide))) (by kernel_rfl) (by kernel_rfl) (by rfl) ?_
  simp only [pick, List.getElem?_cons_succ, List.getElem?_cons_zero]
  refine hk_y (fun Y HY => y_mov rfl rfl) rfl rfl ?_
  refine hk_y (fun Y HY => y_ldr (k := 0) ((R0.below HY.base)) rfl rfl kfturn2_2 (rfl)) rfl rfl ?_
  refine hk_y (fun Y HY => y_quo rfl rfl rfl (by omega) (quoN (by omega))) rfl rfl ?_
  refine hk_y (fun Y HY => y_mov rfl rfl) rfl rfl ?_
  refine hk_y (fun Y HY => y_ldr (k := 0) ((R0.below HY.base)) rfl rfl kfturn2_2 (rfl)) rfl rfl ?_
  refine hk_y (fun Y HY => y_quo rfl rfl rfl (by omega) (quoN (by omega))) rfl rfl ?_
  refine hk_y (fun Y HY => y_build (places := [(0, 1), (1, 1)]) (parts := [(0, _), (1, _)]) (vs := [(0, _), (1, _)]) (cs := [.int _ _, .int _ _]) rfl Try.underlying46 (by kernel_rfl) kfturn2_1 rfl ⟨rfl, rfl, trivial⟩ rfl) rfl rfl ?_
  refine hk_nil ?_
  intro w4 H5
  refine tv_op (op_st (i := 0) (vs := [.int _ _, .int _ _]) H5 rfl rfl rfl rfl rfl kfturn2_3 rfl rfl rfl) rfl rfl ?_
  rintro _ w6 H7
  refine ⟨(H7.pick (m := []) [] rfl (by decide)), fun w8 e10 => ?_⟩
  have H9 := H7.ext e10
  refine tv_nil ?_
  refine fn_next ?_
  refine cw_ret ?_
  refine fn_ret1 rfl (⟨_, rfl, load_agg (cs := [_, _]) kfturn2_4 rfl fun j v hv => by rw [Nat.zero_add]; exact H9.cell (i := 0) rfl hv⟩) ?_
  exact ⟨rfl, H9.base⟩

set_option maxRecDepth 100000 in
theorem gScale_arg (g a h : Nat) (V : List Int) (k : Int) (w : World) (R : GRd w g a h V) (hk : k < 1) :
    Ret Try.prog 32 [.pointer (some ⟨g, 0, none⟩), .int .i64 k] w (fun z w' => z = .tuple #[.pointer none, .int .i64 (11)] ∧ Below w.heap.size w w') := by
  have hgv := R.gv
  have z1 := hgv.a1; have z2 := hgv.a2; have z3 := hgv.h1; have z4 := hgv.h2
  refine ret_enter Try.func32 rfl rfl rfl ?_
  have H0 := HS.start w
  refine cw_seq ?_
  refine cw_reg ?_
  refine reg_op (op_box (cs := [.int _ _]) H0 rfl rfl rfl) rfl rfl ?_
  rintro _ w2 ⟨b1, rfl, H3⟩
  refine ry (y_asg rfl rfl) rfl rfl ?_
  refine ry (y_asg rfl rfl) rfl rfl ?_
  refine reg_nil ?_
  refine fn_next ?_
  refine cw_seq ?_
  refine cw_reg ?_
  refine ry (y_mov rfl rfl) rfl rfl ?_
  refine reg_op (op_call (gSize g a h (V)  _ (R.below H3.base)) rfl kfturn2_5 ⟨rfl, trivial⟩) rfl rfl ?_
  rintro _ w5 ⟨rfl, e4⟩
  have H6 := H3.ext e4
  refine ry (y_mov rfl rfl) rfl rfl ?_
  refine ry (y_ext rfl rfl rfl) rfl rfl ?_
  refine ry (y_ext rfl rfl rfl) rfl rfl ?_
  refine ry (y_asg rfl rfl) rfl rfl ?_
  refine ry (y_asg rfl rfl) rfl rfl ?_
  refine reg_nil ?_
  refine fn_next ?_
  refine cw_seq ?_
  refine cw_block ?_
  refine cw_seq ?_
  refine cw_reg ?_
  refine ry (y_mov rfl rfl) rfl rfl ?_
  refine ry (y_peqlnil rfl Try.underlying28 rfl rfl) rfl rfl ?_
  refine ry (y_asg rfl rfl) rfl rfl ?_
  refine reg_nil ?_
  refine fn_next ?_
  refine cw_condf rfl ?_
  refine cw_seq ?_
  refine cw_reg ?_
  refine ry (y_ld rfl rfl kfturn2_2 (H6.cell (i := 0) rfl rfl)) rfl rfl ?_
  refine ry (y_lss rfl rfl rfl) rfl rfl ?_
  refine ry (y_asg rfl rfl) rfl rfl ?_
  refine reg_nil ?_
  refine fn_next ?_
  refine cw_condd rfl (fun h7 => ?_) (fun h7 => ?_)
  · skip
    refine cw_seq ?_
    refine cw_reg ?_
    refine ry (y_asg rfl rfl) rfl rfl ?_
    refine ry (y_asg rfl rfl) rfl rfl ?_
    refine reg_nil ?_
    refine fn_next ?_
    refine cw_ret ?_
    refine fn_block_ret (fn_then_ret ?_)
    refine fn_retn (vs := [_, _]) rfl ⟨rfl, rfl, trivial⟩ rfl ?_
    exact ⟨rfl, H6.base⟩
  · exact absurd hk h7

set_option maxRecDepth 100000 in
theorem gScale_size (g a h : Nat) (V : List Int) (k : Int) (w : World) (R : GRd w g a h V) (hk : 1 ≤ k) (hs : ¬ ((a : Int) * k ≤ 1024 ∧ (h : Int) * k ≤ 1024)) :
    Ret Try.prog 32 [.pointer (some ⟨g, 0, none⟩), .int .i64 k] w (fun z w' => z = .tuple #[.pointer none, .int .i64 (3)] ∧ Below w.heap.size w w') := by
  have hgv := R.gv
  have z1 := hgv.a1; have z2 := hgv.a2; have z3 := hgv.h1; have z4 := hgv.h2
  refine ret_enter Try.func32 rfl rfl rfl ?_
  have H0 := HS.start w
  refine cw_seq ?_
  refine cw_reg ?_
  refine reg_op (op_box (cs := [.int _ _]) H0 rfl rfl rfl) rfl rfl ?_
  rintro _ w2 ⟨b1, rfl, H3⟩
  refine ry (y_asg rfl rfl) rfl rfl ?_
  refine ry (y_asg rfl rfl) rfl rfl ?_
  refine reg_nil ?_
  refine fn_next ?_
  refine cw_seq ?_
  refine cw_reg ?_
  refine ry (y_mov rfl rfl) rfl rfl ?_
  refine reg_op (op_call (gSize g a h (V)  _ (R.below H3.base)) rfl kfturn2_5 ⟨rfl, trivial⟩) rfl rfl ?_
  rintro _ w5 ⟨rfl, e4⟩
  have H6 := H3.ext e4
  refine ry (y_mov rfl rfl) rfl rfl ?_
  refine ry (y_ext rfl rfl rfl) rfl rfl ?_
  refine ry (y_ext rfl rfl rfl) rfl rfl ?_
  refine ry (y_asg rfl rfl) rfl rfl ?_
  refine ry (y_asg rfl rfl) rfl rfl ?_
  refine reg_nil ?_
  refine fn_next ?_
  refine cw_seq ?_
  refine cw_block ?_
  refine cw_seq ?_
  refine cw_reg ?_
  refine ry (y_mov rfl rfl) rfl rfl ?_
  refine ry (y_peqlnil rfl Try.underlying28 rfl rfl) rfl rfl ?_
  refine ry (y_asg rfl rfl) rfl rfl ?_
  refine reg_nil ?_
  refine fn_next ?_
  refine cw_condf rfl ?_
  refine cw_seq ?_
  refine cw_reg ?_
  refine ry (y_ld rfl rfl kfturn2_2 (H6.cell (i := 0) rfl rfl)) rfl rfl ?_
  refine ry (y_lss rfl rfl rfl) rfl rfl ?_
  refine ry (y_asg rfl rfl) rfl rfl ?_
  refine reg_nil ?_
  refine fn_next ?_
  refine cw_condd rfl (fun h7 => ?_) (fun h7 => ?_)
  · exfalso; omega
  · skip
    refine cw_seq ?_
    refine cw_draw H6 [0, 1, 2, 3, 4, 5, 6] [] (fun X HX => HX) (by kernel_rfl) (by kernel_rfl) (by rfl) ?_
    simp only [pick, List.getElem?_cons_succ, List.getElem?_cons_zero]
    refine hk_y (fun Y HY => y_ld rfl rfl kfturn2_2 (HY.cell (i := 0) rfl rfl)) rfl rfl ?_
    refine hk_y (fun Y HY => y_mov rfl rfl) rfl rfl ?_
    refine hk_y (fun Y HY => y_mov rfl rfl) rfl rfl ?_
    refine hk_y (fun Y HY => y_max rfl rfl rfl) rfl rfl ?_
    refine hk_y (fun Y HY => y_quo rfl rfl rfl (by omega) (maxQ z1)) rfl rfl ?_
    refine hk_y (fun Y HY => y_gtr rfl rfl rfl) rfl rfl ?_
    refine hk_y (fun Y HY => y_asg rfl rfl) rfl rfl ?_
    refine hk_nil ?_
    intro w8 H9
    refine tv_nil ?_
    refine fn_next ?_
    refine cw_condd rfl (fun h10 => ?_) (fun h10 => ?_)
    · skip
      refine cw_seq ?_
      refine cw_reg ?_
      refine ry (y_asg rfl rfl) rfl rfl ?_
      refine ry (y_asg rfl rfl) rfl rfl ?_
      refine reg_nil ?_
      refine fn_next ?_
      refine cw_ret ?_
      refine fn_block_ret (fn_then_ret ?_)
      refine fn_retn (vs := [_, _]) rfl ⟨rfl, rfl, trivial⟩ rfl ?_
      exact ⟨rfl, H9.base⟩
    · exact absurd h10 (by have := mt (maxQ_iff (a := a) (h := h) (k := k.toNat) z1).1 (by rintro ⟨u1, u2⟩; exact hs ⟨by rw [show k = ((k.toNat : Nat) : Int) by omega]; exact Int.ofNat_le.2 u1, by rw [show k = ((k.toNat : Nat) : Int) by omega]; exact Int.ofNat_le.2 u2⟩); generalize 1024 / max a h = z at *; omega)

set_option maxRecDepth 100000 in
theorem gScale_ok (g a h : Nat) (V : List Int) (k : Nat) (w : World) (R : GRd w g a h V) (hk : 1 ≤ k) (hs1 : a * k ≤ 1024) (hs2 : h * k ≤ 1024) :
    Ret Try.prog 32 [.pointer (some ⟨g, 0, none⟩), .int .i64 (k : Int)] w (fun z w' => ∃ g' bl, z = .tuple #[.pointer (some ⟨g', 0, none⟩), .int .i64 0] ∧ HS w w' [gOb g' (a * k) (h * k) (scV V a h k) bl]) := by
  have hgv := R.gv
  have z1 := hgv.a1; have z2 := hgv.a2; have z3 := hgv.h1; have z4 := hgv.h2
  have y1 : 1 * 1 ≤ a * k := Nat.mul_le_mul z1 hk
  have y2 : 1 * 1 ≤ h * k := Nat.mul_le_mul z3 hk
  have hsz : SzG (a * k) (h * k) := ⟨y1, hs1, y2, hs2⟩
  refine ret_enter Try.func32 rfl rfl rfl ?_
  have H0 := HS.start w
  refine cw_seq ?_
  refine cw_reg ?_
  refine reg_op (op_box (cs := [.int _ _]) H0 rfl rfl rfl) rfl rfl ?_
  rintro _ w2 ⟨b1, rfl, H3⟩
  refine ry (y_asg rfl rfl) rfl rfl ?_
  refine ry (y_asg rfl rfl) rfl rfl ?_
  refine reg_nil ?_
  refine fn_next ?_
  refine cw_seq ?_
  refine cw_reg ?_
  refine ry (y_mov rfl rfl) rfl rfl ?_
  refine reg_op (op_call (gSize g a h (V)  _ (R.below H3.base)) rfl kfturn2_5 ⟨rfl, trivial⟩) rfl rfl ?_
  rintro _ w5 ⟨rfl, e4⟩
  have H6 := H3.ext e4
  refine ry (y_mov rfl rfl) rfl rfl ?_
  refine ry (y_ext rfl rfl rfl) rfl rfl ?_
  refine ry (y_ext rfl rfl rfl) rfl rfl ?_
  refine ry (y_asg rfl rfl) rfl rfl ?_
  refine ry (y_asg rfl rfl) rfl rfl ?_
  refine reg_nil ?_
  refine fn_next ?_
  refine cw_seq ?_
  refine cw_block ?_
  refine cw_seq ?_
  refine cw_reg ?_
  refine ry (y_mov rfl rfl) rfl rfl ?_
  refine ry (y_peqlnil rfl Try.underlying28 rfl rfl) rfl rfl ?_
  refine ry (y_asg rfl rfl) rfl rfl ?_
  refine reg_nil ?_
  refine fn_next ?_
  refine cw_condf rfl ?_
  refine cw_seq ?_
  refine cw_reg ?_
  refine ry (y_ld rfl rfl kfturn2_2 (H6.cell (i := 0) rfl rfl)) rfl rfl ?_
  refine ry (y_lss rfl rfl rfl) rfl rfl ?_
  refine ry (y_asg rfl rfl) rfl rfl ?_
  refine reg_nil ?_
  refine fn_next ?_
  refine cw_condd rfl (fun h7 => ?_) (fun h7 => ?_)
  · exfalso; omega
  · skip
    refine cw_seq ?_
    refine cw_draw H6 [0, 1, 2, 3, 4, 5, 6] [] (fun X HX => HX) (by kernel_rfl) (by kernel_rfl) (by rfl) ?_
    simp only [pick, List.getElem?_cons_succ, List.getElem?_cons_zero]
    refine hk_y (fun Y HY => y_ld rfl rfl kfturn2_2 (HY.cell (i := 0) rfl rfl)) rfl rfl ?_
    refine hk_y (fun Y HY => y_mov rfl rfl) rfl rfl ?_
    refine hk_y (fun Y HY => y_mov rfl rfl) rfl rfl ?_
    refine hk_y (fun Y HY => y_max rfl rfl rfl) rfl rfl ?_
    refine hk_y (fun Y HY => y_quo rfl rfl rfl (by omega) (maxQ z1)) rfl rfl ?_
    refine hk_y (fun Y HY => y_gtr rfl rfl rfl) rfl rfl ?_
    refine hk_y (fun Y HY => y_asg rfl rfl) rfl rfl ?_
    refine hk_nil ?_
    intro w8 H9
    refine tv_nil ?_
    refine fn_next ?_
    refine cw_condd rfl (fun h10 => ?_) (fun h10 => ?_)
    · exact absurd h10 (by have := (maxQ_iff (a := a) (h := h) (k := k) z1).2 ⟨hs1, hs2⟩; generalize 1024 / max a h = z at *; omega)
    · skip
      refine cw_skip ?_
      refine fn_block ?_
      refine fn_next ?_
      refine cw_seq ?_
      refine cw_reg ?_
      refine ry (y_mov rfl rfl) rfl rfl ?_
      refine ry (y_mov rfl rfl) rfl rfl ?_
      refine ry (y_ld rfl rfl kfturn2_2 (H9.cell (i := 0) rfl rfl)) rfl rfl ?_
      refine ry (y_mul rfl rfl rfl (mulN (by omega))) rfl rfl ?_
      refine ry (y_mov rfl rfl) rfl rfl ?_
      refine ry (y_ld rfl rfl kfturn2_2 (H9.cell (i := 0) rfl rfl)) rfl rfl ?_
      refine ry (y_mul rfl rfl rfl (mulN (by omega))) rfl rfl ?_
      refine ry (y_mkf (first := []) (caps := [_]) (fs := []) (cs := [_]) rfl trivial ⟨rfl, trivial⟩) rfl rfl ?_
      refine reg_op (op_call (made_any g a h (V) (a * k) (h * k) 68 [.pointer (some ⟨b1, 0, none⟩)] (fun x _ => x / k) (fun _ y => y / k) _ (R.below H9.base) kfturn2_6 (fun x y Z hx hy hZ => scAt x y k b1 Z (by omega) (by omega) hk ((H9.rdb (i := 0) rfl).below hZ)) (by first | exact R.gv.sz | exact ⟨z3, z4, z1, z2⟩ | assumption) (inn_sc hk)) rfl kfturn2_7 ⟨rfl, rfl, rfl, rfl, trivial⟩) rfl rfl ?_
      rintro _ w12 ⟨g14, bl15, rfl, k11⟩
      have H13 := H9.call k11
      refine ry (y_ext rfl rfl rfl) rfl rfl ?_
      refine ry (y_ext rfl rfl rfl) rfl rfl ?_
      refine ry (y_asg rfl rfl) rfl rfl ?_
      refine ry (y_asg rfl rfl) rfl rfl ?_
      refine reg_nil ?_
      refine fn_next ?_
      refine cw_ret ?_
      refine fn_retn (vs := [_, _]) rfl ⟨rfl, rfl, trivial⟩ rfl ?_
      exact ⟨_, _, rfl, (H13.pick (m := [_]) [0] rfl (by decide))⟩

set_option maxRecDepth 100000 in
theorem gCrop_no (g a h : Nat) (V : List Int) (x0 y0 x1 y1 : Int) (w : World) (R : GRd w g a h V) (hw : ¬ withinC x0 y0 x1 y1 a h = 0) :
    Ret Try.prog 30 [.pointer (some ⟨g, 0, none⟩), .agg #[.int .i64 x0, .int .i64 y0, .int .i64 x1, .int .i64 y1]] w (fun z w' => z = .tuple #[.pointer none, .int .i64 (withinC x0 y0 x1 y1 a h)] ∧ Below w.heap.size w w') := by
  refine ret_enter Try.func30 rfl rfl rfl ?_
  have H0 := HS.start w
  refine cw_seq ?_
  refine cw_reg ?_
  refine reg_op (op_box (cs := [.int _ _, .int _ _, .int _ _, .int _ _]) H0 rfl rfl rfl) rfl rfl ?_
  rintro _ w2 ⟨b1, rfl, H3⟩
  refine ry (y_asg rfl rfl) rfl rfl ?_
  refine ry (y_asg rfl rfl) rfl rfl ?_
  refine reg_nil ?_
  refine fn_next ?_
  refine cw_seq ?_
  refine cw_reg ?_
  refine ry (y_mov rfl rfl) rfl rfl ?_
  refine ry (y_ldb (i := 0) (cs := [_, _, _, _]) H3 rfl rfl kfturn2_8 rfl rfl) rfl rfl ?_
  refine reg_op (op_call (gValues g a h (V) x0 y0 x1 y1 _ (R.below H3.base)) rfl kfturn2_9 ⟨rfl, rfl, trivial⟩) rfl rfl ?_
  rintro _ w5 ⟨A7, c8, rfl, k4⟩
  have H6 := H3.call k4
  refine ry (y_mov rfl rfl) rfl rfl ?_
  refine ry (y_ext rfl rfl rfl) rfl rfl ?_
  refine ry (y_ext rfl rfl rfl) rfl rfl ?_
  refine ry (y_asg rfl rfl) rfl rfl ?_
  refine ry (y_asg rfl rfl) rfl rfl ?_
  refine reg_nil ?_
  refine fn_next ?_
  refine cw_seq ?_
  refine cw_seq ?_
  refine cw_reg ?_
  refine ry (y_mov rfl rfl) rfl rfl ?_
  refine ry (y_neq rfl rfl rfl) rfl rfl ?_
  refine reg_nil ?_
  refine fn_next ?_
  refine cw_condd rfl (fun h9 => ?_) (fun h9 => ?_)
  · skip
    refine cw_seq ?_
    refine cw_reg ?_
    refine ry (y_mov rfl rfl) rfl rfl ?_
    refine ry (y_asg rfl rfl) rfl rfl ?_
    refine ry (y_asg rfl rfl) rfl rfl ?_
    refine reg_nil ?_
    refine fn_next ?_
    refine cw_ret ?_
    refine fn_then_ret ?_
    refine fn_retn (vs := [_, _]) rfl ⟨rfl, rfl, trivial⟩ rfl ?_
    exact ⟨rfl, H6.base⟩
  · exact absurd (Classical.not_not.1 h9) hw

set_option maxRecDepth 100000 in
theorem gCrop_ok (g a h : Nat) (V : List Int) (p0 q0 p1 q1 : Nat) (w : World) (R : GRd w g a h V) (h1 : p0 ≤ p1) (h2 : p1 < a) (h3 : q0 ≤ q1) (h4 : q1 < h) :
    Ret Try.prog 30 [.pointer (some ⟨g, 0, none⟩), .agg #[.int .i64 (p0 : Int), .int .i64 (q0 : Int), .int .i64 (p1 : Int), .int .i64 (q1 : Int)]] w (fun z w' => ∃ g' bl, z = .tuple #[.pointer (some ⟨g', 0, none⟩), .int .i64 0] ∧ HS w w' [gOb g' (p1 + 1 - p0) (q1 + 1 - q0) (gvalV V a h p0 q0 p1 q1) bl]) := by
  have hgv := R.gv
  have z1 := hgv.a1; have z2 := hgv.a2; have z3 := hgv.h1; have z4 := hgv.h2
  have hw := within_okG hgv.sz h1 h2 h3 h4
  have hgb := gv_bd hgv hw h1 h2 h3 h4
  refine ret_enter Try.func30 rfl rfl rfl ?_
  have H0 := HS.start w
  refine cw_seq ?_
  refine cw_reg ?_
  refine reg_op (op_box (cs := [.int _ _, .int _ _, .int _ _, .int _ _]) H0 rfl rfl rfl) rfl rfl ?_
  rintro _ w2 ⟨b1, rfl, H3⟩
  refine ry (y_asg rfl rfl) rfl rfl ?_
  refine ry (y_asg rfl rfl) rfl rfl ?_
  refine reg_nil ?_
  refine fn_next ?_
  refine cw_seq ?_
  refine cw_reg ?_
  refine ry (y_mov rfl rfl) rfl rfl ?_
  refine ry (y_ldb (i := 0) (cs := [_, _, _, _]) H3 rfl rfl kfturn2_8 rfl rfl) rfl rfl ?_
  refine reg_op (op_call (gValues g a h (V) p0 q0 p1 q1 _ (R.below H3.base)) rfl kfturn2_9 ⟨rfl, rfl, trivial⟩) rfl rfl ?_
  rintro _ w5 ⟨A7, c8, rfl, k4⟩
  have H6 := H3.call k4
  refine ry (y_mov rfl rfl) rfl rfl ?_
  refine ry (y_ext rfl rfl rfl) rfl rfl ?_
  refine ry (y_ext rfl rfl rfl) rfl rfl ?_
  refine ry (y_asg rfl rfl) rfl rfl ?_
  refine ry (y_asg rfl rfl) rfl rfl ?_
  refine reg_nil ?_
  refine fn_next ?_
  refine cw_seq ?_
  refine cw_seq ?_
  refine cw_reg ?_
  refine ry (y_mov rfl rfl) rfl rfl ?_
  refine ry (y_neq rfl rfl rfl) rfl rfl ?_
  refine reg_nil ?_
  refine fn_next ?_
  refine cw_condd rfl (fun h9 => ?_) (fun h9 => ?_)
  · exact absurd hw h9
  · skip
    refine cw_skip ?_
    refine fn_next ?_
    refine cw_seq ?_
    refine cw_reg ?_
    refine ry (y_fa rfl rfl kfturn2_10 rfl) rfl rfl ?_
    refine ry (y_ld rfl rfl kfturn2_2 (H6.cell (i := 1) rfl rfl)) rfl rfl ?_
    refine ry (y_fa rfl rfl kfturn2_11 rfl) rfl rfl ?_
    refine ry (y_ld rfl rfl kfturn2_2 (H6.cell (i := 1) rfl rfl)) rfl rfl ?_
    refine ry (y_sub rfl rfl rfl (wi (by omega))) rfl rfl ?_
    refine ry (y_add rfl rfl rfl (show _ = ((p1 + 1 - p0 : Nat) : Int) from (wi (by omega)).trans (by omega))) rfl rfl ?_
    refine ry (y_fa rfl rfl kfturn2_12 rfl) rfl rfl ?_
    refine ry (y_ld rfl rfl kfturn2_2 (H6.cell (i := 1) rfl rfl)) rfl rfl ?_
    refine ry (y_fa rfl rfl kfturn2_13 rfl) rfl rfl ?_
    refine ry (y_ld rfl rfl kfturn2_2 (H6.cell (i := 1) rfl rfl)) rfl rfl ?_
    refine ry (y_sub rfl rfl rfl (wi (by omega))) rfl rfl ?_
    refine ry (y_add rfl rfl rfl (show _ = ((q1 + 1 - q0 : Nat) : Int) from (wi (by omega)).trans (by omega))) rfl rfl ?_
    refine ry (y_mov rfl rfl) rfl rfl ?_
    refine reg_op (op_call (gFrom_ok (p1 + 1 - p0) (q1 + 1 - q0) (gvalV V a h p0 q0 p1 q1) _ _ _ _ (H6.rd (i := 0) rfl) rfl (by have := gvalV_le (V := V) (x0 := p0) (y0 := q0) (x1 := p1) (y1 := q1) hgv.sz; omega) ⟨by omega, by omega, by omega, by omega⟩ (fromC_ok ⟨by omega, by omega, by omega, by omega⟩ hgb.1 hgb.2)) rfl kfturn2_14 ⟨rfl, rfl, rfl, trivial⟩) rfl rfl ?_
    rintro _ w11 ⟨g13, bl14, rfl, k10⟩
    have H12 := H6.call k10
    refine ry (y_ext rfl rfl rfl) rfl rfl ?_
    refine ry (y_ext rfl rfl rfl) rfl rfl ?_
    refine ry (y_asg rfl rfl) rfl rfl ?_
    refine ry (y_asg rfl rfl) rfl rfl ?_
    refine reg_nil ?_
    refine fn_next ?_
    refine cw_ret ?_
    refine fn_retn (vs := [_, _]) rfl ⟨rfl, rfl, trivial⟩ rfl ?_
    exact ⟨_, _, rfl, (H12.pick (m := [_]) [0] rfl (by decide))⟩

set_option maxRecDepth 100000 in
theorem gJoined_no (g g2 : Nat) (p q x y : Int) (w : World) (hp : I6 p) (hq : I6 q) (s : ¬ (1 ≤ p ∧ p ≤ 1024 ∧ 1 ≤ q ∧ q ≤ 1024)) :
    Ret Try.prog 85 [.pointer (some ⟨g, 0, none⟩), .pointer (some ⟨g2, 0, none⟩), .int .i64 p, .int .i64 q, .agg #[.int .i64 x, .int .i64 y]] w (fun z w' => z = .tuple #[.pointer none, .int .i64 (3)] ∧ Below w.heap.size w w') := by
  refine ret_enter Try.func85 rfl rfl rfl ?_
  have H0 := HS.start w
  refine cw_seq ?_
  refine cw_reg ?_
  refine reg_op (op_box (cs := [.int _ _, .int _ _]) H0 rfl rfl rfl) rfl rfl ?_
  rintro _ w2 ⟨b1, rfl, H3⟩
  refine ry (y_asg rfl rfl) rfl rfl ?_
  refine ry (y_asg rfl rfl) rfl rfl ?_
  refine reg_nil ?_
  refine fn_next ?_
  refine cw_seq ?_
  refine cw_reg ?_
  refine ry (y_mov rfl rfl) rfl rfl ?_
  refine ry (y_mov rfl rfl) rfl rfl ?_
  refine reg_op (op_call (ret_v (gNew_sz p q 0 _ hp hq s) (by unfold gnewC; rw [if_neg s])) rfl kfturn2_15 ⟨rfl, rfl, rfl, trivial⟩) rfl rfl ?_
  rintro _ w5 ⟨rfl, e4⟩
  have H6 := H3.ext e4
  refine ry (y_mov rfl rfl) rfl rfl ?_
  refine ry (y_ext rfl rfl rfl) rfl rfl ?_
  refine ry (y_ext rfl rfl rfl) rfl rfl ?_
  refine ry (y_asg rfl rfl) rfl rfl ?_
  refine ry (y_asg rfl rfl) rfl rfl ?_
  refine reg_nil ?_
  refine fn_next ?_
  refine cw_seq ?_
  refine cw_seq ?_
  refine cw_reg ?_
  refine ry (y_mov rfl rfl) rfl rfl ?_
  refine ry (y_neq rfl rfl rfl) rfl rfl ?_
  refine reg_nil ?_
  refine fn_next ?_
  refine cw_condd rfl (fun h7 => ?_) (fun h7 => ?_)
  · skip
    refine cw_seq ?_
    refine cw_reg ?_
    refine ry (y_mov rfl rfl) rfl rfl ?_
    refine ry (y_asg rfl rfl) rfl rfl ?_
    refine ry (y_asg rfl rfl) rfl rfl ?_
    refine reg_nil ?_
    refine fn_next ?_
    refine cw_ret ?_
    refine fn_then_ret ?_
    refine fn_retn (vs := [_, _]) rfl ⟨rfl, rfl, trivial⟩ rfl ?_
    exact ⟨rfl, H6.base⟩
  · exact absurd (by decide) h7

theorem pasteC_part {p q a h x y : Nat} {V : List Int} (s : SzG p q) (G : GV a h V) (hx : x + a ≤ p) (hy : y + h ≤ q) : pasteC p q x y ((x : Int) + a - 1) ((y : Int) + h - 1) V = 0 := by
  have z1 := G.a1; have z2 := G.a2; have z3 := G.h1; have z4 := G.h2
  obtain ⟨s1, s2, s3, s4⟩ := id s
  have e1 : (x : Int) + a - 1 = ((x + a - 1 : Nat) : Int) := by omega
  have e2 : (y : Int) + h - 1 = ((y + h - 1 : Nat) : Int) := by omega
  rw [e1, e2]
  refine pasteC_ok (within_okG s (by omega) (by omega) (by omega) (by omega)) ?_ G.bd
  rw [areaI_nat (by omega) (by omega) (by omega) (by omega), G.len, show y + h - 1 + 1 - y = h by omega, show x + a - 1 + 1 - x = a by omega, Nat.mul_comm]

set_option maxRecDepth 100000 in
set_option maxHeartbeats 2000000 in
theorem gJoined_ok (g a h : Nat) (V : List Int) (g2 a2 h2 : Nat) (V2 : List Int) (p q x y : Nat) (w : World) (R : GRd w g a h V) (R2 : GRd w g2 a2 h2 V2) (s : SzG p q) (hx : x + a2 ≤ p) (hy : y + h2 ≤ q) (ha : a ≤ p) (hh : h ≤ q) :
    Ret Try.prog 85 [.pointer (some ⟨g, 0, none⟩), .pointer (some ⟨g2, 0, none⟩), .int .i64 (p : Int), .int .i64 (q : Int), .agg #[.int .i64 (x : Int), .int .i64 (y : Int)]] w (fun z w' => ∃ g' bl, z = .tuple #[.pointer (some ⟨g', 0, none⟩), .int .i64 0] ∧ HS w w' [gOb g' p q (layV (layV (List.replicate (p * q) 0) p 0 0 ((a : Int) - 1) ((h : Int) - 1) V) p x y ((x : Int) + a2 - 1) ((y : Int) + h2 - 1) V2) bl]) := by
  have hgv := R.gv; have z1 := hgv.a1; have z2 := hgv.a2; have z3 := hgv.h1; have z4 := hgv.h2
  have hgv2 := R2.gv; have y1 := hgv2.a1; have y2 := hgv2.a2; have y3 := hgv2.h1; have y4 := hgv2.h2
  obtain ⟨s1, s2, s3, s4⟩ := id s
  have hm1 := hgv.sz.mul; have hm2 := hgv2.sz.mul
  have pc1 : pasteC p q 0 0 ((a : Int) - 1) ((h : Int) - 1) V = 0 := by have := pasteC_part (x := 0) (y := 0) s hgv (by omega) (by omega); simpa using this
  have pc2 : pasteC p q x y ((x : Int) + a2 - 1) ((y : Int) + h2 - 1) V2 = 0 := pasteC_part s hgv2 (by omega) (by omega)
  refine ret_enter Try.func85 rfl rfl rfl ?_
  have H0 := HS.start w
  refine cw_seq ?_
  refine cw_reg ?_
  refine reg_op (op_box (cs := [.int _ _, .int _ _]) H0 rfl rfl rfl) rfl rfl ?_
  rintro _ w2 ⟨b1, rfl, H3⟩
  refine ry (y_asg rfl rfl) rfl rfl ?_
  refine ry (y_asg rfl rfl) rfl rfl ?_
  refine reg_nil ?_
  refine fn_next ?_
  refine cw_seq ?_
  refine cw_reg ?_
  refine ry (y_mov rfl rfl) rfl rfl ?_
  refine ry (y_mov rfl rfl) rfl rfl ?_
  refine reg_op (op_call (gNew_ok p q 0 _ (s) (by decide)) rfl kfturn2_15 ⟨rfl, rfl, rfl, trivial⟩) rfl rfl ?_
  rintro _ w5 ⟨g7, bl8, rfl, k4⟩
  have H6 := H3.call k4
  refine ry (y_mov rfl rfl) rfl rfl ?_
  refine ry (y_ext rfl rfl rfl) rfl rfl ?_
  refine ry (y_ext rfl rfl rfl) rfl rfl ?_
  refine ry (y_asg rfl rfl) rfl rfl ?_
  refine ry (y_asg rfl rfl) rfl rfl ?_
  refine reg_nil ?_
  refine fn_next ?_
  refine cw_seq ?_
  refine cw_seq ?_
  refine cw_reg ?_
  refine ry (y_mov rfl rfl) rfl rfl ?_
  refine ry (y_neq rfl rfl rfl) rfl rfl ?_
  refine reg_nil ?_
  refine fn_next ?_
  refine cw_condd rfl (fun h9 => ?_) (fun h9 => ?_)
  · exact absurd rfl h9
  · skip
    refine cw_skip ?_
    refine fn_next ?_
    refine cw_seq ?_
    refine cw_seq ?_
    refine cw_reg ?_
    refine ry (y_mov rfl rfl) rfl rfl ?_
    refine ry (y_build (places := [(0, 1), (1, 1)]) (parts := []) (vs := []) (cs := [.int _ _, .int _ _]) rfl Try.underlying46 (by kernel_rfl) kfturn2_1 rfl trivial rfl) rfl rfl ?_
    refine ry (y_build (places := [(0, 1), (1, 2)]) (parts := [(0, _), (1, _)]) (vs := [(0, _), (1, _)]) (cs := [.pointer _, .int _ _, .int _ _]) rfl Try.underlying157 (by kernel_rfl) kfturn2_16 rfl ⟨rfl, rfl, trivial⟩ rfl) rfl rfl ?_
    refine ry (y_mov rfl rfl) rfl rfl ?_
    refine ry (y_ldb (i := 1) (cs := [_, _]) H6 rfl rfl kfturn2_4 rfl rfl) rfl rfl ?_
    refine ry (y_build (places := [(0, 1), (1, 2)]) (parts := [(0, _), (1, _)]) (vs := [(0, _), (1, _)]) (cs := [.pointer _, .int _ _, .int _ _]) rfl Try.underlying157 (by kernel_rfl) kfturn2_16 rfl ⟨rfl, rfl, trivial⟩ rfl) rfl rfl ?_
    refine ry (y_builda (parts := [(0, _), (1, _)]) (vs := [(0, _), (1, _)]) (cs := [.pointer _, .int _ _, .int _ _, .pointer _, .int _ _, .int _ _]) rfl Try.underlying158 kfturn2_18 kfturn2_17 rfl ⟨rfl, rfl, trivial⟩ rfl) rfl rfl ?_
    refine ry (y_mov rfl rfl) rfl rfl ?_
    refine reg_nil ?_
    refine fn_next ?_
    refine cw_block ?_
    refine cw_loopR 3 ?_
    refine cw_seq ?_
    refine cw_reg ?_
    refine ry (y_lss rfl rfl rfl) rfl rfl ?_
    refine reg_nil ?_
    refine fn_next ?_
    refine cw_seq ?_
    refine cw_condd rfl (fun h10 => ?_) (fun h10 => ?_)
    · skip
      refine cw_skip ?_
      refine fn_next ?_
      refine cw_seq ?_
      refine cw_block ?_
      refine cw_seq ?_
      refine cw_reg ?_
      refine ry (y_index (i := 0) (es := [.pointer _, .int _ _, .int _ _]) rfl Try.underlying158 rfl rfl (rfl) (by decide) kfturn2_19 rfl) rfl rfl ?_
      refine reg_op (op_alloc H6 rfl kfturn2_16) rfl rfl ?_
      rintro _ w12 ⟨b11, rfl, H13⟩
      refine reg_op (op_st (i := 0) (vs := [.pointer _, .int _ _, .int _ _]) H13 rfl rfl rfl rfl rfl kfturn2_18 rfl rfl rfl) rfl rfl ?_
      rintro _ w14 H15
      refine reg_nil ?_
      refine fn_next ?_
      refine cw_seq ?_
      refine cw_drawT H15 [0, 1, 2, 3, 4] (.step 5 (.step 6 (.alt (.step 7 (.alt (.step 8 (.step 9 (.step 10 (.leaf)))) (.step 9 (.step 8 (.step 10 (.leaf)))))) (.step 8 (.step 7 (.step 9 (.step 10 (.leaf)))))))) (fun X HX => HX) (by kernel_rfl) (by kernel_rfl) (by rfl) ?_
      simp only [pick, List.getElem?_cons_succ, List.getElem?_cons_zero]
      refine hk_y (fun Y HY => y_fa rfl rfl kfturn2_20 rfl) rfl rfl ?_
      refine hk_y (fun Y HY => y_ld rfl rfl kfturn2_21 (HY.cell (i := 0) rfl rfl)) rfl rfl ?_
      refine hk_y (fun Y HY => y_fa rfl rfl kfturn2_20 rfl) rfl rfl ?_
      refine hk_y (fun Y HY => y_ld rfl rfl kfturn2_21 (HY.cell (i := 0) rfl rfl)) rfl rfl ?_
      refine hk_q (qy_call (fun Y HY => gAll g a h (V)  _ (R.below HY.base)) rfl kfturn2_22 ⟨rfl, trivial⟩) rfl rfl ?_
      refine hkt_nil [16, 17, 39, 45, 46, 47] (fun M wl => ∃ (A' : Option Addr) (cap' : Nat), M = [(16, .slice A' (a * h) cap')] ∧ HS w wl [Ob.row A' (a * h) cap' (vi .i64 (V)) 2 1, Ob.blk b11 [.pointer (some ⟨g, 0, none⟩), .int .i64 0, .int .i64 0] 157, gOb g7 p q (List.replicate (p * q) 0) bl8]) (fun wX HX => ?_) ?_
      · skip
        refine tt_op rfl (op_call (gValuesAll g a h (V) _ (R.below HX.base)) rfl kfturn2_9 ⟨rfl, rfl, trivial⟩) rfl rfl ?_
        rintro _ w17 ⟨A19, c20, rfl, k16⟩
        have H18 := HX.call k16
        refine ⟨(H18.pick (m := [_, _, _]) [1, 2, 3] rfl (by decide)), fun w21 e23 => ?_⟩
        have H22 := H18.ext e23
        refine tt_op rfl (Yd.op (y_mov rfl rfl)) rfl rfl ?_
        rintro _ _ ⟨rfl, rfl⟩
        refine ⟨(H22.pick (m := [_, _, _]) [1, 2, 3] rfl (by decide)), fun w24 e26 => ?_⟩
        have H25 := H22.ext e26
        refine tt_alt ?_ ?_
        · skip
          refine tt_op rfl (Yd.op (y_ext rfl rfl rfl)) rfl rfl ?_
          rintro _ _ ⟨rfl, rfl⟩
          refine ⟨(H25.pick (m := [_, _, _]) [1, 2, 3] rfl (by decide)), fun w27 e29 => ?_⟩
          have H28 := H25.ext e29
          refine tt_alt ?_ ?_
          · skip
            refine tt_op rfl (Yd.op (y_ext rfl rfl rfl)) rfl rfl ?_
            rintro _ _ ⟨rfl, rfl⟩
            refine ⟨(H28.pick (m := [_, _, _]) [1, 2, 3] rfl (by decide)), fun w30 e32 => ?_⟩
            have H31 := H28.ext e32
            refine tt_op rfl (Yd.op (y_asg rfl rfl)) rfl rfl ?_
            rintro _ _ ⟨rfl, rfl⟩
            refine ⟨(H31.pick (m := [_, _, _]) [1, 2, 3] rfl (by decide)), fun w33 e35 => ?_⟩
            have H34 := H31.ext e35
            refine tt_op rfl (Yd.op (y_asg rfl rfl)) rfl rfl ?_
            rintro _ _ ⟨rfl, rfl⟩
            refine ⟨(H34.pick (m := [_, _, _]) [1, 2, 3] rfl (by decide)), fun w36 e38 => ?_⟩
            have H37 := H34.ext e38
            exact tt_leaf ⟨A19, c20, rfl, (H37.pick (m := [_, _, _]) [0, 1, 2] rfl (by decide))⟩ ⟨rfl, trivial⟩ (by repeat (first | exact kp_refl | refine kp_app rfl rfl ?_ | refine kp_cons rfl ?_))
          refine tt_op rfl (Yd.op (y_asg rfl rfl)) rfl rfl ?_
          rintro _ _ ⟨rfl, rfl⟩
          refine ⟨(H28.pick (m := [_, _, _]) [1, 2, 3] rfl (by decide)), fun w39 e41 => ?_⟩
          have H40 := H28.ext e41
          refine tt_op rfl (Yd.op (y_ext rfl rfl rfl)) rfl rfl ?_
          rintro _ _ ⟨rfl, rfl⟩
          refine ⟨(H40.pick (m := [_, _, _]) [1, 2, 3] rfl (by decide)), fun w42 e44 => ?_⟩
          have H43 := H40.ext e44
          refine tt_op rfl (Yd.op (y_asg rfl rfl)) rfl rfl ?_
          rintro _ _ ⟨rfl, rfl⟩
          refine ⟨(H43.pick (m := [_, _, _]) [1, 2, 3] rfl (by decide)), fun w45 e47 => ?_⟩
          have H46 := H43.ext e47
          exact tt_leaf ⟨A19, c20, rfl, (H46.pick (m := [_, _, _]) [0, 1, 2] rfl (by decide))⟩ ⟨rfl, trivial⟩ (by repeat (first | exact kp_refl | refine kp_app rfl rfl ?_ | refine kp_cons rfl ?_))
        refine tt_op rfl (Yd.op (y_ext rfl rfl rfl)) rfl rfl ?_
        rintro _ _ ⟨rfl, rfl⟩
        refine ⟨(H25.pick (m := [_, _, _]) [1, 2, 3] rfl (by decide)), fun w48 e50 => ?_⟩
        have H49 := H25.ext e50
        refine tt_op rfl (Yd.op (y_ext rfl rfl rfl)) rfl rfl ?_
        rintro _ _ ⟨rfl, rfl⟩
        refine ⟨(H49.pick (m := [_, _, _]) [1, 2, 3] rfl (by decide)), fun w51 e53 => ?_⟩
        have H52 := H49.ext e53
        refine tt_op rfl (Yd.op (y_asg rfl rfl)) rfl rfl ?_
        rintro _ _ ⟨rfl, rfl⟩
        refine ⟨(H52.pick (m := [_, _, _]) [1, 2, 3] rfl (by decide)), fun w54 e56 => ?_⟩
        have H55 := H52.ext e56
        refine tt_op rfl (Yd.op (y_asg rfl rfl)) rfl rfl ?_
        rintro _ _ ⟨rfl, rfl⟩
        refine ⟨(H55.pick (m := [_, _, _]) [1, 2, 3] rfl (by decide)), fun w57 e59 => ?_⟩
        have H58 := H55.ext e59
        exact tt_leaf ⟨A19, c20, rfl, (H58.pick (m := [_, _, _]) [0, 1, 2] rfl (by decide))⟩ ⟨rfl, trivial⟩ (by repeat (first | exact kp_refl | refine kp_app rfl rfl ?_ | refine kp_cons rfl ?_))
      · skip
        rintro M w61 ⟨A', cap', rfl, H60⟩
        refine fn_next ?_
        refine cw_seq ?_
        refine cw_reg ?_
        refine ry (y_fa rfl rfl kfturn2_20 rfl) rfl rfl ?_
        refine ry (y_ld rfl rfl kfturn2_21 (H60.cell (i := 1) rfl rfl)) rfl rfl ?_
        refine reg_op (op_call (gSize g a h (V)  _ (R.below H60.base)) rfl kfturn2_5 ⟨rfl, trivial⟩) rfl rfl ?_
        rintro _ w63 ⟨rfl, e62⟩
        have H64 := H60.ext e62
        refine ry (y_mov rfl rfl) rfl rfl ?_
        refine ry (y_ext rfl rfl rfl) rfl rfl ?_
        refine ry (y_ext rfl rfl rfl) rfl rfl ?_
        refine ry (y_asg rfl rfl) rfl rfl ?_
        refine ry (y_asg rfl rfl) rfl rfl ?_
        refine reg_nil ?_
        refine fn_next ?_
        refine cw_reg ?_
        refine ry (y_mov rfl rfl) rfl rfl ?_
        refine ry (y_fa rfl rfl kfturn2_23 rfl) rfl rfl ?_
        refine ry (y_fa rfl rfl kfturn2_24 rfl) rfl rfl ?_
        refine ry (y_ld rfl rfl kfturn2_2 (H64.cell (i := 1) rfl rfl)) rfl rfl ?_
        refine ry (y_fa rfl rfl kfturn2_23 rfl) rfl rfl ?_
        refine ry (y_fa rfl rfl kfturn2_25 rfl) rfl rfl ?_
        refine ry (y_ld rfl rfl kfturn2_2 (H64.cell (i := 1) rfl rfl)) rfl rfl ?_
        refine ry (y_fa rfl rfl kfturn2_23 rfl) rfl rfl ?_
        refine ry (y_fa rfl rfl kfturn2_24 rfl) rfl rfl ?_
        refine ry (y_ld rfl rfl kfturn2_2 (H64.cell (i := 1) rfl rfl)) rfl rfl ?_
        refine ry (y_mov rfl rfl) rfl rfl ?_
        refine ry (y_add rfl rfl rfl (wi (by omega))) rfl rfl ?_
        refine ry (y_sub rfl rfl rfl ((wi (show _ by omega)).trans (show _ = (a : Int) - 1 by omega))) rfl rfl ?_
        refine ry (y_fa rfl rfl kfturn2_23 rfl) rfl rfl ?_
        refine ry (y_fa rfl rfl kfturn2_25 rfl) rfl rfl ?_
        refine ry (y_ld rfl rfl kfturn2_2 (H64.cell (i := 1) rfl rfl)) rfl rfl ?_
        refine ry (y_mov rfl rfl) rfl rfl ?_
        refine ry (y_add rfl rfl rfl (wi (by omega))) rfl rfl ?_
        refine ry (y_sub rfl rfl rfl ((wi (show _ by omega)).trans (show _ = (h : Int) - 1 by omega))) rfl rfl ?_
        refine ry (y_build (places := [(0, 1), (1, 1), (2, 1), (3, 1)]) (parts := [(0, _), (1, _), (2, _), (3, _)]) (vs := [(0, _), (1, _), (2, _), (3, _)]) (cs := [.int _ _, .int _ _, .int _ _, .int _ _]) rfl Try.underlying55 (by kernel_rfl) kfturn2_26 rfl ⟨rfl, rfl, rfl, rfl, trivial⟩ rfl) rfl rfl ?_
        refine ry (y_mov rfl rfl) rfl rfl ?_
        refine reg_op (op_call (gPaste w _ g7 p q (List.replicate (p * q) 0) bl8 0 0 ((a : Int) - 1) ((h : Int) - 1) V _ (a * h) _ _ (fun Z hZ => hZ.rd (i := 0) rfl) hgv.len (by omega) (H64.pick (m := [_, _, _]) [2, 0, 1] rfl (by decide))) rfl kfturn2_27 ⟨rfl, rfl, rfl, trivial⟩) rfl rfl ?_
        rintro _ w66 ⟨bl67, rfl, H65⟩
        rw [pasteV_ok pc1] at H65
        refine reg_nil ?_
        refine fn_block ?_
        refine fn_next ?_
        refine cw_reg ?_
        refine ry (y_add rfl rfl rfl (wi (by omega))) rfl rfl ?_
        refine ry (y_mov rfl rfl) rfl rfl ?_
        refine reg_nil ?_
        refine fn_roundR ?_
        refine cw_seq ?_
        refine cw_reg ?_
        refine ry (y_lss rfl rfl rfl) rfl rfl ?_
        refine reg_nil ?_
        refine fn_next ?_
        refine cw_seq ?_
        refine cw_condd rfl (fun h68 => ?_) (fun h68 => ?_)
        · skip
          refine cw_skip ?_
          refine fn_next ?_
          refine cw_seq ?_
          refine cw_block ?_
          refine cw_seq ?_
          refine cw_reg ?_
          refine ry (y_index (i := 1) (es := [.pointer _, .int _ _, .int _ _]) rfl Try.underlying158 rfl rfl (rfl) (by decide) kfturn2_19 rfl) rfl rfl ?_
          refine reg_op (op_alloc H65 rfl kfturn2_16) rfl rfl ?_
          rintro _ w70 ⟨b69, rfl, H71⟩
          refine reg_op (op_st (i := 0) (vs := [.pointer _, .int _ _, .int _ _]) H71 rfl rfl rfl rfl rfl kfturn2_18 rfl rfl rfl) rfl rfl ?_
          rintro _ w72 H73
          refine reg_nil ?_
          refine fn_next ?_
          refine cw_seq ?_
          refine cw_drawT H73 [0, 1, 2, 3, 4] (.step 5 (.step 6 (.alt (.step 7 (.alt (.step 8 (.step 9 (.step 10 (.leaf)))) (.step 9 (.step 8 (.step 10 (.leaf)))))) (.step 8 (.step 7 (.step 9 (.step 10 (.leaf)))))))) (fun X HX => HX) (by kernel_rfl) (by kernel_rfl) (by rfl) ?_
          simp only [pick, List.getElem?_cons_succ, List.getElem?_cons_zero]
          refine hk_y (fun Y HY => y_fa rfl rfl kfturn2_20 rfl) rfl rfl ?_
          refine hk_y (fun Y HY => y_ld rfl rfl kfturn2_21 (HY.cell (i := 0) rfl rfl)) rfl rfl ?_
          refine hk_y (fun Y HY => y_fa rfl rfl kfturn2_20 rfl) rfl rfl ?_
          refine hk_y (fun Y HY => y_ld rfl rfl kfturn2_21 (HY.cell (i := 0) rfl rfl)) rfl rfl ?_
          refine hk_q (qy_call (fun Y HY => gAll g2 a2 h2 (V2)  _ (R2.below HY.base)) rfl kfturn2_22 ⟨rfl, trivial⟩) rfl rfl ?_
          refine hkt_nil [16, 17, 39, 45, 46, 47] (fun M wl => ∃ (A' : Option Addr) (cap' : Nat), M = [(16, .slice A' (a2 * h2) cap')] ∧ HS w wl [Ob.row A' (a2 * h2) cap' (vi .i64 (V2)) 2 1, Ob.blk b69 [.pointer (some ⟨g2, 0, none⟩), .int .i64 (x : Int), .int .i64 (y : Int)] 157, gOb g7 p q (layV (List.replicate (p * q) 0) p 0 0 ((a : Int) - 1) ((h : Int) - 1) V) bl67]) (fun wX HX => ?_) ?_
          · skip
            refine tt_op rfl (op_call (gValuesAll g2 a2 h2 (V2) _ (R2.below HX.base)) rfl kfturn2_9 ⟨rfl, rfl, trivial⟩) rfl rfl ?_
            rintro _ w75 ⟨A77, c78, rfl, k74⟩
            have H76 := HX.call k74
            refine ⟨(H76.pick (m := [_, _, _, _]) [1, 2, 3, 4] rfl (by decide)), fun w79 e81 => ?_⟩
            have H80 := H76.ext e81
            refine tt_op rfl (Yd.op (y_mov rfl rfl)) rfl rfl ?_
            rintro _ _ ⟨rfl, rfl⟩
            refine ⟨(H80.pick (m := [_, _, _, _]) [1, 2, 3, 4] rfl (by decide)), fun w82 e84 => ?_⟩
            have H83 := H80.ext e84
            refine tt_alt ?_ ?_
            · skip
              refine tt_op rfl (Yd.op (y_ext rfl rfl rfl)) rfl rfl ?_
              rintro _ _ ⟨rfl, rfl⟩
              refine ⟨(H83.pick (m := [_, _, _, _]) [1, 2, 3, 4] rfl (by decide)), fun w85 e87 => ?_⟩
              have H86 := H83.ext e87
              refine tt_alt ?_ ?_
              · skip
                refine tt_op rfl (Yd.op (y_ext rfl rfl rfl)) rfl rfl ?_
                rintro _ _ ⟨rfl, rfl⟩
                refine ⟨(H86.pick (m := [_, _, _, _]) [1, 2, 3, 4] rfl (by decide)), fun w88 e90 => ?_⟩
                have H89 := H86.ext e90
                refine tt_op rfl (Yd.op (y_asg rfl rfl)) rfl rfl ?_
                rintro _ _ ⟨rfl, rfl⟩
                refine ⟨(H89.pick (m := [_, _, _, _]) [1, 2, 3, 4] rfl (by decide)), fun w91 e93 => ?_⟩
                have H92 := H89.ext e93
                refine tt_op rfl (Yd.op (y_asg rfl rfl)) rfl rfl ?_
                rintro _ _ ⟨rfl, rfl⟩
                refine ⟨(H92.pick (m := [_, _, _, _]) [1, 2, 3, 4] rfl (by decide)), fun w94 e96 => ?_⟩
                have H95 := H92.ext e96
                exact tt_leaf ⟨A77, c78, rfl, (H95.pick (m := [_, _, _]) [0, 1, 2] rfl (by decide))⟩ ⟨rfl, trivial⟩ (by repeat (first | exact kp_refl | refine kp_app rfl rfl ?_ | refine kp_cons rfl ?_))
              refine tt_op rfl (Yd.op (y_asg rfl rfl)) rfl rfl ?_
              rintro _ _ ⟨rfl, rfl⟩
              refine ⟨(H86.pick (m := [_, _, _, _]) [1, 2, 3, 4] rfl (by decide)), fun w97 e99 => ?_⟩
              have H98 := H86.ext e99
              refine tt_op rfl (Yd.op (y_ext rfl rfl rfl)) rfl rfl ?_
              rintro _ _ ⟨rfl, rfl⟩
              refine ⟨(H98.pick (m := [_, _, _, _]) [1, 2, 3, 4] rfl (by decide)), fun w100 e102 => ?_⟩
              have H101 := H98.ext e102
              refine tt_op rfl (Yd.op (y_asg rfl rfl)) rfl rfl ?_
              rintro _ _ ⟨rfl, rfl⟩
              refine ⟨(H101.pick (m := [_, _, _, _]) [1, 2, 3, 4] rfl (by decide)), fun w103 e105 => ?_⟩
              have H104 := H101.ext e105
              exact tt_leaf ⟨A77, c78, rfl, (H104.pick (m := [_, _, _]) [0, 1, 2] rfl (by decide))⟩ ⟨rfl, trivial⟩ (by repeat (first | exact kp_refl | refine kp_app rfl rfl ?_ | refine kp_cons rfl ?_))
            refine tt_op rfl (Yd.op (y_ext rfl rfl rfl)) rfl rfl ?_
            rintro _ _ ⟨rfl, rfl⟩
            refine ⟨(H83.pick (m := [_, _, _, _]) [1, 2, 3, 4] rfl (by decide)), fun w106 e108 => ?_⟩
            have H107 := H83.ext e108
            refine tt_op rfl (Yd.op (y_ext rfl rfl rfl)) rfl rfl ?_
            rintro _ _ ⟨rfl, rfl⟩
            refine ⟨(H107.pick (m := [_, _, _, _]) [1, 2, 3, 4] rfl (by decide)), fun w109 e111 => ?_⟩
            have H110 := H107.ext e111
            refine tt_op rfl (Yd.op (y_asg rfl rfl)) rfl rfl ?_
            rintro _ _ ⟨rfl, rfl⟩
            refine ⟨(H110.pick (m := [_, _, _, _]) [1, 2, 3, 4] rfl (by decide)), fun w112 e114 => ?_⟩
            have H113 := H110.ext e114
            refine tt_op rfl (Yd.op (y_asg rfl rfl)) rfl rfl ?_
            rintro _ _ ⟨rfl, rfl⟩
            refine ⟨(H113.pick (m := [_, _, _, _]) [1, 2, 3, 4] rfl (by decide)), fun w115 e117 => ?_⟩
            have H116 := H113.ext e117
            exact tt_leaf ⟨A77, c78, rfl, (H116.pick (m := [_, _, _]) [0, 1, 2] rfl (by decide))⟩ ⟨rfl, trivial⟩ (by repeat (first | exact kp_refl | refine kp_app rfl rfl ?_ | refine kp_cons rfl ?_))
          · skip
            rintro M w119 ⟨A', cap', rfl, H118⟩
            refine fn_next ?_
            refine cw_seq ?_
            refine cw_reg ?_
            refine ry (y_fa rfl rfl kfturn2_20 rfl) rfl rfl ?_
            refine ry (y_ld rfl rfl kfturn2_21 (H118.cell (i := 1) rfl rfl)) rfl rfl ?_
            refine reg_op (op_call (gSize g2 a2 h2 (V2)  _ (R2.below H118.base)) rfl kfturn2_5 ⟨rfl, trivial⟩) rfl rfl ?_
            rintro _ w121 ⟨rfl, e120⟩
            have H122 := H118.ext e120
            refine ry (y_mov rfl rfl) rfl rfl ?_
            refine ry (y_ext rfl rfl rfl) rfl rfl ?_
            refine ry (y_ext rfl rfl rfl) rfl rfl ?_
            refine ry (y_asg rfl rfl) rfl rfl ?_
            refine ry (y_asg rfl rfl) rfl rfl ?_
            refine reg_nil ?_
            refine fn_next ?_
            refine cw_reg ?_
            refine ry (y_mov rfl rfl) rfl rfl ?_
            refine ry (y_fa rfl rfl kfturn2_23 rfl) rfl rfl ?_
            refine ry (y_fa rfl rfl kfturn2_24 rfl) rfl rfl ?_
            refine ry (y_ld rfl rfl kfturn2_2 (H122.cell (i := 1) rfl rfl)) rfl rfl ?_
            refine ry (y_fa rfl rfl kfturn2_23 rfl) rfl rfl ?_
            refine ry (y_fa rfl rfl kfturn2_25 rfl) rfl rfl ?_
            refine ry (y_ld rfl rfl kfturn2_2 (H122.cell (i := 1) rfl rfl)) rfl rfl ?_
            refine ry (y_fa rfl rfl kfturn2_23 rfl) rfl rfl ?_
            refine ry (y_fa rfl rfl kfturn2_24 rfl) rfl rfl ?_
            refine ry (y_ld rfl rfl kfturn2_2 (H122.cell (i := 1) rfl rfl)) rfl rfl ?_
            refine ry (y_mov rfl rfl) rfl rfl ?_
            refine ry (y_add rfl rfl rfl (wi (by omega))) rfl rfl ?_
            refine ry (y_sub rfl rfl rfl (wi (by omega))) rfl rfl ?_
            refine ry (y_fa rfl rfl kfturn2_23 rfl) rfl rfl ?_
            refine ry (y_fa rfl rfl kfturn2_25 rfl) rfl rfl ?_
            refine ry (y_ld rfl rfl kfturn2_2 (H122.cell (i := 1) rfl rfl)) rfl rfl ?_
            refine ry (y_mov rfl rfl) rfl rfl ?_
            refine ry (y_add rfl rfl rfl (wi (by omega))) rfl rfl ?_
            refine ry (y_sub rfl rfl rfl (wi (by omega))) rfl rfl ?_
            refine ry (y_build (places := [(0, 1), (1, 1), (2, 1), (3, 1)]) (parts := [(0, _), (1, _), (2, _), (3, _)]) (vs := [(0, _), (1, _), (2, _), (3, _)]) (cs := [.int _ _, .int _ _, .int _ _, .int _ _]) rfl Try.underlying55 (by kernel_rfl) kfturn2_26 rfl ⟨rfl, rfl, rfl, rfl, trivial⟩ rfl) rfl rfl ?_
            refine ry (y_mov rfl rfl) rfl rfl ?_
            refine reg_op (op_call (gPaste w _ g7 p q (layV (List.replicate (p * q) 0) p 0 0 ((a : Int) - 1) ((h : Int) - 1) V) bl67 x y ((x : Int) + a2 - 1) ((y : Int) + h2 - 1) V2 _ (a2 * h2) _ _ (fun Z hZ => hZ.rd (i := 0) rfl) hgv2.len (by omega) (H122.pick (m := [_, _, _]) [2, 0, 1] rfl (by decide))) rfl kfturn2_27 ⟨rfl, rfl, rfl, trivial⟩) rfl rfl ?_
            rintro _ w124 ⟨bl125, rfl, H123⟩
            rw [pasteV_ok pc2] at H123
            refine reg_nil ?_
            refine fn_block ?_
            refine fn_next ?_
            refine cw_reg ?_
            refine ry (y_add rfl rfl rfl (wi (by omega))) rfl rfl ?_
            refine ry (y_mov rfl rfl) rfl rfl ?_
            refine reg_nil ?_
            refine fn_roundR ?_
            refine cw_seq ?_
            refine cw_reg ?_
            refine ry (y_lss rfl rfl rfl) rfl rfl ?_
            refine reg_nil ?_
            refine fn_next ?_
            refine cw_seq ?_
            refine cw_condd rfl (fun h126 => ?_) (fun h126 => ?_)
            · exact absurd h126 (by decide)
            · skip
              refine cw_exit ?_
              refine fn_then_exit (fn_then_exit (fn_block_exit ?_))
              refine fn_next ?_
              refine cw_seq ?_
              refine cw_reg ?_
              refine ry (y_mov rfl rfl) rfl rfl ?_
              refine ry (y_asg rfl rfl) rfl rfl ?_
              refine ry (y_asg rfl rfl) rfl rfl ?_
              refine reg_nil ?_
              refine fn_next ?_
              refine cw_ret ?_
              refine fn_retn (vs := [_, _]) rfl ⟨rfl, rfl, trivial⟩ rfl ?_
              exact ⟨_, _, rfl, (H123.pick (m := [_]) [0] rfl (by decide))⟩
        · exact absurd (by decide) h68
    · exact absurd (by decide) h10

end Go.Proofs.Ytbhmkpnihgjlnaa
