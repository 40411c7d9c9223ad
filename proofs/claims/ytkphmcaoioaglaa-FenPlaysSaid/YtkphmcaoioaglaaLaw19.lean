/- Layer 19: the reference, and the laws. -/
import Derived.Test.YtkphmcaoioaglaaFen1
import Derived.Test.YtkphmcaoioaglaaFlats
set_option linter.unusedVariables false
set_option linter.unusedSimpArgs false
namespace Go.Proofs.Ytkphmcaoioaglaa
open Go Go.RowKit
theorem kflaw19_1 : (Try.prog.info? 34).bind (fun i => i.zero.map Value.cells) = some (List.toArray [(.int .i64 0), (.int .i64 0), (.slice none 0 0)]) := by kernel_rfl
theorem kflaw19_2 : callB Try.prog 43 = true := by kernel_rfl
theorem kflaw19_3 : szB Try.prog 34 3 = true := by kernel_rfl
theorem kflaw19_4 : aggB Try.prog 34 3 = true := by kernel_rfl
theorem kflaw19_5 : aggB Try.prog 24 4 = true := by kernel_rfl
theorem kflaw19_6 : fldB Try.prog 34 0 0 = true := by kernel_rfl
theorem kflaw19_7 : oneB Try.prog 2 = true := by kernel_rfl
theorem kflaw19_8 : fldB Try.prog 34 1 1 = true := by kernel_rfl
theorem kflaw19_9 : callB Try.prog 81 = true := by kernel_rfl
theorem kflaw19_10 : callB Try.prog 47 = true := by kernel_rfl
theorem kflaw19_11 : elB Try.prog 32 1 = true := by kernel_rfl
theorem kflaw19_12 : aggB Try.prog 26 2 = true := by kernel_rfl
theorem kflaw19_13 : callB Try.prog 22 = true := by kernel_rfl
theorem kflaw19_14 : fldB Try.prog 34 2 2 = true := by kernel_rfl
theorem kflaw19_15 : oneB Try.prog 32 = true := by kernel_rfl
theorem kflaw19_16 : (Try.prog.info? 2).map (fun i => (i.size, i.zero.map Value.cells)) = some (1, some (List.toArray [(.int .i64 0)])) := by kernel_rfl
theorem kflaw19_17 : (Try.prog.info? 2).map (fun i => (i.zero.map (·.cells.toList), i.size, i.bytes)) = some (some [(.int .i64 0)], 1, 8) := by kernel_rfl
theorem kflaw19_18 : fldB Try.prog 26 1 1 = true := by kernel_rfl
theorem kflaw19_19 : fldB Try.prog 26 0 0 = true := by kernel_rfl
theorem kflaw19_20 : szB Try.prog 2 1 = true := by kernel_rfl
theorem pS_app {A B : List Int} : ∀ n, n ≤ B.length → pS (nth (A ++ B)) (A.length + n) = pS (nth A) A.length + pS (nth B) n
  | 0, _ => by
    have h : ∀ k, k ≤ A.length → pS (nth (A ++ B)) k = pS (nth A) k := fun k hk => pS_congr fun i hi => nth_app_lt (by omega)
    rw [Nat.add_zero, h _ (Nat.le_refl _)]
    simp [pS]
  | n + 1, hn => by
    rw [← Nat.add_assoc]
    simp only [pS]
    rw [pS_app n (by omega)]
    have : nth (A ++ B) (A.length + n) = nth B n := by
      unfold nth
      rw [List.getD_eq_getElem?_getD, List.getD_eq_getElem?_getD, List.getElem?_append_right (by omega)]
      congr 3; omega
    rw [this]; omega
theorem pS_row {V : List Int} {a x0 y : Nat} : ∀ n m, n ≤ m → pS (nth (rvRow V a x0 m y)) n = pS (fun i => cellV V a i y) (x0 + n) - pS (fun i => cellV V a i y) x0
  | 0, _, _ => by simp [pS]
  | n + 1, m, h => by
    rw [← Nat.add_assoc]
    simp only [pS]
    rw [pS_row n m (by omega)]
    have : nth (rvRow V a x0 m y) n = cellV V a (x0 + n) y := by
      unfold rvRow cellV; simp [nth, List.getD, show n < m by omega]
    rw [this]; omega
theorem pS_all {V : List Int} {a x0 y0 n : Nat} : ∀ k, pS (nth (rvAll V a x0 y0 n k)) (k * n) = rS V a x0 (x0 + n) y0 (y0 + k)
  | 0 => by simp [pS, rS]; omega
  | k + 1 => by
    have h1 := pS_app (A := rvAll V a x0 y0 n k) (B := rvRow V a x0 n (y0 + k)) n (by rw [rvRow_len]; exact Nat.le_refl _)
    rw [rvAll_len, pS_all k, pS_row n n (Nat.le_refl _)] at h1
    rw [Nat.succ_mul]
    show pS (nth (rvAll V a x0 y0 n k ++ rvRow V a x0 n (y0 + k))) (k * n + n) = _
    rw [h1]
    unfold rS
    rw [← Nat.add_assoc, p2_y1, p2_y1]
    omega
theorem gval_sum {V : List Int} {a h : Nat} {x0 y0 x1 y1 : Int} (s : SzG a h) (hw : withinC x0 y0 x1 y1 a h = 0) : pS (nth (gvalV V a h x0 y0 x1 y1)) (gvalV V a h x0 y0 x1 y1).length = fsumV V a h x0 y0 x1 y1 := by
  obtain ⟨p0, q0, p1, q1, rfl, rfl, rfl, rfl, h1, h2, h3, h4⟩ := within_natG s hw
  rw [gvalV_ok hw h1 h3, rvAll_len, pS_all, fsumV_ok hw]
  congr 1 <;> omega
theorem gval_bd {V : List Int} {a h : Nat} {x0 y0 x1 y1 : Int} (s : SzG a h) (hb : B40 V) (hl : V.length = a * h) (hm : a * h ≤ 1000) (hw : withinC x0 y0 x1 y1 a h = 0) : (gvalV V a h x0 y0 x1 y1).length ≤ 1000 ∧ ∀ i, i < (gvalV V a h x0 y0 x1 y1).length → -1099511627776 ≤ nth (gvalV V a h x0 y0 x1 y1) i ∧ nth (gvalV V a h x0 y0 x1 y1) i ≤ 1099511627776 := by
  obtain ⟨p0, q0, p1, q1, rfl, rfl, rfl, rfl, h1, h2, h3, h4⟩ := within_natG s hw
  rw [gvalV_ok hw h1 h3, rvAll_len]
  refine ⟨Nat.le_trans (Nat.mul_le_mul (show q1 + 1 - q0 ≤ h by omega) (show p1 + 1 - p0 ≤ a by omega)) (by rw [Nat.mul_comm]; exact hm), fun i hi => ?_⟩
  have hx : i % (p1 + 1 - p0) < p1 + 1 - p0 := Nat.mod_lt _ (by omega)
  have hy : i / (p1 + 1 - p0) < q1 + 1 - q0 := Nat.div_lt_of_lt_mul (by rw [Nat.mul_comm]; exact hi)
  have ei := of_div (rfl : i / (p1 + 1 - p0) = _) (rfl : i % (p1 + 1 - p0) = _)
  rw [ei, rvAll_at _ _ _ hy hx]
  generalize i % _ = j at *
  generalize i / _ = k at *
  exact cellV_bd hb hl (show p0 + j < a by omega) (show q0 + k < h by omega)
theorem b40_rep {n : Nat} : B40 (List.replicate n 0) := fun z hz => by rw [(List.mem_replicate.1 hz).2]; omega

set_option maxRecDepth 100000 in
theorem nNew_no (a h : Int) (w : World) (hc : ¬ gnewC a h 0 = 0) :
    Ret Try.prog 16 [.int .i64 a, .int .i64 h] w (fun z w' => z = .tuple #[.agg #[.int .i64 0, .int .i64 0, .slice none 0 0], .int .i64 (gnewC a h 0)] ∧ Below w.heap.size w w') := by
  refine ret_enter Try.func16 rfl rfl rfl ?_
  have H0 := HS.start w
  refine cw_seq ?_
  refine cw_reg ?_
  refine reg_op (op_alloc H0 rfl kflaw19_1) rfl rfl ?_
  rintro _ w2 ⟨b1, rfl, H3⟩
  refine ry (y_asg rfl rfl) rfl rfl ?_
  refine reg_nil ?_
  refine fn_next ?_
  refine cw_seq ?_
  refine cw_reg ?_
  refine ry (y_mov rfl rfl) rfl rfl ?_
  refine ry (y_mov rfl rfl) rfl rfl ?_
  refine reg_op (op_call (rNew_no a h 0 _ hc) rfl kflaw19_2 ⟨rfl, rfl, rfl, trivial⟩) rfl rfl ?_
  rintro _ w5 ⟨rfl, e4⟩
  have H6 := H3.ext e4
  refine ry (y_ext rfl rfl rfl) rfl rfl ?_
  refine ry (y_ext rfl rfl rfl) rfl rfl ?_
  refine reg_op (op_st (i := 0) (vs := [.int _ _, .int _ _, .slice _ _ _]) H6 rfl rfl rfl rfl rfl kflaw19_3 rfl rfl rfl) rfl rfl ?_
  rintro _ w7 H8
  refine ry (y_asg rfl rfl) rfl rfl ?_
  refine reg_nil ?_
  refine fn_next ?_
  refine cw_ret ?_
  refine fn_retn (vs := [_, _]) rfl ⟨⟨_, rfl, load_agg (cs := [_, _, _]) kflaw19_4 rfl fun j v hv => by rw [Nat.zero_add]; exact H8.cell (i := 0) rfl hv⟩, rfl, trivial⟩ rfl ?_
  exact ⟨rfl, H8.base⟩

set_option maxRecDepth 100000 in
theorem nNew_ok (a h : Nat) (w : World) (p : SzG a h) :
    Ret Try.prog 16 [.int .i64 (a : Int), .int .i64 (h : Int)] w (fun z w' => ∃ A cap, z = .tuple #[.agg #[.int .i64 (a : Int), .int .i64 (h : Int), .slice A (a * h) cap], .int .i64 0] ∧ HS w w' [.row A (a * h) cap (vi .i64 (List.replicate (a * h) 0)) 2 1]) := by
  refine ret_enter Try.func16 rfl rfl rfl ?_
  have H0 := HS.start w
  refine cw_seq ?_
  refine cw_reg ?_
  refine reg_op (op_alloc H0 rfl kflaw19_1) rfl rfl ?_
  rintro _ w2 ⟨b1, rfl, H3⟩
  refine ry (y_asg rfl rfl) rfl rfl ?_
  refine reg_nil ?_
  refine fn_next ?_
  refine cw_seq ?_
  refine cw_reg ?_
  refine ry (y_mov rfl rfl) rfl rfl ?_
  refine ry (y_mov rfl rfl) rfl rfl ?_
  refine reg_op (op_call (rNew_ok a h 0 _ p (by decide)) rfl kflaw19_2 ⟨rfl, rfl, rfl, trivial⟩) rfl rfl ?_
  rintro _ w5 ⟨A7, c8, rfl, k4⟩
  have H6 := H3.call k4
  refine ry (y_ext rfl rfl rfl) rfl rfl ?_
  refine ry (y_ext rfl rfl rfl) rfl rfl ?_
  refine reg_op (op_st (i := 1) (vs := [.int _ _, .int _ _, .slice _ _ _]) H6 rfl rfl rfl rfl rfl kflaw19_3 rfl rfl rfl) rfl rfl ?_
  rintro _ w9 H10
  refine ry (y_asg rfl rfl) rfl rfl ?_
  refine reg_nil ?_
  refine fn_next ?_
  refine cw_ret ?_
  refine fn_retn (vs := [_, _]) rfl ⟨⟨_, rfl, load_agg (cs := [_, _, _]) kflaw19_4 rfl fun j v hv => by rw [Nat.zero_add]; exact H10.cell (i := 1) rfl hv⟩, rfl, trivial⟩ rfl ?_
  exact ⟨_, _, rfl, (H10.pick (m := [_]) [0] rfl (by decide))⟩

set_option maxRecDepth 100000 in
theorem nSum_no (a h : Nat) (A : Option Addr) (cap : Nat) (V : List Int) (x0 y0 x1 y1 : Int) (w : World) (p : SzG a h) (hw : ¬ withinC x0 y0 x1 y1 a h = 0) :
    Ret Try.prog 20 [.agg #[.int .i64 (a : Int), .int .i64 (h : Int), .slice A (a * h) cap], .agg #[.int .i64 x0, .int .i64 y0, .int .i64 x1, .int .i64 y1]] w (fun v w' => v = .tuple #[.int .i64 (fsumV V a h x0 y0 x1 y1), .int .i64 (withinC x0 y0 x1 y1 a h)] ∧ Below w.heap.size w w') := by
  obtain ⟨s1, s2, s3, s4⟩ := id p
  refine ret_enter Try.func20 rfl rfl rfl ?_
  have H0 := HS.start w
  refine cw_seq ?_
  refine cw_reg ?_
  refine reg_op (op_box (cs := [.int _ _, .int _ _, .slice _ _ _]) H0 rfl rfl rfl) rfl rfl ?_
  rintro _ w2 ⟨b1, rfl, H3⟩
  refine reg_op (op_box (cs := [.int _ _, .int _ _, .int _ _, .int _ _]) H3 rfl rfl rfl) rfl rfl ?_
  rintro _ w5 ⟨b4, rfl, H6⟩
  refine ry (y_asg rfl rfl) rfl rfl ?_
  refine ry (y_asg rfl rfl) rfl rfl ?_
  refine reg_nil ?_
  refine fn_next ?_
  refine cw_seq ?_
  refine cw_reg ?_
  refine ry (y_ldb (i := 0) (cs := [_, _, _, _]) H6 rfl rfl kflaw19_5 rfl rfl) rfl rfl ?_
  refine ry (y_fa rfl rfl kflaw19_6 rfl) rfl rfl ?_
  refine ry (y_ld rfl rfl kflaw19_7 (H6.cell (i := 1) rfl rfl)) rfl rfl ?_
  refine ry (y_fa rfl rfl kflaw19_8 rfl) rfl rfl ?_
  refine ry (y_ld rfl rfl kflaw19_7 (H6.cell (i := 1) rfl rfl)) rfl rfl ?_
  refine reg_op (op_call (ret_elder (refWithin_any x0 y0 x1 y1 a h _ (by omega) (by omega) (by omega) (by omega))) rfl kflaw19_9 ⟨rfl, rfl, rfl, trivial⟩) rfl rfl ?_
  rintro _ w8 ⟨rfl, e7⟩
  have H9 := H6.ext e7
  refine ry (y_asg rfl rfl) rfl rfl ?_
  refine reg_nil ?_
  refine fn_next ?_
  refine cw_seq ?_
  refine cw_seq ?_
  refine cw_reg ?_
  refine ry (y_mov rfl rfl) rfl rfl ?_
  refine ry (y_neq rfl rfl rfl) rfl rfl ?_
  refine reg_nil ?_
  refine fn_next ?_
  refine cw_condd rfl (fun h10 => ?_) (fun h10 => ?_)
  · skip
    refine cw_seq ?_
    refine cw_reg ?_
    refine ry (y_mov rfl rfl) rfl rfl ?_
    refine ry (y_asg rfl rfl) rfl rfl ?_
    refine ry (y_asg rfl rfl) rfl rfl ?_
    refine reg_nil ?_
    refine fn_next ?_
    refine cw_ret ?_
    refine fn_then_ret ?_
    refine fn_retn (vs := [_, _]) rfl ⟨rfl, rfl, trivial⟩ rfl ?_
    rw [fsumV_no hw]
    exact ⟨rfl, H9.base⟩
  · exact absurd (Classical.not_not.1 h10) hw

set_option maxRecDepth 100000 in
theorem nSum_ok (a h : Nat) (A : Option Addr) (cap : Nat) (V : List Int) (x0 y0 x1 y1 : Int) (w : World) (p : SzG a h) (hr : Rd w A (vi .i64 V)) (hl : V.length = a * h) (hb : B40 V) (hm : a * h ≤ 1000) (hw : withinC x0 y0 x1 y1 a h = 0) :
    Ret Try.prog 20 [.agg #[.int .i64 (a : Int), .int .i64 (h : Int), .slice A (a * h) cap], .agg #[.int .i64 x0, .int .i64 y0, .int .i64 x1, .int .i64 y1]] w (fun v w' => v = .tuple #[.int .i64 (fsumV V a h x0 y0 x1 y1), .int .i64 (withinC x0 y0 x1 y1 a h)] ∧ Below w.heap.size w w') := by
  obtain ⟨s1, s2, s3, s4⟩ := id p
  obtain ⟨hgl, hgb⟩ := gval_bd p hb hl hm hw
  refine ret_enter Try.func20 rfl rfl rfl ?_
  have H0 := HS.start w
  refine cw_seq ?_
  refine cw_reg ?_
  refine reg_op (op_box (cs := [.int _ _, .int _ _, .slice _ _ _]) H0 rfl rfl rfl) rfl rfl ?_
  rintro _ w2 ⟨b1, rfl, H3⟩
  refine reg_op (op_box (cs := [.int _ _, .int _ _, .int _ _, .int _ _]) H3 rfl rfl rfl) rfl rfl ?_
  rintro _ w5 ⟨b4, rfl, H6⟩
  refine ry (y_asg rfl rfl) rfl rfl ?_
  refine ry (y_asg rfl rfl) rfl rfl ?_
  refine reg_nil ?_
  refine fn_next ?_
  refine cw_seq ?_
  refine cw_reg ?_
  refine ry (y_ldb (i := 0) (cs := [_, _, _, _]) H6 rfl rfl kflaw19_5 rfl rfl) rfl rfl ?_
  refine ry (y_fa rfl rfl kflaw19_6 rfl) rfl rfl ?_
  refine ry (y_ld rfl rfl kflaw19_7 (H6.cell (i := 1) rfl rfl)) rfl rfl ?_
  refine ry (y_fa rfl rfl kflaw19_8 rfl) rfl rfl ?_
  refine ry (y_ld rfl rfl kflaw19_7 (H6.cell (i := 1) rfl rfl)) rfl rfl ?_
  refine reg_op (op_call (ret_elder (refWithin_any x0 y0 x1 y1 a h _ (by omega) (by omega) (by omega) (by omega))) rfl kflaw19_9 ⟨rfl, rfl, rfl, trivial⟩) rfl rfl ?_
  rintro _ w8 ⟨rfl, e7⟩
  have H9 := H6.ext e7
  refine ry (y_asg rfl rfl) rfl rfl ?_
  refine reg_nil ?_
  refine fn_next ?_
  refine cw_seq ?_
  refine cw_seq ?_
  refine cw_reg ?_
  refine ry (y_mov rfl rfl) rfl rfl ?_
  refine ry (y_neq rfl rfl rfl) rfl rfl ?_
  refine reg_nil ?_
  refine fn_next ?_
  refine cw_condd rfl (fun h10 => ?_) (fun h10 => ?_)
  · exact absurd hw h10
  · skip
    refine cw_skip ?_
    refine fn_next ?_
    refine cw_seq ?_
    refine cw_reg ?_
    refine ry (y_ldb (i := 1) (cs := [_, _, _]) H9 rfl rfl kflaw19_4 rfl rfl) rfl rfl ?_
    refine ry (y_ldb (i := 0) (cs := [_, _, _, _]) H9 rfl rfl kflaw19_5 rfl rfl) rfl rfl ?_
    refine reg_op (op_call (rValues a h A cap V x0 y0 x1 y1 _ p (hr.below H9.base) hl) rfl kflaw19_10 ⟨rfl, rfl, trivial⟩) rfl rfl ?_
    rintro _ w12 ⟨A14, c15, rfl, k11⟩
    have H13 := H9.call k11
    refine ry (y_mov rfl rfl) rfl rfl ?_
    refine ry (y_ext rfl rfl rfl) rfl rfl ?_
    refine ry (y_ext rfl rfl rfl) rfl rfl ?_
    refine ry (y_asg rfl rfl) rfl rfl ?_
    refine ry (y_asg rfl rfl) rfl rfl ?_
    refine reg_nil ?_
    refine fn_next ?_
    refine cw_seq ?_
    refine cw_reg ?_
    refine ry (y_asg rfl rfl) rfl rfl ?_
    refine reg_nil ?_
    refine fn_next ?_
    refine cw_seq ?_
    refine cw_seq ?_
    refine cw_reg ?_
    refine ry (y_asg rfl rfl) rfl rfl ?_
    refine reg_nil ?_
    refine fn_next ?_
    refine cw_block ?_
    refine cw_loopJ [9, 10, 26, 27, 28, 29, 30, 31, 32, 33, 34, 35, 36, 37] (fun M wl ml => ∃ (i : Nat), M = [(10, .int .i64 (i : Int)), (9, .int .i64 (pS (nth (gvalV V a h x0 y0 x1 y1)) i))] ∧ HS w wl [Ob.row A14 (gvalV V a h x0 y0 x1 y1).length c15 (vi .i64 (gvalV V a h x0 y0 x1 y1)) 2 1] ∧ (i ≤ (gvalV V a h x0 y0 x1 y1).length) ∧ ml = (gvalV V a h x0 y0 x1 y1).length - i) ⟨0, rfl, (H13.pick (m := [_]) [0] rfl (by decide)), Nat.zero_le _, rfl⟩ ⟨rfl, rfl, trivial⟩ ?_
    rintro M w16 m18 ⟨i, rfl, H17, hp0, rfl⟩
    refine cw_seq ?_
    refine cw_seq ?_
    refine cw_reg ?_
    refine ry (y_mov rfl rfl) rfl rfl ?_
    refine ry (y_mov rfl rfl) rfl rfl ?_
    refine ry (y_len rfl Try.underlying32 rfl) rfl rfl ?_
    refine ry (y_lss rfl rfl rfl) rfl rfl ?_
    refine reg_nil ?_
    refine fn_next ?_
    refine cw_condd rfl (fun h19 => ?_) (fun h19 => ?_)
    · skip
      have hgi := vi_get (k := .i64) (zs := (gvalV V a h x0 y0 x1 y1)) (i := i) (by omega)
      have hb1 := pS_bd (g := nth (gvalV V a h x0 y0 x1 y1)) (B := 1099511627776) (n := i) (fun j hj => hgb j (by omega))
      have hb2 := hgb i (by omega)
      refine cw_skip ?_
      refine fn_next ?_
      refine cw_seq ?_
      refine cw_block ?_
      refine cw_reg ?_
      refine ry (y_mov rfl rfl) rfl rfl ?_
      refine ry (y_mov rfl rfl) rfl rfl ?_
      refine ry (y_mov rfl rfl) rfl rfl ?_
      refine ry (y_iar (H17.rd (i := 0) rfl) rfl rfl rfl kflaw19_11 (rfl) (by omega) (Nat.mul_one _) (hgi)) rfl rfl ?_
      refine ry (y_ldr (H17.rd (i := 0) rfl) rfl rfl kflaw19_7 (hgi)) rfl rfl ?_
      refine ry (y_add rfl rfl rfl (wi (by omega))) rfl rfl ?_
      refine ry (y_asg rfl rfl) rfl rfl ?_
      refine reg_nil ?_
      refine fn_block ?_
      refine fn_next ?_
      refine cw_reg ?_
      refine ry (y_mov rfl rfl) rfl rfl ?_
      refine ry (y_add rfl rfl rfl (wi (by omega))) rfl rfl ?_
      refine ry (y_asg rfl rfl) rfl rfl ?_
      refine reg_nil ?_
      refine fn_roundJ ⟨i + 1, rfl, H17, by omega, rfl⟩ ⟨rfl, rfl, trivial⟩ (by omega) (by repeat (first | exact kp_refl | refine kp_app rfl rfl ?_ | refine kp_cons rfl ?_)) rfl
    · skip
      have hi : i = (gvalV V a h x0 y0 x1 y1).length := by omega
      refine cw_exit ?_
      refine fn_then_exit (fn_then_exit (fn_block_exit ?_))
      refine fn_next ?_
      refine cw_seq ?_
      refine cw_reg ?_
      refine ry (y_mov rfl rfl) rfl rfl ?_
      refine ry (y_asg rfl rfl) rfl rfl ?_
      refine ry (y_asg rfl rfl) rfl rfl ?_
      refine reg_nil ?_
      refine fn_next ?_
      refine cw_ret ?_
      refine fn_retn (vs := [_, _]) rfl ⟨rfl, rfl, trivial⟩ rfl ?_
      rw [hi, gval_sum p hw, hw]
      exact ⟨rfl, H17.base⟩

theorem nSum (a h : Nat) (A : Option Addr) (cap : Nat) (V : List Int) (x0 y0 x1 y1 : Int) (w : World) (p : SzG a h) (hr : Rd w A (vi .i64 V)) (hl : V.length = a * h) (hb : B40 V) (hm : a * h ≤ 1000) : Ret Try.prog 20 [.agg #[.int .i64 (a : Int), .int .i64 (h : Int), .slice A (a * h) cap], .agg #[.int .i64 x0, .int .i64 y0, .int .i64 x1, .int .i64 y1]] w (fun v w' => v = .tuple #[.int .i64 (fsumV V a h x0 y0 x1 y1), .int .i64 (withinC x0 y0 x1 y1 a h)] ∧ Below w.heap.size w w') := by
  by_cases hw : withinC x0 y0 x1 y1 a h = 0
  · exact nSum_ok a h A cap V x0 y0 x1 y1 w p hr hl hb hm hw
  · exact nSum_no a h A cap V x0 y0 x1 y1 w p hw

set_option maxRecDepth 100000 in
theorem nAdd_w (w0 : World) (l : List Ob) (a h : Nat) (A : Option Addr) (cap : Nat) (V : List Int) (x y d : Int) (w : World) (p : SzG a h) (hl : V.length = a * h) (hw : ¬ withinC x y x y a h = 0) (H0 : HS w0 w (Ob.row A (a * h) cap (vi .i64 (V)) 2 1 :: l)) :
    Ret Try.prog 17 [.agg #[.int .i64 (a : Int), .int .i64 (h : Int), .slice A (a * h) cap], .agg #[.int .i64 x, .int .i64 y], .int .i64 d] w (fun z w' => ∃ A' cap', z = .tuple #[.agg #[.int .i64 (a : Int), .int .i64 (h : Int), .slice A' (a * h) cap'], .int .i64 (faddC V a h x y d)] ∧ HS w0 w' (Ob.row A' (a * h) cap' (vi .i64 (faddV V a h x y d)) 2 1 :: l)) := by
  have hm' := p.mul
  obtain ⟨s1, s2, s3, s4⟩ := id p
  refine ret_enter Try.func17 rfl rfl rfl ?_
  refine cw_seq ?_
  refine cw_reg ?_
  refine reg_op (op_box (cs := [.int _ _, .int _ _, .slice _ _ _]) H0 rfl rfl rfl) rfl rfl ?_
  rintro _ w2 ⟨b1, rfl, H3⟩
  refine reg_op (op_box (cs := [.int _ _, .int _ _]) H3 rfl rfl rfl) rfl rfl ?_
  rintro _ w5 ⟨b4, rfl, H6⟩
  refine reg_op (op_alloc H6 rfl kflaw19_1) rfl rfl ?_
  rintro _ w8 ⟨b7, rfl, H9⟩
  refine ry (y_asg rfl rfl) rfl rfl ?_
  refine reg_nil ?_
  refine fn_next ?_
  refine cw_seq ?_
  refine cw_reg ?_
  refine ry (y_ldb (i := 2) (cs := [_, _, _]) H9 rfl rfl kflaw19_4 rfl rfl) rfl rfl ?_
  refine ry (y_ldb (i := 1) (cs := [_, _]) H9 rfl rfl kflaw19_12 rfl rfl) rfl rfl ?_
  refine reg_op (op_call (mAt a h _ _ x y V _ p (H9.rd (i := 3) rfl) hl) rfl kflaw19_13 ⟨rfl, rfl, trivial⟩) rfl rfl ?_
  rintro _ w11 ⟨rfl, e10⟩
  have H12 := H9.ext e10
  refine ry (y_mov rfl rfl) rfl rfl ?_
  refine ry (y_ext rfl rfl rfl) rfl rfl ?_
  refine ry (y_ext rfl rfl rfl) rfl rfl ?_
  refine ry (y_asg rfl rfl) rfl rfl ?_
  refine ry (y_asg rfl rfl) rfl rfl ?_
  refine reg_nil ?_
  refine fn_next ?_
  refine cw_seq ?_
  refine cw_seq ?_
  refine cw_reg ?_
  refine ry (y_mov rfl rfl) rfl rfl ?_
  refine ry (y_neq rfl rfl rfl) rfl rfl ?_
  refine reg_nil ?_
  refine fn_next ?_
  refine cw_condd rfl (fun h13 => ?_) (fun h13 => ?_)
  · skip
    refine cw_seq ?_
    refine cw_reg ?_
    refine ry (y_ldb (i := 2) (cs := [_, _, _]) H12 rfl rfl kflaw19_4 rfl rfl) rfl rfl ?_
    refine ry (y_mov rfl rfl) rfl rfl ?_
    refine reg_op (op_st (i := 0) (vs := [.int _ _, .int _ _, .slice _ _ _]) H12 rfl rfl rfl rfl rfl kflaw19_3 rfl rfl rfl) rfl rfl ?_
    rintro _ w14 H15
    refine ry (y_asg rfl rfl) rfl rfl ?_
    refine reg_nil ?_
    refine fn_next ?_
    refine cw_ret ?_
    refine fn_then_ret ?_
    refine fn_retn (vs := [_, _]) rfl ⟨⟨_, rfl, load_agg (cs := [_, _, _]) kflaw19_4 rfl fun j v hv => by rw [Nat.zero_add]; exact H15.cell (i := 0) rfl hv⟩, rfl, trivial⟩ rfl ?_
    rw [faddC_w hw, faddV_no (by rw [faddC_w hw]; exact hw)]
    exact ⟨A, cap, rfl, (H15.pickT (p := [_, _, _, _]) (m := [_]) [3] rfl (by decide))⟩
  · exact absurd (Classical.not_not.1 h13) hw

set_option maxRecDepth 100000 in
theorem nAdd_v (w0 : World) (l : List Ob) (a h : Nat) (A : Option Addr) (cap : Nat) (V : List Int) (x y d : Int) (w : World) (p : SzG a h) (hl : V.length = a * h) (hb : B40 V) (hw : withinC x y x y a h = 0) (hd : d > 1099511627776 - gatV V a h x y ∨ d < -1099511627776 - gatV V a h x y) (H0 : HS w0 w (Ob.row A (a * h) cap (vi .i64 (V)) 2 1 :: l)) :
    Ret Try.prog 17 [.agg #[.int .i64 (a : Int), .int .i64 (h : Int), .slice A (a * h) cap], .agg #[.int .i64 x, .int .i64 y], .int .i64 d] w (fun z w' => ∃ A' cap', z = .tuple #[.agg #[.int .i64 (a : Int), .int .i64 (h : Int), .slice A' (a * h) cap'], .int .i64 (faddC V a h x y d)] ∧ HS w0 w' (Ob.row A' (a * h) cap' (vi .i64 (faddV V a h x y d)) 2 1 :: l)) := by
  have hm' := p.mul
  obtain ⟨s1, s2, s3, s4⟩ := id p
  have hgb := gatV_bd (x := x) (y := y) p hl hb
  refine ret_enter Try.func17 rfl rfl rfl ?_
  refine cw_seq ?_
  refine cw_reg ?_
  refine reg_op (op_box (cs := [.int _ _, .int _ _, .slice _ _ _]) H0 rfl rfl rfl) rfl rfl ?_
  rintro _ w2 ⟨b1, rfl, H3⟩
  refine reg_op (op_box (cs := [.int _ _, .int _ _]) H3 rfl rfl rfl) rfl rfl ?_
  rintro _ w5 ⟨b4, rfl, H6⟩
  refine reg_op (op_alloc H6 rfl kflaw19_1) rfl rfl ?_
  rintro _ w8 ⟨b7, rfl, H9⟩
  refine ry (y_asg rfl rfl) rfl rfl ?_
  refine reg_nil ?_
  refine fn_next ?_
  refine cw_seq ?_
  refine cw_reg ?_
  refine ry (y_ldb (i := 2) (cs := [_, _, _]) H9 rfl rfl kflaw19_4 rfl rfl) rfl rfl ?_
  refine ry (y_ldb (i := 1) (cs := [_, _]) H9 rfl rfl kflaw19_12 rfl rfl) rfl rfl ?_
  refine reg_op (op_call (mAt a h _ _ x y V _ p (H9.rd (i := 3) rfl) hl) rfl kflaw19_13 ⟨rfl, rfl, trivial⟩) rfl rfl ?_
  rintro _ w11 ⟨rfl, e10⟩
  have H12 := H9.ext e10
  refine ry (y_mov rfl rfl) rfl rfl ?_
  refine ry (y_ext rfl rfl rfl) rfl rfl ?_
  refine ry (y_ext rfl rfl rfl) rfl rfl ?_
  refine ry (y_asg rfl rfl) rfl rfl ?_
  refine ry (y_asg rfl rfl) rfl rfl ?_
  refine reg_nil ?_
  refine fn_next ?_
  refine cw_seq ?_
  refine cw_seq ?_
  refine cw_reg ?_
  refine ry (y_mov rfl rfl) rfl rfl ?_
  refine ry (y_neq rfl rfl rfl) rfl rfl ?_
  refine reg_nil ?_
  refine fn_next ?_
  refine cw_condd rfl (fun h13 => ?_) (fun h13 => ?_)
  · exact absurd hw h13
  · skip
    refine cw_skip ?_
    refine fn_next ?_
    refine cw_seq ?_
    refine cw_seq ?_
    refine cw_reg ?_
    refine ry (y_mov rfl rfl) rfl rfl ?_
    refine ry (y_mov rfl rfl) rfl rfl ?_
    refine ry (y_sub rfl rfl rfl (wi (by omega))) rfl rfl ?_
    refine ry (y_gtr rfl rfl rfl) rfl rfl ?_
    refine ry (y_mov rfl rfl) rfl rfl ?_
    refine rg_splitd (d := 25) rfl (fun h14 => ?_) (fun h14 => ?_)
    · skip
      refine rg_off rfl rfl rfl rfl rfl ?_
      refine rg_off rfl rfl rfl rfl rfl ?_
      refine rg_off rfl rfl rfl rfl rfl ?_
      refine rg_off rfl rfl rfl rfl rfl ?_
      refine ry (y_pick rfl rfl rfl) rfl rfl ?_
      refine reg_nil ?_
      refine fn_next ?_
      refine cw_condt rfl ?_
      refine cw_seq ?_
      refine cw_reg ?_
      refine ry (y_ldb (i := 2) (cs := [_, _, _]) H12 rfl rfl kflaw19_4 rfl rfl) rfl rfl ?_
      refine reg_op (op_st (i := 0) (vs := [.int _ _, .int _ _, .slice _ _ _]) H12 rfl rfl rfl rfl rfl kflaw19_3 rfl rfl rfl) rfl rfl ?_
      rintro _ w15 H16
      refine ry (y_asg rfl rfl) rfl rfl ?_
      refine reg_nil ?_
      refine fn_next ?_
      refine cw_ret ?_
      refine fn_then_ret ?_
      refine fn_retn (vs := [_, _]) rfl ⟨⟨_, rfl, load_agg (cs := [_, _, _]) kflaw19_4 rfl fun j v hv => by rw [Nat.zero_add]; exact H16.cell (i := 0) rfl hv⟩, rfl, trivial⟩ rfl ?_
      have hv : ¬ faddC V a h x y d = 0 := by rw [faddC_v hw hd]; decide
      rw [faddV_no hv, faddC_v hw hd]
      exact ⟨A, cap, rfl, (H16.pickT (p := [_, _, _, _]) (m := [_]) [3] rfl (by decide))⟩
    · skip
      refine rgy (y_mov rfl rfl) rfl rfl rfl rfl ?_
      refine rgy (y_mov rfl rfl) rfl rfl rfl rfl ?_
      refine rgy (y_sub rfl rfl rfl (wi (by omega))) rfl rfl rfl rfl ?_
      refine rgy (y_lss rfl rfl rfl) rfl rfl rfl rfl ?_
      refine ry (y_pick rfl rfl rfl) rfl rfl ?_
      refine reg_nil ?_
      refine fn_next ?_
      refine cw_condd rfl (fun h17 => ?_) (fun h17 => ?_)
      · skip
        refine cw_seq ?_
        refine cw_reg ?_
        refine ry (y_ldb (i := 2) (cs := [_, _, _]) H12 rfl rfl kflaw19_4 rfl rfl) rfl rfl ?_
        refine reg_op (op_st (i := 0) (vs := [.int _ _, .int _ _, .slice _ _ _]) H12 rfl rfl rfl rfl rfl kflaw19_3 rfl rfl rfl) rfl rfl ?_
        rintro _ w18 H19
        refine ry (y_asg rfl rfl) rfl rfl ?_
        refine reg_nil ?_
        refine fn_next ?_
        refine cw_ret ?_
        refine fn_then_ret ?_
        refine fn_retn (vs := [_, _]) rfl ⟨⟨_, rfl, load_agg (cs := [_, _, _]) kflaw19_4 rfl fun j v hv => by rw [Nat.zero_add]; exact H19.cell (i := 0) rfl hv⟩, rfl, trivial⟩ rfl ?_
        have hv : ¬ faddC V a h x y d = 0 := by rw [faddC_v hw hd]; decide
        rw [faddV_no hv, faddC_v hw hd]
        exact ⟨A, cap, rfl, (H19.pickT (p := [_, _, _, _]) (m := [_]) [3] rfl (by decide))⟩
      · exfalso; omega

set_option maxRecDepth 100000 in
theorem nAdd_ok (w0 : World) (l : List Ob) (a h : Nat) (A : Option Addr) (cap : Nat) (V : List Int) (x y d : Int) (w : World) (p : SzG a h) (hl : V.length = a * h) (hb : B40 V) (hw : withinC x y x y a h = 0) (hd : ¬ (d > 1099511627776 - gatV V a h x y ∨ d < -1099511627776 - gatV V a h x y)) (H0 : HS w0 w (Ob.row A (a * h) cap (vi .i64 (V)) 2 1 :: l)) :
    Ret Try.prog 17 [.agg #[.int .i64 (a : Int), .int .i64 (h : Int), .slice A (a * h) cap], .agg #[.int .i64 x, .int .i64 y], .int .i64 d] w (fun z w' => ∃ A' cap', z = .tuple #[.agg #[.int .i64 (a : Int), .int .i64 (h : Int), .slice A' (a * h) cap'], .int .i64 (faddC V a h x y d)] ∧ HS w0 w' (Ob.row A' (a * h) cap' (vi .i64 (faddV V a h x y d)) 2 1 :: l)) := by
  have hm' := p.mul
  obtain ⟨s1, s2, s3, s4⟩ := id p
  obtain ⟨x, y, _, _, rfl, rfl, _, _, _, _, _, _⟩ := within_natG p hw
  have hgb := gatV_bd (x := (x : Int)) (y := (y : Int)) p hl hb
  obtain ⟨e1, e2, e3⟩ := row_bdG (x := x) (y := y) p (by omega) (by omega)
  have hgi := vi_get (k := .i64) (zs := V) (i := y * a + x) (by omega)
  refine ret_enter Try.func17 rfl rfl rfl ?_
  refine cw_seq ?_
  refine cw_reg ?_
  refine reg_op (op_box (cs := [.int _ _, .int _ _, .slice _ _ _]) H0 rfl rfl rfl) rfl rfl ?_
  rintro _ w2 ⟨b1, rfl, H3⟩
  refine reg_op (op_box (cs := [.int _ _, .int _ _]) H3 rfl rfl rfl) rfl rfl ?_
  rintro _ w5 ⟨b4, rfl, H6⟩
  refine reg_op (op_alloc H6 rfl kflaw19_1) rfl rfl ?_
  rintro _ w8 ⟨b7, rfl, H9⟩
  refine ry (y_asg rfl rfl) rfl rfl ?_
  refine reg_nil ?_
  refine fn_next ?_
  refine cw_seq ?_
  refine cw_reg ?_
  refine ry (y_ldb (i := 2) (cs := [_, _, _]) H9 rfl rfl kflaw19_4 rfl rfl) rfl rfl ?_
  refine ry (y_ldb (i := 1) (cs := [_, _]) H9 rfl rfl kflaw19_12 rfl rfl) rfl rfl ?_
  refine reg_op (op_call (mAt a h _ _ x y V _ p (H9.rd (i := 3) rfl) hl) rfl kflaw19_13 ⟨rfl, rfl, trivial⟩) rfl rfl ?_
  rintro _ w11 ⟨rfl, e10⟩
  have H12 := H9.ext e10
  refine ry (y_mov rfl rfl) rfl rfl ?_
  refine ry (y_ext rfl rfl rfl) rfl rfl ?_
  refine ry (y_ext rfl rfl rfl) rfl rfl ?_
  refine ry (y_asg rfl rfl) rfl rfl ?_
  refine ry (y_asg rfl rfl) rfl rfl ?_
  refine reg_nil ?_
  refine fn_next ?_
  refine cw_seq ?_
  refine cw_seq ?_
  refine cw_reg ?_
  refine ry (y_mov rfl rfl) rfl rfl ?_
  refine ry (y_neq rfl rfl rfl) rfl rfl ?_
  refine reg_nil ?_
  refine fn_next ?_
  refine cw_condd rfl (fun h13 => ?_) (fun h13 => ?_)
  · exact absurd hw h13
  · skip
    refine cw_skip ?_
    refine fn_next ?_
    refine cw_seq ?_
    refine cw_seq ?_
    refine cw_reg ?_
    refine ry (y_mov rfl rfl) rfl rfl ?_
    refine ry (y_mov rfl rfl) rfl rfl ?_
    refine ry (y_sub rfl rfl rfl (wi (by omega))) rfl rfl ?_
    refine ry (y_gtr rfl rfl rfl) rfl rfl ?_
    refine ry (y_mov rfl rfl) rfl rfl ?_
    refine rg_splitd (d := 25) rfl (fun h14 => ?_) (fun h14 => ?_)
    · exfalso; omega
    · skip
      refine rgy (y_mov rfl rfl) rfl rfl rfl rfl ?_
      refine rgy (y_mov rfl rfl) rfl rfl rfl rfl ?_
      refine rgy (y_sub rfl rfl rfl (wi (by omega))) rfl rfl rfl rfl ?_
      refine rgy (y_lss rfl rfl rfl) rfl rfl rfl rfl ?_
      refine ry (y_pick rfl rfl rfl) rfl rfl ?_
      refine reg_nil ?_
      refine fn_next ?_
      refine cw_condd rfl (fun h15 => ?_) (fun h15 => ?_)
      · exfalso; omega
      · skip
        refine cw_skip ?_
        refine fn_next ?_
        refine cw_seq ?_
        refine cw_drawT H12 [0, 1, 2, 3, 5, 6] (.alt (.step 4 (.alt (.step 7 (.alt (.step 8 (.step 9 (.step 10 (.leaf)))) (.step 9 (.step 8 (.step 10 (.leaf)))))) (.step 9 (.step 7 (.step 8 (.step 10 (.leaf))))))) (.step 9 (.step 4 (.step 7 (.step 8 (.step 10 (.leaf))))))) (fun X HX => HX) (by kernel_rfl) (by kernel_rfl) (by rfl) ?_
        simp only [pick, List.getElem?_cons_succ, List.getElem?_cons_zero]
        refine hk_y (fun Y HY => y_fa rfl rfl kflaw19_6 rfl) rfl rfl ?_
        refine hk_y (fun Y HY => y_ld rfl rfl kflaw19_7 (HY.cell (i := 2) rfl rfl)) rfl rfl ?_
        refine hk_y (fun Y HY => y_fa rfl rfl kflaw19_8 rfl) rfl rfl ?_
        refine hk_y (fun Y HY => y_ld rfl rfl kflaw19_7 (HY.cell (i := 2) rfl rfl)) rfl rfl ?_
        refine hk_y (fun Y HY => y_fa rfl rfl kflaw19_14 rfl) rfl rfl ?_
        refine hk_y (fun Y HY => y_ld rfl rfl kflaw19_15 (HY.cell (i := 2) rfl rfl)) rfl rfl ?_
        refine hkt_nil [10, 36, 39, 40] (fun M wl => ∃ (b' : Nat) (A' : Option Addr) (cap' : Nat), M = [(10, .pointer (some ⟨b', 0, none⟩))] ∧ HS w0 wl (Ob.row A' (a * h) cap' (vi .i64 (V)) 2 1 :: Ob.blk b' [.int .i64 (a : Int), .int .i64 (h : Int), .slice A' (a * h) cap'] 34 :: Ob.blk b1 [.int .i64 (a : Int), .int .i64 (h : Int), .slice A (a * h) cap] 34 :: Ob.blk b4 [.int .i64 (x : Int), .int .i64 (y : Int)] 26 :: Ob.blk b7 [.int .i64 0, .int .i64 0, .slice none 0 0] 34 :: l)) (fun wX HX => ?_) ?_
        · skip
          refine tt_alt ?_ ?_
          · skip
            refine tt_op rfl (op_lit (parts := []) (vs := []) (cs := []) HX rfl Try.underlying32 kflaw19_16 rfl trivial rfl rfl) rfl rfl ?_
            rintro _ w17 ⟨b16, rfl, H18⟩
            have H19 := H18.asrow (m := 0) (size := 1) rfl (by decide)
            refine ⟨(H19.pickT (p := [_, _, _, _, _]) (m := [_, _, _, _]) [1, 2, 3, 4] rfl (by decide)), fun w20 e22 => ?_⟩
            have H21 := H19.ext e22
            refine tt_alt ?_ ?_
            · skip
              refine tt_op rfl (op_app (i := 0) (k := 0) (m := a * h) (ys := vi .i64 V) (size := 1) H21 rfl rfl rfl rfl (H21.rd (i := 4) rfl) (by rw [vi_len, hl, Nat.mul_one]) (vi_one) Try.underlying32 kflaw19_17 rfl rfl (by unfold maxLen; omega) (by omega)) rfl rfl ?_
              rintro _ w25 ⟨A23, c24, rfl, H26⟩
              refine ⟨(H26.pickT (p := [_, _, _, _, _]) (m := [_, _, _, _]) [1, 2, 3, 4] rfl (by decide)), fun w27 e29 => ?_⟩
              have H28 := H26.ext e29
              refine tt_alt ?_ ?_
              · skip
                refine tt_op rfl (Yd.op (y_build (places := [(0, 1), (1, 1), (2, 1)]) (parts := [(0, _), (1, _), (2, _)]) (vs := [(0, _), (1, _), (2, _)]) (cs := [.int _ _, .int _ _, .slice _ _ _]) rfl Try.underlying34 (by kernel_rfl) kflaw19_1 rfl ⟨rfl, rfl, rfl, trivial⟩ rfl)) rfl rfl ?_
                rintro _ _ ⟨rfl, rfl⟩
                refine ⟨(H28.pickT (p := [_, _, _, _, _]) (m := [_, _, _, _]) [1, 2, 3, 4] rfl (by decide)), fun w30 e32 => ?_⟩
                have H31 := H28.ext e32
                refine tt_op rfl (op_alloc H31 rfl kflaw19_1) rfl rfl ?_
                rintro _ w34 ⟨b33, rfl, H35⟩
                refine ⟨(H35.pickT (p := [_, _, _, _, _, _]) (m := [_, _, _, _]) [2, 3, 4, 5] rfl (by decide)), fun w36 e38 => ?_⟩
                have H37 := H35.ext e38
                refine tt_op rfl (op_st (i := 0) (vs := [.int _ _, .int _ _, .slice _ _ _]) H37 rfl rfl rfl rfl rfl kflaw19_3 rfl rfl rfl) rfl rfl ?_
                rintro _ w39 H40
                refine ⟨(H40.pickT (p := [_, _, _, _, _, _]) (m := [_, _, _, _]) [2, 3, 4, 5] rfl (by decide)), fun w41 e43 => ?_⟩
                have H42 := H40.ext e43
                simp only [Nat.zero_add, List.nil_append] at H42
                exact tt_leaf ⟨b33, A23, c24, rfl, (H42.pickT (p := [_, _, _, _, _, _]) (m := [_, _, _, _, _]) [1, 0, 4, 3, 2] rfl (by decide))⟩ ⟨rfl, trivial⟩ (by repeat (first | exact kp_refl | refine kp_app rfl rfl ?_ | refine kp_cons rfl ?_))
              refine tt_op rfl (op_alloc H28 rfl kflaw19_1) rfl rfl ?_
              rintro _ w45 ⟨b44, rfl, H46⟩
              refine ⟨(H46.pickT (p := [_, _, _, _, _, _]) (m := [_, _, _, _]) [2, 3, 4, 5] rfl (by decide)), fun w47 e49 => ?_⟩
              have H48 := H46.ext e49
              refine tt_op rfl (Yd.op (y_build (places := [(0, 1), (1, 1), (2, 1)]) (parts := [(0, _), (1, _), (2, _)]) (vs := [(0, _), (1, _), (2, _)]) (cs := [.int _ _, .int _ _, .slice _ _ _]) rfl Try.underlying34 (by kernel_rfl) kflaw19_1 rfl ⟨rfl, rfl, rfl, trivial⟩ rfl)) rfl rfl ?_
              rintro _ _ ⟨rfl, rfl⟩
              refine ⟨(H48.pickT (p := [_, _, _, _, _, _]) (m := [_, _, _, _]) [2, 3, 4, 5] rfl (by decide)), fun w50 e52 => ?_⟩
              have H51 := H48.ext e52
              refine tt_op rfl (op_st (i := 0) (vs := [.int _ _, .int _ _, .slice _ _ _]) H51 rfl rfl rfl rfl rfl kflaw19_3 rfl rfl rfl) rfl rfl ?_
              rintro _ w53 H54
              refine ⟨(H54.pickT (p := [_, _, _, _, _, _]) (m := [_, _, _, _]) [2, 3, 4, 5] rfl (by decide)), fun w55 e57 => ?_⟩
              have H56 := H54.ext e57
              simp only [Nat.zero_add, List.nil_append] at H56
              exact tt_leaf ⟨b44, A23, c24, rfl, (H56.pickT (p := [_, _, _, _, _, _]) (m := [_, _, _, _, _]) [1, 0, 4, 3, 2] rfl (by decide))⟩ ⟨rfl, trivial⟩ (by repeat (first | exact kp_refl | refine kp_app rfl rfl ?_ | refine kp_cons rfl ?_))
            refine tt_op rfl (op_alloc H21 rfl kflaw19_1) rfl rfl ?_
            rintro _ w59 ⟨b58, rfl, H60⟩
            refine ⟨(H60.pickT (p := [_, _, _, _, _, _]) (m := [_, _, _, _]) [2, 3, 4, 5] rfl (by decide)), fun w61 e63 => ?_⟩
            have H62 := H60.ext e63
            refine tt_op rfl (op_app (i := 1) (k := 0) (m := a * h) (ys := vi .i64 V) (size := 1) H62 rfl rfl rfl rfl (H62.rd (i := 5) rfl) (by rw [vi_len, hl, Nat.mul_one]) (vi_one) Try.underlying32 kflaw19_17 rfl rfl (by unfold maxLen; omega) (by omega)) rfl rfl ?_
            rintro _ w66 ⟨A64, c65, rfl, H67⟩
            refine ⟨(H67.pickT (p := [_, _, _, _, _, _]) (m := [_, _, _, _]) [2, 3, 4, 5] rfl (by decide)), fun w68 e70 => ?_⟩
            have H69 := H67.ext e70
            refine tt_op rfl (Yd.op (y_build (places := [(0, 1), (1, 1), (2, 1)]) (parts := [(0, _), (1, _), (2, _)]) (vs := [(0, _), (1, _), (2, _)]) (cs := [.int _ _, .int _ _, .slice _ _ _]) rfl Try.underlying34 (by kernel_rfl) kflaw19_1 rfl ⟨rfl, rfl, rfl, trivial⟩ rfl)) rfl rfl ?_
            rintro _ _ ⟨rfl, rfl⟩
            refine ⟨(H69.pickT (p := [_, _, _, _, _, _]) (m := [_, _, _, _]) [2, 3, 4, 5] rfl (by decide)), fun w71 e73 => ?_⟩
            have H72 := H69.ext e73
            refine tt_op rfl (op_st (i := 0) (vs := [.int _ _, .int _ _, .slice _ _ _]) H72 rfl rfl rfl rfl rfl kflaw19_3 rfl rfl rfl) rfl rfl ?_
            rintro _ w74 H75
            refine ⟨(H75.pickT (p := [_, _, _, _, _, _]) (m := [_, _, _, _]) [2, 3, 4, 5] rfl (by decide)), fun w76 e78 => ?_⟩
            have H77 := H75.ext e78
            simp only [Nat.zero_add, List.nil_append] at H77
            exact tt_leaf ⟨b58, A64, c65, rfl, (H77.pickT (p := [_, _, _, _, _, _]) (m := [_, _, _, _, _]) [1, 0, 4, 3, 2] rfl (by decide))⟩ ⟨rfl, trivial⟩ (by repeat (first | exact kp_refl | refine kp_app rfl rfl ?_ | refine kp_cons rfl ?_))
          refine tt_op rfl (op_alloc HX rfl kflaw19_1) rfl rfl ?_
          rintro _ w80 ⟨b79, rfl, H81⟩
          refine ⟨(H81.pickT (p := [_, _, _, _, _]) (m := [_, _, _, _]) [1, 2, 3, 4] rfl (by decide)), fun w82 e84 => ?_⟩
          have H83 := H81.ext e84
          refine tt_op rfl (op_lit (parts := []) (vs := []) (cs := []) H83 rfl Try.underlying32 kflaw19_16 rfl trivial rfl rfl) rfl rfl ?_
          rintro _ w86 ⟨b85, rfl, H87⟩
          have H88 := H87.asrow (m := 0) (size := 1) rfl (by decide)
          refine ⟨(H88.pickT (p := [_, _, _, _, _, _]) (m := [_, _, _, _]) [2, 3, 4, 5] rfl (by decide)), fun w89 e91 => ?_⟩
          have H90 := H88.ext e91
          refine tt_op rfl (op_app (i := 0) (k := 0) (m := a * h) (ys := vi .i64 V) (size := 1) H90 rfl rfl rfl rfl (H90.rd (i := 5) rfl) (by rw [vi_len, hl, Nat.mul_one]) (vi_one) Try.underlying32 kflaw19_17 rfl rfl (by unfold maxLen; omega) (by omega)) rfl rfl ?_
          rintro _ w94 ⟨A92, c93, rfl, H95⟩
          refine ⟨(H95.pickT (p := [_, _, _, _, _, _]) (m := [_, _, _, _]) [2, 3, 4, 5] rfl (by decide)), fun w96 e98 => ?_⟩
          have H97 := H95.ext e98
          refine tt_op rfl (Yd.op (y_build (places := [(0, 1), (1, 1), (2, 1)]) (parts := [(0, _), (1, _), (2, _)]) (vs := [(0, _), (1, _), (2, _)]) (cs := [.int _ _, .int _ _, .slice _ _ _]) rfl Try.underlying34 (by kernel_rfl) kflaw19_1 rfl ⟨rfl, rfl, rfl, trivial⟩ rfl)) rfl rfl ?_
          rintro _ _ ⟨rfl, rfl⟩
          refine ⟨(H97.pickT (p := [_, _, _, _, _, _]) (m := [_, _, _, _]) [2, 3, 4, 5] rfl (by decide)), fun w99 e101 => ?_⟩
          have H100 := H97.ext e101
          refine tt_op rfl (op_st (i := 1) (vs := [.int _ _, .int _ _, .slice _ _ _]) H100 rfl rfl rfl rfl rfl kflaw19_3 rfl rfl rfl) rfl rfl ?_
          rintro _ w102 H103
          refine ⟨(H103.pickT (p := [_, _, _, _, _, _]) (m := [_, _, _, _]) [2, 3, 4, 5] rfl (by decide)), fun w104 e106 => ?_⟩
          have H105 := H103.ext e106
          simp only [Nat.zero_add, List.nil_append] at H105
          exact tt_leaf ⟨b79, A92, c93, rfl, (H105.pickT (p := [_, _, _, _, _, _]) (m := [_, _, _, _, _]) [0, 1, 4, 3, 2] rfl (by decide))⟩ ⟨rfl, trivial⟩ (by repeat (first | exact kp_refl | refine kp_app rfl rfl ?_ | refine kp_cons rfl ?_))
        · skip
          rintro M w108 ⟨b', A', cap', rfl, H107⟩
          refine fn_next ?_
          refine cw_seq ?_
          refine cw_reg ?_
          refine ry (y_fa rfl rfl kflaw19_14 rfl) rfl rfl ?_
          refine ry (y_ld rfl rfl kflaw19_15 (H107.cell (i := 1) rfl rfl)) rfl rfl ?_
          refine ry (y_fa rfl rfl kflaw19_18 rfl) rfl rfl ?_
          refine ry (y_ld rfl rfl kflaw19_7 (H107.cell (i := 3) rfl rfl)) rfl rfl ?_
          refine ry (y_fa rfl rfl kflaw19_6 rfl) rfl rfl ?_
          refine ry (y_ld rfl rfl kflaw19_7 (H107.cell (i := 2) rfl rfl)) rfl rfl ?_
          refine ry (y_mul rfl rfl rfl (show _ = ((y * a : Nat) : Int) from by rw [e1]; exact wi (by omega))) rfl rfl ?_
          refine ry (y_fa rfl rfl kflaw19_19 rfl) rfl rfl ?_
          refine ry (y_ld rfl rfl kflaw19_7 (H107.cell (i := 3) rfl rfl)) rfl rfl ?_
          refine ry (y_add rfl rfl rfl (show _ = ((y * a + x : Nat) : Int) from by rw [← Int.natCast_add]; exact wi (by omega))) rfl rfl ?_
          refine ry (y_mov rfl rfl) rfl rfl ?_
          refine ry (y_mov rfl rfl) rfl rfl ?_
          refine ry (y_add rfl rfl rfl (wi (by omega))) rfl rfl ?_
          refine ry (y_iar (H107.rd (i := 0) rfl) rfl rfl rfl kflaw19_11 (rfl) (by omega) (Nat.mul_one _) (hgi)) rfl rfl ?_
          refine reg_op (op_ste (i := 0) (vs := [.int _ _]) H107 rfl rfl rfl rfl rfl kflaw19_20 rfl (by rw [vi_len, hl]; exact e2) rfl rfl) rfl rfl ?_
          rintro _ w109 H110
          refine reg_nil ?_
          refine fn_next ?_
          refine cw_seq ?_
          refine cw_reg ?_
          refine ry (y_ldb (i := 1) (cs := [_, _, _]) H110 rfl rfl kflaw19_4 rfl rfl) rfl rfl ?_
          refine reg_op (op_st (i := 4) (vs := [.int _ _, .int _ _, .slice _ _ _]) H110 rfl rfl rfl rfl rfl kflaw19_3 rfl rfl rfl) rfl rfl ?_
          rintro _ w111 H112
          refine ry (y_asg rfl rfl) rfl rfl ?_
          refine reg_nil ?_
          refine fn_next ?_
          refine cw_ret ?_
          refine fn_retn (vs := [_, _]) rfl ⟨⟨_, rfl, load_agg (cs := [_, _, _]) kflaw19_4 rfl fun j v hv => by rw [Nat.zero_add]; exact H112.cell (i := 4) rfl hv⟩, rfl, trivial⟩ rfl ?_
          have hc := faddC_ok hw hd
          rw [hc, faddV_ok hc]
          rw [vi_set] at H112
          have e5 : addV V a x y d = V.set (y * a + x) (gatV V a h x y + d) := by rw [gatV_ok hw]; rfl
          rw [e5]
          exact ⟨_, _, rfl, (H112.pickT (p := [_, _, _, _, _]) (m := [_]) [0] rfl (by decide))⟩

theorem nAdd (w0 : World) (l : List Ob) (a h : Nat) (A : Option Addr) (cap : Nat) (V : List Int) (x y d : Int) (w : World) (p : SzG a h) (hl : V.length = a * h) (hb : B40 V) (H0 : HS w0 w (Ob.row A (a * h) cap (vi .i64 (V)) 2 1 :: l)) : Ret Try.prog 17 [.agg #[.int .i64 (a : Int), .int .i64 (h : Int), .slice A (a * h) cap], .agg #[.int .i64 x, .int .i64 y], .int .i64 d] w (fun z w' => ∃ A' cap', z = .tuple #[.agg #[.int .i64 (a : Int), .int .i64 (h : Int), .slice A' (a * h) cap'], .int .i64 (faddC V a h x y d)] ∧ HS w0 w' (Ob.row A' (a * h) cap' (vi .i64 (faddV V a h x y d)) 2 1 :: l)) := by
  by_cases hw : withinC x y x y a h = 0
  · by_cases hd : d > 1099511627776 - gatV V a h x y ∨ d < -1099511627776 - gatV V a h x y
    · exact nAdd_v w0 l a h A cap V x y d w p hl hb hw hd H0
    · exact nAdd_ok w0 l a h A cap V x y d w p hl hb hw hd H0
  · exact nAdd_w w0 l a h A cap V x y d w p hl hw H0

end Go.Proofs.Ytkphmcaoioaglaa
