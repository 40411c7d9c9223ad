/- Layer 34: land, as lines of signs. -/
import Derived.Test.YtgkkbeomhkggjaaDoorTint2
import Derived.Test.YtgkkbeomhkggjaaDoorBld1
import Derived.Test.YtgkkbeomhkggjaaDoorPlain34c
import Derived.Test.YtgkkbeomhkggjaaDoorRef10
import Derived.Test.YtgkkbeomhkggjaaDoorChart1
import Derived.Test.YtgkkbeomhkggjaaDoorRef34
set_option linter.unusedVariables false
set_option linter.unusedSimpArgs false
namespace Go.Proofs.YtgkkbeomhkggjaaDoor
open Go Go.RowKit
theorem kfdraw1_1 : aggB Tryd.prog 90 4 = true := by kernel_rfl
theorem kfdraw1_2 : callB Tryd.prog 41 = true := by kernel_rfl
theorem kfdraw1_3 : callB Tryd.prog 63 = true := by kernel_rfl
theorem kfdraw1_4 : (Tryd.prog.info? 128).bind (fun i => i.zero.map Value.cells) = some (List.toArray [(.pointer none), (.slice none 0 0)]) := by kernel_rfl
theorem kfdraw1_5 : elB Tryd.prog 22 1 = true := by kernel_rfl
theorem kfdraw1_6 : oneB Tryd.prog 2 = true := by kernel_rfl
theorem kfdraw1_7 : callB Tryd.prog 64 = true := by kernel_rfl
theorem kfdraw1_8 : callB Tryd.prog 65 = true := by kernel_rfl
theorem kfdraw1_9 : callB Tryd.prog 66 = true := by kernel_rfl
theorem kfdraw1_10 : (Tryd.prog.info? 24).bind (fun i => i.zero.map Value.cells) = some (List.toArray [(.int .i64 0), (.int .i64 0)]) := by kernel_rfl
theorem kfdraw1_11 : szB Tryd.prog 24 2 = true := by kernel_rfl
theorem kfdraw1_12 : fldB Tryd.prog 24 0 0 = true := by kernel_rfl
theorem kfdraw1_13 : fldB Tryd.prog 90 2 2 = true := by kernel_rfl
theorem kfdraw1_14 : callB Tryd.prog 67 = true := by kernel_rfl
theorem kfdraw1_15 : (Tryd.prog.info? 9).map (fun i => (i.size, i.zero.map Value.cells)) = some (1, some (List.toArray [(.string .empty)])) := by kernel_rfl
theorem kfdraw1_16 : (Tryd.prog.info? 9).map (fun i => (i.zero.map (·.cells.toList), i.size, i.bytes)) = some (some [(.string .empty)], 1, 16) := by kernel_rfl
theorem kfdraw1_17 : callB Tryd.prog 68 = true := by kernel_rfl
theorem tintOf_ok (A : Option Addr) (n c : Nat) (l : List Bd) (v : Int) (w : World) (hr : rgtB l = true) (hb : Rd w A (bcells l)) (hl : l.length = n) (hn : n ≤ 100000000) (hcap : n ≤ c) : Ret Tryd.prog 64 [.slice A n c, .int .i64 v] w (fun v_ w' => v_ = .tuple #[.int .i32 (ofF l v), .int .i64 0] ∧ Below w.heap.size w w') := by
  have h1 := tintOf A n c l v w hb hl hn hcap
  simp only [hr, if_true] at h1
  exact h1

set_option maxRecDepth 100000 in
theorem drawNo (g a h : Nat) (V : List Int) (x0 y0 x1 y1 : Int) (A : Option Addr) (n c : Nat) (l : List Bd) (w : World) (R : GRd w g a h V) (hw : ¬ withinC x0 y0 x1 y1 a h = 0) (hb : Rd w A (bcells l)) (hl : l.length = n) (hn : n ≤ 100000000) (hcap : n ≤ c) :
    Ret Tryd.prog 38 [.pointer (some ⟨g, 0, none⟩), .agg #[.int .i64 x0, .int .i64 y0, .int .i64 x1, .int .i64 y1], .slice A n c] w (fun v w' => v = .tuple #[.slice none 0 0, .int .i64 (withinC x0 y0 x1 y1 a h)] ∧ Below w.heap.size w w') := by
 refine ret_enter Tryd.func38 rfl rfl rfl ?_
 have H0 := HS.start w
 refine cw_seq ?_
 refine cw_reg ?_
 refine reg_op (op_box (cs := [.int _ _, .int _ _, .int _ _, .int _ _]) H0 rfl rfl rfl) rfl rfl ?_
 rintro _ w2 ⟨b1, rfl, H3⟩
 refine ry (y_asg rfl rfl) rfl rfl ?_
 refine ry (y_asg rfl rfl) rfl rfl ?_
 refine reg_nil ?_
 refine fn_next ?_
 refine cw_seq ?_
 refine cw_reg ?_
 refine ry (y_mov rfl rfl) rfl rfl ?_
 refine ry (y_ldb (i := 0) (cs := [_, _, _, _]) H3 rfl rfl kfdraw1_1 rfl rfl) rfl rfl ?_
 refine reg_op (op_call (gValues g a h (V) x0 y0 x1 y1 _ (R.below H3.base)) rfl kfdraw1_2 ⟨rfl, rfl, trivial⟩) rfl rfl ?_
 rintro _ w5 ⟨A7, c8, rfl, k4⟩
 have H6 := H3.call k4
 refine ry (y_mov rfl rfl) rfl rfl ?_
 refine ry (y_ext rfl rfl rfl) rfl rfl ?_
 refine ry (y_ext rfl rfl rfl) rfl rfl ?_
 refine ry (y_asg rfl rfl) rfl rfl ?_
 refine ry (y_asg rfl rfl) rfl rfl ?_
 refine reg_nil ?_
 refine fn_next ?_
 refine cw_seq ?_
 refine cw_block ?_
 refine cw_seq ?_
 refine cw_reg ?_
 refine ry (y_mov rfl rfl) rfl rfl ?_
 refine ry (y_neq rfl rfl rfl) rfl rfl ?_
 refine ry (y_asg rfl rfl) rfl rfl ?_
 refine reg_nil ?_
 refine fn_next ?_
 refine cw_condd rfl (fun h9 => ?_) (fun h9 => ?_)
 ·skip
  refine cw_seq ?_
  refine cw_reg ?_
  refine ry (y_mov rfl rfl) rfl rfl ?_
  refine ry (y_asg rfl rfl) rfl rfl ?_
  refine ry (y_asg rfl rfl) rfl rfl ?_
  refine reg_nil ?_
  refine fn_next ?_
  refine cw_ret ?_
  refine fn_block_ret (fn_then_ret ?_)
  refine fn_retn (vs := [_, _]) rfl ⟨rfl, rfl, trivial⟩ rfl ?_
  exact ⟨rfl, H6.base⟩
 · exact (h9 hw).elim

set_option maxRecDepth 100000 in
theorem drawForm (g a h : Nat) (V : List Int) (x0 y0 x1 y1 : Int) (A : Option Addr) (n c : Nat) (l : List Bd) (w : World) (R : GRd w g a h V) (hw : withinC x0 y0 x1 y1 a h = 0) (hr : rgtB l = false) (hb : Rd w A (bcells l)) (hl : l.length = n) (hn : n ≤ 100000000) (hcap : n ≤ c) :
    Ret Tryd.prog 38 [.pointer (some ⟨g, 0, none⟩), .agg #[.int .i64 x0, .int .i64 y0, .int .i64 x1, .int .i64 y1], .slice A n c] w (fun v w' => v = .tuple #[.slice none 0 0, .int .i64 13] ∧ Below w.heap.size w w') := by
 refine ret_enter Tryd.func38 rfl rfl rfl ?_
 have H0 := HS.start w
 refine cw_seq ?_
 refine cw_reg ?_
 refine reg_op (op_box (cs := [.int _ _, .int _ _, .int _ _, .int _ _]) H0 rfl rfl rfl) rfl rfl ?_
 rintro _ w2 ⟨b1, rfl, H3⟩
 refine ry (y_asg rfl rfl) rfl rfl ?_
 refine ry (y_asg rfl rfl) rfl rfl ?_
 refine reg_nil ?_
 refine fn_next ?_
 refine cw_seq ?_
 refine cw_reg ?_
 refine ry (y_mov rfl rfl) rfl rfl ?_
 refine ry (y_ldb (i := 0) (cs := [_, _, _, _]) H3 rfl rfl kfdraw1_1 rfl rfl) rfl rfl ?_
 refine reg_op (op_call (gValues g a h (V) x0 y0 x1 y1 _ (R.below H3.base)) rfl kfdraw1_2 ⟨rfl, rfl, trivial⟩) rfl rfl ?_
 rintro _ w5 ⟨A7, c8, rfl, k4⟩
 have H6 := H3.call k4
 refine ry (y_mov rfl rfl) rfl rfl ?_
 refine ry (y_ext rfl rfl rfl) rfl rfl ?_
 refine ry (y_ext rfl rfl rfl) rfl rfl ?_
 refine ry (y_asg rfl rfl) rfl rfl ?_
 refine ry (y_asg rfl rfl) rfl rfl ?_
 refine reg_nil ?_
 refine fn_next ?_
 refine cw_seq ?_
 refine cw_block ?_
 refine cw_seq ?_
 refine cw_reg ?_
 refine ry (y_mov rfl rfl) rfl rfl ?_
 refine ry (y_neq rfl rfl rfl) rfl rfl ?_
 refine ry (y_asg rfl rfl) rfl rfl ?_
 refine reg_nil ?_
 refine fn_next ?_
 refine cw_condd rfl (fun h9 => ?_) (fun h9 => ?_)
 · exact absurd hw h9
 ·skip
  refine cw_seq ?_
  refine cw_reg ?_
  refine ry (y_mov rfl rfl) rfl rfl ?_
  refine reg_op (op_call (tintRight A n c l _ (hb.below H6.base) hl hn hcap) rfl kfdraw1_3 ⟨rfl, trivial⟩) rfl rfl ?_
  rintro _ w11 ⟨rfl, e10⟩
  have H12 := H6.ext e10
  refine ry (y_not rfl rfl) rfl rfl ?_
  refine ry (y_asg rfl rfl) rfl rfl ?_
  refine reg_nil ?_
  refine fn_next ?_
  refine cw_cond rfl (fun h13 => ?_) (fun h13 => ?_)
  ·skip
   refine cw_seq ?_
   refine cw_reg ?_
   refine ry (y_asg rfl rfl) rfl rfl ?_
   refine ry (y_asg rfl rfl) rfl rfl ?_
   refine reg_nil ?_
   refine fn_next ?_
   refine cw_ret ?_
   refine fn_block_ret (fn_then_ret ?_)
   refine fn_retn (vs := [_, _]) rfl ⟨rfl, rfl, trivial⟩ rfl ?_
   exact ⟨rfl, H12.base⟩
  · (rw [hr] at h13; cases h13)

set_option maxRecDepth 100000 in
set_option maxHeartbeats 4000000 in
theorem drawOk (g a h : Nat) (V : List Int) (p0 q0 p1 q1 : Nat) (A : Option Addr) (n c : Nat) (l : List Bd) (VS : List Int) (w : World) (R : GRd w g a h V) (hw : withinC p0 q0 p1 q1 a h = 0) (h1 : p0 ≤ p1) (h2 : p1 < 1024) (h3 : q0 ≤ q1) (h4 : q1 < 1024) (hVS : gvalV V a h p0 q0 p1 q1 = VS) (hVl : VS.length = (q1 + 1 - q0) * (p1 + 1 - p0)) (hr : rgtB l = true) (hb : Rd w A (bcells l)) (hl : l.length = n) (hn : n ≤ 100000000) (hcap : n ≤ c) :
    Ret Tryd.prog 38 [.pointer (some ⟨g, 0, none⟩), .agg #[.int .i64 (p0 : Int), .int .i64 (q0 : Int), .int .i64 (p1 : Int), .int .i64 (q1 : Int)], .slice A n c] w (fun v w' => ∃ A1 c1, v = .tuple #[.slice A1 (q1 + 1 - q0) c1, .int .i64 0] ∧ HS w w' [.row A1 (q1 + 1 - q0) c1 (strs (drawL l (p1 + 1 - p0) VS (q1 + 1 - q0))) 9 1]) := by
 have hR := (rgtB_iff l).1 hr
 have hVg : (gvalV V a h p0 q0 p1 q1).length = VS.length := by rw [hVS]
 have hVb : VS.length ≤ 1024 * 1024 := by rw [hVl]; exact Nat.mul_le_mul (by omega) (by omega)
 refine ret_enter Tryd.func38 rfl rfl rfl ?_
 have H0 := HS.start w
 refine cw_seq ?_
 refine cw_reg ?_
 refine reg_op (op_box (cs := [.int _ _, .int _ _, .int _ _, .int _ _]) H0 rfl rfl rfl) rfl rfl ?_
 rintro _ w2 ⟨b1, rfl, H3⟩
 refine ry (y_asg rfl rfl) rfl rfl ?_
 refine ry (y_asg rfl rfl) rfl rfl ?_
 refine reg_nil ?_
 refine fn_next ?_
 refine cw_seq ?_
 refine cw_reg ?_
 refine ry (y_mov rfl rfl) rfl rfl ?_
 refine ry (y_ldb (i := 0) (cs := [_, _, _, _]) H3 rfl rfl kfdraw1_1 rfl rfl) rfl rfl ?_
 refine reg_op (op_call (gValues g a h (V) p0 q0 p1 q1 _ (R.below H3.base)) rfl kfdraw1_2 ⟨rfl, rfl, trivial⟩) rfl rfl ?_
 rintro _ w5 ⟨A7, c8, rfl, k4⟩
 have H6 := H3.call k4
 rw [hVS] at H6
 refine ry (y_mov rfl rfl) rfl rfl ?_
 refine ry (y_ext rfl rfl rfl) rfl rfl ?_
 refine ry (y_ext rfl rfl rfl) rfl rfl ?_
 refine ry (y_asg rfl rfl) rfl rfl ?_
 refine ry (y_asg rfl rfl) rfl rfl ?_
 refine reg_nil ?_
 refine fn_next ?_
 refine cw_seq ?_
 refine cw_block ?_
 refine cw_seq ?_
 refine cw_reg ?_
 refine ry (y_mov rfl rfl) rfl rfl ?_
 refine ry (y_neq rfl rfl rfl) rfl rfl ?_
 refine ry (y_asg rfl rfl) rfl rfl ?_
 refine reg_nil ?_
 refine fn_next ?_
 refine cw_condd rfl (fun h9 => ?_) (fun h9 => ?_)
 · exact absurd hw h9
 ·skip
  refine cw_seq ?_
  refine cw_reg ?_
  refine ry (y_mov rfl rfl) rfl rfl ?_
  refine reg_op (op_call (tintRight A n c l _ (hb.below H6.base) hl hn hcap) rfl kfdraw1_3 ⟨rfl, trivial⟩) rfl rfl ?_
  rintro _ w11 ⟨rfl, e10⟩
  have H12 := H6.ext e10
  refine ry (y_not rfl rfl) rfl rfl ?_
  refine ry (y_asg rfl rfl) rfl rfl ?_
  refine reg_nil ?_
  refine fn_next ?_
  refine cw_cond rfl (fun h13 => ?_) (fun h13 => ?_)
  · (rw [hr] at h13; cases h13)
  ·skip
   refine cw_skip ?_
   refine fn_block ?_
   refine fn_next ?_
   refine cw_seq ?_
   refine cw_reg ?_
   refine ry (y_asg rfl rfl) rfl rfl ?_
   refine reg_nil ?_
   refine fn_next ?_
   refine cw_seq ?_
   refine cw_reg ?_
   refine reg_op (op_alloc H12 rfl kfdraw1_4) rfl rfl ?_
   rintro _ w15 ⟨b14, rfl, H16⟩
   refine reg_nil ?_
   refine fn_next ?_
   refine cw_seq ?_
   refine cw_seq ?_
   refine cw_reg ?_
   refine ry (y_mov rfl rfl) rfl rfl ?_
   refine ry (y_len rfl Tryd.underlying22 rfl) rfl rfl ?_
   refine ry (y_mov rfl rfl) rfl rfl ?_
   refine reg_nil ?_
   refine fn_next ?_
   refine cw_block ?_
   have H17 := H16.nilrow 9 1
   have H18 := H17.nilrow 5 1
   refine cw_loopJ [10, 12, 13, 14, 15, 16, 17, 34, 35, 36, 37, 38, 39, 40, 41, 42, 43, 44, 45, 46, 47, 48, 49, 50, 51, 52, 53, 54, 55, 56, 57, 58, 59, 60, 61, 62, 63] (fun M wl ml => ∃ (i k c2 c1 c3 : Nat) (A1 A3 : Option Addr), M = [(10, .slice A1 (drawL l (p1 + 1 - p0) VS k).length c1), (34, .int .i64 (i : Int))] ∧ HS w wl [Ob.row A7 VS.length c8 (vi .i64 VS) 2 1, Ob.blk b1 [.int .i64 (p0 : Int), .int .i64 (q0 : Int), .int .i64 (p1 : Int), .int .i64 (q1 : Int)] 90, Ob.blk b14 [if c2 = 0 then .pointer none else .pointer (some ⟨b14, 0, none⟩), .slice A3 (lineB l ((VS.drop (k * (p1 + 1 - p0))).take c2)).length c3] 128, Ob.row A3 (lineB l ((VS.drop (k * (p1 + 1 - p0))).take c2)).length c3 (vi .u8 (lineB l ((VS.drop (k * (p1 + 1 - p0))).take c2))) 5 1, Ob.row A1 (drawL l (p1 + 1 - p0) VS k).length c1 (strs (drawL l (p1 + 1 - p0) VS k)) 9 1] ∧ (i = k * (p1 + 1 - p0) + c2) ∧ (c2 < (p1 + 1 - p0)) ∧ (i ≤ VS.length) ∧ ml = VS.length + 1 - i) ⟨0, 0, 0, 0, 0, none, none, rfl, (H18.pick (m := [_, _, _, _, _]) [3, 4, 2, 0, 1] rfl (by decide)), by omega, by omega, Nat.zero_le _, rfl⟩ ⟨rfl, rfl, trivial⟩ ?_
   rintro M w19 m21 ⟨i, k, c2, c1, c3, A1, A3, rfl, H20, hik, hcn, hin, rfl⟩
   refine cw_seq ?_
   refine cw_reg ?_
   refine ry (y_lss rfl rfl rfl) rfl rfl ?_
   refine reg_nil ?_
   refine fn_next ?_
   refine cw_seq ?_
   refine cw_condd rfl (fun h22 => ?_) (fun h22 => ?_)
   ·skip
    have g0 := vi_get (k := .i64) (zs := VS) (i := i) (by omega)
    obtain ⟨hm, hd⟩ := grid_at (k := k) (c := c2) (wd := (p1 + 1 - p0)) hcn
    rw [← hik] at hm hd
    have hns : (VS.drop (k * (p1 + 1 - p0))).take c2 ++ [nth VS i] = (VS.drop (k * (p1 + 1 - p0))).take (c2 + 1) := by rw [hik]; exact take_snoc (by omega)
    have hnl : (lineB l ((VS.drop (k * (p1 + 1 - p0))).take c2)).length + (encB (ofF l (nth VS i))).length = (lineB l ((VS.drop (k * (p1 + 1 - p0))).take (c2 + 1))).length := by rw [← hns, ← lineB_push, List.length_append]
    have hz1 := (lineB_len (l := l) (vs := (VS.drop (k * (p1 + 1 - p0))).take c2)).2
    have hz2 : ((VS.drop (k * (p1 + 1 - p0))).take c2).length ≤ c2 := by rw [List.length_take]; omega
    have hz3 := (lineB_len (l := l) (vs := (VS.drop (k * (p1 + 1 - p0))).take (c2 + 1))).1
    have hz4 : ((VS.drop (k * (p1 + 1 - p0))).take (c2 + 1)).length = c2 + 1 := by rw [← hns, List.length_append, List.length_take, List.length_drop]; simp only [List.length_cons, List.length_nil]; omega
    have hdl := drawL_len (l := l) (wd := (p1 + 1 - p0)) (vs := VS) (k := k)
    have hkb : k ≤ i := by rw [hik]; exact Nat.le_trans (Nat.le_mul_of_pos_right k (by omega)) (Nat.le_add_right _ _)
    refine cw_skip ?_
    refine fn_next ?_
    refine cw_seq ?_
    refine cw_block ?_
    refine cw_seq ?_
    refine cw_reg ?_
    refine ry (y_mov rfl rfl) rfl rfl ?_
    refine ry (y_iar (H20.rd (i := 0) rfl) rfl rfl rfl kfdraw1_5 (rfl) (by omega) (Nat.mul_one _) (g0)) rfl rfl ?_
    refine ry (y_ldr (H20.rd (i := 0) rfl) rfl rfl kfdraw1_6 (g0)) rfl rfl ?_
    refine ry (y_asg rfl rfl) rfl rfl ?_
    refine ry (y_asg rfl rfl) rfl rfl ?_
    refine reg_nil ?_
    refine fn_next ?_
    refine cw_seq ?_
    refine cw_reg ?_
    refine ry (y_mov rfl rfl) rfl rfl ?_
    refine ry (y_mov rfl rfl) rfl rfl ?_
    refine reg_op (op_call (tintOf_ok A n c l (nth VS i) _ hr (hb.below H20.base) hl hn hcap) rfl kfdraw1_7 ⟨rfl, rfl, trivial⟩) rfl rfl ?_
    rintro _ w24 ⟨rfl, e23⟩
    have H25 := H20.ext e23
    refine ry (y_mov rfl rfl) rfl rfl ?_
    refine ry (y_ext rfl rfl rfl) rfl rfl ?_
    refine ry (y_ext rfl rfl rfl) rfl rfl ?_
    refine ry (y_asg rfl rfl) rfl rfl ?_
    refine ry (y_asg rfl rfl) rfl rfl ?_
    refine reg_nil ?_
    refine fn_next ?_
    refine cw_seq ?_
    rcases Nat.eq_zero_or_pos c2 with hc0 | hc0
    ·skip
     rw [if_pos hc0] at H25
     refine cw_reg ?_
     refine ry (y_mov rfl rfl) rfl rfl ?_
     refine reg_op (op_call (bldRuneN w _ b14 A3 (lineB l ((VS.drop (k * (p1 + 1 - p0))).take c2)).length c3 (lineB l ((VS.drop (k * (p1 + 1 - p0))).take c2)) (ofF l (nth VS i)) _ (ofF_sgn hR _) (by omega) (H25.pick (m := [_, _, _, _, _]) [2, 3, 0, 1, 4] rfl (by decide))) rfl kfdraw1_8 ⟨rfl, rfl, trivial⟩) rfl rfl ?_
     rintro _ w27 ⟨u28, A29, c30, rfl, H26⟩
     rw [lineB_push, hns, hnl] at H26
     refine reg_nil ?_
     refine fn_next ?_
     refine cw_seq ?_
     refine cw_reg ?_
     refine ry (y_ldb (i := 3) (cs := [_, _, _, _]) H26 rfl rfl kfdraw1_1 rfl rfl) rfl rfl ?_
     refine ry (y_mov rfl rfl) rfl rfl ?_
     refine reg_op (op_call (nthN p0 q0 p1 q1 i _ h1 (by omega) h3 (by omega) (by omega)) rfl kfdraw1_9 ⟨rfl, rfl, trivial⟩) rfl rfl ?_
     rintro _ w32 ⟨rfl, e31⟩
     have H33 := H26.ext e31
     refine ry (y_mov rfl rfl) rfl rfl ?_
     refine ry (y_ext rfl rfl rfl) rfl rfl ?_
     refine ry (y_ext rfl rfl rfl) rfl rfl ?_
     refine reg_op (op_alloc H33 rfl kfdraw1_10) rfl rfl ?_
     rintro _ w35 ⟨b34, rfl, H36⟩
     refine reg_op (op_st (i := 0) (vs := [.int _ _, .int _ _]) H36 rfl rfl rfl rfl rfl kfdraw1_11 rfl rfl rfl) rfl rfl ?_
     rintro _ w37 H38
     refine ry (y_asg rfl rfl) rfl rfl ?_
     refine reg_nil ?_
     refine fn_next ?_
     refine cw_seq ?_
     refine cw_reg ?_
     refine ry (y_fa rfl rfl kfdraw1_12 rfl) rfl rfl ?_
     refine ry (y_ld rfl rfl kfdraw1_6 (H38.cell (i := 0) rfl rfl)) rfl rfl ?_
     refine ry (y_fa rfl rfl kfdraw1_13 rfl) rfl rfl ?_
     refine ry (y_ld rfl rfl kfdraw1_6 (H38.cell (i := 4) rfl rfl)) rfl rfl ?_
     refine ry (y_eql rfl rfl rfl) rfl rfl ?_
     refine reg_nil ?_
     refine fn_next ?_
     refine cw_condd rfl (fun h39 => ?_) (fun h39 => ?_)
     ·skip
      have hce : c2 + 1 = (p1 + 1 - p0) := by omega
      have hck : (VS.drop (k * (p1 + 1 - p0))).take (c2 + 1) = chunk VS (p1 + 1 - p0) k := by unfold chunk; rw [hce]
      rw [hck] at H38 hz3
      rw [hck] at hz4
      refine cw_seq ?_
      refine cw_reg ?_
      refine ry (y_mov rfl rfl) rfl rfl ?_
      refine reg_op (op_call (bldString w _ b14 _ A29 _ c30 _ _ (lineB_byt hR) (by omega) (H38.pick (m := [_, _, _, _, _, _]) [1, 2, 0, 3, 4, 5] rfl (by decide))) rfl kfdraw1_14 ⟨rfl, trivial⟩) rfl rfl ?_
      rintro _ w41 ⟨rfl, H40⟩
      refine reg_op (op_lit (parts := [(0, _)]) (vs := [(0, _)]) (cs := [.string _]) H40 rfl Tryd.underlying52 kfdraw1_15 rfl ⟨rfl, trivial⟩ rfl rfl) rfl rfl ?_
      rintro _ w43 ⟨b42, rfl, H44⟩
      have H45 := H44.asrow (m := 1) (size := 1) rfl (by decide)
      refine reg_op (op_app (i := 5) (ys := [.string (bs (lineB l (chunk VS (p1 + 1 - p0) k)))]) H45 rfl rfl rfl rfl (H45.rd (i := 0) rfl) (rfl) (rfl) Tryd.underlying52 kfdraw1_16 rfl rfl (by unfold maxLen; omega) (by omega)) rfl rfl ?_
      rintro _ w48 ⟨A46, c47, rfl, H49⟩
      refine ry (y_asg rfl rfl) rfl rfl ?_
      refine reg_nil ?_
      refine fn_next ?_
      refine cw_reg ?_
      refine reg_op (op_call (bldReset w _ b14 _ _ _ (H49.pick (m := [_, _, _, _, _, _]) [1, 0, 2, 3, 4, 5] rfl (by decide))) rfl kfdraw1_17 ⟨rfl, trivial⟩) rfl rfl ?_
      rintro _ w51 H50
      refine reg_nil ?_
      refine fn_block ?_
      refine fn_next ?_
      refine cw_reg ?_
      refine ry (y_add rfl rfl rfl (wi (by omega))) rfl rfl ?_
      refine ry (y_mov rfl rfl) rfl rfl ?_
      refine reg_nil ?_
      have H52 := H50.nilrow 5 1
      have hpl : (drawL l (p1 + 1 - p0) VS k).length + 1 = (drawL l (p1 + 1 - p0) VS (k + 1)).length := by rw [drawL_len, drawL_len]
      rw [strs_push, drawL_succ, hpl] at H52
      refine fn_roundJ ⟨i + 1, k + 1, 0, _, 0, _, none, rfl, (H52.pick (m := [_, _, _, _, _]) [4, 5, 1, 0, 6] rfl (by decide)), by rw [Nat.succ_mul]; omega, by omega, by omega, rfl⟩ ⟨by rw [← hpl]; rfl, rfl, trivial⟩ (by omega) (by repeat (first | exact kp_refl | refine kp_app rfl rfl ?_ | refine kp_cons rfl ?_)) rfl
     ·skip
      have hce : c2 + 1 < (p1 + 1 - p0) := by omega
      refine cw_skip ?_
      refine fn_block ?_
      refine fn_next ?_
      refine cw_reg ?_
      refine ry (y_add rfl rfl rfl (wi (by omega))) rfl rfl ?_
      refine ry (y_mov rfl rfl) rfl rfl ?_
      refine reg_nil ?_
      refine fn_roundJ ⟨i + 1, k, c2 + 1, _, _, _, _, rfl, (H38.pick (m := [_, _, _, _, _]) [3, 4, 1, 2, 5] rfl (by decide)), by omega, by omega, by omega, rfl⟩ ⟨rfl, rfl, trivial⟩ (by omega) (by repeat (first | exact kp_refl | refine kp_app rfl rfl ?_ | refine kp_cons rfl ?_)) rfl
    ·skip
     rw [if_neg (by omega)] at H25
     refine cw_reg ?_
     refine ry (y_mov rfl rfl) rfl rfl ?_
     refine reg_op (op_call (bldRuneU w _ b14 A3 (lineB l ((VS.drop (k * (p1 + 1 - p0))).take c2)).length c3 (lineB l ((VS.drop (k * (p1 + 1 - p0))).take c2)) (ofF l (nth VS i)) _ (ofF_sgn hR _) (by omega) (H25.pick (m := [_, _, _, _, _]) [2, 3, 0, 1, 4] rfl (by decide))) rfl kfdraw1_8 ⟨rfl, rfl, trivial⟩) rfl rfl ?_
     rintro _ w54 ⟨u55, A56, c57, rfl, H53⟩
     rw [lineB_push, hns, hnl] at H53
     refine reg_nil ?_
     refine fn_next ?_
     refine cw_seq ?_
     refine cw_reg ?_
     refine ry (y_ldb (i := 3) (cs := [_, _, _, _]) H53 rfl rfl kfdraw1_1 rfl rfl) rfl rfl ?_
     refine ry (y_mov rfl rfl) rfl rfl ?_
     refine reg_op (op_call (nthN p0 q0 p1 q1 i _ h1 (by omega) h3 (by omega) (by omega)) rfl kfdraw1_9 ⟨rfl, rfl, trivial⟩) rfl rfl ?_
     rintro _ w59 ⟨rfl, e58⟩
     have H60 := H53.ext e58
     refine ry (y_mov rfl rfl) rfl rfl ?_
     refine ry (y_ext rfl rfl rfl) rfl rfl ?_
     refine ry (y_ext rfl rfl rfl) rfl rfl ?_
     refine reg_op (op_alloc H60 rfl kfdraw1_10) rfl rfl ?_
     rintro _ w62 ⟨b61, rfl, H63⟩
     refine reg_op (op_st (i := 0) (vs := [.int _ _, .int _ _]) H63 rfl rfl rfl rfl rfl kfdraw1_11 rfl rfl rfl) rfl rfl ?_
     rintro _ w64 H65
     refine ry (y_asg rfl rfl) rfl rfl ?_
     refine reg_nil ?_
     refine fn_next ?_
     refine cw_seq ?_
     refine cw_reg ?_
     refine ry (y_fa rfl rfl kfdraw1_12 rfl) rfl rfl ?_
     refine ry (y_ld rfl rfl kfdraw1_6 (H65.cell (i := 0) rfl rfl)) rfl rfl ?_
     refine ry (y_fa rfl rfl kfdraw1_13 rfl) rfl rfl ?_
     refine ry (y_ld rfl rfl kfdraw1_6 (H65.cell (i := 4) rfl rfl)) rfl rfl ?_
     refine ry (y_eql rfl rfl rfl) rfl rfl ?_
     refine reg_nil ?_
     refine fn_next ?_
     refine cw_condd rfl (fun h66 => ?_) (fun h66 => ?_)
     ·skip
      have hce : c2 + 1 = (p1 + 1 - p0) := by omega
      have hck : (VS.drop (k * (p1 + 1 - p0))).take (c2 + 1) = chunk VS (p1 + 1 - p0) k := by unfold chunk; rw [hce]
      rw [hck] at H65 hz3
      rw [hck] at hz4
      refine cw_seq ?_
      refine cw_reg ?_
      refine ry (y_mov rfl rfl) rfl rfl ?_
      refine reg_op (op_call (bldString w _ b14 _ A56 _ c57 _ _ (lineB_byt hR) (by omega) (H65.pick (m := [_, _, _, _, _, _]) [1, 2, 0, 3, 4, 5] rfl (by decide))) rfl kfdraw1_14 ⟨rfl, trivial⟩) rfl rfl ?_
      rintro _ w68 ⟨rfl, H67⟩
      refine reg_op (op_lit (parts := [(0, _)]) (vs := [(0, _)]) (cs := [.string _]) H67 rfl Tryd.underlying52 kfdraw1_15 rfl ⟨rfl, trivial⟩ rfl rfl) rfl rfl ?_
      rintro _ w70 ⟨b69, rfl, H71⟩
      have H72 := H71.asrow (m := 1) (size := 1) rfl (by decide)
      refine reg_op (op_app (i := 5) (ys := [.string (bs (lineB l (chunk VS (p1 + 1 - p0) k)))]) H72 rfl rfl rfl rfl (H72.rd (i := 0) rfl) (rfl) (rfl) Tryd.underlying52 kfdraw1_16 rfl rfl (by unfold maxLen; omega) (by omega)) rfl rfl ?_
      rintro _ w75 ⟨A73, c74, rfl, H76⟩
      refine ry (y_asg rfl rfl) rfl rfl ?_
      refine reg_nil ?_
      refine fn_next ?_
      refine cw_reg ?_
      refine reg_op (op_call (bldReset w _ b14 _ _ _ (H76.pick (m := [_, _, _, _, _, _]) [1, 0, 2, 3, 4, 5] rfl (by decide))) rfl kfdraw1_17 ⟨rfl, trivial⟩) rfl rfl ?_
      rintro _ w78 H77
      refine reg_nil ?_
      refine fn_block ?_
      refine fn_next ?_
      refine cw_reg ?_
      refine ry (y_add rfl rfl rfl (wi (by omega))) rfl rfl ?_
      refine ry (y_mov rfl rfl) rfl rfl ?_
      refine reg_nil ?_
      have H79 := H77.nilrow 5 1
      have hpl : (drawL l (p1 + 1 - p0) VS k).length + 1 = (drawL l (p1 + 1 - p0) VS (k + 1)).length := by rw [drawL_len, drawL_len]
      rw [strs_push, drawL_succ, hpl] at H79
      refine fn_roundJ ⟨i + 1, k + 1, 0, _, 0, _, none, rfl, (H79.pick (m := [_, _, _, _, _]) [4, 5, 1, 0, 6] rfl (by decide)), by rw [Nat.succ_mul]; omega, by omega, by omega, rfl⟩ ⟨by rw [← hpl]; rfl, rfl, trivial⟩ (by omega) (by repeat (first | exact kp_refl | refine kp_app rfl rfl ?_ | refine kp_cons rfl ?_)) rfl
     ·skip
      have hce : c2 + 1 < (p1 + 1 - p0) := by omega
      refine cw_skip ?_
      refine fn_block ?_
      refine fn_next ?_
      refine cw_reg ?_
      refine ry (y_add rfl rfl rfl (wi (by omega))) rfl rfl ?_
      refine ry (y_mov rfl rfl) rfl rfl ?_
      refine reg_nil ?_
      refine fn_roundJ ⟨i + 1, k, c2 + 1, _, _, _, _, rfl, (H65.pick (m := [_, _, _, _, _]) [3, 4, 1, 2, 5] rfl (by decide)), by omega, by omega, by omega, rfl⟩ ⟨rfl, rfl, trivial⟩ (by omega) (by repeat (first | exact kp_refl | refine kp_app rfl rfl ?_ | refine kp_cons rfl ?_)) rfl
   ·skip
    obtain ⟨rfl, rfl⟩ := grid_end (k := k) (c := c2) (wd := (p1 + 1 - p0)) (ht := (q1 + 1 - q0)) (by omega) hcn
    refine cw_exit ?_
    refine fn_then_exit (fn_then_exit (fn_block_exit ?_))
    refine fn_next ?_
    refine cw_seq ?_
    refine cw_reg ?_
    refine ry (y_mov rfl rfl) rfl rfl ?_
    refine ry (y_asg rfl rfl) rfl rfl ?_
    refine ry (y_asg rfl rfl) rfl rfl ?_
    refine reg_nil ?_
    refine fn_next ?_
    refine cw_ret ?_
    refine fn_retn (vs := [_, _]) rfl ⟨rfl, rfl, trivial⟩ rfl ?_
    exact ⟨_, _, by rw [drawL_len], by rw [drawL_len] at H20; exact (H20.pick (m := [_]) [4] rfl (by decide))⟩

end Go.Proofs.YtgkkbeomhkggjaaDoor
