/- Layer 35: patches compared; the example; what is not there. -/
import Derived.Test.YtgkkbeomhkggjaaPast4
set_option linter.unusedVariables false
set_option linter.unusedSimpArgs false
namespace Go.Proofs.Ytgkkbeomhkggjaa
open Go Go.RowKit
theorem kflaw35_1 : (Try.prog.info? 30).bind (fun i => i.zero.map Value.cells) = some (List.toArray [(.int .i64 0), (.int .i64 0), (.int .i64 0), (.int .i64 0), (.slice none 0 0), (.slice none 0 0)]) := by kernel_rfl
theorem kflaw35_2 : (Try.prog.info? 2).map (fun i => (i.size, i.zero.map Value.cells)) = some (1, some (List.toArray [(.int .i64 0)])) := by kernel_rfl
theorem kflaw35_3 : szB Try.prog 30 6 = true := by kernel_rfl
theorem kflaw35_4 : aggB Try.prog 30 6 = true := by kernel_rfl
theorem kflaw35_5 : fldB Try.prog 30 0 0 = true := by kernel_rfl
theorem kflaw35_6 : aggB Try.prog 27 4 = true := by kernel_rfl
theorem kflaw35_7 : seqB Try.prog 27 4 = true := by kernel_rfl
theorem kflaw35_8 : fldB Try.prog 30 1 4 = true := by kernel_rfl
theorem kflaw35_9 : oneB Try.prog 28 = true := by kernel_rfl
theorem kflaw35_10 : callB Try.prog 39 = true := by kernel_rfl
theorem kflaw35_11 : fldB Try.prog 30 2 5 = true := by kernel_rfl
theorem kflaw35_12 : callB Try.prog 9 = true := by kernel_rfl
theorem kflaw35_13 : callB Try.prog 33 = true := by kernel_rfl
theorem kflaw35_14 : callB Try.prog 10 = true := by kernel_rfl
theorem kflaw35_15 : callB Try.prog 12 = true := by kernel_rfl
theorem kflaw35_16 : callB Try.prog 14 = true := by kernel_rfl
theorem kflaw35_17 : callB Try.prog 13 = true := by kernel_rfl
theorem kflaw35_18 : callB Try.prog 8 = true := by kernel_rfl
theorem kflaw35_19 : callB Try.prog 19 = true := by kernel_rfl
theorem kflaw35_20 : callB Try.prog 20 = true := by kernel_rfl
theorem pvok1 {x y : Int} (hx : I6 x) (hy : I6 y) : (Pv.mk 0 0 0 0 [x] [y]).ok := by
  have h0 : I6 0 := by unfold I6; omega
  refine ⟨h0, h0, h0, h0, fun z hz => ?_, fun z hz => ?_, by show 1 ≤ _; omega, by show 1 ≤ _; omega⟩
  · rw [List.mem_singleton.1 hz]; exact hx
  · rw [List.mem_singleton.1 hz]; exact hy
theorem i6s {x : Int} (h : -1000 ≤ x ∧ x ≤ 1000) : I6 x := by unfold I6; omega
theorem right1 {A B : Option Addr} {x y : Int} (hx : B32 x) (hy : B32 y) : (Pt.mk 0 0 0 0 ⟨A, 1, 1, [x]⟩ ⟨B, 1, 1, [y]⟩).rightP := by
  have ha : areaI 0 0 0 0 = 1 := by decide
  refine .inr ⟨show RightP 0 0 0 0 by decide, ⟨ha.symm, fun z hz => ?_⟩, ⟨ha.symm, fun z hz => ?_⟩⟩
  · rw [List.mem_singleton.1 hz]; exact hx
  · rw [List.mem_singleton.1 hz]; exact hy
theorem pDidE (w0 : World) (l : List Ob) (b : Nat) (vs : List Pv) (d : Nat) (bl : Nat → Prop) (p : Pt) (vs' : List Pv) (k : Nat) (w : World) (hp : ∀ X, HS w0 X l → p.ok X) (mo : p.o.n ≤ 16777216) (mq : p.q.n ≤ 16777216) (hr : p.rightP) (ho : 0 < p.o.n) (hd : d ≤ vs.length) (hb : vs.length ≤ 40) (he : pvDid vs d p.pv = vs') (hk : vs'.length = k) (H0 : HS w0 w (pOb b vs d bl :: l)) :
    Ret Try.prog 10 [.pointer (some ⟨b, 0, none⟩), .agg #[.int .i64 p.x0, .int .i64 p.y0, .int .i64 p.x1, .int .i64 p.y1, .slice p.o.A p.o.n p.o.c, .slice p.q.A p.q.n p.q.c]] w (fun z w' => ∃ bl', z = .int .i64 0 ∧ HS w0 w' (pOb b vs' k bl' :: l)) := by
  subst he; subst hk
  exact pDid_ok w0 l b vs d bl p w hp mo mq hr ho hd hb H0

set_option maxRecDepth 100000 in
theorem law35one (x y : Int) (w : World) :
    Ret Try.prog 33 [.int .i64 x, .int .i64 y] w (fun z w' => ∃ b1 b2, z = .agg #[.int .i64 0, .int .i64 0, .int .i64 0, .int .i64 0, .slice (some ⟨b1, 0, none⟩) 1 1, .slice (some ⟨b2, 0, none⟩) 1 1] ∧ HS w w' [.row (some ⟨b1, 0, none⟩) 1 1 [.int .i64 x] 2 1, .row (some ⟨b2, 0, none⟩) 1 1 [.int .i64 y] 2 1]) := by
 refine ret_enter Try.func33 rfl rfl rfl ?_
 have H0 := HS.start w
 refine cw_seq ?_
 refine cw_reg ?_
 refine reg_op (op_alloc H0 rfl kflaw35_1) rfl rfl ?_
 rintro _ w2 ⟨b1, rfl, H3⟩
 refine reg_nil ?_
 refine fn_next ?_
 refine cw_seq ?_
 refine cw_reg ?_
 refine ry (y_mov rfl rfl) rfl rfl ?_
 refine reg_op (op_lit (parts := [(0, _)]) (vs := [(0, _)]) (cs := [.int _ _]) H3 rfl Try.underlying28 kflaw35_2 rfl ⟨rfl, trivial⟩ rfl rfl) rfl rfl ?_
 rintro _ w5 ⟨b4, rfl, H6⟩
 have H7 := H6.asrow (m := 1) (size := 1) rfl (by decide)
 refine ry (y_mov rfl rfl) rfl rfl ?_
 refine reg_op (op_lit (parts := [(0, _)]) (vs := [(0, _)]) (cs := [.int _ _]) H7 rfl Try.underlying28 kflaw35_2 rfl ⟨rfl, trivial⟩ rfl rfl) rfl rfl ?_
 rintro _ w9 ⟨b8, rfl, H10⟩
 have H11 := H10.asrow (m := 1) (size := 1) rfl (by decide)
 refine ry (y_buildL (places := [(0, 4), (4, 1), (5, 1)]) (parts := [(1, _), (2, _)]) (vs := [(1, _), (2, _)]) (cs := [.int _ _, .int _ _, .int _ _, .int _ _, .slice _ _ _, .slice _ _ _]) [(1, [_]), (2, [_])] rfl Try.underlying30 (by kernel_rfl) kflaw35_1 rfl ⟨rfl, rfl, trivial⟩ rfl rfl) rfl rfl ?_
 refine reg_op (op_st (i := 2) (vs := [.int _ _, .int _ _, .int _ _, .int _ _, .slice _ _ _, .slice _ _ _]) H11 rfl rfl rfl rfl rfl kflaw35_3 rfl rfl rfl) rfl rfl ?_
 rintro _ w12 H13
 refine reg_nil ?_
 refine fn_next ?_
 refine cw_ret ?_
 refine fn_ret1 rfl (⟨_, rfl, load_agg (cs := [_, _, _, _, _, _]) kflaw35_4 rfl fun j v hv => by rw [Nat.zero_add]; exact H13.cell (i := 2) rfl hv⟩) ?_
 exact ⟨_, _, rfl, (H13.pick (m := [_, _]) [1, 0] rfl (by decide))⟩

set_option maxRecDepth 100000 in
theorem refPSame (x0 y0 x1 y1 : Int) (O Q : List Int) (n m : Nat) (A1 : Option Addr) (c1 : Nat) (B1 : Option Addr) (d1 : Nat) (A2 : Option Addr) (c2 : Nat) (B2 : Option Addr) (d2 : Nat) (w : World) (r1 : Rd w A1 (vi .i64 O)) (r2 : Rd w B1 (vi .i64 Q)) (r3 : Rd w A2 (vi .i64 O)) (r4 : Rd w B2 (vi .i64 Q)) (hn : O.length = n) (hm : Q.length = m) (bn : n ≤ 4000000) (bm : m ≤ 4000000) :
    Ret Try.prog 13 [.agg #[.int .i64 x0, .int .i64 y0, .int .i64 x1, .int .i64 y1, .slice A1 n c1, .slice B1 m d1], .agg #[.int .i64 x0, .int .i64 y0, .int .i64 x1, .int .i64 y1, .slice A2 n c2, .slice B2 m d2]] w (fun z w' => z = .bool true ∧ Below w.heap.size w w') := by
 refine ret_enter Try.func13 rfl rfl rfl ?_
 have H0 := HS.start w
 refine cw_seq ?_
 refine cw_reg ?_
 refine reg_op (op_box (cs := [.int _ _, .int _ _, .int _ _, .int _ _, .slice _ _ _, .slice _ _ _]) H0 rfl rfl rfl) rfl rfl ?_
 rintro _ w2 ⟨b1, rfl, H3⟩
 refine reg_op (op_box (cs := [.int _ _, .int _ _, .int _ _, .int _ _, .slice _ _ _, .slice _ _ _]) H3 rfl rfl rfl) rfl rfl ?_
 rintro _ w5 ⟨b4, rfl, H6⟩
 refine ry (y_asg rfl rfl) rfl rfl ?_
 refine reg_nil ?_
 refine fn_next ?_
 refine cw_seq ?_
 refine cw_reg ?_
 refine ry (y_fa rfl rfl kflaw35_5 rfl) rfl rfl ?_
 refine ry (y_lda (cs := [_, _, _, _]) rfl rfl kflaw35_6 rfl (fun j v hv => H6.cell (i := 1) rfl (lst_part (a := 0) (m := 4) hv))) rfl rfl ?_
 refine ry (y_fa rfl rfl kflaw35_5 rfl) rfl rfl ?_
 refine ry (y_lda (cs := [_, _, _, _]) rfl rfl kflaw35_6 rfl (fun j v hv => H6.cell (i := 0) rfl (lst_part (a := 0) (m := 4) hv))) rfl rfl ?_
 refine ry (yv (congrArg Value.bool (decide_eq_true (rfl))) (y_seq (ks := [.i64, .i64, .i64, .i64]) (a := [x0, y0, x1, y1]) (b := [x0, y0, x1, y1]) rfl (.inl ⟨rfl, rfl⟩) kflaw35_7 rfl rfl rfl rfl rfl rfl rfl)) rfl rfl ?_
 refine ry (y_mov rfl rfl) rfl rfl ?_
 refine rgy (y_fa rfl rfl kflaw35_8 rfl) rfl rfl rfl rfl ?_
 refine rgy (y_ld rfl rfl kflaw35_9 (H6.cell (i := 1) rfl rfl)) rfl rfl rfl rfl ?_
 refine rgy (y_fa rfl rfl kflaw35_8 rfl) rfl rfl rfl rfl ?_
 refine rgy (y_ld rfl rfl kflaw35_9 (H6.cell (i := 0) rfl rfl)) rfl rfl rfl rfl ?_
 refine rg_on rfl rfl rfl (op_call (ret_v (v := .bool true) (refSame_any _ n _ O _ n _ O _ ((r1.below H6.base)) hn ((r3.below H6.base)) hn (by omega)) (by rw [decide_eq_true rfl])) rfl kflaw35_10 ⟨rfl, rfl, trivial⟩) rfl ?_
 rintro _ w8 ⟨rfl, e7⟩
 have H9 := H6.ext e7
 refine ry (y_pick rfl rfl rfl) rfl rfl ?_
 refine ry (y_mov rfl rfl) rfl rfl ?_
 refine rgy (y_fa rfl rfl kflaw35_11 rfl) rfl rfl rfl rfl ?_
 refine rgy (y_ld rfl rfl kflaw35_9 (H9.cell (i := 1) rfl rfl)) rfl rfl rfl rfl ?_
 refine rgy (y_fa rfl rfl kflaw35_11 rfl) rfl rfl rfl rfl ?_
 refine rgy (y_ld rfl rfl kflaw35_9 (H9.cell (i := 0) rfl rfl)) rfl rfl rfl rfl ?_
 refine rg_on rfl rfl rfl (op_call (ret_v (v := .bool true) (refSame_any _ m _ Q _ m _ Q _ ((r2.below H9.base)) hm ((r4.below H9.base)) hm (by omega)) (by rw [decide_eq_true rfl])) rfl kflaw35_10 ⟨rfl, rfl, trivial⟩) rfl ?_
 rintro _ w11 ⟨rfl, e10⟩
 have H12 := H9.ext e10
 refine ry (y_pick rfl rfl rfl) rfl rfl ?_
 refine ry (y_asg rfl rfl) rfl rfl ?_
 refine reg_nil ?_
 refine fn_next ?_
 refine cw_ret ?_
 refine fn_ret1 rfl rfl ?_
 exact ⟨rfl, H12.base⟩

set_option maxRecDepth 100000 in
set_option maxHeartbeats 1000000 in
theorem pastAwake  (w : World) :
    Ret Try.prog 8 [] w (fun v w' => v = .bool true ∧ Below w.heap.size w w') := by
 refine ret_enter Try.func8 rfl rfl rfl ?_
 have H0 := HS.start w
 refine cw_seq ?_
 refine cw_reg ?_
 refine ry (y_asg rfl rfl) rfl rfl ?_
 refine reg_nil ?_
 refine fn_next ?_
 refine cw_seq ?_
 refine cw_reg ?_
 refine reg_op (op_call (pNew _) rfl kflaw35_12 trivial) rfl rfl ?_
 rintro _ w2 ⟨b4, rfl, bl5, k1⟩
 have H3 := H0.call k1
 refine ry (y_asg rfl rfl) rfl rfl ?_
 refine reg_nil ?_
 refine fn_next ?_
 refine cw_seq ?_
 refine cw_reg ?_
 refine ry (y_mov rfl rfl) rfl rfl ?_
 refine reg_op (op_call (law35one 1 2 _) rfl kflaw35_13 ⟨rfl, rfl, trivial⟩) rfl rfl ?_
 rintro _ w7 ⟨b9, d10, rfl, k6⟩
 have H8 := H3.call k6
 refine reg_op (op_call (pDidE w _ b4 ([]) 0 bl5 ⟨0, 0, 0, 0, ⟨(some ⟨b9, 0, none⟩), 1, 1, [1]⟩, ⟨(some ⟨d10, 0, none⟩), 1, 1, [2]⟩⟩ [⟨0, 0, 0, 0, [1], [2]⟩] 1 _ (fun X HX => HS.ptok (HX.pick (m := [_, _]) [0, 1] rfl (by decide)) (pvok1 (i6s (by omega)) (i6s (by omega)))) (by show 1 ≤ _; omega) (by show 1 ≤ _; omega) (right1 (by decide) (by decide)) (by show 0 < 1; omega) (by decide) (by decide) rfl rfl (H8.pick (m := [_, _, _]) [2, 0, 1] rfl (by decide))) rfl kflaw35_14 ⟨rfl, rfl, trivial⟩) rfl rfl ?_
 rintro _ w12 ⟨bl13, rfl, H11⟩
 refine ry (y_asg rfl rfl) rfl rfl ?_
 refine reg_nil ?_
 refine fn_next ?_
 refine cw_seq ?_
 refine cw_reg ?_
 refine ry (y_mov rfl rfl) rfl rfl ?_
 refine reg_op (op_call (pBack_ok w _ b4 ([⟨0, 0, 0, 0, [1], [2]⟩]) 0 bl13 _ (by decide) (by decide) (fun v hv => by rw [List.mem_singleton.1 hv]; exact pvok1 (i6s (by omega)) (i6s (by omega))) H11) rfl kflaw35_15 ⟨rfl, trivial⟩) rfl rfl ?_
 rintro _ w15 ⟨A16, c17, B18, e19, bl20, rfl, H14⟩
 refine ry (y_mov rfl rfl) rfl rfl ?_
 refine ry (y_ext rfl rfl rfl) rfl rfl ?_
 refine ry (y_ext rfl rfl rfl) rfl rfl ?_
 refine reg_op (op_alloc H14 rfl kflaw35_1) rfl rfl ?_
 rintro _ w22 ⟨b21, rfl, H23⟩
 refine reg_op (op_st (i := 0) (vs := [.int _ _, .int _ _, .int _ _, .int _ _, .slice _ _ _, .slice _ _ _]) H23 rfl rfl rfl rfl rfl kflaw35_3 rfl rfl rfl) rfl rfl ?_
 rintro _ w24 H25
 refine ry (y_asg rfl rfl) rfl rfl ?_
 refine reg_nil ?_
 refine fn_next ?_
 refine cw_seq ?_
 refine cw_reg ?_
 refine ry (y_mov rfl rfl) rfl rfl ?_
 refine reg_op (op_call (pAgain_ok w _ b4 ([⟨0, 0, 0, 0, [1], [2]⟩]) 0 bl20 _ (by decide) (by decide) (fun v hv => by rw [List.mem_singleton.1 hv]; exact pvok1 (i6s (by omega)) (i6s (by omega))) (H25.pick (m := [_, _, _, _, _, _]) [3, 0, 1, 2, 4, 5] rfl (by decide))) rfl kflaw35_16 ⟨rfl, trivial⟩) rfl rfl ?_
 rintro _ w27 ⟨A28, c29, B30, e31, bl32, rfl, H26⟩
 refine ry (y_mov rfl rfl) rfl rfl ?_
 refine ry (y_ext rfl rfl rfl) rfl rfl ?_
 refine ry (y_ext rfl rfl rfl) rfl rfl ?_
 refine reg_op (op_alloc H26 rfl kflaw35_1) rfl rfl ?_
 rintro _ w34 ⟨b33, rfl, H35⟩
 refine reg_op (op_st (i := 0) (vs := [.int _ _, .int _ _, .int _ _, .int _ _, .slice _ _ _, .slice _ _ _]) H35 rfl rfl rfl rfl rfl kflaw35_3 rfl rfl rfl) rfl rfl ?_
 rintro _ w36 H37
 refine ry (y_asg rfl rfl) rfl rfl ?_
 refine reg_nil ?_
 refine fn_next ?_
 refine cw_seq ?_
 refine cw_reg ?_
 refine ry (y_mov rfl rfl) rfl rfl ?_
 refine reg_op (op_call (pBack_ok w _ b4 ([⟨0, 0, 0, 0, [1], [2]⟩]) 0 bl32 _ (by decide) (by decide) (fun v hv => by rw [List.mem_singleton.1 hv]; exact pvok1 (i6s (by omega)) (i6s (by omega))) (H37.pick (m := [_, _, _, _, _, _, _, _, _]) [3, 0, 1, 2, 4, 5, 6, 7, 8] rfl (by decide))) rfl kflaw35_15 ⟨rfl, trivial⟩) rfl rfl ?_
 rintro _ w39 ⟨A40, c41, B42, e43, bl44, rfl, H38⟩
 refine ry (y_mov rfl rfl) rfl rfl ?_
 refine ry (y_ext rfl rfl rfl) rfl rfl ?_
 refine ry (y_ext rfl rfl rfl) rfl rfl ?_
 refine reg_op (op_alloc H38 rfl kflaw35_1) rfl rfl ?_
 rintro _ w46 ⟨b45, rfl, H47⟩
 refine reg_op (op_st (i := 0) (vs := [.int _ _, .int _ _, .int _ _, .int _ _, .slice _ _ _, .slice _ _ _]) H47 rfl rfl rfl rfl rfl kflaw35_3 rfl rfl rfl) rfl rfl ?_
 rintro _ w48 H49
 refine ry (y_asg rfl rfl) rfl rfl ?_
 refine reg_nil ?_
 refine fn_next ?_
 refine cw_seq ?_
 refine cw_reg ?_
 refine ry (y_mov rfl rfl) rfl rfl ?_
 refine reg_op (op_call (law35one 1 3 _) rfl kflaw35_13 ⟨rfl, rfl, trivial⟩) rfl rfl ?_
 rintro _ w51 ⟨b53, d54, rfl, k50⟩
 have H52 := H49.call k50
 refine reg_op (op_call (pDidE w _ b4 ([⟨0, 0, 0, 0, [1], [2]⟩]) 0 bl44 ⟨0, 0, 0, 0, ⟨(some ⟨b53, 0, none⟩), 1, 1, [1]⟩, ⟨(some ⟨d54, 0, none⟩), 1, 1, [3]⟩⟩ [⟨0, 0, 0, 0, [1], [3]⟩] 1 _ (fun X HX => HS.ptok (HX.pick (m := [_, _]) [0, 1] rfl (by decide)) (pvok1 (i6s (by omega)) (i6s (by omega)))) (by show 1 ≤ _; omega) (by show 1 ≤ _; omega) (right1 (by decide) (by decide)) (by show 0 < 1; omega) (by decide) (by decide) rfl rfl (H52.pick (m := [_, _, _, _, _, _, _, _, _, _, _, _, _, _]) [5, 0, 1, 2, 3, 4, 6, 7, 8, 9, 10, 11, 12, 13] rfl (by decide))) rfl kflaw35_14 ⟨rfl, rfl, trivial⟩) rfl rfl ?_
 rintro _ w56 ⟨bl57, rfl, H55⟩
 refine ry (y_asg rfl rfl) rfl rfl ?_
 refine reg_nil ?_
 refine fn_next ?_
 refine cw_seq ?_
 refine cw_reg ?_
 refine ry (y_mov rfl rfl) rfl rfl ?_
 refine reg_op (op_call (pAgain_no w _ b4 ([⟨0, 0, 0, 0, [1], [3]⟩]) 1 bl57 _ rfl H55) rfl kflaw35_16 ⟨rfl, trivial⟩) rfl rfl ?_
 rintro _ w59 ⟨bl60, rfl, H58⟩
 refine ry (y_mov rfl rfl) rfl rfl ?_
 refine ry (y_ext rfl rfl rfl) rfl rfl ?_
 refine ry (y_ext rfl rfl rfl) rfl rfl ?_
 refine reg_op (op_alloc H58 rfl kflaw35_1) rfl rfl ?_
 rintro _ w62 ⟨b61, rfl, H63⟩
 refine reg_op (op_st (i := 0) (vs := [.int _ _, .int _ _, .int _ _, .int _ _, .slice _ _ _, .slice _ _ _]) H63 rfl rfl rfl rfl rfl kflaw35_3 rfl rfl rfl) rfl rfl ?_
 rintro _ w64 H65
 refine ry (y_asg rfl rfl) rfl rfl ?_
 refine reg_nil ?_
 refine fn_next ?_
 refine cw_seq ?_
 refine cw_drawT H65 [0, 1, 2, 3, 4, 5, 6, 7] (.step 8 (.step 9 (.step 10 (.step 11 (.step 12 (.step 13 (.step 14 (.step 15 (.alt (.step 16 (.step 17 (.step 18 (.step 19 (.step 20 (.step 21 (.step 22 (.step 23 (.step 24 (.step 25 (.step 26 (.step 27 (.step 28 (.step 29 (.step 30 (.step 31 (.step 32 (.leaf)))))))))))))))))) (.step 17 (.step 16 (.step 18 (.step 19 (.step 20 (.step 21 (.step 22 (.step 23 (.step 24 (.step 25 (.step 26 (.step 27 (.step 28 (.step 29 (.step 30 (.step 31 (.step 32 (.leaf))))))))))))))))))))))))))) (fun X HX => HX) (by kernel_rfl) (by kernel_rfl) (by rfl) ?_
 simp only [pick, List.getElem?_cons_succ, List.getElem?_cons_zero]
 refine hk_y (fun Y HY => y_mov rfl rfl) rfl rfl ?_
 refine hk_y (fun Y HY => y_eql rfl rfl rfl) rfl rfl ?_
 refine hk_y (fun Y HY => y_mov rfl rfl) rfl rfl ?_
 refine hk_on (qy_yd fun Y HY => y_mov rfl rfl) rfl rfl rfl rfl ?_
 refine hk_on (qy_yd fun Y HY => y_eql rfl rfl rfl) rfl rfl rfl rfl ?_
 refine hk_y (fun Y HY => y_pick rfl rfl rfl) rfl rfl ?_
 refine hk_y (fun Y HY => y_mov rfl rfl) rfl rfl ?_
 refine hk_on (qy_yd fun Y HY => y_ldb (i := 10) (cs := [_, _, _, _, _, _]) HY rfl rfl kflaw35_4 rfl rfl) rfl rfl rfl rfl ?_
 refine hkt_nil [0, 47, 48, 49, 50, 51, 52, 53, 54, 55, 56, 57, 58, 59, 60, 61, 62, 63, 64, 65, 66, 67, 68, 69, 70] (fun M wl => M = [(0, .bool true)] ∧ HS w wl []) (fun wX HX => ?_) ?_
 ·skip
  refine tt_on rfl rfl rfl rfl (op_call (law35one 2 1 _) rfl kflaw35_13 ⟨rfl, rfl, trivial⟩) rfl ?_
  rintro _ w67 ⟨b69, d70, rfl, k66⟩
  have H68 := HX.call k66
  refine ⟨(H68.pick (m := [_, _, _, _, _, _, _, _, _, _, _, _, _, _, _]) [2, 3, 4, 5, 6, 7, 8, 9, 10, 11, 12, 13, 14, 15, 16] rfl (by decide)), fun w71 e73 => ?_⟩
  have H72 := H68.ext e73
  refine tt_on rfl rfl rfl rfl (op_call (refPSame 0 0 0 0 [2] [1] 1 1 _ _ _ _ _ _ _ _ _ (H72.rd (i := 13) rfl) (H72.rd (i := 14) rfl) (H72.rd (i := 0) rfl) (H72.rd (i := 1) rfl) rfl rfl (by decide) (by decide)) rfl kflaw35_17 ⟨rfl, rfl, trivial⟩) rfl ?_
  rintro _ w75 ⟨rfl, e74⟩
  have H76 := H72.ext e74
  refine ⟨(H76.pick (m := [_, _, _, _, _, _, _, _, _, _, _, _, _, _, _]) [2, 3, 4, 5, 6, 7, 8, 9, 10, 11, 12, 13, 14, 15, 16] rfl (by decide)), fun w77 e79 => ?_⟩
  have H78 := H76.ext e79
  refine tt_op rfl (Yd.op (y_pick rfl rfl rfl)) rfl rfl ?_
  rintro _ _ ⟨rfl, rfl⟩
  refine ⟨(H78.pick (m := [_, _, _, _, _, _, _, _, _, _, _, _, _, _, _]) [2, 3, 4, 5, 6, 7, 8, 9, 10, 11, 12, 13, 14, 15, 16] rfl (by decide)), fun w80 e82 => ?_⟩
  have H81 := H78.ext e82
  refine tt_op rfl (Yd.op (y_mov rfl rfl)) rfl rfl ?_
  rintro _ _ ⟨rfl, rfl⟩
  refine ⟨(H81.pick (m := [_, _, _, _, _, _, _, _, _, _, _, _, _, _, _]) [2, 3, 4, 5, 6, 7, 8, 9, 10, 11, 12, 13, 14, 15, 16] rfl (by decide)), fun w83 e85 => ?_⟩
  have H84 := H81.ext e85
  refine tt_on rfl rfl rfl rfl (Yd.op (y_mov rfl rfl)) rfl ?_
  rintro _ _ ⟨rfl, rfl⟩
  refine ⟨(H84.pick (m := [_, _, _, _, _, _, _, _, _, _, _, _, _, _, _]) [2, 3, 4, 5, 6, 7, 8, 9, 10, 11, 12, 13, 14, 15, 16] rfl (by decide)), fun w86 e88 => ?_⟩
  have H87 := H84.ext e88
  refine tt_on rfl rfl rfl rfl (Yd.op (y_eql rfl rfl rfl)) rfl ?_
  rintro _ _ ⟨rfl, rfl⟩
  refine ⟨(H87.pick (m := [_, _, _, _, _, _, _, _, _, _, _, _, _, _, _]) [2, 3, 4, 5, 6, 7, 8, 9, 10, 11, 12, 13, 14, 15, 16] rfl (by decide)), fun w89 e91 => ?_⟩
  have H90 := H87.ext e91
  refine tt_op rfl (Yd.op (y_pick rfl rfl rfl)) rfl rfl ?_
  rintro _ _ ⟨rfl, rfl⟩
  refine ⟨(H90.pick (m := [_, _, _, _, _, _, _, _, _, _, _, _, _, _, _]) [2, 3, 4, 5, 6, 7, 8, 9, 10, 11, 12, 13, 14, 15, 16] rfl (by decide)), fun w92 e94 => ?_⟩
  have H93 := H90.ext e94
  refine tt_op rfl (Yd.op (y_mov rfl rfl)) rfl rfl ?_
  rintro _ _ ⟨rfl, rfl⟩
  refine ⟨(H93.pick (m := [_, _, _, _, _, _, _, _, _, _, _, _, _, _, _]) [2, 3, 4, 5, 6, 7, 8, 9, 10, 11, 12, 13, 14, 15, 16] rfl (by decide)), fun w95 e97 => ?_⟩
  have H96 := H93.ext e97
  refine tt_alt ?_ ?_
  ·skip
   refine tt_on rfl rfl rfl rfl (Yd.op (y_ldb (i := 9) (cs := [_, _, _, _, _, _]) H96 rfl rfl kflaw35_4 rfl rfl)) rfl ?_
   rintro _ _ ⟨rfl, rfl⟩
   refine ⟨(H96.pick (m := [_, _, _, _, _, _, _, _, _, _, _, _, _, _, _]) [2, 3, 4, 5, 6, 7, 8, 9, 10, 11, 12, 13, 14, 15, 16] rfl (by decide)), fun w98 e100 => ?_⟩
   have H99 := H96.ext e100
   refine tt_on rfl rfl rfl rfl (op_call (law35one 1 2 _) rfl kflaw35_13 ⟨rfl, rfl, trivial⟩) rfl ?_
   rintro _ w102 ⟨b104, d105, rfl, k101⟩
   have H103 := H99.call k101
   refine ⟨(H103.pick (m := [_, _, _, _, _, _, _, _, _, _, _, _, _, _, _]) [4, 5, 6, 7, 8, 9, 10, 11, 12, 13, 14, 15, 16, 17, 18] rfl (by decide)), fun w106 e108 => ?_⟩
   have H107 := H103.ext e108
   refine tt_on rfl rfl rfl rfl (op_call (refPSame 0 0 0 0 [1] [2] 1 1 _ _ _ _ _ _ _ _ _ (H107.rd (i := 12) rfl) (H107.rd (i := 13) rfl) (H107.rd (i := 0) rfl) (H107.rd (i := 1) rfl) rfl rfl (by decide) (by decide)) rfl kflaw35_17 ⟨rfl, rfl, trivial⟩) rfl ?_
   rintro _ w110 ⟨rfl, e109⟩
   have H111 := H107.ext e109
   refine ⟨(H111.pick (m := [_, _, _, _, _, _, _, _, _, _, _, _, _, _, _]) [4, 5, 6, 7, 8, 9, 10, 11, 12, 13, 14, 15, 16, 17, 18] rfl (by decide)), fun w112 e114 => ?_⟩
   have H113 := H111.ext e114
   refine tt_op rfl (Yd.op (y_pick rfl rfl rfl)) rfl rfl ?_
   rintro _ _ ⟨rfl, rfl⟩
   refine ⟨(H113.pick (m := [_, _, _, _, _, _, _, _, _, _, _, _, _, _, _]) [4, 5, 6, 7, 8, 9, 10, 11, 12, 13, 14, 15, 16, 17, 18] rfl (by decide)), fun w115 e117 => ?_⟩
   have H116 := H113.ext e117
   refine tt_op rfl (Yd.op (y_mov rfl rfl)) rfl rfl ?_
   rintro _ _ ⟨rfl, rfl⟩
   refine ⟨(H116.pick (m := [_, _, _, _, _, _, _, _, _, _, _, _, _, _, _]) [4, 5, 6, 7, 8, 9, 10, 11, 12, 13, 14, 15, 16, 17, 18] rfl (by decide)), fun w118 e120 => ?_⟩
   have H119 := H116.ext e120
   refine tt_on rfl rfl rfl rfl (Yd.op (y_mov rfl rfl)) rfl ?_
   rintro _ _ ⟨rfl, rfl⟩
   refine ⟨(H119.pick (m := [_, _, _, _, _, _, _, _, _, _, _, _, _, _, _]) [4, 5, 6, 7, 8, 9, 10, 11, 12, 13, 14, 15, 16, 17, 18] rfl (by decide)), fun w121 e123 => ?_⟩
   have H122 := H119.ext e123
   refine tt_on rfl rfl rfl rfl (Yd.op (y_eql rfl rfl rfl)) rfl ?_
   rintro _ _ ⟨rfl, rfl⟩
   refine ⟨(H122.pick (m := [_, _, _, _, _, _, _, _, _, _, _, _, _, _, _]) [4, 5, 6, 7, 8, 9, 10, 11, 12, 13, 14, 15, 16, 17, 18] rfl (by decide)), fun w124 e126 => ?_⟩
   have H125 := H122.ext e126
   refine tt_op rfl (Yd.op (y_pick rfl rfl rfl)) rfl rfl ?_
   rintro _ _ ⟨rfl, rfl⟩
   refine ⟨(H125.pick (m := [_, _, _, _, _, _, _, _, _, _, _, _, _, _, _]) [4, 5, 6, 7, 8, 9, 10, 11, 12, 13, 14, 15, 16, 17, 18] rfl (by decide)), fun w127 e129 => ?_⟩
   have H128 := H125.ext e129
   refine tt_op rfl (Yd.op (y_mov rfl rfl)) rfl rfl ?_
   rintro _ _ ⟨rfl, rfl⟩
   refine ⟨(H128.pick (m := [_, _, _, _, _, _, _, _, _, _, _, _, _, _, _]) [4, 5, 6, 7, 8, 9, 10, 11, 12, 13, 14, 15, 16, 17, 18] rfl (by decide)), fun w130 e132 => ?_⟩
   have H131 := H128.ext e132
   refine tt_on rfl rfl rfl rfl (Yd.op (y_mov rfl rfl)) rfl ?_
   rintro _ _ ⟨rfl, rfl⟩
   refine ⟨(H131.pick (m := [_, _, _, _, _, _, _, _, _, _, _, _, _, _, _]) [4, 5, 6, 7, 8, 9, 10, 11, 12, 13, 14, 15, 16, 17, 18] rfl (by decide)), fun w133 e135 => ?_⟩
   have H134 := H131.ext e135
   refine tt_on rfl rfl rfl rfl (Yd.op (y_eql rfl rfl rfl)) rfl ?_
   rintro _ _ ⟨rfl, rfl⟩
   refine ⟨(H134.pick (m := [_, _, _, _, _, _, _, _, _, _, _, _, _, _, _]) [4, 5, 6, 7, 8, 9, 10, 11, 12, 13, 14, 15, 16, 17, 18] rfl (by decide)), fun w136 e138 => ?_⟩
   have H137 := H134.ext e138
   refine tt_op rfl (Yd.op (y_pick rfl rfl rfl)) rfl rfl ?_
   rintro _ _ ⟨rfl, rfl⟩
   refine ⟨(H137.pick (m := [_, _, _, _, _, _, _, _, _, _, _, _, _, _, _]) [4, 5, 6, 7, 8, 9, 10, 11, 12, 13, 14, 15, 16, 17, 18] rfl (by decide)), fun w139 e141 => ?_⟩
   have H140 := H137.ext e141
   refine tt_op rfl (Yd.op (y_mov rfl rfl)) rfl rfl ?_
   rintro _ _ ⟨rfl, rfl⟩
   refine ⟨(H140.pick (m := [_, _, _, _, _, _, _, _, _, _, _, _, _, _, _]) [4, 5, 6, 7, 8, 9, 10, 11, 12, 13, 14, 15, 16, 17, 18] rfl (by decide)), fun w142 e144 => ?_⟩
   have H143 := H140.ext e144
   refine tt_on rfl rfl rfl rfl (Yd.op (y_mov rfl rfl)) rfl ?_
   rintro _ _ ⟨rfl, rfl⟩
   refine ⟨(H143.pick (m := [_, _, _, _, _, _, _, _, _, _, _, _, _, _, _]) [4, 5, 6, 7, 8, 9, 10, 11, 12, 13, 14, 15, 16, 17, 18] rfl (by decide)), fun w145 e147 => ?_⟩
   have H146 := H143.ext e147
   refine tt_on rfl rfl rfl rfl (Yd.op (y_eql rfl rfl rfl)) rfl ?_
   rintro _ _ ⟨rfl, rfl⟩
   refine ⟨(H146.pick (m := [_, _, _, _, _, _, _, _, _, _, _, _, _, _, _]) [4, 5, 6, 7, 8, 9, 10, 11, 12, 13, 14, 15, 16, 17, 18] rfl (by decide)), fun w148 e150 => ?_⟩
   have H149 := H146.ext e150
   refine tt_op rfl (Yd.op (y_pick rfl rfl rfl)) rfl rfl ?_
   rintro _ _ ⟨rfl, rfl⟩
   refine ⟨(H149.pick (m := [_, _, _, _, _, _, _, _, _, _, _, _, _, _, _]) [4, 5, 6, 7, 8, 9, 10, 11, 12, 13, 14, 15, 16, 17, 18] rfl (by decide)), fun w151 e153 => ?_⟩
   have H152 := H149.ext e153
   refine tt_op rfl (Yd.op (y_asg rfl rfl)) rfl rfl ?_
   rintro _ _ ⟨rfl, rfl⟩
   refine ⟨(H152.pick (m := [_, _, _, _, _, _, _, _, _, _, _, _, _, _, _]) [4, 5, 6, 7, 8, 9, 10, 11, 12, 13, 14, 15, 16, 17, 18] rfl (by decide)), fun w154 e156 => ?_⟩
   have H155 := H152.ext e156
   exact tt_leaf ⟨rfl, (H155.pick (m := []) [] rfl (by decide))⟩ ⟨rfl, trivial⟩ (by repeat (first | exact kp_refl | refine kp_app rfl rfl ?_ | refine kp_cons rfl ?_))
  refine tt_on rfl rfl rfl rfl (op_call (law35one 1 2 _) rfl kflaw35_13 ⟨rfl, rfl, trivial⟩) rfl ?_
  rintro _ w158 ⟨b160, d161, rfl, k157⟩
  have H159 := H96.call k157
  refine ⟨(H159.pick (m := [_, _, _, _, _, _, _, _, _, _, _, _, _, _, _]) [4, 5, 6, 7, 8, 9, 10, 11, 12, 13, 14, 15, 16, 17, 18] rfl (by decide)), fun w162 e164 => ?_⟩
  have H163 := H159.ext e164
  refine tt_on rfl rfl rfl rfl (Yd.op (y_ldb (i := 11) (cs := [_, _, _, _, _, _]) H163 rfl rfl kflaw35_4 rfl rfl)) rfl ?_
  rintro _ _ ⟨rfl, rfl⟩
  refine ⟨(H163.pick (m := [_, _, _, _, _, _, _, _, _, _, _, _, _, _, _]) [4, 5, 6, 7, 8, 9, 10, 11, 12, 13, 14, 15, 16, 17, 18] rfl (by decide)), fun w165 e167 => ?_⟩
  have H166 := H163.ext e167
  refine tt_on rfl rfl rfl rfl (op_call (refPSame 0 0 0 0 [1] [2] 1 1 _ _ _ _ _ _ _ _ _ (H166.rd (i := 12) rfl) (H166.rd (i := 13) rfl) (H166.rd (i := 0) rfl) (H166.rd (i := 1) rfl) rfl rfl (by decide) (by decide)) rfl kflaw35_17 ⟨rfl, rfl, trivial⟩) rfl ?_
  rintro _ w169 ⟨rfl, e168⟩
  have H170 := H166.ext e168
  refine ⟨(H170.pick (m := [_, _, _, _, _, _, _, _, _, _, _, _, _, _, _]) [4, 5, 6, 7, 8, 9, 10, 11, 12, 13, 14, 15, 16, 17, 18] rfl (by decide)), fun w171 e173 => ?_⟩
  have H172 := H170.ext e173
  refine tt_op rfl (Yd.op (y_pick rfl rfl rfl)) rfl rfl ?_
  rintro _ _ ⟨rfl, rfl⟩
  refine ⟨(H172.pick (m := [_, _, _, _, _, _, _, _, _, _, _, _, _, _, _]) [4, 5, 6, 7, 8, 9, 10, 11, 12, 13, 14, 15, 16, 17, 18] rfl (by decide)), fun w174 e176 => ?_⟩
  have H175 := H172.ext e176
  refine tt_op rfl (Yd.op (y_mov rfl rfl)) rfl rfl ?_
  rintro _ _ ⟨rfl, rfl⟩
  refine ⟨(H175.pick (m := [_, _, _, _, _, _, _, _, _, _, _, _, _, _, _]) [4, 5, 6, 7, 8, 9, 10, 11, 12, 13, 14, 15, 16, 17, 18] rfl (by decide)), fun w177 e179 => ?_⟩
  have H178 := H175.ext e179
  refine tt_on rfl rfl rfl rfl (Yd.op (y_mov rfl rfl)) rfl ?_
  rintro _ _ ⟨rfl, rfl⟩
  refine ⟨(H178.pick (m := [_, _, _, _, _, _, _, _, _, _, _, _, _, _, _]) [4, 5, 6, 7, 8, 9, 10, 11, 12, 13, 14, 15, 16, 17, 18] rfl (by decide)), fun w180 e182 => ?_⟩
  have H181 := H178.ext e182
  refine tt_on rfl rfl rfl rfl (Yd.op (y_eql rfl rfl rfl)) rfl ?_
  rintro _ _ ⟨rfl, rfl⟩
  refine ⟨(H181.pick (m := [_, _, _, _, _, _, _, _, _, _, _, _, _, _, _]) [4, 5, 6, 7, 8, 9, 10, 11, 12, 13, 14, 15, 16, 17, 18] rfl (by decide)), fun w183 e185 => ?_⟩
  have H184 := H181.ext e185
  refine tt_op rfl (Yd.op (y_pick rfl rfl rfl)) rfl rfl ?_
  rintro _ _ ⟨rfl, rfl⟩
  refine ⟨(H184.pick (m := [_, _, _, _, _, _, _, _, _, _, _, _, _, _, _]) [4, 5, 6, 7, 8, 9, 10, 11, 12, 13, 14, 15, 16, 17, 18] rfl (by decide)), fun w186 e188 => ?_⟩
  have H187 := H184.ext e188
  refine tt_op rfl (Yd.op (y_mov rfl rfl)) rfl rfl ?_
  rintro _ _ ⟨rfl, rfl⟩
  refine ⟨(H187.pick (m := [_, _, _, _, _, _, _, _, _, _, _, _, _, _, _]) [4, 5, 6, 7, 8, 9, 10, 11, 12, 13, 14, 15, 16, 17, 18] rfl (by decide)), fun w189 e191 => ?_⟩
  have H190 := H187.ext e191
  refine tt_on rfl rfl rfl rfl (Yd.op (y_mov rfl rfl)) rfl ?_
  rintro _ _ ⟨rfl, rfl⟩
  refine ⟨(H190.pick (m := [_, _, _, _, _, _, _, _, _, _, _, _, _, _, _]) [4, 5, 6, 7, 8, 9, 10, 11, 12, 13, 14, 15, 16, 17, 18] rfl (by decide)), fun w192 e194 => ?_⟩
  have H193 := H190.ext e194
  refine tt_on rfl rfl rfl rfl (Yd.op (y_eql rfl rfl rfl)) rfl ?_
  rintro _ _ ⟨rfl, rfl⟩
  refine ⟨(H193.pick (m := [_, _, _, _, _, _, _, _, _, _, _, _, _, _, _]) [4, 5, 6, 7, 8, 9, 10, 11, 12, 13, 14, 15, 16, 17, 18] rfl (by decide)), fun w195 e197 => ?_⟩
  have H196 := H193.ext e197
  refine tt_op rfl (Yd.op (y_pick rfl rfl rfl)) rfl rfl ?_
  rintro _ _ ⟨rfl, rfl⟩
  refine ⟨(H196.pick (m := [_, _, _, _, _, _, _, _, _, _, _, _, _, _, _]) [4, 5, 6, 7, 8, 9, 10, 11, 12, 13, 14, 15, 16, 17, 18] rfl (by decide)), fun w198 e200 => ?_⟩
  have H199 := H196.ext e200
  refine tt_op rfl (Yd.op (y_mov rfl rfl)) rfl rfl ?_
  rintro _ _ ⟨rfl, rfl⟩
  refine ⟨(H199.pick (m := [_, _, _, _, _, _, _, _, _, _, _, _, _, _, _]) [4, 5, 6, 7, 8, 9, 10, 11, 12, 13, 14, 15, 16, 17, 18] rfl (by decide)), fun w201 e203 => ?_⟩
  have H202 := H199.ext e203
  refine tt_on rfl rfl rfl rfl (Yd.op (y_mov rfl rfl)) rfl ?_
  rintro _ _ ⟨rfl, rfl⟩
  refine ⟨(H202.pick (m := [_, _, _, _, _, _, _, _, _, _, _, _, _, _, _]) [4, 5, 6, 7, 8, 9, 10, 11, 12, 13, 14, 15, 16, 17, 18] rfl (by decide)), fun w204 e206 => ?_⟩
  have H205 := H202.ext e206
  refine tt_on rfl rfl rfl rfl (Yd.op (y_eql rfl rfl rfl)) rfl ?_
  rintro _ _ ⟨rfl, rfl⟩
  refine ⟨(H205.pick (m := [_, _, _, _, _, _, _, _, _, _, _, _, _, _, _]) [4, 5, 6, 7, 8, 9, 10, 11, 12, 13, 14, 15, 16, 17, 18] rfl (by decide)), fun w207 e209 => ?_⟩
  have H208 := H205.ext e209
  refine tt_op rfl (Yd.op (y_pick rfl rfl rfl)) rfl rfl ?_
  rintro _ _ ⟨rfl, rfl⟩
  refine ⟨(H208.pick (m := [_, _, _, _, _, _, _, _, _, _, _, _, _, _, _]) [4, 5, 6, 7, 8, 9, 10, 11, 12, 13, 14, 15, 16, 17, 18] rfl (by decide)), fun w210 e212 => ?_⟩
  have H211 := H208.ext e212
  refine tt_op rfl (Yd.op (y_asg rfl rfl)) rfl rfl ?_
  rintro _ _ ⟨rfl, rfl⟩
  refine ⟨(H211.pick (m := [_, _, _, _, _, _, _, _, _, _, _, _, _, _, _]) [4, 5, 6, 7, 8, 9, 10, 11, 12, 13, 14, 15, 16, 17, 18] rfl (by decide)), fun w213 e215 => ?_⟩
  have H214 := H211.ext e215
  exact tt_leaf ⟨rfl, (H214.pick (m := []) [] rfl (by decide))⟩ ⟨rfl, trivial⟩ (by repeat (first | exact kp_refl | refine kp_app rfl rfl ?_ | refine kp_cons rfl ?_))
 ·skip
  rintro M w217 ⟨rfl, H216⟩
  refine fn_next ?_
  refine cw_ret ?_
  refine fn_ret1 rfl rfl ?_
  exact ⟨rfl, H216.base⟩

set_option maxRecDepth 100000 in
theorem pNil_Clear  (w : World) :
    Ret Try.prog 19 [.pointer none] w (fun z w' => z = .tuple #[] ∧ Below w.heap.size w w') := by
 refine ret_enter Try.func19 rfl rfl rfl ?_
 have H0 := HS.start w
 refine cw_seq ?_
 refine cw_reg ?_
 refine ry (y_mov rfl rfl) rfl rfl ?_
 refine ry (y_pneqnil rfl Try.underlying24 rfl rfl) rfl rfl ?_
 refine reg_nil ?_
 refine fn_next ?_
 refine cw_condf rfl ?_
 refine cw_skip ?_
 refine fn_normal ?_
 refine fn_retn (vs := []) rfl trivial rfl ?_
 exact ⟨rfl, H0.base⟩

set_option maxRecDepth 100000 in
theorem pNil_Back  (w : World) :
    Ret Try.prog 12 [.pointer none] w (fun z w' => z = .tuple #[.agg #[.int .i64 0, .int .i64 0, .int .i64 0, .int .i64 0, .slice none 0 0, .slice none 0 0], .int .i64 1] ∧ Below w.heap.size w w') := by
 refine ret_enter Try.func12 rfl rfl rfl ?_
 have H0 := HS.start w
 refine cw_seq ?_
 refine cw_reg ?_
 refine reg_op (op_alloc H0 rfl kflaw35_1) rfl rfl ?_
 rintro _ w2 ⟨b1, rfl, H3⟩
 refine ry (y_asg rfl rfl) rfl rfl ?_
 refine reg_nil ?_
 refine fn_next ?_
 refine cw_seq ?_
 refine cw_block ?_
 refine cw_seq ?_
 refine cw_reg ?_
 refine ry (y_mov rfl rfl) rfl rfl ?_
 refine ry (y_peqlnil rfl Try.underlying24 rfl rfl) rfl rfl ?_
 refine ry (y_asg rfl rfl) rfl rfl ?_
 refine reg_nil ?_
 refine fn_next ?_
 refine cw_condt rfl ?_
 refine cw_seq ?_
 refine cw_reg ?_
 refine ry (y_buildL (places := [(0, 4), (4, 1), (5, 1)]) (parts := []) (vs := []) (cs := [.int _ _, .int _ _, .int _ _, .int _ _, .slice _ _ _, .slice _ _ _]) [] rfl Try.underlying30 (by kernel_rfl) kflaw35_1 rfl trivial rfl rfl) rfl rfl ?_
 refine reg_op (op_st (i := 0) (vs := [.int _ _, .int _ _, .int _ _, .int _ _, .slice _ _ _, .slice _ _ _]) H3 rfl rfl rfl rfl rfl kflaw35_3 rfl rfl rfl) rfl rfl ?_
 rintro _ w4 H5
 refine ry (y_asg rfl rfl) rfl rfl ?_
 refine reg_nil ?_
 refine fn_next ?_
 refine cw_ret ?_
 refine fn_block_ret (fn_then_ret ?_)
 refine fn_retn (vs := [_, _]) rfl ⟨⟨_, rfl, load_agg (cs := [_, _, _, _, _, _]) kflaw35_4 rfl fun j v hv => by rw [Nat.zero_add]; exact H5.cell (i := 0) rfl hv⟩, rfl, trivial⟩ rfl ?_
 exact ⟨rfl, H5.base⟩

set_option maxRecDepth 100000 in
theorem pNil_Again  (w : World) :
    Ret Try.prog 14 [.pointer none] w (fun z w' => z = .tuple #[.agg #[.int .i64 0, .int .i64 0, .int .i64 0, .int .i64 0, .slice none 0 0, .slice none 0 0], .int .i64 1] ∧ Below w.heap.size w w') := by
 refine ret_enter Try.func14 rfl rfl rfl ?_
 have H0 := HS.start w
 refine cw_seq ?_
 refine cw_reg ?_
 refine reg_op (op_alloc H0 rfl kflaw35_1) rfl rfl ?_
 rintro _ w2 ⟨b1, rfl, H3⟩
 refine ry (y_asg rfl rfl) rfl rfl ?_
 refine reg_nil ?_
 refine fn_next ?_
 refine cw_seq ?_
 refine cw_block ?_
 refine cw_seq ?_
 refine cw_reg ?_
 refine ry (y_mov rfl rfl) rfl rfl ?_
 refine ry (y_peqlnil rfl Try.underlying24 rfl rfl) rfl rfl ?_
 refine ry (y_asg rfl rfl) rfl rfl ?_
 refine reg_nil ?_
 refine fn_next ?_
 refine cw_condt rfl ?_
 refine cw_seq ?_
 refine cw_reg ?_
 refine ry (y_buildL (places := [(0, 4), (4, 1), (5, 1)]) (parts := []) (vs := []) (cs := [.int _ _, .int _ _, .int _ _, .int _ _, .slice _ _ _, .slice _ _ _]) [] rfl Try.underlying30 (by kernel_rfl) kflaw35_1 rfl trivial rfl rfl) rfl rfl ?_
 refine reg_op (op_st (i := 0) (vs := [.int _ _, .int _ _, .int _ _, .int _ _, .slice _ _ _, .slice _ _ _]) H3 rfl rfl rfl rfl rfl kflaw35_3 rfl rfl rfl) rfl rfl ?_
 rintro _ w4 H5
 refine ry (y_asg rfl rfl) rfl rfl ?_
 refine reg_nil ?_
 refine fn_next ?_
 refine cw_ret ?_
 refine fn_block_ret (fn_then_ret ?_)
 refine fn_retn (vs := [_, _]) rfl ⟨⟨_, rfl, load_agg (cs := [_, _, _, _, _, _]) kflaw35_4 rfl fun j v hv => by rw [Nat.zero_add]; exact H5.cell (i := 0) rfl hv⟩, rfl, trivial⟩ rfl ?_
 exact ⟨rfl, H5.base⟩

set_option maxRecDepth 100000 in
theorem pNil_Len  (w : World) :
    Ret Try.prog 20 [.pointer none] w (fun z w' => z = .tuple #[.int .i64 0, .int .i64 0] ∧ Below w.heap.size w w') := by
 refine ret_enter Try.func20 rfl rfl rfl ?_
 have H0 := HS.start w
 refine cw_seq ?_
 refine cw_reg ?_
 refine ry (y_asg rfl rfl) rfl rfl ?_
 refine ry (y_asg rfl rfl) rfl rfl ?_
 refine reg_nil ?_
 refine fn_next ?_
 refine cw_seq ?_
 refine cw_seq ?_
 refine cw_reg ?_
 refine ry (y_mov rfl rfl) rfl rfl ?_
 refine ry (y_peqlnil rfl Try.underlying24 rfl rfl) rfl rfl ?_
 refine reg_nil ?_
 refine fn_next ?_
 refine cw_condt rfl ?_
 refine cw_seq ?_
 refine cw_reg ?_
 refine ry (y_asg rfl rfl) rfl rfl ?_
 refine ry (y_asg rfl rfl) rfl rfl ?_
 refine reg_nil ?_
 refine fn_next ?_
 refine cw_ret ?_
 refine fn_then_ret ?_
 refine fn_retn (vs := [_, _]) rfl ⟨rfl, rfl, trivial⟩ rfl ?_
 exact ⟨rfl, H0.base⟩

set_option maxRecDepth 100000 in
theorem pNil_Did (p : Pt) (w : World) (hp : p.ok w) :
    Ret Try.prog 10 [.pointer none, .agg #[.int .i64 p.x0, .int .i64 p.y0, .int .i64 p.x1, .int .i64 p.y1, .slice p.o.A p.o.n p.o.c, .slice p.q.A p.q.n p.q.c]] w (fun z w' => z = .int .i64 1 ∧ Below w.heap.size w w') := by
 refine ret_enter Try.func10 rfl rfl rfl ?_
 have H0 := HS.start w
 refine cw_seq ?_
 refine cw_reg ?_
 refine reg_op (op_box (cs := [.int _ _, .int _ _, .int _ _, .int _ _, .slice _ _ _, .slice _ _ _]) H0 rfl rfl rfl) rfl rfl ?_
 rintro _ w2 ⟨b1, rfl, H3⟩
 refine ry (y_asg rfl rfl) rfl rfl ?_
 refine reg_nil ?_
 refine fn_next ?_
 refine cw_seq ?_
 refine cw_block ?_
 refine cw_seq ?_
 refine cw_reg ?_
 refine ry (y_mov rfl rfl) rfl rfl ?_
 refine ry (y_peqlnil rfl Try.underlying24 rfl rfl) rfl rfl ?_
 refine ry (y_asg rfl rfl) rfl rfl ?_
 refine reg_nil ?_
 refine fn_next ?_
 refine cw_condt rfl ?_
 refine cw_seq ?_
 refine cw_reg ?_
 refine ry (y_asg rfl rfl) rfl rfl ?_
 refine reg_nil ?_
 refine fn_next ?_
 refine cw_ret ?_
 refine fn_block_ret (fn_then_ret ?_)
 refine fn_ret1 rfl rfl ?_
 exact ⟨rfl, H3.base⟩

theorem rd_nil (w : World) : Rd w none (vi .i64 []) := fun j u hu => by simp [vi] at hu

set_option maxRecDepth 100000 in
theorem pastNil_all (p : Pt) (w : World) (hp : p.ok w) :
    Ret Try.prog 5 [.agg #[.int .i64 p.x0, .int .i64 p.y0, .int .i64 p.x1, .int .i64 p.y1, .slice p.o.A p.o.n p.o.c, .slice p.q.A p.q.n p.q.c]] w (fun z w' => z = .bool true ∧ Below w.heap.size w w') := by
 refine ret_enter Try.func5 rfl rfl rfl ?_
 have H0 := HS.start w
 refine cw_seq ?_
 refine cw_reg ?_
 refine reg_op (op_box (cs := [.int _ _, .int _ _, .int _ _, .int _ _, .slice _ _ _, .slice _ _ _]) H0 rfl rfl rfl) rfl rfl ?_
 rintro _ w2 ⟨b1, rfl, H3⟩
 refine ry (y_asg rfl rfl) rfl rfl ?_
 refine reg_nil ?_
 refine fn_next ?_
 refine cw_seq ?_
 refine cw_seq ?_
 refine cw_reg ?_
 refine reg_op (op_call (pastAwake _) rfl kflaw35_18 trivial) rfl rfl ?_
 rintro _ w5 ⟨rfl, e4⟩
 have H6 := H3.ext e4
 refine ry (y_not rfl rfl) rfl rfl ?_
 refine reg_nil ?_
 refine fn_next ?_
 refine cw_condf rfl ?_
 refine cw_skip ?_
 refine fn_next ?_
 refine cw_seq ?_
 refine cw_seq ?_
 refine cw_reg ?_
 refine ry (y_fa rfl rfl kflaw35_8 rfl) rfl rfl ?_
 refine ry (y_ld rfl rfl kflaw35_9 (H6.cell (i := 0) rfl rfl)) rfl rfl ?_
 refine ry (y_len rfl Try.underlying28 rfl) rfl rfl ?_
 refine ry (y_gtr rfl rfl rfl) rfl rfl ?_
 refine ry (y_mov rfl rfl) rfl rfl ?_
 refine rg_splitd (d := 17) rfl (fun h7 => ?_) (fun h7 => ?_)
 ·skip
  refine rg_off rfl rfl rfl rfl rfl ?_
  refine rg_off rfl rfl rfl rfl rfl ?_
  refine rg_off rfl rfl rfl rfl rfl ?_
  refine rg_off rfl rfl rfl rfl rfl ?_
  refine ry (y_pick rfl rfl rfl) rfl rfl ?_
  refine reg_nil ?_
  refine fn_next ?_
  refine cw_condt rfl ?_
  refine cw_seq ?_
  refine cw_reg ?_
  refine ry (y_asg rfl rfl) rfl rfl ?_
  refine reg_nil ?_
  refine fn_next ?_
  refine cw_ret ?_
  refine fn_then_ret ?_
  refine fn_ret1 rfl rfl ?_
  exact ⟨rfl, H6.base⟩
 ·skip
  refine rgy (y_fa rfl rfl kflaw35_11 rfl) rfl rfl rfl rfl ?_
  refine rgy (y_ld rfl rfl kflaw35_9 (H6.cell (i := 0) rfl rfl)) rfl rfl rfl rfl ?_
  refine rgy (y_len rfl Try.underlying28 rfl) rfl rfl rfl rfl ?_
  refine rgy (y_gtr rfl rfl rfl) rfl rfl rfl rfl ?_
  refine ry (y_pick rfl rfl rfl) rfl rfl ?_
  refine reg_nil ?_
  refine fn_next ?_
  refine cw_condd rfl (fun h8 => ?_) (fun h8 => ?_)
  ·skip
   refine cw_seq ?_
   refine cw_reg ?_
   refine ry (y_asg rfl rfl) rfl rfl ?_
   refine reg_nil ?_
   refine fn_next ?_
   refine cw_ret ?_
   refine fn_then_ret ?_
   refine fn_ret1 rfl rfl ?_
   exact ⟨rfl, H6.base⟩
  ·skip
   refine cw_skip ?_
   refine fn_next ?_
   refine cw_seq ?_
   refine cw_reg ?_
   refine ry (y_asg rfl rfl) rfl rfl ?_
   refine reg_nil ?_
   refine fn_next ?_
   refine cw_seq ?_
   refine cw_reg ?_
   refine ry (y_mov rfl rfl) rfl rfl ?_
   refine reg_op (op_call (pNil_Clear _) rfl kflaw35_19 ⟨rfl, trivial⟩) rfl rfl ?_
   rintro _ w10 ⟨rfl, e9⟩
   have H11 := H6.ext e9
   refine reg_nil ?_
   refine fn_next ?_
   refine cw_seq ?_
   refine cw_reg ?_
   refine ry (y_mov rfl rfl) rfl rfl ?_
   refine reg_op (op_call (pNil_Back _) rfl kflaw35_15 ⟨rfl, trivial⟩) rfl rfl ?_
   rintro _ w13 ⟨rfl, e12⟩
   have H14 := H11.ext e12
   refine ry (y_mov rfl rfl) rfl rfl ?_
   refine ry (y_ext rfl rfl rfl) rfl rfl ?_
   refine ry (y_ext rfl rfl rfl) rfl rfl ?_
   refine reg_op (op_alloc H14 rfl kflaw35_1) rfl rfl ?_
   rintro _ w16 ⟨b15, rfl, H17⟩
   refine reg_op (op_st (i := 0) (vs := [.int _ _, .int _ _, .int _ _, .int _ _, .slice _ _ _, .slice _ _ _]) H17 rfl rfl rfl rfl rfl kflaw35_3 rfl rfl rfl) rfl rfl ?_
   rintro _ w18 H19
   refine ry (y_asg rfl rfl) rfl rfl ?_
   refine reg_nil ?_
   refine fn_next ?_
   refine cw_seq ?_
   refine cw_reg ?_
   refine ry (y_mov rfl rfl) rfl rfl ?_
   refine reg_op (op_call (pNil_Again _) rfl kflaw35_16 ⟨rfl, trivial⟩) rfl rfl ?_
   rintro _ w21 ⟨rfl, e20⟩
   have H22 := H19.ext e20
   refine ry (y_mov rfl rfl) rfl rfl ?_
   refine ry (y_ext rfl rfl rfl) rfl rfl ?_
   refine ry (y_ext rfl rfl rfl) rfl rfl ?_
   refine reg_op (op_alloc H22 rfl kflaw35_1) rfl rfl ?_
   rintro _ w24 ⟨b23, rfl, H25⟩
   refine reg_op (op_st (i := 0) (vs := [.int _ _, .int _ _, .int _ _, .int _ _, .slice _ _ _, .slice _ _ _]) H25 rfl rfl rfl rfl rfl kflaw35_3 rfl rfl rfl) rfl rfl ?_
   rintro _ w26 H27
   refine ry (y_asg rfl rfl) rfl rfl ?_
   refine reg_nil ?_
   refine fn_next ?_
   refine cw_seq ?_
   refine cw_reg ?_
   refine ry (y_mov rfl rfl) rfl rfl ?_
   refine reg_op (op_call (pNil_Len _) rfl kflaw35_20 ⟨rfl, trivial⟩) rfl rfl ?_
   rintro _ w29 ⟨rfl, e28⟩
   have H30 := H27.ext e28
   refine ry (y_mov rfl rfl) rfl rfl ?_
   refine ry (y_ext rfl rfl rfl) rfl rfl ?_
   refine ry (y_ext rfl rfl rfl) rfl rfl ?_
   refine ry (y_asg rfl rfl) rfl rfl ?_
   refine ry (y_asg rfl rfl) rfl rfl ?_
   refine reg_nil ?_
   refine fn_next ?_
   refine cw_seq ?_
   refine cw_reg ?_
   refine ry (y_buildL (places := [(0, 4), (4, 1), (5, 1)]) (parts := []) (vs := []) (cs := [.int _ _, .int _ _, .int _ _, .int _ _, .slice _ _ _, .slice _ _ _]) [] rfl Try.underlying30 (by kernel_rfl) kflaw35_1 rfl trivial rfl rfl) rfl rfl ?_
   refine reg_op (op_alloc H30 rfl kflaw35_1) rfl rfl ?_
   rintro _ w32 ⟨b31, rfl, H33⟩
   refine reg_op (op_st (i := 0) (vs := [.int _ _, .int _ _, .int _ _, .int _ _, .slice _ _ _, .slice _ _ _]) H33 rfl rfl rfl rfl rfl kflaw35_3 rfl rfl rfl) rfl rfl ?_
   rintro _ w34 H35
   refine reg_nil ?_
   refine fn_next ?_
   refine cw_seq ?_
   refine cw_reg ?_
   refine ry (y_mov rfl rfl) rfl rfl ?_
   refine ry (y_ldb (i := 3) (cs := [_, _, _, _, _, _]) H35 rfl rfl kflaw35_4 rfl rfl) rfl rfl ?_
   refine reg_op (op_call (pNil_Did p _ (hp.below H35.base)) rfl kflaw35_14 ⟨rfl, rfl, trivial⟩) rfl rfl ?_
   rintro _ w37 ⟨rfl, e36⟩
   have H38 := H35.ext e36
   refine ry (y_eql rfl rfl rfl) rfl rfl ?_
   refine ry (y_mov rfl rfl) rfl rfl ?_
   refine rgy (y_ldb (i := 2) (cs := [_, _, _, _, _, _]) H38 rfl rfl kflaw35_4 rfl rfl) rfl rfl rfl rfl ?_
   refine rgy (y_ldb (i := 0) (cs := [_, _, _, _, _, _]) H38 rfl rfl kflaw35_4 rfl rfl) rfl rfl rfl rfl ?_
   refine rg_on rfl rfl rfl (op_call (refPSame 0 0 0 0 [] [] 0 0 none 0 none 0 none 0 none 0 _ (rd_nil _) (rd_nil _) (rd_nil _) (rd_nil _) rfl rfl (by decide) (by decide)) rfl kflaw35_17 ⟨rfl, rfl, trivial⟩) rfl ?_
   rintro _ w40 ⟨rfl, e39⟩
   have H41 := H38.ext e39
   refine ry (y_pick rfl rfl rfl) rfl rfl ?_
   refine ry (y_mov rfl rfl) rfl rfl ?_
   refine rgy (y_mov rfl rfl) rfl rfl rfl rfl ?_
   refine rgy (y_eql rfl rfl rfl) rfl rfl rfl rfl ?_
   refine ry (y_pick rfl rfl rfl) rfl rfl ?_
   refine ry (y_mov rfl rfl) rfl rfl ?_
   refine rgy (y_ldb (i := 1) (cs := [_, _, _, _, _, _]) H41 rfl rfl kflaw35_4 rfl rfl) rfl rfl rfl rfl ?_
   refine rgy (y_ldb (i := 0) (cs := [_, _, _, _, _, _]) H41 rfl rfl kflaw35_4 rfl rfl) rfl rfl rfl rfl ?_
   refine rg_on rfl rfl rfl (op_call (refPSame 0 0 0 0 [] [] 0 0 none 0 none 0 none 0 none 0 _ (rd_nil _) (rd_nil _) (rd_nil _) (rd_nil _) rfl rfl (by decide) (by decide)) rfl kflaw35_17 ⟨rfl, rfl, trivial⟩) rfl ?_
   rintro _ w43 ⟨rfl, e42⟩
   have H44 := H41.ext e42
   refine ry (y_pick rfl rfl rfl) rfl rfl ?_
   refine ry (y_mov rfl rfl) rfl rfl ?_
   refine rgy (y_mov rfl rfl) rfl rfl rfl rfl ?_
   refine rgy (y_eql rfl rfl rfl) rfl rfl rfl rfl ?_
   refine ry (y_pick rfl rfl rfl) rfl rfl ?_
   refine ry (y_mov rfl rfl) rfl rfl ?_
   refine rgy (y_mov rfl rfl) rfl rfl rfl rfl ?_
   refine rgy (y_eql rfl rfl rfl) rfl rfl rfl rfl ?_
   refine ry (y_pick rfl rfl rfl) rfl rfl ?_
   refine ry (y_mov rfl rfl) rfl rfl ?_
   refine rgy (y_mov rfl rfl) rfl rfl rfl rfl ?_
   refine rgy (y_eql rfl rfl rfl) rfl rfl rfl rfl ?_
   refine ry (y_pick rfl rfl rfl) rfl rfl ?_
   refine ry (y_asg rfl rfl) rfl rfl ?_
   refine reg_nil ?_
   refine fn_next ?_
   refine cw_ret ?_
   refine fn_ret1 rfl rfl ?_
   exact ⟨rfl, H44.base⟩

theorem pastNil_law (px0 py0 px1 py1 : Int) (A0 : Option Addr) (n0 c0 : Nat) (B0 : Option Addr) (m0 d0 : Nat) (pz py : List Int) (W : World) (bx0 : I6 px0) (by0 : I6 py0) (bx1 : I6 px1) (by1 : I6 py1) (hpz : Ints .i64 W A0 n0 pz) (le0 : n0 ≤ c0) (mx0 : c0 ≤ maxLen) (wpz : ∀ z ∈ pz, I6 z) (hpy : Ints .i64 W B0 m0 py) (lf0 : m0 ≤ d0) (mg0 : d0 ≤ maxLen) (wpy : ∀ z ∈ py, I6 z) :
    Calls Try.prog 5 #[.agg #[.int .i64 px0, .int .i64 py0, .int .i64 px1, .int .i64 py1, .slice A0 n0 c0, .slice B0 m0 d0]] W fun e w' => e = .returned (.bool true) ∧ Below W.heap.size W w' :=
  lawOf (pastNil_all ⟨px0, py0, px1, py1, ⟨A0, n0, c0, pz⟩, ⟨B0, m0, d0, py⟩⟩ W ⟨bx0, by0, bx1, by1, ⟨Rd.of_ints hpz, hpz.len, le0, mx0, wpz⟩, ⟨Rd.of_ints hpy, hpy.len, lf0, mg0, wpy⟩⟩)

end Go.Proofs.Ytgkkbeomhkggjaa
