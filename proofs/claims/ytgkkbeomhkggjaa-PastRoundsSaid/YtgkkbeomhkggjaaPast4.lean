/- Layer 35: the reference. -/
import Derived.Test.YtgkkbeomhkggjaaPast3
set_option linter.unusedVariables false
set_option linter.unusedSimpArgs false
namespace Go.Proofs.Ytgkkbeomhkggjaa
open Go Go.RowKit
theorem kfpast4_1 : (Try.prog.info? 30).bind (fun i => i.zero.map Value.cells) = some (List.toArray [(.int .i64 0), (.int .i64 0), (.int .i64 0), (.int .i64 0), (.slice none 0 0), (.slice none 0 0)]) := by kernel_rfl
theorem kfpast4_2 : fldB Try.prog 30 0 0 = true := by kernel_rfl
theorem kfpast4_3 : aggB Try.prog 27 4 = true := by kernel_rfl
theorem kfpast4_4 : fldB Try.prog 30 2 5 = true := by kernel_rfl
theorem kfpast4_5 : oneB Try.prog 28 = true := by kernel_rfl
theorem kfpast4_6 : fldB Try.prog 30 1 4 = true := by kernel_rfl
theorem kfpast4_7 : szB Try.prog 30 6 = true := by kernel_rfl
theorem kfpast4_8 : aggB Try.prog 30 6 = true := by kernel_rfl
theorem kfpast4_9 : (Try.prog.info? 41).bind (fun i => i.zero.map Value.cells) = some (List.toArray [(.slice none 0 0), (.slice none 0 0)]) := by kernel_rfl
theorem kfpast4_10 : callB Try.prog 40 = true := by kernel_rfl
theorem kfpast4_11 : aggB Try.prog 41 2 = true := by kernel_rfl
theorem kfpast4_12 : szB Try.prog 41 2 = true := by kernel_rfl
theorem kfpast4_13 : callB Try.prog 11 = true := by kernel_rfl
theorem kfpast4_14 : fldB Try.prog 41 0 0 = true := by kernel_rfl
theorem kfpast4_15 : oneB Try.prog 22 = true := by kernel_rfl
theorem kfpast4_16 : (Try.prog.info? 30).map (fun i => (i.size, i.zero.map Value.cells)) = some (6, some (List.toArray [(.int .i64 0), (.int .i64 0), (.int .i64 0), (.int .i64 0), (.slice none 0 0), (.slice none 0 0)])) := by kernel_rfl
theorem kfpast4_17 : (Try.prog.info? 30).map (fun i => (i.zero.map (·.cells.toList), i.size, i.bytes)) = some (some [(.int .i64 0), (.int .i64 0), (.int .i64 0), (.int .i64 0), (.slice none 0 0), (.slice none 0 0)], 6, 80) := by kernel_rfl
theorem kfpast4_18 : elB Try.prog 22 6 = true := by kernel_rfl
theorem kfpast4_19 : fldB Try.prog 41 1 1 = true := by kernel_rfl
theorem kfpast4_20 : callB Try.prog 41 = true := by kernel_rfl
def mdDid (ds : List Pt) (p : Pt) : List Pt := if ds.length < 40 then ds ++ [p] else (ds ++ [p]).drop 1
theorem HS.tailIn {w0 w : World} {r l : List Ob} {o : Ob} (h : HS w0 w (o :: (r ++ l))) : HS w0 w (r ++ (o :: l)) := h.perm List.perm_middle.symm
theorem mdDid_len {ds : List Pt} {p : Pt} (h : ds.length ≤ 40) : (mdDid ds p).length = if ds.length < 40 then ds.length + 1 else 40 := by
  unfold mdDid
  split
  · simp
  · simp; omega

set_option maxRecDepth 100000 in
theorem mdBack (p : Pt) (w : World) (hp : p.ok w) :
    Ret Try.prog 41 [.agg #[.int .i64 p.x0, .int .i64 p.y0, .int .i64 p.x1, .int .i64 p.y1, .slice p.o.A p.o.n p.o.c, .slice p.q.A p.q.n p.q.c]] w (fun z w' => z = .agg #[.int .i64 p.x0, .int .i64 p.y0, .int .i64 p.x1, .int .i64 p.y1, .slice p.q.A p.q.n p.q.c, .slice p.o.A p.o.n p.o.c] ∧ Below w.heap.size w w') := by
 refine ret_enter Try.func41 rfl rfl rfl ?_
 have H0 := HS.start w
 refine cw_seq ?_
 refine cw_reg ?_
 refine reg_op (op_box (cs := [.int _ _, .int _ _, .int _ _, .int _ _, .slice _ _ _, .slice _ _ _]) H0 rfl rfl rfl) rfl rfl ?_
 rintro _ w2 ⟨b1, rfl, H3⟩
 refine reg_op (op_alloc H3 rfl kfpast4_1) rfl rfl ?_
 rintro _ w5 ⟨b4, rfl, H6⟩
 refine reg_nil ?_
 refine fn_next ?_
 refine cw_seq ?_
 refine cw_reg ?_
 refine ry (y_fa rfl rfl kfpast4_2 rfl) rfl rfl ?_
 refine ry (y_lda (cs := [_, _, _, _]) rfl rfl kfpast4_3 rfl (fun j v hv => H6.cell (i := 1) rfl (lst_part (a := 0) (m := 4) hv))) rfl rfl ?_
 refine ry (y_fa rfl rfl kfpast4_4 rfl) rfl rfl ?_
 refine ry (y_ld rfl rfl kfpast4_5 (H6.cell (i := 1) rfl rfl)) rfl rfl ?_
 refine ry (y_fa rfl rfl kfpast4_6 rfl) rfl rfl ?_
 refine ry (y_ld rfl rfl kfpast4_5 (H6.cell (i := 1) rfl rfl)) rfl rfl ?_
 refine ry (y_buildL (places := [(0, 4), (4, 1), (5, 1)]) (parts := [(0, _), (1, _), (2, _)]) (vs := [(0, _), (1, _), (2, _)]) (cs := [.int _ _, .int _ _, .int _ _, .int _ _, .slice _ _ _, .slice _ _ _]) [(0, [_, _, _, _]), (1, [_]), (2, [_])] rfl Try.underlying30 (by kernel_rfl) kfpast4_1 rfl ⟨rfl, rfl, rfl, trivial⟩ rfl rfl) rfl rfl ?_
 refine reg_op (op_st (i := 0) (vs := [.int _ _, .int _ _, .int _ _, .int _ _, .slice _ _ _, .slice _ _ _]) H6 rfl rfl rfl rfl rfl kfpast4_7 rfl rfl rfl) rfl rfl ?_
 rintro _ w7 H8
 refine reg_nil ?_
 refine fn_next ?_
 refine cw_ret ?_
 refine fn_ret1 rfl (⟨_, rfl, load_agg (cs := [_, _, _, _, _, _]) kfpast4_8 rfl fun j v hv => by rw [Nat.zero_add]; exact H8.cell (i := 0) rfl hv⟩) ?_
 exact ⟨rfl, H8.base⟩

set_option maxRecDepth 100000 in
theorem mdDid_no (w0 : World) (r l : List Ob) (DA : Option Addr) (dc : Nat) (ds : List Pt) (UA : Option Addr) (uc : Nat) (us : List Pt) (p : Pt) (w : World) (hp : p.ok w0) (mo : p.o.n ≤ 16777216) (mq : p.q.n ≤ 16777216) (hno : ¬ (p.rightP ∧ ¬ p.emptyP)) (hD : ∀ X, HS w0 X l → Rd X DA (ptCells ds)) (hU : ∀ X, HS w0 X l → Rd X UA (ptCells us)) (hdc : ds.length ≤ dc) (huc : us.length ≤ uc) (hbd : ds.length ≤ 40) (hbu : us.length ≤ 40) (H0 : HS w0 w (r ++ l)) :
    Ret Try.prog 16 [.agg #[.slice DA ds.length dc, .slice UA us.length uc], .agg #[.int .i64 p.x0, .int .i64 p.y0, .int .i64 p.x1, .int .i64 p.y1, .slice p.o.A p.o.n p.o.c, .slice p.q.A p.q.n p.q.c]] w (fun z w' => z = .tuple #[.agg #[.slice DA ds.length dc, .slice UA us.length uc], .int .i64 (if p.rightP then 0 else 13)] ∧ HS w0 w' (r ++ l)) := by
 refine ret_enter Try.func16 rfl rfl rfl ?_
 refine cw_seq ?_
 refine cw_reg ?_
 refine reg_op (op_box (cs := [.slice _ _ _, .slice _ _ _]) H0 rfl rfl rfl) rfl rfl ?_
 rintro _ w2 ⟨b1, rfl, H3⟩
 refine reg_op (op_box (cs := [.int _ _, .int _ _, .int _ _, .int _ _, .slice _ _ _, .slice _ _ _]) H3 rfl rfl rfl) rfl rfl ?_
 rintro _ w5 ⟨b4, rfl, H6⟩
 refine reg_op (op_alloc H6 rfl kfpast4_9) rfl rfl ?_
 rintro _ w8 ⟨b7, rfl, H9⟩
 refine ry (y_asg rfl rfl) rfl rfl ?_
 refine reg_nil ?_
 refine fn_next ?_
 refine cw_seq ?_
 refine cw_seq ?_
 refine cw_reg ?_
 refine ry (y_ldb (i := 1) (cs := [_, _, _, _, _, _]) H9 rfl rfl kfpast4_8 rfl rfl) rfl rfl ?_
 refine reg_op (op_call (refPRight p _ (hp.below H9.base) mo mq) rfl kfpast4_10 ⟨rfl, trivial⟩) rfl rfl ?_
 rintro _ w11 ⟨rfl, e10⟩
 have H12 := H9.ext e10
 refine ry (y_notd rfl rfl) rfl rfl ?_
 refine reg_nil ?_
 refine fn_next ?_
 refine cw_condd rfl (fun h13 => ?_) (fun h13 => ?_)
 ·skip
  have k1 := h13
  refine cw_seq ?_
  refine cw_reg ?_
  refine ry (y_ldb (i := 2) (cs := [_, _]) H12 rfl rfl kfpast4_11 rfl rfl) rfl rfl ?_
  refine reg_op (op_st (i := 0) (vs := [.slice _ _ _, .slice _ _ _]) H12 rfl rfl rfl rfl rfl kfpast4_12 rfl rfl rfl) rfl rfl ?_
  rintro _ w14 H15
  refine ry (y_asg rfl rfl) rfl rfl ?_
  refine reg_nil ?_
  refine fn_next ?_
  refine cw_ret ?_
  refine fn_then_ret ?_
  refine fn_retn (vs := [_, _]) rfl ⟨⟨_, rfl, load_agg (cs := [_, _]) kfpast4_11 rfl fun j v hv => by rw [Nat.zero_add]; exact H15.cell (i := 0) rfl hv⟩, rfl, trivial⟩ rfl ?_
  first | rw [if_neg k1] | rw [if_pos k1]
  exact ⟨rfl, (H15.pickT (p := [_, _, _]) (m := []) [] rfl (by decide))⟩
 ·skip
  have k1 := Classical.not_not.1 h13
  refine cw_skip ?_
  refine fn_next ?_
  refine cw_seq ?_
  refine cw_seq ?_
  refine cw_reg ?_
  refine ry (y_ldb (i := 1) (cs := [_, _, _, _, _, _]) H12 rfl rfl kfpast4_8 rfl rfl) rfl rfl ?_
  refine reg_op (op_call (refPEmpty p _ (hp.below H12.base) mo mq) rfl kfpast4_13 ⟨rfl, trivial⟩) rfl rfl ?_
  rintro _ w17 ⟨rfl, e16⟩
  have H18 := H12.ext e16
  refine reg_nil ?_
  refine fn_next ?_
  refine cw_condd rfl (fun h19 => ?_) (fun h19 => ?_)
  ·skip
   have k2 := h19
   refine cw_seq ?_
   refine cw_reg ?_
   refine ry (y_ldb (i := 2) (cs := [_, _]) H18 rfl rfl kfpast4_11 rfl rfl) rfl rfl ?_
   refine reg_op (op_st (i := 0) (vs := [.slice _ _ _, .slice _ _ _]) H18 rfl rfl rfl rfl rfl kfpast4_12 rfl rfl rfl) rfl rfl ?_
   rintro _ w20 H21
   refine ry (y_asg rfl rfl) rfl rfl ?_
   refine reg_nil ?_
   refine fn_next ?_
   refine cw_ret ?_
   refine fn_then_ret ?_
   refine fn_retn (vs := [_, _]) rfl ⟨⟨_, rfl, load_agg (cs := [_, _]) kfpast4_11 rfl fun j v hv => by rw [Nat.zero_add]; exact H21.cell (i := 0) rfl hv⟩, rfl, trivial⟩ rfl ?_
   first | rw [if_neg k1] | rw [if_pos k1]
   exact ⟨rfl, (H21.pickT (p := [_, _, _]) (m := []) [] rfl (by decide))⟩
  · exact absurd ⟨k1, h19⟩ hno

set_option maxRecDepth 100000 in
set_option maxHeartbeats 1000000 in
theorem mdDid_ok (w0 : World) (r l : List Ob) (DA : Option Addr) (dc : Nat) (ds : List Pt) (UA : Option Addr) (uc : Nat) (us : List Pt) (p : Pt) (w : World) (hp : p.ok w0) (mo : p.o.n ≤ 16777216) (mq : p.q.n ≤ 16777216) (hr : p.rightP) (hne : ¬ p.emptyP) (hlt : ds.length < 40) (hD : ∀ X, HS w0 X l → Rd X DA (ptCells ds)) (hU : ∀ X, HS w0 X l → Rd X UA (ptCells us)) (hdc : ds.length ≤ dc) (huc : us.length ≤ uc) (hbd : ds.length ≤ 40) (hbu : us.length ≤ 40) (H0 : HS w0 w (r ++ l)) :
    Ret Try.prog 16 [.agg #[.slice DA ds.length dc, .slice UA us.length uc], .agg #[.int .i64 p.x0, .int .i64 p.y0, .int .i64 p.x1, .int .i64 p.y1, .slice p.o.A p.o.n p.o.c, .slice p.q.A p.q.n p.q.c]] w (fun z w' => ∃ A' c' o, z = .tuple #[.agg #[.slice A' (mdDid ds p).length c', .slice none 0 0], .int .i64 0] ∧ (mdDid ds p).length ≤ c' ∧ (∀ X, HS w0 X (o :: l) → Rd X A' (ptCells (mdDid ds p))) ∧ HS w0 w' (r ++ (o :: l))) := by
 refine ret_enter Try.func16 rfl rfl rfl ?_
 refine cw_seq ?_
 refine cw_reg ?_
 refine reg_op (op_box (cs := [.slice _ _ _, .slice _ _ _]) H0 rfl rfl rfl) rfl rfl ?_
 rintro _ w2 ⟨b1, rfl, H3⟩
 refine reg_op (op_box (cs := [.int _ _, .int _ _, .int _ _, .int _ _, .slice _ _ _, .slice _ _ _]) H3 rfl rfl rfl) rfl rfl ?_
 rintro _ w5 ⟨b4, rfl, H6⟩
 refine reg_op (op_alloc H6 rfl kfpast4_9) rfl rfl ?_
 rintro _ w8 ⟨b7, rfl, H9⟩
 refine ry (y_asg rfl rfl) rfl rfl ?_
 refine reg_nil ?_
 refine fn_next ?_
 refine cw_seq ?_
 refine cw_seq ?_
 refine cw_reg ?_
 refine ry (y_ldb (i := 1) (cs := [_, _, _, _, _, _]) H9 rfl rfl kfpast4_8 rfl rfl) rfl rfl ?_
 refine reg_op (op_call (refPRight p _ (hp.below H9.base) mo mq) rfl kfpast4_10 ⟨rfl, trivial⟩) rfl rfl ?_
 rintro _ w11 ⟨rfl, e10⟩
 have H12 := H9.ext e10
 refine ry (y_notd rfl rfl) rfl rfl ?_
 refine reg_nil ?_
 refine fn_next ?_
 refine cw_condd rfl (fun h13 => ?_) (fun h13 => ?_)
 · exact absurd hr h13
 ·skip
  refine cw_skip ?_
  refine fn_next ?_
  refine cw_seq ?_
  refine cw_seq ?_
  refine cw_reg ?_
  refine ry (y_ldb (i := 1) (cs := [_, _, _, _, _, _]) H12 rfl rfl kfpast4_8 rfl rfl) rfl rfl ?_
  refine reg_op (op_call (refPEmpty p _ (hp.below H12.base) mo mq) rfl kfpast4_13 ⟨rfl, trivial⟩) rfl rfl ?_
  rintro _ w15 ⟨rfl, e14⟩
  have H16 := H12.ext e14
  refine reg_nil ?_
  refine fn_next ?_
  refine cw_condd rfl (fun h17 => ?_) (fun h17 => ?_)
  · exact absurd h17 hne
  ·skip
   refine cw_skip ?_
   refine fn_next ?_
   refine cw_seq ?_
   refine cw_drawT H16 [1, 2, 4] (.alt (.step 0 (.alt (.step 3 (.step 5 (.step 6 (.step 7 (.leaf))))) (.step 5 (.step 3 (.step 6 (.step 7 (.leaf))))))) (.step 5 (.step 0 (.step 3 (.step 6 (.step 7 (.leaf))))))) (fun X HX => (HX.pickT (p := [_, _, _]) (m := [_, _]) [1, 2] rfl (by decide))) (by kernel_rfl) (by kernel_rfl) (by rfl) ?_
   simp only [pick, List.getElem?_cons_succ, List.getElem?_cons_zero]
   refine hk_y (fun Y HY => y_fa rfl rfl kfpast4_14 rfl) rfl rfl ?_
   refine hk_y (fun Y HY => y_ld rfl rfl kfpast4_15 (HY.cell (i := 1) rfl rfl)) rfl rfl ?_
   refine hk_y (fun Y HY => y_ldb (i := 0) (cs := [_, _, _, _, _, _]) HY rfl rfl kfpast4_8 rfl rfl) rfl rfl ?_
   refine hkt_nil [6, 14, 17, 19, 20] (fun M wl => ∃ (A' : Option Addr) (c' : Nat), M = [(6, .slice A' (0 + ds.length + 1) c')] ∧ HS w0 wl (Ob.row A' (0 + ds.length + 1) c' (ptCells (ds ++ [p])) 30 6 :: Ob.blk b1 [.slice DA ds.length dc, .slice UA us.length uc] 41 :: Ob.blk b4 [.int .i64 p.x0, .int .i64 p.y0, .int .i64 p.x1, .int .i64 p.y1, .slice p.o.A p.o.n p.o.c, .slice p.q.A p.q.n p.q.c] 30 :: Ob.blk b7 [.slice none 0 0, .slice none 0 0] 41 :: (r ++ l))) (fun wX HX => ?_) ?_
   ·skip
    refine tt_alt ?_ ?_
    ·skip
     refine tt_op rfl (op_lit (parts := []) (vs := []) (cs := []) HX rfl Try.underlying22 kfpast4_16 rfl trivial rfl rfl) rfl rfl ?_
     rintro _ w19 ⟨b18, rfl, H20⟩
     have H21 := H20.asrow (m := 0) (size := 6) rfl (by decide)
     refine ⟨(H21.pickT (p := [_, _, _, _]) (m := [_, _]) [2, 3] rfl (by decide)), fun w22 e24 => ?_⟩
     have H23 := H21.ext e24
     refine tt_alt ?_ ?_
     ·skip
      refine tt_op rfl (op_app (i := 0) (k := 0) (m := ds.length) (ys := ptCells ds) (size := 6) H23 rfl rfl rfl rfl (hD _ (H23.tail.tail.tail.tail).right) (pt_len _) (pt_one) Try.underlying22 kfpast4_17 rfl rfl (by unfold maxLen; omega) (by omega)) rfl rfl ?_
      rintro _ w27 ⟨A25, c26, rfl, H28⟩
      refine ⟨(H28.pickT (p := [_, _, _, _]) (m := [_, _]) [2, 3] rfl (by decide)), fun w29 e31 => ?_⟩
      have H30 := H28.ext e31
      refine tt_op rfl (op_litL (parts := [(0, _)]) (vs := [(0, _)]) (cs := [.int _ _, .int _ _, .int _ _, .int _ _, .slice _ _ _, .slice _ _ _]) [(0, [_, _, _, _, _, _])] H30 rfl Try.underlying22 kfpast4_16 rfl ⟨rfl, trivial⟩ rfl rfl rfl) rfl rfl ?_
      rintro _ w33 ⟨b32, rfl, H34⟩
      have H35 := H34.asrow (m := 1) (size := 6) rfl (by decide)
      refine ⟨(H35.pickT (p := [_, _, _, _, _]) (m := [_, _]) [3, 4] rfl (by decide)), fun w36 e38 => ?_⟩
      have H37 := H35.ext e38
      refine tt_op rfl (op_app (i := 1) H37 rfl rfl rfl rfl (H37.rd (i := 0) rfl) (rfl) (rfl) Try.underlying22 kfpast4_17 rfl rfl (by unfold maxLen; omega) (by omega)) rfl rfl ?_
      rintro _ w41 ⟨A39, c40, rfl, H42⟩
      refine ⟨(H42.pickT (p := [_, _, _, _, _]) (m := [_, _]) [3, 4] rfl (by decide)), fun w43 e45 => ?_⟩
      have H44 := H42.ext e45
      refine tt_op rfl (Yd.op (y_asg rfl rfl)) rfl rfl ?_
      rintro _ _ ⟨rfl, rfl⟩
      refine ⟨(H44.pickT (p := [_, _, _, _, _]) (m := [_, _]) [3, 4] rfl (by decide)), fun w46 e48 => ?_⟩
      have H47 := H44.ext e48
      rw [List.nil_append, show ptCells ds ++ [.int .i64 p.x0, .int .i64 p.y0, .int .i64 p.x1, .int .i64 p.y1, .slice p.o.A p.o.n p.o.c, .slice p.q.A p.q.n p.q.c] = ptCells (ds ++ [p]) from ptCells_snoc (p := p)] at H47
      exact tt_leaf ⟨A39, c40, rfl, (H47.pickT (p := [_, _, _, _, _]) (m := [_, _, _, _]) [1, 4, 3, 2] rfl (by decide))⟩ ⟨rfl, trivial⟩ (by repeat (first | exact kp_refl | refine kp_app rfl rfl ?_ | refine kp_cons rfl ?_))
     refine tt_op rfl (op_litL (parts := [(0, _)]) (vs := [(0, _)]) (cs := [.int _ _, .int _ _, .int _ _, .int _ _, .slice _ _ _, .slice _ _ _]) [(0, [_, _, _, _, _, _])] H23 rfl Try.underlying22 kfpast4_16 rfl ⟨rfl, trivial⟩ rfl rfl rfl) rfl rfl ?_
     rintro _ w50 ⟨b49, rfl, H51⟩
     have H52 := H51.asrow (m := 1) (size := 6) rfl (by decide)
     refine ⟨(H52.pickT (p := [_, _, _, _, _]) (m := [_, _]) [3, 4] rfl (by decide)), fun w53 e55 => ?_⟩
     have H54 := H52.ext e55
     refine tt_op rfl (op_app (i := 1) (k := 0) (m := ds.length) (ys := ptCells ds) (size := 6) H54 rfl rfl rfl rfl (hD _ (H54.tail.tail.tail.tail.tail).right) (pt_len _) (pt_one) Try.underlying22 kfpast4_17 rfl rfl (by unfold maxLen; omega) (by omega)) rfl rfl ?_
     rintro _ w58 ⟨A56, c57, rfl, H59⟩
     refine ⟨(H59.pickT (p := [_, _, _, _, _]) (m := [_, _]) [3, 4] rfl (by decide)), fun w60 e62 => ?_⟩
     have H61 := H59.ext e62
     refine tt_op rfl (op_app (i := 1) H61 rfl rfl rfl rfl (H61.rd (i := 0) rfl) (rfl) (rfl) Try.underlying22 kfpast4_17 rfl rfl (by unfold maxLen; omega) (by omega)) rfl rfl ?_
     rintro _ w65 ⟨A63, c64, rfl, H66⟩
     refine ⟨(H66.pickT (p := [_, _, _, _, _]) (m := [_, _]) [3, 4] rfl (by decide)), fun w67 e69 => ?_⟩
     have H68 := H66.ext e69
     refine tt_op rfl (Yd.op (y_asg rfl rfl)) rfl rfl ?_
     rintro _ _ ⟨rfl, rfl⟩
     refine ⟨(H68.pickT (p := [_, _, _, _, _]) (m := [_, _]) [3, 4] rfl (by decide)), fun w70 e72 => ?_⟩
     have H71 := H68.ext e72
     rw [List.nil_append, show ptCells ds ++ [.int .i64 p.x0, .int .i64 p.y0, .int .i64 p.x1, .int .i64 p.y1, .slice p.o.A p.o.n p.o.c, .slice p.q.A p.q.n p.q.c] = ptCells (ds ++ [p]) from ptCells_snoc (p := p)] at H71
     exact tt_leaf ⟨A63, c64, rfl, (H71.pickT (p := [_, _, _, _, _]) (m := [_, _, _, _]) [1, 4, 3, 2] rfl (by decide))⟩ ⟨rfl, trivial⟩ (by repeat (first | exact kp_refl | refine kp_app rfl rfl ?_ | refine kp_cons rfl ?_))
    refine tt_op rfl (op_litL (parts := [(0, _)]) (vs := [(0, _)]) (cs := [.int _ _, .int _ _, .int _ _, .int _ _, .slice _ _ _, .slice _ _ _]) [(0, [_, _, _, _, _, _])] HX rfl Try.underlying22 kfpast4_16 rfl ⟨rfl, trivial⟩ rfl rfl rfl) rfl rfl ?_
    rintro _ w74 ⟨b73, rfl, H75⟩
    have H76 := H75.asrow (m := 1) (size := 6) rfl (by decide)
    refine ⟨(H76.pickT (p := [_, _, _, _]) (m := [_, _]) [2, 3] rfl (by decide)), fun w77 e79 => ?_⟩
    have H78 := H76.ext e79
    refine tt_op rfl (op_lit (parts := []) (vs := []) (cs := []) H78 rfl Try.underlying22 kfpast4_16 rfl trivial rfl rfl) rfl rfl ?_
    rintro _ w81 ⟨b80, rfl, H82⟩
    have H83 := H82.asrow (m := 0) (size := 6) rfl (by decide)
    refine ⟨(H83.pickT (p := [_, _, _, _, _]) (m := [_, _]) [3, 4] rfl (by decide)), fun w84 e86 => ?_⟩
    have H85 := H83.ext e86
    refine tt_op rfl (op_app (i := 0) (k := 0) (m := ds.length) (ys := ptCells ds) (size := 6) H85 rfl rfl rfl rfl (hD _ (H85.tail.tail.tail.tail.tail).right) (pt_len _) (pt_one) Try.underlying22 kfpast4_17 rfl rfl (by unfold maxLen; omega) (by omega)) rfl rfl ?_
    rintro _ w89 ⟨A87, c88, rfl, H90⟩
    refine ⟨(H90.pickT (p := [_, _, _, _, _]) (m := [_, _]) [3, 4] rfl (by decide)), fun w91 e93 => ?_⟩
    have H92 := H90.ext e93
    refine tt_op rfl (op_app (i := 0) H92 rfl rfl rfl rfl (H92.rd (i := 1) rfl) (rfl) (rfl) Try.underlying22 kfpast4_17 rfl rfl (by unfold maxLen; omega) (by omega)) rfl rfl ?_
    rintro _ w96 ⟨A94, c95, rfl, H97⟩
    refine ⟨(H97.pickT (p := [_, _, _, _, _]) (m := [_, _]) [3, 4] rfl (by decide)), fun w98 e100 => ?_⟩
    have H99 := H97.ext e100
    refine tt_op rfl (Yd.op (y_asg rfl rfl)) rfl rfl ?_
    rintro _ _ ⟨rfl, rfl⟩
    refine ⟨(H99.pickT (p := [_, _, _, _, _]) (m := [_, _]) [3, 4] rfl (by decide)), fun w101 e103 => ?_⟩
    have H102 := H99.ext e103
    rw [List.nil_append, show ptCells ds ++ [.int .i64 p.x0, .int .i64 p.y0, .int .i64 p.x1, .int .i64 p.y1, .slice p.o.A p.o.n p.o.c, .slice p.q.A p.q.n p.q.c] = ptCells (ds ++ [p]) from ptCells_snoc (p := p)] at H102
    exact tt_leaf ⟨A94, c95, rfl, (H102.pickT (p := [_, _, _, _, _]) (m := [_, _, _, _]) [0, 4, 3, 2] rfl (by decide))⟩ ⟨rfl, trivial⟩ (by repeat (first | exact kp_refl | refine kp_app rfl rfl ?_ | refine kp_cons rfl ?_))
   ·skip
    rintro M w105 ⟨A', c', rfl, H104⟩
    refine fn_next ?_
    refine cw_seq ?_
    refine cw_seq ?_
    refine cw_reg ?_
    refine ry (y_mov rfl rfl) rfl rfl ?_
    refine ry (y_len rfl Try.underlying22 rfl) rfl rfl ?_
    refine ry (y_gtr rfl rfl rfl) rfl rfl ?_
    refine reg_nil ?_
    refine fn_next ?_
    refine cw_condd rfl (fun h106 => ?_) (fun h106 => ?_)
    · exfalso; omega
    ·skip
     refine cw_skip ?_
     refine fn_next ?_
     refine cw_seq ?_
     refine cw_reg ?_
     refine ry (y_mov rfl rfl) rfl rfl ?_
     refine ry (y_build (places := [(0, 1), (1, 1)]) (parts := [(0, _)]) (vs := [(0, _)]) (cs := [.slice _ _ _, .slice _ _ _]) rfl Try.underlying41 (by kernel_rfl) kfpast4_9 rfl ⟨rfl, trivial⟩ rfl) rfl rfl ?_
     refine reg_op (op_st (i := 3) (vs := [.slice _ _ _, .slice _ _ _]) H104 rfl rfl rfl rfl rfl kfpast4_12 rfl rfl rfl) rfl rfl ?_
     rintro _ w107 H108
     refine ry (y_asg rfl rfl) rfl rfl ?_
     refine reg_nil ?_
     refine fn_next ?_
     refine cw_ret ?_
     refine fn_retn (vs := [_, _]) rfl ⟨⟨_, rfl, load_agg (cs := [_, _]) kfpast4_11 rfl fun j v hv => by rw [Nat.zero_add]; exact H108.cell (i := 3) rfl hv⟩, rfl, trivial⟩ rfl ?_
     rw [Nat.zero_add] at H108
     rw [Nat.zero_add]
     have e : mdDid ds p = ds ++ [p] := if_pos hlt
     rw [e, List.length_append, show [p].length = 1 from rfl]
     have hn := (H108.len (i := 0) rfl).2.1
     exact ⟨A', c', Ob.row A' (ds.length + 1) c' (ptCells (ds ++ [p])) 30 6, rfl, hn, fun X HX => HX.rd (i := 0) rfl, HS.tailIn (H108.pickT (p := [_, _, _, _]) (m := [_]) [0] rfl (by decide))⟩

set_option maxRecDepth 100000 in
set_option maxHeartbeats 1000000 in
theorem mdDid_hi (w0 : World) (r l : List Ob) (DA : Option Addr) (dc : Nat) (ds : List Pt) (UA : Option Addr) (uc : Nat) (us : List Pt) (p : Pt) (w : World) (hp : p.ok w0) (mo : p.o.n ≤ 16777216) (mq : p.q.n ≤ 16777216) (hr : p.rightP) (hne : ¬ p.emptyP) (hlt : ds.length = 40) (hD : ∀ X, HS w0 X l → Rd X DA (ptCells ds)) (hU : ∀ X, HS w0 X l → Rd X UA (ptCells us)) (hdc : ds.length ≤ dc) (huc : us.length ≤ uc) (hbd : ds.length ≤ 40) (hbu : us.length ≤ 40) (H0 : HS w0 w (r ++ l)) :
    Ret Try.prog 16 [.agg #[.slice DA ds.length dc, .slice UA us.length uc], .agg #[.int .i64 p.x0, .int .i64 p.y0, .int .i64 p.x1, .int .i64 p.y1, .slice p.o.A p.o.n p.o.c, .slice p.q.A p.q.n p.q.c]] w (fun z w' => ∃ A' c' o, z = .tuple #[.agg #[.slice A' (mdDid ds p).length c', .slice none 0 0], .int .i64 0] ∧ (mdDid ds p).length ≤ c' ∧ (∀ X, HS w0 X (o :: l) → Rd X A' (ptCells (mdDid ds p))) ∧ HS w0 w' (r ++ (o :: l))) := by
 refine ret_enter Try.func16 rfl rfl rfl ?_
 refine cw_seq ?_
 refine cw_reg ?_
 refine reg_op (op_box (cs := [.slice _ _ _, .slice _ _ _]) H0 rfl rfl rfl) rfl rfl ?_
 rintro _ w2 ⟨b1, rfl, H3⟩
 refine reg_op (op_box (cs := [.int _ _, .int _ _, .int _ _, .int _ _, .slice _ _ _, .slice _ _ _]) H3 rfl rfl rfl) rfl rfl ?_
 rintro _ w5 ⟨b4, rfl, H6⟩
 refine reg_op (op_alloc H6 rfl kfpast4_9) rfl rfl ?_
 rintro _ w8 ⟨b7, rfl, H9⟩
 refine ry (y_asg rfl rfl) rfl rfl ?_
 refine reg_nil ?_
 refine fn_next ?_
 refine cw_seq ?_
 refine cw_seq ?_
 refine cw_reg ?_
 refine ry (y_ldb (i := 1) (cs := [_, _, _, _, _, _]) H9 rfl rfl kfpast4_8 rfl rfl) rfl rfl ?_
 refine reg_op (op_call (refPRight p _ (hp.below H9.base) mo mq) rfl kfpast4_10 ⟨rfl, trivial⟩) rfl rfl ?_
 rintro _ w11 ⟨rfl, e10⟩
 have H12 := H9.ext e10
 refine ry (y_notd rfl rfl) rfl rfl ?_
 refine reg_nil ?_
 refine fn_next ?_
 refine cw_condd rfl (fun h13 => ?_) (fun h13 => ?_)
 · exact absurd hr h13
 ·skip
  refine cw_skip ?_
  refine fn_next ?_
  refine cw_seq ?_
  refine cw_seq ?_
  refine cw_reg ?_
  refine ry (y_ldb (i := 1) (cs := [_, _, _, _, _, _]) H12 rfl rfl kfpast4_8 rfl rfl) rfl rfl ?_
  refine reg_op (op_call (refPEmpty p _ (hp.below H12.base) mo mq) rfl kfpast4_13 ⟨rfl, trivial⟩) rfl rfl ?_
  rintro _ w15 ⟨rfl, e14⟩
  have H16 := H12.ext e14
  refine reg_nil ?_
  refine fn_next ?_
  refine cw_condd rfl (fun h17 => ?_) (fun h17 => ?_)
  · exact absurd h17 hne
  ·skip
   refine cw_skip ?_
   refine fn_next ?_
   refine cw_seq ?_
   refine cw_drawT H16 [1, 2, 4] (.alt (.step 0 (.alt (.step 3 (.step 5 (.step 6 (.step 7 (.leaf))))) (.step 5 (.step 3 (.step 6 (.step 7 (.leaf))))))) (.step 5 (.step 0 (.step 3 (.step 6 (.step 7 (.leaf))))))) (fun X HX => (HX.pickT (p := [_, _, _]) (m := [_, _]) [1, 2] rfl (by decide))) (by kernel_rfl) (by kernel_rfl) (by rfl) ?_
   simp only [pick, List.getElem?_cons_succ, List.getElem?_cons_zero]
   refine hk_y (fun Y HY => y_fa rfl rfl kfpast4_14 rfl) rfl rfl ?_
   refine hk_y (fun Y HY => y_ld rfl rfl kfpast4_15 (HY.cell (i := 1) rfl rfl)) rfl rfl ?_
   refine hk_y (fun Y HY => y_ldb (i := 0) (cs := [_, _, _, _, _, _]) HY rfl rfl kfpast4_8 rfl rfl) rfl rfl ?_
   refine hkt_nil [6, 14, 17, 19, 20] (fun M wl => ∃ (A' : Option Addr) (c' : Nat), M = [(6, .slice A' (0 + ds.length + 1) c')] ∧ HS w0 wl (Ob.row A' (0 + ds.length + 1) c' (ptCells (ds ++ [p])) 30 6 :: Ob.blk b1 [.slice DA ds.length dc, .slice UA us.length uc] 41 :: Ob.blk b4 [.int .i64 p.x0, .int .i64 p.y0, .int .i64 p.x1, .int .i64 p.y1, .slice p.o.A p.o.n p.o.c, .slice p.q.A p.q.n p.q.c] 30 :: Ob.blk b7 [.slice none 0 0, .slice none 0 0] 41 :: (r ++ l))) (fun wX HX => ?_) ?_
   ·skip
    refine tt_alt ?_ ?_
    ·skip
     refine tt_op rfl (op_lit (parts := []) (vs := []) (cs := []) HX rfl Try.underlying22 kfpast4_16 rfl trivial rfl rfl) rfl rfl ?_
     rintro _ w19 ⟨b18, rfl, H20⟩
     have H21 := H20.asrow (m := 0) (size := 6) rfl (by decide)
     refine ⟨(H21.pickT (p := [_, _, _, _]) (m := [_, _]) [2, 3] rfl (by decide)), fun w22 e24 => ?_⟩
     have H23 := H21.ext e24
     refine tt_alt ?_ ?_
     ·skip
      refine tt_op rfl (op_app (i := 0) (k := 0) (m := ds.length) (ys := ptCells ds) (size := 6) H23 rfl rfl rfl rfl (hD _ (H23.tail.tail.tail.tail).right) (pt_len _) (pt_one) Try.underlying22 kfpast4_17 rfl rfl (by unfold maxLen; omega) (by omega)) rfl rfl ?_
      rintro _ w27 ⟨A25, c26, rfl, H28⟩
      refine ⟨(H28.pickT (p := [_, _, _, _]) (m := [_, _]) [2, 3] rfl (by decide)), fun w29 e31 => ?_⟩
      have H30 := H28.ext e31
      refine tt_op rfl (op_litL (parts := [(0, _)]) (vs := [(0, _)]) (cs := [.int _ _, .int _ _, .int _ _, .int _ _, .slice _ _ _, .slice _ _ _]) [(0, [_, _, _, _, _, _])] H30 rfl Try.underlying22 kfpast4_16 rfl ⟨rfl, trivial⟩ rfl rfl rfl) rfl rfl ?_
      rintro _ w33 ⟨b32, rfl, H34⟩
      have H35 := H34.asrow (m := 1) (size := 6) rfl (by decide)
      refine ⟨(H35.pickT (p := [_, _, _, _, _]) (m := [_, _]) [3, 4] rfl (by decide)), fun w36 e38 => ?_⟩
      have H37 := H35.ext e38
      refine tt_op rfl (op_app (i := 1) H37 rfl rfl rfl rfl (H37.rd (i := 0) rfl) (rfl) (rfl) Try.underlying22 kfpast4_17 rfl rfl (by unfold maxLen; omega) (by omega)) rfl rfl ?_
      rintro _ w41 ⟨A39, c40, rfl, H42⟩
      refine ⟨(H42.pickT (p := [_, _, _, _, _]) (m := [_, _]) [3, 4] rfl (by decide)), fun w43 e45 => ?_⟩
      have H44 := H42.ext e45
      refine tt_op rfl (Yd.op (y_asg rfl rfl)) rfl rfl ?_
      rintro _ _ ⟨rfl, rfl⟩
      refine ⟨(H44.pickT (p := [_, _, _, _, _]) (m := [_, _]) [3, 4] rfl (by decide)), fun w46 e48 => ?_⟩
      have H47 := H44.ext e48
      rw [List.nil_append, show ptCells ds ++ [.int .i64 p.x0, .int .i64 p.y0, .int .i64 p.x1, .int .i64 p.y1, .slice p.o.A p.o.n p.o.c, .slice p.q.A p.q.n p.q.c] = ptCells (ds ++ [p]) from ptCells_snoc (p := p)] at H47
      exact tt_leaf ⟨A39, c40, rfl, (H47.pickT (p := [_, _, _, _, _]) (m := [_, _, _, _]) [1, 4, 3, 2] rfl (by decide))⟩ ⟨rfl, trivial⟩ (by repeat (first | exact kp_refl | refine kp_app rfl rfl ?_ | refine kp_cons rfl ?_))
     refine tt_op rfl (op_litL (parts := [(0, _)]) (vs := [(0, _)]) (cs := [.int _ _, .int _ _, .int _ _, .int _ _, .slice _ _ _, .slice _ _ _]) [(0, [_, _, _, _, _, _])] H23 rfl Try.underlying22 kfpast4_16 rfl ⟨rfl, trivial⟩ rfl rfl rfl) rfl rfl ?_
     rintro _ w50 ⟨b49, rfl, H51⟩
     have H52 := H51.asrow (m := 1) (size := 6) rfl (by decide)
     refine ⟨(H52.pickT (p := [_, _, _, _, _]) (m := [_, _]) [3, 4] rfl (by decide)), fun w53 e55 => ?_⟩
     have H54 := H52.ext e55
     refine tt_op rfl (op_app (i := 1) (k := 0) (m := ds.length) (ys := ptCells ds) (size := 6) H54 rfl rfl rfl rfl (hD _ (H54.tail.tail.tail.tail.tail).right) (pt_len _) (pt_one) Try.underlying22 kfpast4_17 rfl rfl (by unfold maxLen; omega) (by omega)) rfl rfl ?_
     rintro _ w58 ⟨A56, c57, rfl, H59⟩
     refine ⟨(H59.pickT (p := [_, _, _, _, _]) (m := [_, _]) [3, 4] rfl (by decide)), fun w60 e62 => ?_⟩
     have H61 := H59.ext e62
     refine tt_op rfl (op_app (i := 1) H61 rfl rfl rfl rfl (H61.rd (i := 0) rfl) (rfl) (rfl) Try.underlying22 kfpast4_17 rfl rfl (by unfold maxLen; omega) (by omega)) rfl rfl ?_
     rintro _ w65 ⟨A63, c64, rfl, H66⟩
     refine ⟨(H66.pickT (p := [_, _, _, _, _]) (m := [_, _]) [3, 4] rfl (by decide)), fun w67 e69 => ?_⟩
     have H68 := H66.ext e69
     refine tt_op rfl (Yd.op (y_asg rfl rfl)) rfl rfl ?_
     rintro _ _ ⟨rfl, rfl⟩
     refine ⟨(H68.pickT (p := [_, _, _, _, _]) (m := [_, _]) [3, 4] rfl (by decide)), fun w70 e72 => ?_⟩
     have H71 := H68.ext e72
     rw [List.nil_append, show ptCells ds ++ [.int .i64 p.x0, .int .i64 p.y0, .int .i64 p.x1, .int .i64 p.y1, .slice p.o.A p.o.n p.o.c, .slice p.q.A p.q.n p.q.c] = ptCells (ds ++ [p]) from ptCells_snoc (p := p)] at H71
     exact tt_leaf ⟨A63, c64, rfl, (H71.pickT (p := [_, _, _, _, _]) (m := [_, _, _, _]) [1, 4, 3, 2] rfl (by decide))⟩ ⟨rfl, trivial⟩ (by repeat (first | exact kp_refl | refine kp_app rfl rfl ?_ | refine kp_cons rfl ?_))
    refine tt_op rfl (op_litL (parts := [(0, _)]) (vs := [(0, _)]) (cs := [.int _ _, .int _ _, .int _ _, .int _ _, .slice _ _ _, .slice _ _ _]) [(0, [_, _, _, _, _, _])] HX rfl Try.underlying22 kfpast4_16 rfl ⟨rfl, trivial⟩ rfl rfl rfl) rfl rfl ?_
    rintro _ w74 ⟨b73, rfl, H75⟩
    have H76 := H75.asrow (m := 1) (size := 6) rfl (by decide)
    refine ⟨(H76.pickT (p := [_, _, _, _]) (m := [_, _]) [2, 3] rfl (by decide)), fun w77 e79 => ?_⟩
    have H78 := H76.ext e79
    refine tt_op rfl (op_lit (parts := []) (vs := []) (cs := []) H78 rfl Try.underlying22 kfpast4_16 rfl trivial rfl rfl) rfl rfl ?_
    rintro _ w81 ⟨b80, rfl, H82⟩
    have H83 := H82.asrow (m := 0) (size := 6) rfl (by decide)
    refine ⟨(H83.pickT (p := [_, _, _, _, _]) (m := [_, _]) [3, 4] rfl (by decide)), fun w84 e86 => ?_⟩
    have H85 := H83.ext e86
    refine tt_op rfl (op_app (i := 0) (k := 0) (m := ds.length) (ys := ptCells ds) (size := 6) H85 rfl rfl rfl rfl (hD _ (H85.tail.tail.tail.tail.tail).right) (pt_len _) (pt_one) Try.underlying22 kfpast4_17 rfl rfl (by unfold maxLen; omega) (by omega)) rfl rfl ?_
    rintro _ w89 ⟨A87, c88, rfl, H90⟩
    refine ⟨(H90.pickT (p := [_, _, _, _, _]) (m := [_, _]) [3, 4] rfl (by decide)), fun w91 e93 => ?_⟩
    have H92 := H90.ext e93
    refine tt_op rfl (op_app (i := 0) H92 rfl rfl rfl rfl (H92.rd (i := 1) rfl) (rfl) (rfl) Try.underlying22 kfpast4_17 rfl rfl (by unfold maxLen; omega) (by omega)) rfl rfl ?_
    rintro _ w96 ⟨A94, c95, rfl, H97⟩
    refine ⟨(H97.pickT (p := [_, _, _, _, _]) (m := [_, _]) [3, 4] rfl (by decide)), fun w98 e100 => ?_⟩
    have H99 := H97.ext e100
    refine tt_op rfl (Yd.op (y_asg rfl rfl)) rfl rfl ?_
    rintro _ _ ⟨rfl, rfl⟩
    refine ⟨(H99.pickT (p := [_, _, _, _, _]) (m := [_, _]) [3, 4] rfl (by decide)), fun w101 e103 => ?_⟩
    have H102 := H99.ext e103
    rw [List.nil_append, show ptCells ds ++ [.int .i64 p.x0, .int .i64 p.y0, .int .i64 p.x1, .int .i64 p.y1, .slice p.o.A p.o.n p.o.c, .slice p.q.A p.q.n p.q.c] = ptCells (ds ++ [p]) from ptCells_snoc (p := p)] at H102
    exact tt_leaf ⟨A94, c95, rfl, (H102.pickT (p := [_, _, _, _, _]) (m := [_, _, _, _]) [0, 4, 3, 2] rfl (by decide))⟩ ⟨rfl, trivial⟩ (by repeat (first | exact kp_refl | refine kp_app rfl rfl ?_ | refine kp_cons rfl ?_))
   ·skip
    rintro M w105 ⟨A', c', rfl, H104⟩
    refine fn_next ?_
    refine cw_seq ?_
    refine cw_seq ?_
    refine cw_reg ?_
    refine ry (y_mov rfl rfl) rfl rfl ?_
    refine ry (y_len rfl Try.underlying22 rfl) rfl rfl ?_
    refine ry (y_gtr rfl rfl rfl) rfl rfl ?_
    refine reg_nil ?_
    refine fn_next ?_
    refine cw_condd rfl (fun h106 => ?_) (fun h106 => ?_)
    ·skip
     refine cw_reg ?_
     refine ry (y_mov rfl rfl) rfl rfl ?_
     refine ry (y_sl (lo := 1) rfl rfl rfl kfpast4_18 (rfl) (by omega)) rfl rfl ?_
     refine ry (y_asg rfl rfl) rfl rfl ?_
     refine reg_nil ?_
     refine fn_next ?_
     refine cw_seq ?_
     refine cw_reg ?_
     refine ry (y_mov rfl rfl) rfl rfl ?_
     refine ry (y_build (places := [(0, 1), (1, 1)]) (parts := [(0, _)]) (vs := [(0, _)]) (cs := [.slice _ _ _, .slice _ _ _]) rfl Try.underlying41 (by kernel_rfl) kfpast4_9 rfl ⟨rfl, trivial⟩ rfl) rfl rfl ?_
     refine reg_op (op_st (i := 3) (vs := [.slice _ _ _, .slice _ _ _]) H104 rfl rfl rfl rfl rfl kfpast4_12 rfl rfl rfl) rfl rfl ?_
     rintro _ w107 H108
     refine ry (y_asg rfl rfl) rfl rfl ?_
     refine reg_nil ?_
     refine fn_next ?_
     refine cw_ret ?_
     refine fn_retn (vs := [_, _]) rfl ⟨⟨_, rfl, load_agg (cs := [_, _]) kfpast4_11 rfl fun j v hv => by rw [Nat.zero_add]; exact H108.cell (i := 3) rfl hv⟩, rfl, trivial⟩ rfl ?_
     rw [Nat.zero_add] at H108
     rw [Nat.zero_add]
     have e : mdDid ds p = (ds ++ [p]).drop 1 := if_neg (by omega)
     rw [e, List.length_drop, List.length_append, show [p].length = 1 from rfl]
     have hn := (H108.len (i := 0) rfl).2.1
     refine ⟨_, _, Ob.row A' (ds.length + 1) c' (ptCells (ds ++ [p])) 30 6, rfl, by omega, fun X HX => ?_, HS.tailIn (H108.pickT (p := [_, _, _, _]) (m := [_]) [0] rfl (by decide))⟩
     have h1 := Rd.slice (size := 6) (lo := 1) (hi := ds.length + 1) (HX.rd (i := 0) rfl) (by omega) hn
     rw [ptCells_take, ptCells_drop, List.take_of_length_le (by simp)] at h1
     exact h1
    · exfalso; omega

set_option maxRecDepth 100000 in
theorem mdBack_no (w0 : World) (r l : List Ob) (DA : Option Addr) (dc : Nat) (ds : List Pt) (UA : Option Addr) (uc : Nat) (us : List Pt) (w : World) (hD : ∀ X, HS w0 X l → Rd X DA (ptCells ds)) (hU : ∀ X, HS w0 X l → Rd X UA (ptCells us)) (hdc : ds.length ≤ dc) (huc : us.length ≤ uc) (hbd : ds.length ≤ 40) (hbu : us.length ≤ 40) (H0 : HS w0 w (r ++ l)) (hz : ds.length = 0) :
    Ret Try.prog 17 [.agg #[.slice DA ds.length dc, .slice UA us.length uc]] w (fun z w' => z = .tuple #[.agg #[.slice DA ds.length dc, .slice UA us.length uc], .agg #[.int .i64 0, .int .i64 0, .int .i64 0, .int .i64 0, .slice none 0 0, .slice none 0 0], .int .i64 15] ∧ HS w0 w' (r ++ l)) := by
 refine ret_enter Try.func17 rfl rfl rfl ?_
 refine cw_seq ?_
 refine cw_reg ?_
 refine reg_op (op_box (cs := [.slice _ _ _, .slice _ _ _]) H0 rfl rfl rfl) rfl rfl ?_
 rintro _ w2 ⟨b1, rfl, H3⟩
 refine reg_op (op_alloc H3 rfl kfpast4_9) rfl rfl ?_
 rintro _ w5 ⟨b4, rfl, H6⟩
 refine reg_op (op_alloc H6 rfl kfpast4_1) rfl rfl ?_
 rintro _ w8 ⟨b7, rfl, H9⟩
 refine ry (y_asg rfl rfl) rfl rfl ?_
 refine reg_nil ?_
 refine fn_next ?_
 refine cw_seq ?_
 refine cw_reg ?_
 refine ry (y_fa rfl rfl kfpast4_14 rfl) rfl rfl ?_
 refine ry (y_ld rfl rfl kfpast4_15 (H9.cell (i := 2) rfl rfl)) rfl rfl ?_
 refine ry (y_len rfl Try.underlying22 rfl) rfl rfl ?_
 refine ry (y_asg rfl rfl) rfl rfl ?_
 refine reg_nil ?_
 refine fn_next ?_
 refine cw_seq ?_
 refine cw_seq ?_
 refine cw_reg ?_
 refine ry (y_mov rfl rfl) rfl rfl ?_
 refine ry (yv (congrArg Value.bool (decide_eq_true (by rw [hz]; rfl))) (y_eql rfl rfl rfl)) rfl rfl ?_
 refine reg_nil ?_
 refine fn_next ?_
 refine cw_condt rfl ?_
 refine cw_seq ?_
 refine cw_reg ?_
 refine ry (y_ldb (i := 2) (cs := [_, _]) H9 rfl rfl kfpast4_11 rfl rfl) rfl rfl ?_
 refine ry (y_buildL (places := [(0, 4), (4, 1), (5, 1)]) (parts := []) (vs := []) (cs := [.int _ _, .int _ _, .int _ _, .int _ _, .slice _ _ _, .slice _ _ _]) [] rfl Try.underlying30 (by kernel_rfl) kfpast4_1 rfl trivial rfl rfl) rfl rfl ?_
 refine reg_op (op_st (i := 1) (vs := [.slice _ _ _, .slice _ _ _]) H9 rfl rfl rfl rfl rfl kfpast4_12 rfl rfl rfl) rfl rfl ?_
 rintro _ w10 H11
 refine reg_op (op_st (i := 0) (vs := [.int _ _, .int _ _, .int _ _, .int _ _, .slice _ _ _, .slice _ _ _]) H11 rfl rfl rfl rfl rfl kfpast4_7 rfl rfl rfl) rfl rfl ?_
 rintro _ w12 H13
 refine ry (y_asg rfl rfl) rfl rfl ?_
 refine reg_nil ?_
 refine fn_next ?_
 refine cw_ret ?_
 refine fn_then_ret ?_
 refine fn_retn (vs := [_, _, _]) rfl ⟨⟨_, rfl, load_agg (cs := [_, _]) kfpast4_11 rfl fun j v hv => by rw [Nat.zero_add]; exact H13.cell (i := 1) rfl hv⟩, ⟨_, rfl, load_agg (cs := [_, _, _, _, _, _]) kfpast4_8 rfl fun j v hv => by rw [Nat.zero_add]; exact H13.cell (i := 0) rfl hv⟩, rfl, trivial⟩ rfl ?_
 exact ⟨rfl, (H13.pickT (p := [_, _, _]) (m := []) [] rfl (by decide))⟩

set_option maxRecDepth 100000 in
set_option maxHeartbeats 1000000 in
theorem mdBack_ok (w0 : World) (r l : List Ob) (DA : Option Addr) (dc : Nat) (ds : List Pt) (UA : Option Addr) (uc : Nat) (us : List Pt) (n : Nat) (w : World) (hD : ∀ X, HS w0 X l → Rd X DA (ptCells ds)) (hU : ∀ X, HS w0 X l → Rd X UA (ptCells us)) (hdc : ds.length ≤ dc) (huc : us.length ≤ uc) (hbd : ds.length ≤ 40) (hbu : us.length ≤ 40) (H0 : HS w0 w (r ++ l)) (hz : ds.length = n + 1) (hall : ∀ x ∈ ds, x.ok w0) :
    Ret Try.prog 17 [.agg #[.slice DA ds.length dc, .slice UA us.length uc]] w (fun z w' => ∃ A' c' o, z = .tuple #[.agg #[.slice DA n dc, .slice A' (us.length + 1) c'], .agg #[.int .i64 (pI ds n).x0, .int .i64 (pI ds n).y0, .int .i64 (pI ds n).x1, .int .i64 (pI ds n).y1, .slice (pI ds n).q.A (pI ds n).q.n (pI ds n).q.c, .slice (pI ds n).o.A (pI ds n).o.n (pI ds n).o.c], .int .i64 0] ∧ us.length + 1 ≤ c' ∧ (∀ X, HS w0 X (o :: l) → Rd X A' (ptCells ((pI ds n) :: us))) ∧ HS w0 w' (r ++ (o :: l))) := by
 have pq : ∀ (j : Nat) (v : Value), ([.int .i64 (pI ds n).x0, .int .i64 (pI ds n).y0, .int .i64 (pI ds n).x1, .int .i64 (pI ds n).y1, .slice (pI ds n).o.A (pI ds n).o.n (pI ds n).o.c, .slice (pI ds n).q.A (pI ds n).q.n (pI ds n).q.c] : List Value)[j]? = some v → (ptCells ds)[n * 6 + j]? = some v := pt_get (pI_get (by omega))
 have hx := hall _ (pI_mem (l := ds) (i := n) (by omega))
 refine ret_enter Try.func17 rfl rfl rfl ?_
 refine cw_seq ?_
 refine cw_reg ?_
 refine reg_op (op_box (cs := [.slice _ _ _, .slice _ _ _]) H0 rfl rfl rfl) rfl rfl ?_
 rintro _ w2 ⟨b1, rfl, H3⟩
 refine reg_op (op_alloc H3 rfl kfpast4_9) rfl rfl ?_
 rintro _ w5 ⟨b4, rfl, H6⟩
 refine reg_op (op_alloc H6 rfl kfpast4_1) rfl rfl ?_
 rintro _ w8 ⟨b7, rfl, H9⟩
 refine ry (y_asg rfl rfl) rfl rfl ?_
 refine reg_nil ?_
 refine fn_next ?_
 refine cw_seq ?_
 refine cw_reg ?_
 refine ry (y_fa rfl rfl kfpast4_14 rfl) rfl rfl ?_
 refine ry (y_ld rfl rfl kfpast4_15 (H9.cell (i := 2) rfl rfl)) rfl rfl ?_
 refine ry (y_len rfl Try.underlying22 rfl) rfl rfl ?_
 refine ry (y_asg rfl rfl) rfl rfl ?_
 refine reg_nil ?_
 refine fn_next ?_
 refine cw_seq ?_
 refine cw_seq ?_
 refine cw_reg ?_
 refine ry (y_mov rfl rfl) rfl rfl ?_
 refine ry (yv (congrArg Value.bool (decide_eq_false (by omega))) (y_eql rfl rfl rfl)) rfl rfl ?_
 refine reg_nil ?_
 refine fn_next ?_
 refine cw_condf rfl ?_
 refine cw_skip ?_
 refine fn_next ?_
 refine cw_seq ?_
 refine cw_reg ?_
 refine ry (y_fa rfl rfl kfpast4_14 rfl) rfl rfl ?_
 refine ry (y_ld rfl rfl kfpast4_15 (H9.cell (i := 2) rfl rfl)) rfl rfl ?_
 refine ry (y_mov rfl rfl) rfl rfl ?_
 refine ry (y_sub rfl rfl rfl (show _ = (n : Int) from (wi (by omega)).trans (by omega))) rfl rfl ?_
 refine ry (y_iar (i := n) (hD _ (H9.tail.tail.tail).right) rfl rfl rfl kfpast4_18 (rfl) (by omega) (rfl) (pq 0 _ rfl)) rfl rfl ?_
 refine ry (y_ldra (cs := [_, _, _, _, _, _]) (hD _ (H9.tail.tail.tail).right) rfl rfl kfpast4_8 rfl (by decide) (fun j v hv => pq j v hv)) rfl rfl ?_
 refine reg_op (op_alloc H9 rfl kfpast4_1) rfl rfl ?_
 rintro _ w11 ⟨b10, rfl, H12⟩
 refine reg_op (op_st (i := 0) (vs := [.int _ _, .int _ _, .int _ _, .int _ _, .slice _ _ _, .slice _ _ _]) H12 rfl rfl rfl rfl rfl kfpast4_7 rfl rfl rfl) rfl rfl ?_
 rintro _ w13 H14
 refine reg_nil ?_
 refine fn_next ?_
 refine cw_seq ?_
 refine cw_drawT H14 [0, 1, 2, 3, 4, 5, 7, 8, 11] (.step 6 (.step 9 (.alt (.step 10 (.step 12 (.step 13 (.step 14 (.step 15 (.leaf)))))) (.step 12 (.step 10 (.step 13 (.step 14 (.step 15 (.leaf))))))))) (fun X HX => (HX.pickT (p := [_, _, _, _]) (m := [_, _]) [0, 3] rfl (by decide))) (by kernel_rfl) (by kernel_rfl) (by rfl) ?_
 simp only [pick, List.getElem?_cons_succ, List.getElem?_cons_zero]
 refine hk_y (fun Y HY => y_fa rfl rfl kfpast4_14 rfl) rfl rfl ?_
 refine hk_y (fun Y HY => y_ld rfl rfl kfpast4_15 (HY.cell (i := 1) rfl rfl)) rfl rfl ?_
 refine hk_y (fun Y HY => y_mov rfl rfl) rfl rfl ?_
 refine hk_y (fun Y HY => y_sub rfl rfl rfl (show _ = (n : Int) from (wi (by omega)).trans (by omega))) rfl rfl ?_
 refine hk_y (fun Y HY => yv (congrArg (fun B => Value.slice B n dc) subA_zero) (y_sh (hi := n) rfl rfl rfl kfpast4_18 rfl (by omega))) rfl rfl ?_
 refine hk_y (fun Y HY => y_ldb (i := 0) (cs := [_, _, _, _, _, _]) HY rfl rfl kfpast4_8 rfl rfl) rfl rfl ?_
 refine hk_y (fun Y HY => y_fa rfl rfl kfpast4_19 rfl) rfl rfl ?_
 refine hk_y (fun Y HY => y_ld rfl rfl kfpast4_15 (HY.cell (i := 1) rfl rfl)) rfl rfl ?_
 refine hk_y (fun Y HY => y_ldb (i := 0) (cs := [_, _, _, _, _, _]) HY rfl rfl kfpast4_8 rfl rfl) rfl rfl ?_
 refine hkt_nil [4, 26, 29, 30, 32] (fun M wl => ∃ (A' : Option Addr) (c' : Nat), M = [(4, .int .i64 0)] ∧ HS w0 wl (Ob.row A' (us.length + 1) c' (ptCells ((pI ds n) :: us)) 30 6 :: Ob.blk b4 [.slice DA n dc, .slice A' (us.length + 1) c'] 41 :: Ob.blk b7 [.int .i64 (pI ds n).x0, .int .i64 (pI ds n).y0, .int .i64 (pI ds n).x1, .int .i64 (pI ds n).y1, .slice (pI ds n).q.A (pI ds n).q.n (pI ds n).q.c, .slice (pI ds n).o.A (pI ds n).o.n (pI ds n).o.c] 30 :: (r ++ l))) (fun wX HX => ?_) ?_
 ·skip
  refine tt_op rfl (op_litL (parts := [(0, _)]) (vs := [(0, _)]) (cs := [.int _ _, .int _ _, .int _ _, .int _ _, .slice _ _ _, .slice _ _ _]) [(0, [_, _, _, _, _, _])] HX rfl Try.underlying22 kfpast4_16 rfl ⟨rfl, trivial⟩ rfl rfl rfl) rfl rfl ?_
  rintro _ w16 ⟨b15, rfl, H17⟩
  have H18 := H17.asrow (m := 1) (size := 6) rfl (by decide)
  refine ⟨(H18.pickT (p := [_, _, _, _, _]) (m := [_, _]) [1, 4] rfl (by decide)), fun w19 e21 => ?_⟩
  have H20 := H18.ext e21
  refine tt_op rfl (op_app (i := 0) (k := 1) (m := us.length) (ys := ptCells us) (size := 6) H20 rfl rfl rfl rfl (hU _ (H20.tail.tail.tail.tail.tail).right) (pt_len _) (pt_one) Try.underlying22 kfpast4_17 rfl rfl (by unfold maxLen; omega) (by omega)) rfl rfl ?_
  rintro _ w24 ⟨A22, c23, rfl, H25⟩
  refine ⟨(H25.pickT (p := [_, _, _, _, _]) (m := [_, _]) [1, 4] rfl (by decide)), fun w26 e28 => ?_⟩
  have H27 := H25.ext e28
  refine tt_alt ?_ ?_
  ·skip
   refine tt_op rfl (Yd.op (y_build (places := [(0, 1), (1, 1)]) (parts := [(0, _), (1, _)]) (vs := [(0, _), (1, _)]) (cs := [.slice _ _ _, .slice _ _ _]) rfl Try.underlying41 (by kernel_rfl) kfpast4_9 rfl ⟨rfl, rfl, trivial⟩ rfl)) rfl rfl ?_
   rintro _ _ ⟨rfl, rfl⟩
   refine ⟨(H27.pickT (p := [_, _, _, _, _]) (m := [_, _]) [1, 4] rfl (by decide)), fun w29 e31 => ?_⟩
   have H30 := H27.ext e31
   refine tt_op rfl (op_call (mdBack (pI ds n) _ (hx.below H30.base)) rfl kfpast4_20 ⟨rfl, trivial⟩) rfl rfl ?_
   rintro _ w33 ⟨rfl, e32⟩
   have H34 := H30.ext e32
   refine ⟨(H34.pickT (p := [_, _, _, _, _]) (m := [_, _]) [1, 4] rfl (by decide)), fun w35 e37 => ?_⟩
   have H36 := H34.ext e37
   refine tt_op rfl (op_st (i := 3) (vs := [.slice _ _ _, .slice _ _ _]) H36 rfl rfl rfl rfl rfl kfpast4_12 rfl rfl rfl) rfl rfl ?_
   rintro _ w38 H39
   refine ⟨(H39.pickT (p := [_, _, _, _, _]) (m := [_, _]) [1, 4] rfl (by decide)), fun w40 e42 => ?_⟩
   have H41 := H39.ext e42
   refine tt_op rfl (op_st (i := 2) (vs := [.int _ _, .int _ _, .int _ _, .int _ _, .slice _ _ _, .slice _ _ _]) H41 rfl rfl rfl rfl rfl kfpast4_7 rfl rfl rfl) rfl rfl ?_
   rintro _ w43 H44
   refine ⟨(H44.pickT (p := [_, _, _, _, _]) (m := [_, _]) [1, 4] rfl (by decide)), fun w45 e47 => ?_⟩
   have H46 := H44.ext e47
   refine tt_op rfl (Yd.op (y_asg rfl rfl)) rfl rfl ?_
   rintro _ _ ⟨rfl, rfl⟩
   refine ⟨(H46.pickT (p := [_, _, _, _, _]) (m := [_, _]) [1, 4] rfl (by decide)), fun w48 e50 => ?_⟩
   have H49 := H46.ext e50
   rw [Nat.add_comm 1 us.length, show [.int .i64 (pI ds n).x0, .int .i64 (pI ds n).y0, .int .i64 (pI ds n).x1, .int .i64 (pI ds n).y1, .slice (pI ds n).o.A (pI ds n).o.n (pI ds n).o.c, .slice (pI ds n).q.A (pI ds n).q.n (pI ds n).q.c] ++ ptCells us = ptCells ((pI ds n) :: us) from rfl] at H49
   exact tt_leaf ⟨A22, c23, rfl, (H49.pickT (p := [_, _, _, _, _]) (m := [_, _, _]) [0, 3, 2] rfl (by decide))⟩ ⟨rfl, trivial⟩ (by repeat (first | exact kp_refl | refine kp_app rfl rfl ?_ | refine kp_cons rfl ?_))
  refine tt_op rfl (op_call (mdBack (pI ds n) _ (hx.below H27.base)) rfl kfpast4_20 ⟨rfl, trivial⟩) rfl rfl ?_
  rintro _ w52 ⟨rfl, e51⟩
  have H53 := H27.ext e51
  refine ⟨(H53.pickT (p := [_, _, _, _, _]) (m := [_, _]) [1, 4] rfl (by decide)), fun w54 e56 => ?_⟩
  have H55 := H53.ext e56
  refine tt_op rfl (Yd.op (y_build (places := [(0, 1), (1, 1)]) (parts := [(0, _), (1, _)]) (vs := [(0, _), (1, _)]) (cs := [.slice _ _ _, .slice _ _ _]) rfl Try.underlying41 (by kernel_rfl) kfpast4_9 rfl ⟨rfl, rfl, trivial⟩ rfl)) rfl rfl ?_
  rintro _ _ ⟨rfl, rfl⟩
  refine ⟨(H55.pickT (p := [_, _, _, _, _]) (m := [_, _]) [1, 4] rfl (by decide)), fun w57 e59 => ?_⟩
  have H58 := H55.ext e59
  refine tt_op rfl (op_st (i := 3) (vs := [.slice _ _ _, .slice _ _ _]) H58 rfl rfl rfl rfl rfl kfpast4_12 rfl rfl rfl) rfl rfl ?_
  rintro _ w60 H61
  refine ⟨(H61.pickT (p := [_, _, _, _, _]) (m := [_, _]) [1, 4] rfl (by decide)), fun w62 e64 => ?_⟩
  have H63 := H61.ext e64
  refine tt_op rfl (op_st (i := 2) (vs := [.int _ _, .int _ _, .int _ _, .int _ _, .slice _ _ _, .slice _ _ _]) H63 rfl rfl rfl rfl rfl kfpast4_7 rfl rfl rfl) rfl rfl ?_
  rintro _ w65 H66
  refine ⟨(H66.pickT (p := [_, _, _, _, _]) (m := [_, _]) [1, 4] rfl (by decide)), fun w67 e69 => ?_⟩
  have H68 := H66.ext e69
  refine tt_op rfl (Yd.op (y_asg rfl rfl)) rfl rfl ?_
  rintro _ _ ⟨rfl, rfl⟩
  refine ⟨(H68.pickT (p := [_, _, _, _, _]) (m := [_, _]) [1, 4] rfl (by decide)), fun w70 e72 => ?_⟩
  have H71 := H68.ext e72
  rw [Nat.add_comm 1 us.length, show [.int .i64 (pI ds n).x0, .int .i64 (pI ds n).y0, .int .i64 (pI ds n).x1, .int .i64 (pI ds n).y1, .slice (pI ds n).o.A (pI ds n).o.n (pI ds n).o.c, .slice (pI ds n).q.A (pI ds n).q.n (pI ds n).q.c] ++ ptCells us = ptCells ((pI ds n) :: us) from rfl] at H71
  exact tt_leaf ⟨A22, c23, rfl, (H71.pickT (p := [_, _, _, _, _]) (m := [_, _, _]) [0, 3, 2] rfl (by decide))⟩ ⟨rfl, trivial⟩ (by repeat (first | exact kp_refl | refine kp_app rfl rfl ?_ | refine kp_cons rfl ?_))
 ·skip
  rintro M w74 ⟨A', c', rfl, H73⟩
  refine fn_next ?_
  refine cw_ret ?_
  refine fn_retn (vs := [_, _, _]) rfl ⟨⟨_, rfl, load_agg (cs := [_, _]) kfpast4_11 rfl fun j v hv => by rw [Nat.zero_add]; exact H73.cell (i := 1) rfl hv⟩, ⟨_, rfl, load_agg (cs := [_, _, _, _, _, _]) kfpast4_8 rfl fun j v hv => by rw [Nat.zero_add]; exact H73.cell (i := 2) rfl hv⟩, rfl, trivial⟩ rfl ?_
  have hn' := (H73.len (i := 0) rfl).2.1
  exact ⟨A', c', Ob.row A' (us.length + 1) c' (ptCells ((pI ds n) :: us)) 30 6, rfl, hn', fun X HX => HX.rd (i := 0) rfl, HS.tailIn (H73.pickT (p := [_, _, _]) (m := [_]) [0] rfl (by decide))⟩

set_option maxRecDepth 100000 in
theorem mdAgain_no (w0 : World) (r l : List Ob) (DA : Option Addr) (dc : Nat) (ds : List Pt) (UA : Option Addr) (uc : Nat) (us : List Pt) (w : World) (hD : ∀ X, HS w0 X l → Rd X DA (ptCells ds)) (hU : ∀ X, HS w0 X l → Rd X UA (ptCells us)) (hdc : ds.length ≤ dc) (huc : us.length ≤ uc) (hbd : ds.length ≤ 40) (hbu : us.length ≤ 40) (H0 : HS w0 w (r ++ l)) (hz : us.length = 0) :
    Ret Try.prog 18 [.agg #[.slice DA ds.length dc, .slice UA us.length uc]] w (fun z w' => z = .tuple #[.agg #[.slice DA ds.length dc, .slice UA us.length uc], .agg #[.int .i64 0, .int .i64 0, .int .i64 0, .int .i64 0, .slice none 0 0, .slice none 0 0], .int .i64 15] ∧ HS w0 w' (r ++ l)) := by
 refine ret_enter Try.func18 rfl rfl rfl ?_
 refine cw_seq ?_
 refine cw_reg ?_
 refine reg_op (op_box (cs := [.slice _ _ _, .slice _ _ _]) H0 rfl rfl rfl) rfl rfl ?_
 rintro _ w2 ⟨b1, rfl, H3⟩
 refine reg_op (op_alloc H3 rfl kfpast4_9) rfl rfl ?_
 rintro _ w5 ⟨b4, rfl, H6⟩
 refine reg_op (op_alloc H6 rfl kfpast4_1) rfl rfl ?_
 rintro _ w8 ⟨b7, rfl, H9⟩
 refine ry (y_asg rfl rfl) rfl rfl ?_
 refine reg_nil ?_
 refine fn_next ?_
 refine cw_seq ?_
 refine cw_seq ?_
 refine cw_reg ?_
 refine ry (y_fa rfl rfl kfpast4_19 rfl) rfl rfl ?_
 refine ry (y_ld rfl rfl kfpast4_15 (H9.cell (i := 2) rfl rfl)) rfl rfl ?_
 refine ry (y_len rfl Try.underlying22 rfl) rfl rfl ?_
 refine ry (yv (congrArg Value.bool (decide_eq_true (by rw [hz]; rfl))) (y_eql rfl rfl rfl)) rfl rfl ?_
 refine reg_nil ?_
 refine fn_next ?_
 refine cw_condt rfl ?_
 refine cw_seq ?_
 refine cw_reg ?_
 refine ry (y_ldb (i := 2) (cs := [_, _]) H9 rfl rfl kfpast4_11 rfl rfl) rfl rfl ?_
 refine ry (y_buildL (places := [(0, 4), (4, 1), (5, 1)]) (parts := []) (vs := []) (cs := [.int _ _, .int _ _, .int _ _, .int _ _, .slice _ _ _, .slice _ _ _]) [] rfl Try.underlying30 (by kernel_rfl) kfpast4_1 rfl trivial rfl rfl) rfl rfl ?_
 refine reg_op (op_st (i := 1) (vs := [.slice _ _ _, .slice _ _ _]) H9 rfl rfl rfl rfl rfl kfpast4_12 rfl rfl rfl) rfl rfl ?_
 rintro _ w10 H11
 refine reg_op (op_st (i := 0) (vs := [.int _ _, .int _ _, .int _ _, .int _ _, .slice _ _ _, .slice _ _ _]) H11 rfl rfl rfl rfl rfl kfpast4_7 rfl rfl rfl) rfl rfl ?_
 rintro _ w12 H13
 refine ry (y_asg rfl rfl) rfl rfl ?_
 refine reg_nil ?_
 refine fn_next ?_
 refine cw_ret ?_
 refine fn_then_ret ?_
 refine fn_retn (vs := [_, _, _]) rfl ⟨⟨_, rfl, load_agg (cs := [_, _]) kfpast4_11 rfl fun j v hv => by rw [Nat.zero_add]; exact H13.cell (i := 1) rfl hv⟩, ⟨_, rfl, load_agg (cs := [_, _, _, _, _, _]) kfpast4_8 rfl fun j v hv => by rw [Nat.zero_add]; exact H13.cell (i := 0) rfl hv⟩, rfl, trivial⟩ rfl ?_
 exact ⟨rfl, (H13.pickT (p := [_, _, _]) (m := []) [] rfl (by decide))⟩

set_option maxRecDepth 100000 in
set_option maxHeartbeats 1000000 in
theorem mdAgain_ok (w0 : World) (r l : List Ob) (DA : Option Addr) (dc : Nat) (ds : List Pt) (UA : Option Addr) (uc : Nat) (us : List Pt) (w : World) (hD : ∀ X, HS w0 X l → Rd X DA (ptCells ds)) (hU : ∀ X, HS w0 X l → Rd X UA (ptCells us)) (hdc : ds.length ≤ dc) (huc : us.length ≤ uc) (hbd : ds.length ≤ 40) (hbu : us.length ≤ 40) (H0 : HS w0 w (r ++ l)) (hz : 0 < us.length) (hall : ∀ x ∈ us, x.ok w0) :
    Ret Try.prog 18 [.agg #[.slice DA ds.length dc, .slice UA us.length uc]] w (fun z w' => ∃ A' c' o, z = .tuple #[.agg #[.slice A' (ds.length + 1) c', .slice (subA UA uc 1 6) (us.length - 1) (uc - 1)], .agg #[.int .i64 (pI us 0).x0, .int .i64 (pI us 0).y0, .int .i64 (pI us 0).x1, .int .i64 (pI us 0).y1, .slice (pI us 0).o.A (pI us 0).o.n (pI us 0).o.c, .slice (pI us 0).q.A (pI us 0).q.n (pI us 0).q.c], .int .i64 0] ∧ ds.length + 1 ≤ c' ∧ (∀ X, HS w0 X (o :: l) → Rd X A' (ptCells (ds ++ [(pI us 0)]))) ∧ HS w0 w' (r ++ (o :: l))) := by
 have pq : ∀ (j : Nat) (v : Value), ([.int .i64 (pI us 0).x0, .int .i64 (pI us 0).y0, .int .i64 (pI us 0).x1, .int .i64 (pI us 0).y1, .slice (pI us 0).o.A (pI us 0).o.n (pI us 0).o.c, .slice (pI us 0).q.A (pI us 0).q.n (pI us 0).q.c] : List Value)[j]? = some v → (ptCells us)[0 * 6 + j]? = some v := pt_get (pI_get (by omega))
 have hx := hall _ (pI_mem (l := us) (i := 0) (by omega))
 refine ret_enter Try.func18 rfl rfl rfl ?_
 refine cw_seq ?_
 refine cw_reg ?_
 refine reg_op (op_box (cs := [.slice _ _ _, .slice _ _ _]) H0 rfl rfl rfl) rfl rfl ?_
 rintro _ w2 ⟨b1, rfl, H3⟩
 refine reg_op (op_alloc H3 rfl kfpast4_9) rfl rfl ?_
 rintro _ w5 ⟨b4, rfl, H6⟩
 refine reg_op (op_alloc H6 rfl kfpast4_1) rfl rfl ?_
 rintro _ w8 ⟨b7, rfl, H9⟩
 refine ry (y_asg rfl rfl) rfl rfl ?_
 refine reg_nil ?_
 refine fn_next ?_
 refine cw_seq ?_
 refine cw_seq ?_
 refine cw_reg ?_
 refine ry (y_fa rfl rfl kfpast4_19 rfl) rfl rfl ?_
 refine ry (y_ld rfl rfl kfpast4_15 (H9.cell (i := 2) rfl rfl)) rfl rfl ?_
 refine ry (y_len rfl Try.underlying22 rfl) rfl rfl ?_
 refine ry (yv (congrArg Value.bool (decide_eq_false (by omega))) (y_eql rfl rfl rfl)) rfl rfl ?_
 refine reg_nil ?_
 refine fn_next ?_
 refine cw_condf rfl ?_
 refine cw_skip ?_
 refine fn_next ?_
 refine cw_seq ?_
 refine cw_reg ?_
 refine ry (y_fa rfl rfl kfpast4_19 rfl) rfl rfl ?_
 refine ry (y_ld rfl rfl kfpast4_15 (H9.cell (i := 2) rfl rfl)) rfl rfl ?_
 refine ry (y_iar (i := 0) (hU _ (H9.tail.tail.tail).right) rfl rfl rfl kfpast4_18 (rfl) (by omega) (rfl) (pq 0 _ rfl)) rfl rfl ?_
 refine ry (y_ldra (cs := [_, _, _, _, _, _]) (hU _ (H9.tail.tail.tail).right) rfl rfl kfpast4_8 rfl (by decide) (fun j v hv => pq j v hv)) rfl rfl ?_
 refine reg_op (op_alloc H9 rfl kfpast4_1) rfl rfl ?_
 rintro _ w11 ⟨b10, rfl, H12⟩
 refine reg_op (op_st (i := 0) (vs := [.int _ _, .int _ _, .int _ _, .int _ _, .slice _ _ _, .slice _ _ _]) H12 rfl rfl rfl rfl rfl kfpast4_7 rfl rfl rfl) rfl rfl ?_
 rintro _ w13 H14
 refine reg_nil ?_
 refine fn_next ?_
 refine cw_seq ?_
 refine cw_drawT H14 [1, 2, 4, 7, 8, 9, 11] (.alt (.step 0 (.alt (.step 3 (.step 5 (.step 6 (.step 10 (.step 12 (.step 13 (.step 14 (.leaf)))))))) (.step 5 (.step 3 (.step 6 (.step 10 (.step 12 (.step 13 (.step 14 (.leaf)))))))))) (.step 5 (.step 0 (.step 3 (.step 6 (.step 10 (.step 12 (.step 13 (.step 14 (.leaf)))))))))) (fun X HX => (HX.pickT (p := [_, _, _, _]) (m := [_, _]) [0, 3] rfl (by decide))) (by kernel_rfl) (by kernel_rfl) (by rfl) ?_
 simp only [pick, List.getElem?_cons_succ, List.getElem?_cons_zero]
 refine hk_y (fun Y HY => y_fa rfl rfl kfpast4_14 rfl) rfl rfl ?_
 refine hk_y (fun Y HY => y_ld rfl rfl kfpast4_15 (HY.cell (i := 1) rfl rfl)) rfl rfl ?_
 refine hk_y (fun Y HY => y_ldb (i := 0) (cs := [_, _, _, _, _, _]) HY rfl rfl kfpast4_8 rfl rfl) rfl rfl ?_
 refine hk_y (fun Y HY => y_fa rfl rfl kfpast4_19 rfl) rfl rfl ?_
 refine hk_y (fun Y HY => y_ld rfl rfl kfpast4_15 (HY.cell (i := 1) rfl rfl)) rfl rfl ?_
 refine hk_y (fun Y HY => y_sl (lo := 1) rfl rfl rfl kfpast4_18 (rfl) (by omega)) rfl rfl ?_
 refine hk_y (fun Y HY => y_ldb (i := 0) (cs := [_, _, _, _, _, _]) HY rfl rfl kfpast4_8 rfl rfl) rfl rfl ?_
 refine hkt_nil [4, 16, 19, 21, 22, 26] (fun M wl => ∃ (A' : Option Addr) (c' : Nat), M = [(4, .int .i64 0)] ∧ HS w0 wl (Ob.row A' (0 + ds.length + 1) c' (ptCells (ds ++ [(pI us 0)])) 30 6 :: Ob.blk b4 [.slice A' (0 + ds.length + 1) c', .slice (subA UA uc 1 6) (us.length - 1) (uc - 1)] 41 :: Ob.blk b7 [.int .i64 (pI us 0).x0, .int .i64 (pI us 0).y0, .int .i64 (pI us 0).x1, .int .i64 (pI us 0).y1, .slice (pI us 0).o.A (pI us 0).o.n (pI us 0).o.c, .slice (pI us 0).q.A (pI us 0).q.n (pI us 0).q.c] 30 :: (r ++ l))) (fun wX HX => ?_) ?_
 ·skip
  refine tt_alt ?_ ?_
  ·skip
   refine tt_op rfl (op_lit (parts := []) (vs := []) (cs := []) HX rfl Try.underlying22 kfpast4_16 rfl trivial rfl rfl) rfl rfl ?_
   rintro _ w16 ⟨b15, rfl, H17⟩
   have H18 := H17.asrow (m := 0) (size := 6) rfl (by decide)
   refine ⟨(H18.pickT (p := [_, _, _, _, _]) (m := [_, _]) [1, 4] rfl (by decide)), fun w19 e21 => ?_⟩
   have H20 := H18.ext e21
   refine tt_alt ?_ ?_
   ·skip
    refine tt_op rfl (op_app (i := 0) (k := 0) (m := ds.length) (ys := ptCells ds) (size := 6) H20 rfl rfl rfl rfl (hD _ (H20.tail.tail.tail.tail.tail).right) (pt_len _) (pt_one) Try.underlying22 kfpast4_17 rfl rfl (by unfold maxLen; omega) (by omega)) rfl rfl ?_
    rintro _ w24 ⟨A22, c23, rfl, H25⟩
    refine ⟨(H25.pickT (p := [_, _, _, _, _]) (m := [_, _]) [1, 4] rfl (by decide)), fun w26 e28 => ?_⟩
    have H27 := H25.ext e28
    refine tt_op rfl (op_litL (parts := [(0, _)]) (vs := [(0, _)]) (cs := [.int _ _, .int _ _, .int _ _, .int _ _, .slice _ _ _, .slice _ _ _]) [(0, [_, _, _, _, _, _])] H27 rfl Try.underlying22 kfpast4_16 rfl ⟨rfl, trivial⟩ rfl rfl rfl) rfl rfl ?_
    rintro _ w30 ⟨b29, rfl, H31⟩
    have H32 := H31.asrow (m := 1) (size := 6) rfl (by decide)
    refine ⟨(H32.pickT (p := [_, _, _, _, _, _]) (m := [_, _]) [2, 5] rfl (by decide)), fun w33 e35 => ?_⟩
    have H34 := H32.ext e35
    refine tt_op rfl (op_app (i := 1) H34 rfl rfl rfl rfl (H34.rd (i := 0) rfl) (rfl) (rfl) Try.underlying22 kfpast4_17 rfl rfl (by unfold maxLen; omega) (by omega)) rfl rfl ?_
    rintro _ w38 ⟨A36, c37, rfl, H39⟩
    refine ⟨(H39.pickT (p := [_, _, _, _, _, _]) (m := [_, _]) [2, 5] rfl (by decide)), fun w40 e42 => ?_⟩
    have H41 := H39.ext e42
    refine tt_op rfl (Yd.op (y_build (places := [(0, 1), (1, 1)]) (parts := [(0, _), (1, _)]) (vs := [(0, _), (1, _)]) (cs := [.slice _ _ _, .slice _ _ _]) rfl Try.underlying41 (by kernel_rfl) kfpast4_9 rfl ⟨rfl, rfl, trivial⟩ rfl)) rfl rfl ?_
    rintro _ _ ⟨rfl, rfl⟩
    refine ⟨(H41.pickT (p := [_, _, _, _, _, _]) (m := [_, _]) [2, 5] rfl (by decide)), fun w43 e45 => ?_⟩
    have H44 := H41.ext e45
    refine tt_op rfl (op_st (i := 4) (vs := [.slice _ _ _, .slice _ _ _]) H44 rfl rfl rfl rfl rfl kfpast4_12 rfl rfl rfl) rfl rfl ?_
    rintro _ w46 H47
    refine ⟨(H47.pickT (p := [_, _, _, _, _, _]) (m := [_, _]) [2, 5] rfl (by decide)), fun w48 e50 => ?_⟩
    have H49 := H47.ext e50
    refine tt_op rfl (op_st (i := 3) (vs := [.int _ _, .int _ _, .int _ _, .int _ _, .slice _ _ _, .slice _ _ _]) H49 rfl rfl rfl rfl rfl kfpast4_7 rfl rfl rfl) rfl rfl ?_
    rintro _ w51 H52
    refine ⟨(H52.pickT (p := [_, _, _, _, _, _]) (m := [_, _]) [2, 5] rfl (by decide)), fun w53 e55 => ?_⟩
    have H54 := H52.ext e55
    refine tt_op rfl (Yd.op (y_asg rfl rfl)) rfl rfl ?_
    rintro _ _ ⟨rfl, rfl⟩
    refine ⟨(H54.pickT (p := [_, _, _, _, _, _]) (m := [_, _]) [2, 5] rfl (by decide)), fun w56 e58 => ?_⟩
    have H57 := H54.ext e58
    rw [List.nil_append, show ptCells ds ++ [.int .i64 (pI us 0).x0, .int .i64 (pI us 0).y0, .int .i64 (pI us 0).x1, .int .i64 (pI us 0).y1, .slice (pI us 0).o.A (pI us 0).o.n (pI us 0).o.c, .slice (pI us 0).q.A (pI us 0).q.n (pI us 0).q.c] = ptCells (ds ++ [(pI us 0)]) from ptCells_snoc (p := (pI us 0))] at H57
    exact tt_leaf ⟨A36, c37, rfl, (H57.pickT (p := [_, _, _, _, _, _]) (m := [_, _, _]) [1, 4, 3] rfl (by decide))⟩ ⟨rfl, trivial⟩ (by repeat (first | exact kp_refl | refine kp_app rfl rfl ?_ | refine kp_cons rfl ?_))
   refine tt_op rfl (op_litL (parts := [(0, _)]) (vs := [(0, _)]) (cs := [.int _ _, .int _ _, .int _ _, .int _ _, .slice _ _ _, .slice _ _ _]) [(0, [_, _, _, _, _, _])] H20 rfl Try.underlying22 kfpast4_16 rfl ⟨rfl, trivial⟩ rfl rfl rfl) rfl rfl ?_
   rintro _ w60 ⟨b59, rfl, H61⟩
   have H62 := H61.asrow (m := 1) (size := 6) rfl (by decide)
   refine ⟨(H62.pickT (p := [_, _, _, _, _, _]) (m := [_, _]) [2, 5] rfl (by decide)), fun w63 e65 => ?_⟩
   have H64 := H62.ext e65
   refine tt_op rfl (op_app (i := 1) (k := 0) (m := ds.length) (ys := ptCells ds) (size := 6) H64 rfl rfl rfl rfl (hD _ (H64.tail.tail.tail.tail.tail.tail).right) (pt_len _) (pt_one) Try.underlying22 kfpast4_17 rfl rfl (by unfold maxLen; omega) (by omega)) rfl rfl ?_
   rintro _ w68 ⟨A66, c67, rfl, H69⟩
   refine ⟨(H69.pickT (p := [_, _, _, _, _, _]) (m := [_, _]) [2, 5] rfl (by decide)), fun w70 e72 => ?_⟩
   have H71 := H69.ext e72
   refine tt_op rfl (op_app (i := 1) H71 rfl rfl rfl rfl (H71.rd (i := 0) rfl) (rfl) (rfl) Try.underlying22 kfpast4_17 rfl rfl (by unfold maxLen; omega) (by omega)) rfl rfl ?_
   rintro _ w75 ⟨A73, c74, rfl, H76⟩
   refine ⟨(H76.pickT (p := [_, _, _, _, _, _]) (m := [_, _]) [2, 5] rfl (by decide)), fun w77 e79 => ?_⟩
   have H78 := H76.ext e79
   refine tt_op rfl (Yd.op (y_build (places := [(0, 1), (1, 1)]) (parts := [(0, _), (1, _)]) (vs := [(0, _), (1, _)]) (cs := [.slice _ _ _, .slice _ _ _]) rfl Try.underlying41 (by kernel_rfl) kfpast4_9 rfl ⟨rfl, rfl, trivial⟩ rfl)) rfl rfl ?_
   rintro _ _ ⟨rfl, rfl⟩
   refine ⟨(H78.pickT (p := [_, _, _, _, _, _]) (m := [_, _]) [2, 5] rfl (by decide)), fun w80 e82 => ?_⟩
   have H81 := H78.ext e82
   refine tt_op rfl (op_st (i := 4) (vs := [.slice _ _ _, .slice _ _ _]) H81 rfl rfl rfl rfl rfl kfpast4_12 rfl rfl rfl) rfl rfl ?_
   rintro _ w83 H84
   refine ⟨(H84.pickT (p := [_, _, _, _, _, _]) (m := [_, _]) [2, 5] rfl (by decide)), fun w85 e87 => ?_⟩
   have H86 := H84.ext e87
   refine tt_op rfl (op_st (i := 3) (vs := [.int _ _, .int _ _, .int _ _, .int _ _, .slice _ _ _, .slice _ _ _]) H86 rfl rfl rfl rfl rfl kfpast4_7 rfl rfl rfl) rfl rfl ?_
   rintro _ w88 H89
   refine ⟨(H89.pickT (p := [_, _, _, _, _, _]) (m := [_, _]) [2, 5] rfl (by decide)), fun w90 e92 => ?_⟩
   have H91 := H89.ext e92
   refine tt_op rfl (Yd.op (y_asg rfl rfl)) rfl rfl ?_
   rintro _ _ ⟨rfl, rfl⟩
   refine ⟨(H91.pickT (p := [_, _, _, _, _, _]) (m := [_, _]) [2, 5] rfl (by decide)), fun w93 e95 => ?_⟩
   have H94 := H91.ext e95
   rw [List.nil_append, show ptCells ds ++ [.int .i64 (pI us 0).x0, .int .i64 (pI us 0).y0, .int .i64 (pI us 0).x1, .int .i64 (pI us 0).y1, .slice (pI us 0).o.A (pI us 0).o.n (pI us 0).o.c, .slice (pI us 0).q.A (pI us 0).q.n (pI us 0).q.c] = ptCells (ds ++ [(pI us 0)]) from ptCells_snoc (p := (pI us 0))] at H94
   exact tt_leaf ⟨A73, c74, rfl, (H94.pickT (p := [_, _, _, _, _, _]) (m := [_, _, _]) [1, 4, 3] rfl (by decide))⟩ ⟨rfl, trivial⟩ (by repeat (first | exact kp_refl | refine kp_app rfl rfl ?_ | refine kp_cons rfl ?_))
  refine tt_op rfl (op_litL (parts := [(0, _)]) (vs := [(0, _)]) (cs := [.int _ _, .int _ _, .int _ _, .int _ _, .slice _ _ _, .slice _ _ _]) [(0, [_, _, _, _, _, _])] HX rfl Try.underlying22 kfpast4_16 rfl ⟨rfl, trivial⟩ rfl rfl rfl) rfl rfl ?_
  rintro _ w97 ⟨b96, rfl, H98⟩
  have H99 := H98.asrow (m := 1) (size := 6) rfl (by decide)
  refine ⟨(H99.pickT (p := [_, _, _, _, _]) (m := [_, _]) [1, 4] rfl (by decide)), fun w100 e102 => ?_⟩
  have H101 := H99.ext e102
  refine tt_op rfl (op_lit (parts := []) (vs := []) (cs := []) H101 rfl Try.underlying22 kfpast4_16 rfl trivial rfl rfl) rfl rfl ?_
  rintro _ w104 ⟨b103, rfl, H105⟩
  have H106 := H105.asrow (m := 0) (size := 6) rfl (by decide)
  refine ⟨(H106.pickT (p := [_, _, _, _, _, _]) (m := [_, _]) [2, 5] rfl (by decide)), fun w107 e109 => ?_⟩
  have H108 := H106.ext e109
  refine tt_op rfl (op_app (i := 0) (k := 0) (m := ds.length) (ys := ptCells ds) (size := 6) H108 rfl rfl rfl rfl (hD _ (H108.tail.tail.tail.tail.tail.tail).right) (pt_len _) (pt_one) Try.underlying22 kfpast4_17 rfl rfl (by unfold maxLen; omega) (by omega)) rfl rfl ?_
  rintro _ w112 ⟨A110, c111, rfl, H113⟩
  refine ⟨(H113.pickT (p := [_, _, _, _, _, _]) (m := [_, _]) [2, 5] rfl (by decide)), fun w114 e116 => ?_⟩
  have H115 := H113.ext e116
  refine tt_op rfl (op_app (i := 0) H115 rfl rfl rfl rfl (H115.rd (i := 1) rfl) (rfl) (rfl) Try.underlying22 kfpast4_17 rfl rfl (by unfold maxLen; omega) (by omega)) rfl rfl ?_
  rintro _ w119 ⟨A117, c118, rfl, H120⟩
  refine ⟨(H120.pickT (p := [_, _, _, _, _, _]) (m := [_, _]) [2, 5] rfl (by decide)), fun w121 e123 => ?_⟩
  have H122 := H120.ext e123
  refine tt_op rfl (Yd.op (y_build (places := [(0, 1), (1, 1)]) (parts := [(0, _), (1, _)]) (vs := [(0, _), (1, _)]) (cs := [.slice _ _ _, .slice _ _ _]) rfl Try.underlying41 (by kernel_rfl) kfpast4_9 rfl ⟨rfl, rfl, trivial⟩ rfl)) rfl rfl ?_
  rintro _ _ ⟨rfl, rfl⟩
  refine ⟨(H122.pickT (p := [_, _, _, _, _, _]) (m := [_, _]) [2, 5] rfl (by decide)), fun w124 e126 => ?_⟩
  have H125 := H122.ext e126
  refine tt_op rfl (op_st (i := 4) (vs := [.slice _ _ _, .slice _ _ _]) H125 rfl rfl rfl rfl rfl kfpast4_12 rfl rfl rfl) rfl rfl ?_
  rintro _ w127 H128
  refine ⟨(H128.pickT (p := [_, _, _, _, _, _]) (m := [_, _]) [2, 5] rfl (by decide)), fun w129 e131 => ?_⟩
  have H130 := H128.ext e131
  refine tt_op rfl (op_st (i := 3) (vs := [.int _ _, .int _ _, .int _ _, .int _ _, .slice _ _ _, .slice _ _ _]) H130 rfl rfl rfl rfl rfl kfpast4_7 rfl rfl rfl) rfl rfl ?_
  rintro _ w132 H133
  refine ⟨(H133.pickT (p := [_, _, _, _, _, _]) (m := [_, _]) [2, 5] rfl (by decide)), fun w134 e136 => ?_⟩
  have H135 := H133.ext e136
  refine tt_op rfl (Yd.op (y_asg rfl rfl)) rfl rfl ?_
  rintro _ _ ⟨rfl, rfl⟩
  refine ⟨(H135.pickT (p := [_, _, _, _, _, _]) (m := [_, _]) [2, 5] rfl (by decide)), fun w137 e139 => ?_⟩
  have H138 := H135.ext e139
  rw [List.nil_append, show ptCells ds ++ [.int .i64 (pI us 0).x0, .int .i64 (pI us 0).y0, .int .i64 (pI us 0).x1, .int .i64 (pI us 0).y1, .slice (pI us 0).o.A (pI us 0).o.n (pI us 0).o.c, .slice (pI us 0).q.A (pI us 0).q.n (pI us 0).q.c] = ptCells (ds ++ [(pI us 0)]) from ptCells_snoc (p := (pI us 0))] at H138
  exact tt_leaf ⟨A117, c118, rfl, (H138.pickT (p := [_, _, _, _, _, _]) (m := [_, _, _]) [0, 4, 3] rfl (by decide))⟩ ⟨rfl, trivial⟩ (by repeat (first | exact kp_refl | refine kp_app rfl rfl ?_ | refine kp_cons rfl ?_))
 ·skip
  rintro M w141 ⟨A', c', rfl, H140⟩
  refine fn_next ?_
  refine cw_ret ?_
  refine fn_retn (vs := [_, _, _]) rfl ⟨⟨_, rfl, load_agg (cs := [_, _]) kfpast4_11 rfl fun j v hv => by rw [Nat.zero_add]; exact H140.cell (i := 1) rfl hv⟩, ⟨_, rfl, load_agg (cs := [_, _, _, _, _, _]) kfpast4_8 rfl fun j v hv => by rw [Nat.zero_add]; exact H140.cell (i := 2) rfl hv⟩, rfl, trivial⟩ rfl ?_
  rw [Nat.zero_add] at H140
  rw [Nat.zero_add]
  have hn' := (H140.len (i := 0) rfl).2.1
  exact ⟨A', c', Ob.row A' (ds.length + 1) c' (ptCells (ds ++ [(pI us 0)])) 30 6, rfl, hn', fun X HX => HX.rd (i := 0) rfl, HS.tailIn (H140.pickT (p := [_, _, _]) (m := [_]) [0] rfl (by decide))⟩

end Go.Proofs.Ytgkkbeomhkggjaa
