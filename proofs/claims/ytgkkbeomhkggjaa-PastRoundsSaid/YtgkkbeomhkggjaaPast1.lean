/- Layer 35: the past's deeds, with its memory open. -/
import Derived.Test.YtgkkbeomhkggjaaPast0
set_option linter.unusedVariables false
set_option linter.unusedSimpArgs false
namespace Go.Proofs.Ytgkkbeomhkggjaa
open Go Go.RowKit
theorem kfpast1_1 : (Try.prog.info? 79).bind (fun i => i.zero.map Value.cells) = some (List.toArray [(.slice none 0 0), (.int .i64 0)]) := by kernel_rfl
theorem kfpast1_2 : fldB Try.prog 79 1 1 = true := by kernel_rfl
theorem kfpast1_3 : oneB Try.prog 3 = true := by kernel_rfl
theorem kfpast1_4 : fldB Try.prog 79 0 0 = true := by kernel_rfl
theorem kfpast1_5 : oneB Try.prog 22 = true := by kernel_rfl
theorem kfpast1_6 : szB Try.prog 79 2 = true := by kernel_rfl
theorem kfpast1_7 : (Try.prog.info? 30).bind (fun i => i.zero.map Value.cells) = some (List.toArray [(.int .i64 0), (.int .i64 0), (.int .i64 0), (.int .i64 0), (.slice none 0 0), (.slice none 0 0)]) := by kernel_rfl
theorem kfpast1_8 : szB Try.prog 30 6 = true := by kernel_rfl
theorem kfpast1_9 : aggB Try.prog 30 6 = true := by kernel_rfl
theorem kfpast1_10 : szB Try.prog 3 1 = true := by kernel_rfl
theorem kfpast1_11 : elB Try.prog 22 6 = true := by kernel_rfl
theorem kfpast1_12 : callB Try.prog 38 = true := by kernel_rfl
theorem kfpast1_13 : callB Try.prog 36 = true := by kernel_rfl

set_option maxRecDepth 100000 in
theorem pNew  (w : World) :
    Ret Try.prog 9 [] w (fun z w' => ∃ b, z = .pointer (some ⟨b, 0, none⟩) ∧ ∃ bl, HS w w' [pOb b [] 0 bl]) := by
 refine ret_enter Try.func9 rfl rfl rfl ?_
 have H0 := HS.start w
 refine cw_seq ?_
 refine cw_reg ?_
 refine ry (y_asg rfl rfl) rfl rfl ?_
 refine reg_nil ?_
 refine fn_next ?_
 refine cw_seq ?_
 refine cw_reg ?_
 refine ry (y_build (places := [(0, 1), (1, 1)]) (parts := []) (vs := []) (cs := [.slice _ _ _, .int _ _]) rfl Try.underlying79 (by kernel_rfl) kfpast1_1 rfl trivial rfl) rfl rfl ?_
 refine reg_op (op_box (cs := [.slice _ _ _, .int _ _]) H0 rfl rfl rfl) rfl rfl ?_
 rintro _ w2 ⟨b1, rfl, H3⟩
 refine ry (y_asg rfl rfl) rfl rfl ?_
 refine reg_nil ?_
 refine fn_next ?_
 refine cw_ret ?_
 refine fn_ret1 rfl rfl ?_
 refine ⟨_, rfl, ?_⟩
 have HA : HS w _ (obA Pt.obs [] :: _) := HS.nilA (H3.nilrow 30 6)
 obtain ⟨bl, k⟩ := HS.pclose (A := none) (cap := 0) (es := []) (d := 0) rfl (HA.pick (m := [_, _, _]) [2, 1, 0] rfl (by decide))
 exact ⟨bl, k⟩

set_option maxRecDepth 100000 in
theorem pLen0 (w0 : World) (l : List Ob) (b : Nat) (A : Option Addr) (cap : Nat) (es : List Pt) (d : Nat) (w : World) (hd : d ≤ es.length) (hb : es.length ≤ 40) (H0 : HS w0 w (Ob.blk b [.slice A es.length cap, .int .i64 (d : Int)] 79 :: Ob.row A es.length cap (ptCells es) 30 6 :: obA Pt.obs es :: l)) :
    Ret Try.prog 20 [.pointer (some ⟨b, 0, none⟩)] w (fun z w' => z = .tuple #[.int .i64 (d : Int), .int .i64 ((es.length - d : Nat) : Int)] ∧ HS w0 w' (Ob.blk b [.slice A es.length cap, .int .i64 (d : Int)] 79 :: Ob.row A es.length cap (ptCells es) 30 6 :: obA Pt.obs es :: l)) := by
 have hnc := H0.len (i := 1) rfl
 refine ret_enter Try.func20 rfl rfl rfl ?_
 refine cw_seq ?_
 refine cw_reg ?_
 refine ry (y_asg rfl rfl) rfl rfl ?_
 refine ry (y_asg rfl rfl) rfl rfl ?_
 refine reg_nil ?_
 refine fn_next ?_
 refine cw_seq ?_
 refine cw_seq ?_
 refine cw_reg ?_
 refine ry (y_mov rfl rfl) rfl rfl ?_
 refine ry (y_peqlnil rfl Try.underlying24 rfl rfl) rfl rfl ?_
 refine reg_nil ?_
 refine fn_next ?_
 refine cw_condf rfl ?_
 refine cw_skip ?_
 refine fn_next ?_
 refine cw_seq ?_
 refine cw_draw H0 [0, 1, 2, 3, 4, 5, 6, 7, 8, 9, 10, 11, 12, 13, 14, 15] [] (fun X HX => HX) (by kernel_rfl) (by kernel_rfl) (by rfl) ?_
 simp only [pick, List.getElem?_cons_succ, List.getElem?_cons_zero]
 refine hk_y (fun Y HY => y_mov rfl rfl) rfl rfl ?_
 refine hk_y (fun Y HY => y_nilck rfl rfl) rfl rfl ?_
 refine hk_y (fun Y HY => y_fa rfl rfl kfpast1_2 rfl) rfl rfl ?_
 refine hk_y (fun Y HY => y_ld rfl rfl kfpast1_3 (HY.cell (i := 0) rfl rfl)) rfl rfl ?_
 refine hk_y (fun Y HY => y_mov rfl rfl) rfl rfl ?_
 refine hk_y (fun Y HY => y_nilck rfl rfl) rfl rfl ?_
 refine hk_y (fun Y HY => y_fa rfl rfl kfpast1_4 rfl) rfl rfl ?_
 refine hk_y (fun Y HY => y_ld rfl rfl kfpast1_5 (HY.cell (i := 0) rfl rfl)) rfl rfl ?_
 refine hk_y (fun Y HY => y_len rfl Try.underlying22 rfl) rfl rfl ?_
 refine hk_y (fun Y HY => y_mov rfl rfl) rfl rfl ?_
 refine hk_y (fun Y HY => y_nilck rfl rfl) rfl rfl ?_
 refine hk_y (fun Y HY => y_fa rfl rfl kfpast1_2 rfl) rfl rfl ?_
 refine hk_y (fun Y HY => y_ld rfl rfl kfpast1_3 (HY.cell (i := 0) rfl rfl)) rfl rfl ?_
 refine hk_y (fun Y HY => y_sub rfl rfl rfl (show _ = ((es.length - d : Nat) : Int) from (wi (by omega)).trans (by omega))) rfl rfl ?_
 refine hk_y (fun Y HY => y_asg rfl rfl) rfl rfl ?_
 refine hk_y (fun Y HY => y_asg rfl rfl) rfl rfl ?_
 refine hk_nil ?_
 intro w1 H2
 refine tv_nil ?_
 refine fn_next ?_
 refine cw_ret ?_
 refine fn_retn (vs := [_, _]) rfl ⟨rfl, rfl, trivial⟩ rfl ?_
 exact ⟨rfl, H2⟩

set_option maxRecDepth 100000 in
theorem pClear0 (w0 : World) (l : List Ob) (b : Nat) (A : Option Addr) (cap : Nat) (es : List Pt) (d : Nat) (w : World) (H0 : HS w0 w (Ob.blk b [.slice A es.length cap, .int .i64 (d : Int)] 79 :: Ob.row A es.length cap (ptCells es) 30 6 :: obA Pt.obs es :: l)) :
    Ret Try.prog 19 [.pointer (some ⟨b, 0, none⟩)] w (fun z w' => z = .tuple #[] ∧ HS w0 w' (Ob.blk b [.slice none 0 0, .int .i64 ((0 : Nat) : Int)] 79 :: Ob.row none 0 0 (ptCells []) 30 6 :: obA Pt.obs [] :: l)) := by
 refine ret_enter Try.func19 rfl rfl rfl ?_
 refine cw_seq ?_
 refine cw_reg ?_
 refine ry (y_mov rfl rfl) rfl rfl ?_
 refine ry (y_pneqnil rfl Try.underlying24 rfl rfl) rfl rfl ?_
 refine reg_nil ?_
 refine fn_next ?_
 refine cw_condt rfl ?_
 refine cw_reg ?_
 refine ry (y_mov rfl rfl) rfl rfl ?_
 refine ry (y_build (places := [(0, 1), (1, 1)]) (parts := []) (vs := []) (cs := [.slice _ _ _, .int _ _]) rfl Try.underlying79 (by kernel_rfl) kfpast1_1 rfl trivial rfl) rfl rfl ?_
 refine ry (y_nilck rfl rfl) rfl rfl ?_
 refine reg_op (op_st (i := 0) (vs := [.slice _ _ _, .int _ _]) H0 rfl rfl rfl rfl rfl kfpast1_6 rfl rfl rfl) rfl rfl ?_
 rintro _ w1 H2
 refine reg_nil ?_
 refine fn_normal ?_
 refine fn_retn (vs := []) rfl trivial rfl ?_
 have HA := HS.nilA (f := Pt.obs) ((H2.pickT (p := [_, _, _]) (m := [_]) [0] rfl (by decide)).nilrow 30 6)
 exact ⟨rfl, HA.pickT (p := [_, _, _]) (m := [_, _, _]) [2, 1, 0] rfl (by decide)⟩

theorem HS.ptlen {w0 w : World} {l : List Ob} {ps : List Pt} {p : Pt} (h : HS w0 w (obA Pt.obs ps :: l)) (hp : p ∈ ps) (hv : p.pv.ok) : p.o.n ≤ 16777216 ∧ p.q.n ≤ 16777216 := by
  have h1 := h.ptokA hp hv
  have h2 := hv.mo
  have h3 := hv.mq
  simp only [Pt.pv] at h2 h3
  rw [h1.ho.len] at h2
  rw [h1.hq.len] at h3
  exact ⟨h2, h3⟩

set_option maxRecDepth 100000 in
theorem pBack0_no (w0 : World) (l : List Ob) (b : Nat) (A : Option Addr) (cap : Nat) (es : List Pt) (w : World) (H0 : HS w0 w (Ob.blk b [.slice A es.length cap, .int .i64 ((0 : Nat) : Int)] 79 :: Ob.row A es.length cap (ptCells es) 30 6 :: obA Pt.obs es :: l)) :
    Ret Try.prog 12 [.pointer (some ⟨b, 0, none⟩)] w (fun z w' => z = .tuple #[.agg #[.int .i64 0, .int .i64 0, .int .i64 0, .int .i64 0, .slice none 0 0, .slice none 0 0], .int .i64 15] ∧ HS w0 w' (Ob.blk b [.slice A es.length cap, .int .i64 ((0 : Nat) : Int)] 79 :: Ob.row A es.length cap (ptCells es) 30 6 :: obA Pt.obs es :: l)) := by
 refine ret_enter Try.func12 rfl rfl rfl ?_
 refine cw_seq ?_
 refine cw_reg ?_
 refine reg_op (op_alloc H0 rfl kfpast1_7) rfl rfl ?_
 rintro _ w2 ⟨b1, rfl, H3⟩
 refine ry (y_asg rfl rfl) rfl rfl ?_
 refine reg_nil ?_
 refine fn_next ?_
 refine cw_seq ?_
 refine cw_block ?_
 refine cw_seq ?_
 refine cw_reg ?_
 refine ry (y_mov rfl rfl) rfl rfl ?_
 refine ry (y_peqlnil rfl Try.underlying24 rfl rfl) rfl rfl ?_
 refine ry (y_asg rfl rfl) rfl rfl ?_
 refine reg_nil ?_
 refine fn_next ?_
 refine cw_condf rfl ?_
 refine cw_seq ?_
 refine cw_reg ?_
 refine ry (y_mov rfl rfl) rfl rfl ?_
 refine ry (y_nilck rfl rfl) rfl rfl ?_
 refine ry (y_fa rfl rfl kfpast1_2 rfl) rfl rfl ?_
 refine ry (y_ld rfl rfl kfpast1_3 (H3.cell (i := 1) rfl rfl)) rfl rfl ?_
 refine ry (yv (congrArg Value.bool (decide_eq_true (rfl))) (y_eql rfl rfl rfl)) rfl rfl ?_
 refine ry (y_asg rfl rfl) rfl rfl ?_
 refine reg_nil ?_
 refine fn_next ?_
 refine cw_condt rfl ?_
 refine cw_seq ?_
 refine cw_reg ?_
 refine ry (y_buildL (places := [(0, 4), (4, 1), (5, 1)]) (parts := []) (vs := []) (cs := [.int _ _, .int _ _, .int _ _, .int _ _, .slice _ _ _, .slice _ _ _]) [] rfl Try.underlying30 (by kernel_rfl) kfpast1_7 rfl trivial rfl rfl) rfl rfl ?_
 refine reg_op (op_st (i := 0) (vs := [.int _ _, .int _ _, .int _ _, .int _ _, .slice _ _ _, .slice _ _ _]) H3 rfl rfl rfl rfl rfl kfpast1_8 rfl rfl rfl) rfl rfl ?_
 rintro _ w4 H5
 refine ry (y_asg rfl rfl) rfl rfl ?_
 refine reg_nil ?_
 refine fn_next ?_
 refine cw_ret ?_
 refine fn_block_ret (fn_then_ret ?_)
 refine fn_retn (vs := [_, _]) rfl ⟨⟨_, rfl, load_agg (cs := [_, _, _, _, _, _]) kfpast1_9 rfl fun j v hv => by rw [Nat.zero_add]; exact H5.cell (i := 0) rfl hv⟩, rfl, trivial⟩ rfl ?_
 exact ⟨rfl, (H5.pickT (p := [_, _, _, _]) (m := [_, _, _]) [1, 2, 3] rfl (by decide))⟩

set_option maxRecDepth 100000 in
theorem pBack0_ok (w0 : World) (l : List Ob) (b : Nat) (A : Option Addr) (cap : Nat) (es : List Pt) (d : Nat) (w : World) (hd : d + 1 ≤ es.length) (hb : es.length ≤ 40) (hv : ∀ x ∈ es, x.pv.ok) (H0 : HS w0 w (Ob.blk b [.slice A es.length cap, .int .i64 ((d + 1 : Nat) : Int)] 79 :: Ob.row A es.length cap (ptCells es) 30 6 :: obA Pt.obs es :: l)) :
    Ret Try.prog 12 [.pointer (some ⟨b, 0, none⟩)] w (fun z w' => ∃ A1 c1 A2 c2, z = .tuple #[.agg #[.int .i64 (pI es d).x0, .int .i64 (pI es d).y0, .int .i64 (pI es d).x1, .int .i64 (pI es d).y1, .slice A1 (pI es d).q.n c1, .slice A2 (pI es d).o.n c2], .int .i64 0] ∧ HS w0 w' (Ob.row A1 (pI es d).q.n c1 (vi .i64 (pI es d).q.zs) 2 1 :: Ob.row A2 (pI es d).o.n c2 (vi .i64 (pI es d).o.zs) 2 1 :: Ob.blk b [.slice A es.length cap, .int .i64 (d : Int)] 79 :: Ob.row A es.length cap (ptCells es) 30 6 :: obA Pt.obs es :: l)) := by
 have hk := HS.ptlen (HS.pickT (p := [_, _, _]) (m := [_]) H0 [2] rfl (by decide)) (pI_mem (l := es) (i := d) (by omega)) (hv _ (pI_mem (by omega)))
 have pq : ∀ (j : Nat) (v : Value), ([.int .i64 (pI es d).x0, .int .i64 (pI es d).y0, .int .i64 (pI es d).x1, .int .i64 (pI es d).y1, .slice (pI es d).o.A (pI es d).o.n (pI es d).o.c, .slice (pI es d).q.A (pI es d).q.n (pI es d).q.c] : List Value)[j]? = some v → (ptCells es)[d * 6 + j]? = some v := pt_get (pI_get (by omega))
 refine ret_enter Try.func12 rfl rfl rfl ?_
 refine cw_seq ?_
 refine cw_reg ?_
 refine reg_op (op_alloc H0 rfl kfpast1_7) rfl rfl ?_
 rintro _ w2 ⟨b1, rfl, H3⟩
 refine ry (y_asg rfl rfl) rfl rfl ?_
 refine reg_nil ?_
 refine fn_next ?_
 refine cw_seq ?_
 refine cw_block ?_
 refine cw_seq ?_
 refine cw_reg ?_
 refine ry (y_mov rfl rfl) rfl rfl ?_
 refine ry (y_peqlnil rfl Try.underlying24 rfl rfl) rfl rfl ?_
 refine ry (y_asg rfl rfl) rfl rfl ?_
 refine reg_nil ?_
 refine fn_next ?_
 refine cw_condf rfl ?_
 refine cw_seq ?_
 refine cw_reg ?_
 refine ry (y_mov rfl rfl) rfl rfl ?_
 refine ry (y_nilck rfl rfl) rfl rfl ?_
 refine ry (y_fa rfl rfl kfpast1_2 rfl) rfl rfl ?_
 refine ry (y_ld rfl rfl kfpast1_3 (H3.cell (i := 1) rfl rfl)) rfl rfl ?_
 refine ry (yv (congrArg Value.bool (decide_eq_false (by omega))) (y_eql rfl rfl rfl)) rfl rfl ?_
 refine ry (y_asg rfl rfl) rfl rfl ?_
 refine reg_nil ?_
 refine fn_next ?_
 refine cw_condf rfl ?_
 refine cw_skip ?_
 refine fn_block ?_
 refine fn_next ?_
 refine cw_seq ?_
 refine cw_reg ?_
 refine ry (y_mov rfl rfl) rfl rfl ?_
 refine ry (y_nilck rfl rfl) rfl rfl ?_
 refine ry (y_fa rfl rfl kfpast1_2 rfl) rfl rfl ?_
 refine ry (y_ld rfl rfl kfpast1_3 (H3.cell (i := 1) rfl rfl)) rfl rfl ?_
 refine ry (y_sub rfl rfl rfl (show _ = (d : Int) from (wi (by omega)).trans (by omega))) rfl rfl ?_
 refine ry (y_nilck rfl rfl) rfl rfl ?_
 refine ry (y_fa rfl rfl kfpast1_2 rfl) rfl rfl ?_
 refine reg_op (op_st (i := 1) (vs := [.int _ _]) H3 rfl rfl rfl rfl rfl kfpast1_10 rfl rfl rfl) rfl rfl ?_
 rintro _ w4 H5
 refine reg_nil ?_
 refine fn_next ?_
 refine cw_seq ?_
 refine cw_draw H5 [0, 1, 2, 3, 4, 5, 6, 7, 8, 9] [10, 11, 12] (fun X HX => (HX.pickT (p := [_, _, _, _]) (m := [_, _, _]) [1, 2, 3] rfl (by decide))) (by kernel_rfl) (by kernel_rfl) (by rfl) ?_
 simp only [pick, List.getElem?_cons_succ, List.getElem?_cons_zero]
 refine hk_y (fun Y HY => y_mov rfl rfl) rfl rfl ?_
 refine hk_y (fun Y HY => y_nilck rfl rfl) rfl rfl ?_
 refine hk_y (fun Y HY => y_fa rfl rfl kfpast1_4 rfl) rfl rfl ?_
 refine hk_y (fun Y HY => y_ld rfl rfl kfpast1_5 (HY.cell (i := 0) rfl rfl)) rfl rfl ?_
 refine hk_y (fun Y HY => y_mov rfl rfl) rfl rfl ?_
 refine hk_y (fun Y HY => y_nilck rfl rfl) rfl rfl ?_
 refine hk_y (fun Y HY => y_fa rfl rfl kfpast1_2 rfl) rfl rfl ?_
 refine hk_y (fun Y HY => y_ld rfl rfl kfpast1_3 (HY.cell (i := 0) rfl rfl)) rfl rfl ?_
 refine hk_y (fun Y HY => y_iar (i := d) (HY.rd (i := 1) rfl) rfl rfl rfl kfpast1_11 (rfl) (by omega) (rfl) (pq 0 _ rfl)) rfl rfl ?_
 refine hk_y (fun Y HY => y_ldra (cs := [_, _, _, _, _, _]) (HY.rd (i := 1) rfl) rfl rfl kfpast1_9 rfl (by decide) (fun j v hv => pq j v hv)) rfl rfl ?_
 refine hk_nil ?_
 intro w6 H7
 refine tv_op (op_call (patBack (pI es d) _ (HS.ptokA (H7.pickT (p := [_, _, _, _]) (m := [_]) [3] rfl (by decide)) (pI_mem (by omega)) (hv _ (pI_mem (by omega)))) (by have := hk.1; omega) (by have := hk.2; omega)) rfl kfpast1_12 ⟨rfl, trivial⟩) rfl rfl ?_
 rintro _ w9 ⟨A11, c12, B13, d14, rfl, k8⟩
 have H10 := H7.call k8
 refine ⟨(H10.pickT (p := [_, _, _, _, _, _]) (m := [_, _, _]) [3, 4, 5] rfl (by decide)), fun w15 e17 => ?_⟩
 have H16 := H10.ext e17
 refine tv_op (op_st (i := 2) (vs := [.int _ _, .int _ _, .int _ _, .int _ _, .slice _ _ _, .slice _ _ _]) H16 rfl rfl rfl rfl rfl kfpast1_8 rfl rfl rfl) rfl rfl ?_
 rintro _ w18 H19
 refine ⟨(H19.pickT (p := [_, _, _, _, _, _]) (m := [_, _, _]) [3, 4, 5] rfl (by decide)), fun w20 e22 => ?_⟩
 have H21 := H19.ext e22
 refine tv_op (Yd.op (y_asg rfl rfl)) rfl rfl ?_
 rintro _ _ ⟨rfl, rfl⟩
 refine ⟨(H21.pickT (p := [_, _, _, _, _, _]) (m := [_, _, _]) [3, 4, 5] rfl (by decide)), fun w23 e25 => ?_⟩
 have H24 := H21.ext e25
 refine tv_nil ?_
 refine fn_next ?_
 refine cw_ret ?_
 refine fn_retn (vs := [_, _]) rfl ⟨⟨_, rfl, load_agg (cs := [_, _, _, _, _, _]) kfpast1_9 rfl fun j v hv => by rw [Nat.zero_add]; exact H24.cell (i := 2) rfl hv⟩, rfl, trivial⟩ rfl ?_
 exact ⟨_, _, _, _, rfl, (H24.pickT (p := [_, _, _, _, _, _]) (m := [_, _, _, _, _]) [0, 1, 3, 4, 5] rfl (by decide))⟩

set_option maxRecDepth 100000 in
theorem pAgain0_no (w0 : World) (l : List Ob) (b : Nat) (A : Option Addr) (cap : Nat) (es : List Pt) (w : World) (H0 : HS w0 w (Ob.blk b [.slice A es.length cap, .int .i64 (es.length : Int)] 79 :: Ob.row A es.length cap (ptCells es) 30 6 :: obA Pt.obs es :: l)) :
    Ret Try.prog 14 [.pointer (some ⟨b, 0, none⟩)] w (fun z w' => z = .tuple #[.agg #[.int .i64 0, .int .i64 0, .int .i64 0, .int .i64 0, .slice none 0 0, .slice none 0 0], .int .i64 15] ∧ HS w0 w' (Ob.blk b [.slice A es.length cap, .int .i64 (es.length : Int)] 79 :: Ob.row A es.length cap (ptCells es) 30 6 :: obA Pt.obs es :: l)) := by
 refine ret_enter Try.func14 rfl rfl rfl ?_
 refine cw_seq ?_
 refine cw_reg ?_
 refine reg_op (op_alloc H0 rfl kfpast1_7) rfl rfl ?_
 rintro _ w2 ⟨b1, rfl, H3⟩
 refine ry (y_asg rfl rfl) rfl rfl ?_
 refine reg_nil ?_
 refine fn_next ?_
 refine cw_seq ?_
 refine cw_block ?_
 refine cw_seq ?_
 refine cw_reg ?_
 refine ry (y_mov rfl rfl) rfl rfl ?_
 refine ry (y_peqlnil rfl Try.underlying24 rfl rfl) rfl rfl ?_
 refine ry (y_asg rfl rfl) rfl rfl ?_
 refine reg_nil ?_
 refine fn_next ?_
 refine cw_condf rfl ?_
 refine cw_seq ?_
 refine cw_draw H3 [0, 1, 2, 3, 4, 5, 6, 7, 8, 9, 10] [] (fun X HX => HX) (by kernel_rfl) (by kernel_rfl) (by rfl) ?_
 simp only [pick, List.getElem?_cons_succ, List.getElem?_cons_zero]
 refine hk_y (fun Y HY => y_mov rfl rfl) rfl rfl ?_
 refine hk_y (fun Y HY => y_nilck rfl rfl) rfl rfl ?_
 refine hk_y (fun Y HY => y_fa rfl rfl kfpast1_2 rfl) rfl rfl ?_
 refine hk_y (fun Y HY => y_ld rfl rfl kfpast1_3 (HY.cell (i := 1) rfl rfl)) rfl rfl ?_
 refine hk_y (fun Y HY => y_mov rfl rfl) rfl rfl ?_
 refine hk_y (fun Y HY => y_nilck rfl rfl) rfl rfl ?_
 refine hk_y (fun Y HY => y_fa rfl rfl kfpast1_4 rfl) rfl rfl ?_
 refine hk_y (fun Y HY => y_ld rfl rfl kfpast1_5 (HY.cell (i := 1) rfl rfl)) rfl rfl ?_
 refine hk_y (fun Y HY => y_len rfl Try.underlying22 rfl) rfl rfl ?_
 refine hk_y (fun Y HY => yv (congrArg Value.bool (decide_eq_true (rfl))) (y_eql rfl rfl rfl)) rfl rfl ?_
 refine hk_y (fun Y HY => y_asg rfl rfl) rfl rfl ?_
 refine hk_nil ?_
 intro w4 H5
 refine tv_nil ?_
 refine fn_next ?_
 refine cw_condt rfl ?_
 refine cw_seq ?_
 refine cw_reg ?_
 refine ry (y_buildL (places := [(0, 4), (4, 1), (5, 1)]) (parts := []) (vs := []) (cs := [.int _ _, .int _ _, .int _ _, .int _ _, .slice _ _ _, .slice _ _ _]) [] rfl Try.underlying30 (by kernel_rfl) kfpast1_7 rfl trivial rfl rfl) rfl rfl ?_
 refine reg_op (op_st (i := 0) (vs := [.int _ _, .int _ _, .int _ _, .int _ _, .slice _ _ _, .slice _ _ _]) H5 rfl rfl rfl rfl rfl kfpast1_8 rfl rfl rfl) rfl rfl ?_
 rintro _ w6 H7
 refine ry (y_asg rfl rfl) rfl rfl ?_
 refine reg_nil ?_
 refine fn_next ?_
 refine cw_ret ?_
 refine fn_block_ret (fn_then_ret ?_)
 refine fn_retn (vs := [_, _]) rfl ⟨⟨_, rfl, load_agg (cs := [_, _, _, _, _, _]) kfpast1_9 rfl fun j v hv => by rw [Nat.zero_add]; exact H7.cell (i := 0) rfl hv⟩, rfl, trivial⟩ rfl ?_
 exact ⟨rfl, (H7.pickT (p := [_, _, _, _]) (m := [_, _, _]) [1, 2, 3] rfl (by decide))⟩

set_option maxRecDepth 100000 in
theorem pAgain0_ok (w0 : World) (l : List Ob) (b : Nat) (A : Option Addr) (cap : Nat) (es : List Pt) (d : Nat) (w : World) (hd : d + 1 ≤ es.length) (hb : es.length ≤ 40) (hv : ∀ x ∈ es, x.pv.ok) (H0 : HS w0 w (Ob.blk b [.slice A es.length cap, .int .i64 (d : Int)] 79 :: Ob.row A es.length cap (ptCells es) 30 6 :: obA Pt.obs es :: l)) :
    Ret Try.prog 14 [.pointer (some ⟨b, 0, none⟩)] w (fun z w' => ∃ A1 c1 A2 c2, z = .tuple #[.agg #[.int .i64 (pI es d).x0, .int .i64 (pI es d).y0, .int .i64 (pI es d).x1, .int .i64 (pI es d).y1, .slice A1 (pI es d).o.n c1, .slice A2 (pI es d).q.n c2], .int .i64 0] ∧ HS w0 w' (Ob.row A1 (pI es d).o.n c1 (vi .i64 (pI es d).o.zs) 2 1 :: Ob.row A2 (pI es d).q.n c2 (vi .i64 (pI es d).q.zs) 2 1 :: Ob.blk b [.slice A es.length cap, .int .i64 ((d + 1 : Nat) : Int)] 79 :: Ob.row A es.length cap (ptCells es) 30 6 :: obA Pt.obs es :: l)) := by
 have hk := HS.ptlen (HS.pickT (p := [_, _, _]) (m := [_]) H0 [2] rfl (by decide)) (pI_mem (l := es) (i := d) (by omega)) (hv _ (pI_mem (by omega)))
 have pq : ∀ (j : Nat) (v : Value), ([.int .i64 (pI es d).x0, .int .i64 (pI es d).y0, .int .i64 (pI es d).x1, .int .i64 (pI es d).y1, .slice (pI es d).o.A (pI es d).o.n (pI es d).o.c, .slice (pI es d).q.A (pI es d).q.n (pI es d).q.c] : List Value)[j]? = some v → (ptCells es)[d * 6 + j]? = some v := pt_get (pI_get (by omega))
 refine ret_enter Try.func14 rfl rfl rfl ?_
 refine cw_seq ?_
 refine cw_reg ?_
 refine reg_op (op_alloc H0 rfl kfpast1_7) rfl rfl ?_
 rintro _ w2 ⟨b1, rfl, H3⟩
 refine ry (y_asg rfl rfl) rfl rfl ?_
 refine reg_nil ?_
 refine fn_next ?_
 refine cw_seq ?_
 refine cw_block ?_
 refine cw_seq ?_
 refine cw_reg ?_
 refine ry (y_mov rfl rfl) rfl rfl ?_
 refine ry (y_peqlnil rfl Try.underlying24 rfl rfl) rfl rfl ?_
 refine ry (y_asg rfl rfl) rfl rfl ?_
 refine reg_nil ?_
 refine fn_next ?_
 refine cw_condf rfl ?_
 refine cw_seq ?_
 refine cw_draw H3 [0, 1, 2, 3, 4, 5, 6, 7, 8, 9, 10] [] (fun X HX => HX) (by kernel_rfl) (by kernel_rfl) (by rfl) ?_
 simp only [pick, List.getElem?_cons_succ, List.getElem?_cons_zero]
 refine hk_y (fun Y HY => y_mov rfl rfl) rfl rfl ?_
 refine hk_y (fun Y HY => y_nilck rfl rfl) rfl rfl ?_
 refine hk_y (fun Y HY => y_fa rfl rfl kfpast1_2 rfl) rfl rfl ?_
 refine hk_y (fun Y HY => y_ld rfl rfl kfpast1_3 (HY.cell (i := 1) rfl rfl)) rfl rfl ?_
 refine hk_y (fun Y HY => y_mov rfl rfl) rfl rfl ?_
 refine hk_y (fun Y HY => y_nilck rfl rfl) rfl rfl ?_
 refine hk_y (fun Y HY => y_fa rfl rfl kfpast1_4 rfl) rfl rfl ?_
 refine hk_y (fun Y HY => y_ld rfl rfl kfpast1_5 (HY.cell (i := 1) rfl rfl)) rfl rfl ?_
 refine hk_y (fun Y HY => y_len rfl Try.underlying22 rfl) rfl rfl ?_
 refine hk_y (fun Y HY => yv (congrArg Value.bool (decide_eq_false (by omega))) (y_eql rfl rfl rfl)) rfl rfl ?_
 refine hk_y (fun Y HY => y_asg rfl rfl) rfl rfl ?_
 refine hk_nil ?_
 intro w4 H5
 refine tv_nil ?_
 refine fn_next ?_
 refine cw_condf rfl ?_
 refine cw_skip ?_
 refine fn_block ?_
 refine fn_next ?_
 refine cw_seq ?_
 refine cw_reg ?_
 refine ry (y_mov rfl rfl) rfl rfl ?_
 refine ry (y_nilck rfl rfl) rfl rfl ?_
 refine ry (y_fa rfl rfl kfpast1_2 rfl) rfl rfl ?_
 refine ry (y_ld rfl rfl kfpast1_3 (H5.cell (i := 1) rfl rfl)) rfl rfl ?_
 refine ry (y_add rfl rfl rfl (show _ = ((d + 1 : Nat) : Int) from (wi (by omega)).trans (by omega))) rfl rfl ?_
 refine ry (y_nilck rfl rfl) rfl rfl ?_
 refine ry (y_fa rfl rfl kfpast1_2 rfl) rfl rfl ?_
 refine reg_op (op_st (i := 1) (vs := [.int _ _]) H5 rfl rfl rfl rfl rfl kfpast1_10 rfl rfl rfl) rfl rfl ?_
 rintro _ w6 H7
 refine reg_nil ?_
 refine fn_next ?_
 refine cw_seq ?_
 refine cw_draw H7 [0, 1, 2, 3, 4, 5, 6, 7, 8, 9, 10] [11, 12, 13] (fun X HX => (HX.pickT (p := [_, _, _, _]) (m := [_, _, _]) [1, 2, 3] rfl (by decide))) (by kernel_rfl) (by kernel_rfl) (by rfl) ?_
 simp only [pick, List.getElem?_cons_succ, List.getElem?_cons_zero]
 refine hk_y (fun Y HY => y_mov rfl rfl) rfl rfl ?_
 refine hk_y (fun Y HY => y_nilck rfl rfl) rfl rfl ?_
 refine hk_y (fun Y HY => y_fa rfl rfl kfpast1_4 rfl) rfl rfl ?_
 refine hk_y (fun Y HY => y_ld rfl rfl kfpast1_5 (HY.cell (i := 0) rfl rfl)) rfl rfl ?_
 refine hk_y (fun Y HY => y_mov rfl rfl) rfl rfl ?_
 refine hk_y (fun Y HY => y_nilck rfl rfl) rfl rfl ?_
 refine hk_y (fun Y HY => y_fa rfl rfl kfpast1_2 rfl) rfl rfl ?_
 refine hk_y (fun Y HY => y_ld rfl rfl kfpast1_3 (HY.cell (i := 0) rfl rfl)) rfl rfl ?_
 refine hk_y (fun Y HY => y_sub rfl rfl rfl (show _ = (d : Int) from (wi (by omega)).trans (by omega))) rfl rfl ?_
 refine hk_y (fun Y HY => y_iar (i := d) (HY.rd (i := 1) rfl) rfl rfl rfl kfpast1_11 (rfl) (by omega) (rfl) (pq 0 _ rfl)) rfl rfl ?_
 refine hk_y (fun Y HY => y_ldra (cs := [_, _, _, _, _, _]) (HY.rd (i := 1) rfl) rfl rfl kfpast1_9 rfl (by decide) (fun j v hv => pq j v hv)) rfl rfl ?_
 refine hk_nil ?_
 intro w8 H9
 refine tv_op (op_call (pastOwn (pI es d) _ (HS.ptokA (H9.pickT (p := [_, _, _, _]) (m := [_]) [3] rfl (by decide)) (pI_mem (by omega)) (hv _ (pI_mem (by omega)))) (by have := hk.1; omega) (by have := hk.2; omega)) rfl kfpast1_13 ⟨rfl, trivial⟩) rfl rfl ?_
 rintro _ w11 ⟨A13, c14, B15, d16, rfl, k10⟩
 have H12 := H9.call k10
 refine ⟨(H12.pickT (p := [_, _, _, _, _, _]) (m := [_, _, _]) [3, 4, 5] rfl (by decide)), fun w17 e19 => ?_⟩
 have H18 := H12.ext e19
 refine tv_op (op_st (i := 2) (vs := [.int _ _, .int _ _, .int _ _, .int _ _, .slice _ _ _, .slice _ _ _]) H18 rfl rfl rfl rfl rfl kfpast1_8 rfl rfl rfl) rfl rfl ?_
 rintro _ w20 H21
 refine ⟨(H21.pickT (p := [_, _, _, _, _, _]) (m := [_, _, _]) [3, 4, 5] rfl (by decide)), fun w22 e24 => ?_⟩
 have H23 := H21.ext e24
 refine tv_op (Yd.op (y_asg rfl rfl)) rfl rfl ?_
 rintro _ _ ⟨rfl, rfl⟩
 refine ⟨(H23.pickT (p := [_, _, _, _, _, _]) (m := [_, _, _]) [3, 4, 5] rfl (by decide)), fun w25 e27 => ?_⟩
 have H26 := H23.ext e27
 refine tv_nil ?_
 refine fn_next ?_
 refine cw_ret ?_
 refine fn_retn (vs := [_, _]) rfl ⟨⟨_, rfl, load_agg (cs := [_, _, _, _, _, _]) kfpast1_9 rfl fun j v hv => by rw [Nat.zero_add]; exact H26.cell (i := 2) rfl hv⟩, rfl, trivial⟩ rfl ?_
 exact ⟨_, _, _, _, rfl, (H26.pickT (p := [_, _, _, _, _, _]) (m := [_, _, _, _, _]) [0, 1, 3, 4, 5] rfl (by decide))⟩

end Go.Proofs.Ytgkkbeomhkggjaa
