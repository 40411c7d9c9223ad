/- Layer 35: one more patch. -/
import Derived.Test.YtgkkbeomhkggjaaPast1
set_option linter.unusedVariables false
set_option linter.unusedSimpArgs false
namespace Go.Proofs.Ytgkkbeomhkggjaa
open Go Go.RowKit
theorem kfpast2_1 : aggB Try.prog 30 6 = true := by kernel_rfl
theorem kfpast2_2 : callB Try.prog 34 = true := by kernel_rfl
theorem kfpast2_3 : fldB Try.prog 30 1 4 = true := by kernel_rfl
theorem kfpast2_4 : oneB Try.prog 28 = true := by kernel_rfl
theorem kfpast2_5 : elB Try.prog 22 6 = true := by kernel_rfl
theorem kfpast2_6 : fldB Try.prog 79 0 0 = true := by kernel_rfl
theorem kfpast2_7 : fldB Try.prog 79 1 1 = true := by kernel_rfl
theorem kfpast2_8 : oneB Try.prog 22 = true := by kernel_rfl
theorem kfpast2_9 : oneB Try.prog 3 = true := by kernel_rfl
theorem kfpast2_10 : callB Try.prog 35 = true := by kernel_rfl
theorem kfpast2_11 : callB Try.prog 36 = true := by kernel_rfl
theorem kfpast2_12 : (Try.prog.info? 30).map (fun i => (i.size, i.zero.map Value.cells)) = some (6, some (List.toArray [(.int .i64 0), (.int .i64 0), (.int .i64 0), (.int .i64 0), (.slice none 0 0), (.slice none 0 0)])) := by kernel_rfl
theorem kfpast2_13 : (Try.prog.info? 30).map (fun i => (i.zero.map (·.cells.toList), i.size, i.bytes)) = some (some [(.int .i64 0), (.int .i64 0), (.int .i64 0), (.int .i64 0), (.slice none 0 0), (.slice none 0 0)], 6, 80) := by kernel_rfl
theorem kfpast2_14 : szB Try.prog 22 1 = true := by kernel_rfl
theorem kfpast2_15 : szB Try.prog 3 1 = true := by kernel_rfl
theorem kfpast2_16 : callB Try.prog 37 = true := by kernel_rfl
theorem patDelN (w0 : World) (l : List Ob) (A : Option Addr) (c n : Nat) (es : List Pt) (w : World) (hl : es.length = n) (hn : 2 ≤ n) (hm : n ≤ 100) (H0 : HS w0 w (Ob.row A n c (ptCells es) 30 6 :: l)) :
    Ret Try.prog 37 [.slice A n c, .int .i64 0, .int .i64 1] w (fun z w' => z = .slice A (n - 1) c ∧ HS w0 w' (Ob.row A (n - 1) c (ptCells (es.drop 1)) 30 6 :: l)) := by
  subst hl
  exact patDel w0 l A c es w hn hm H0
def pvDid (vs : List Pv) (d : Nat) (v : Pv) : List Pv := if d < 40 then vs.take d ++ [v] else (vs.take d ++ [v]).drop 1
theorem pvDid_len {vs : List Pv} {d : Nat} {v : Pv} (hd : d ≤ vs.length) (h40 : d ≤ 40) : (pvDid vs d v).length = if d < 40 then d + 1 else 40 := by
  unfold pvDid
  split
  · rw [List.length_append, List.length_take]; simp; omega
  · rw [List.length_drop, List.length_append, List.length_take]; simp; omega

set_option maxRecDepth 100000 in
theorem pDid0_no (w0 : World) (l : List Ob) (b : Nat) (A : Option Addr) (cap : Nat) (es : List Pt) (d : Nat) (p : Pt) (w : World) (hp : ∀ X, HS w0 X l → p.ok X) (mo : p.o.n ≤ 16777216) (mq : p.q.n ≤ 16777216) (hno : ¬ (p.rightP ∧ 0 < p.o.n)) (H0 : HS w0 w (Ob.blk b [.slice A es.length cap, .int .i64 (d : Int)] 79 :: Ob.row A es.length cap (ptCells es) 30 6 :: obA Pt.obs es :: l)) :
    Ret Try.prog 10 [.pointer (some ⟨b, 0, none⟩), .agg #[.int .i64 p.x0, .int .i64 p.y0, .int .i64 p.x1, .int .i64 p.y1, .slice p.o.A p.o.n p.o.c, .slice p.q.A p.q.n p.q.c]] w (fun z w' => z = .int .i64 (if p.rightP then 0 else 13) ∧ HS w0 w' (Ob.blk b [.slice A es.length cap, .int .i64 (d : Int)] 79 :: Ob.row A es.length cap (ptCells es) 30 6 :: obA Pt.obs es :: l)) := by
 refine ret_enter Try.func10 rfl rfl rfl ?_
 refine cw_seq ?_
 refine cw_reg ?_
 refine reg_op (op_box (cs := [.int _ _, .int _ _, .int _ _, .int _ _, .slice _ _ _, .slice _ _ _]) H0 rfl rfl rfl) rfl rfl ?_
 rintro _ w2 ⟨b1, rfl, H3⟩
 refine ry (y_asg rfl rfl) rfl rfl ?_
 refine reg_nil ?_
 refine fn_next ?_
 refine cw_seq ?_
 refine cw_block ?_
 refine cw_seq ?_
 refine cw_reg ?_
 refine ry (y_mov rfl rfl) rfl rfl ?_
 refine ry (y_peqlnil rfl Try.underlying24 rfl rfl) rfl rfl ?_
 refine ry (y_asg rfl rfl) rfl rfl ?_
 refine reg_nil ?_
 refine fn_next ?_
 refine cw_condf rfl ?_
 refine cw_seq ?_
 refine cw_reg ?_
 refine ry (y_ldb (i := 0) (cs := [_, _, _, _, _, _]) H3 rfl rfl kfpast2_1 rfl rfl) rfl rfl ?_
 refine reg_op (op_call (patRight p _ (hp _ (H3.tail.tail.tail.tail)) mo mq) rfl kfpast2_2 ⟨rfl, trivial⟩) rfl rfl ?_
 rintro _ w5 ⟨rfl, e4⟩
 have H6 := H3.ext e4
 refine ry (y_notd rfl rfl) rfl rfl ?_
 refine ry (y_asg rfl rfl) rfl rfl ?_
 refine reg_nil ?_
 refine fn_next ?_
 refine cw_condd rfl (fun h7 => ?_) (fun h7 => ?_)
 ·skip
  have k1 := h7
  refine cw_seq ?_
  refine cw_reg ?_
  refine ry (y_asg rfl rfl) rfl rfl ?_
  refine reg_nil ?_
  refine fn_next ?_
  refine cw_ret ?_
  refine fn_block_ret (fn_then_ret ?_)
  refine fn_ret1 rfl rfl ?_
  first | rw [if_neg k1] | rw [if_pos k1]
  exact ⟨rfl, (H6.pickT (p := [_, _, _, _]) (m := [_, _, _]) [1, 2, 3] rfl (by decide))⟩
 ·skip
  have k1 := Classical.not_not.1 h7
  refine cw_seq ?_
  refine cw_reg ?_
  refine ry (y_fa rfl rfl kfpast2_3 rfl) rfl rfl ?_
  refine ry (y_ld rfl rfl kfpast2_4 (H6.cell (i := 0) rfl rfl)) rfl rfl ?_
  refine ry (y_len rfl Try.underlying28 rfl) rfl rfl ?_
  refine ry (y_eql rfl rfl rfl) rfl rfl ?_
  refine ry (y_asg rfl rfl) rfl rfl ?_
  refine reg_nil ?_
  refine fn_next ?_
  refine cw_condd rfl (fun h8 => ?_) (fun h8 => ?_)
  ·skip
   have k2 := h8
   refine cw_seq ?_
   refine cw_reg ?_
   refine ry (y_asg rfl rfl) rfl rfl ?_
   refine reg_nil ?_
   refine fn_next ?_
   refine cw_ret ?_
   refine fn_block_ret (fn_then_ret ?_)
   refine fn_ret1 rfl rfl ?_
   first | rw [if_neg k1] | rw [if_pos k1]
   exact ⟨rfl, (H6.pickT (p := [_, _, _, _]) (m := [_, _, _]) [1, 2, 3] rfl (by decide))⟩
  · exact absurd ⟨k1, by omega⟩ hno

set_option maxRecDepth 100000 in
set_option maxHeartbeats 1000000 in
theorem pDid0_ok (w0 : World) (l : List Ob) (b : Nat) (A : Option Addr) (cap : Nat) (es : List Pt) (d : Nat) (p : Pt) (w : World) (hp : ∀ X, HS w0 X l → p.ok X) (mo : p.o.n ≤ 16777216) (mq : p.q.n ≤ 16777216) (hr : p.rightP) (ho : 0 < p.o.n) (hd : d ≤ es.length) (hb : es.length ≤ 40) (hlt : d < 40) (H0 : HS w0 w (Ob.blk b [.slice A es.length cap, .int .i64 (d : Int)] 79 :: Ob.row A es.length cap (ptCells es) 30 6 :: obA Pt.obs es :: l)) :
    Ret Try.prog 10 [.pointer (some ⟨b, 0, none⟩), .agg #[.int .i64 p.x0, .int .i64 p.y0, .int .i64 p.x1, .int .i64 p.y1, .slice p.o.A p.o.n p.o.c, .slice p.q.A p.q.n p.q.c]] w (fun z w' => ∃ A' cap' es', es'.map Pt.pv = pvDid (es.map Pt.pv) d p.pv ∧ z = .int .i64 0 ∧ HS w0 w' (Ob.blk b [.slice A' es'.length cap', .int .i64 (es'.length : Int)] 79 :: Ob.row A' es'.length cap' (ptCells es') 30 6 :: obA Pt.obs es' :: l)) := by
 have hnc := (H0.len (i := 1) rfl).2.1
 have hdc : d ≤ cap := by omega
 refine ret_enter Try.func10 rfl rfl rfl ?_
 refine cw_seq ?_
 refine cw_reg ?_
 refine reg_op (op_box (cs := [.int _ _, .int _ _, .int _ _, .int _ _, .slice _ _ _, .slice _ _ _]) H0 rfl rfl rfl) rfl rfl ?_
 rintro _ w2 ⟨b1, rfl, H3⟩
 refine ry (y_asg rfl rfl) rfl rfl ?_
 refine reg_nil ?_
 refine fn_next ?_
 refine cw_seq ?_
 refine cw_block ?_
 refine cw_seq ?_
 refine cw_reg ?_
 refine ry (y_mov rfl rfl) rfl rfl ?_
 refine ry (y_peqlnil rfl Try.underlying24 rfl rfl) rfl rfl ?_
 refine ry (y_asg rfl rfl) rfl rfl ?_
 refine reg_nil ?_
 refine fn_next ?_
 refine cw_condf rfl ?_
 refine cw_seq ?_
 refine cw_reg ?_
 refine ry (y_ldb (i := 0) (cs := [_, _, _, _, _, _]) H3 rfl rfl kfpast2_1 rfl rfl) rfl rfl ?_
 refine reg_op (op_call (patRight p _ (hp _ (H3.tail.tail.tail.tail)) mo mq) rfl kfpast2_2 ⟨rfl, trivial⟩) rfl rfl ?_
 rintro _ w5 ⟨rfl, e4⟩
 have H6 := H3.ext e4
 refine ry (y_notd rfl rfl) rfl rfl ?_
 refine ry (y_asg rfl rfl) rfl rfl ?_
 refine reg_nil ?_
 refine fn_next ?_
 refine cw_condd rfl (fun h7 => ?_) (fun h7 => ?_)
 · exact absurd hr h7
 ·skip
  refine cw_seq ?_
  refine cw_reg ?_
  refine ry (y_fa rfl rfl kfpast2_3 rfl) rfl rfl ?_
  refine ry (y_ld rfl rfl kfpast2_4 (H6.cell (i := 0) rfl rfl)) rfl rfl ?_
  refine ry (y_len rfl Try.underlying28 rfl) rfl rfl ?_
  refine ry (y_eql rfl rfl rfl) rfl rfl ?_
  refine ry (y_asg rfl rfl) rfl rfl ?_
  refine reg_nil ?_
  refine fn_next ?_
  refine cw_condd rfl (fun h8 => ?_) (fun h8 => ?_)
  · exfalso; omega
  ·skip
   refine cw_skip ?_
   refine fn_block ?_
   refine fn_next ?_
   refine cw_seq ?_
   refine cw_drawT H6 [0, 1, 2, 3, 5, 6, 7, 11] (.alt (.step 4 (.step 8 (.step 9 (.step 10 (.step 12 (.step 13 (.step 14 (.step 15 (.step 16 (.step 17 (.leaf))))))))))) (.step 8 (.step 4 (.step 9 (.step 10 (.step 12 (.step 13 (.step 14 (.step 15 (.step 16 (.step 17 (.leaf)))))))))))) (fun X HX => (HX.pickT (p := [_, _, _, _]) (m := [_]) [0] rfl (by decide))) (by kernel_rfl) (by kernel_rfl) (by rfl) ?_
   simp only [pick, List.getElem?_cons_succ, List.getElem?_cons_zero]
   refine hk_y (fun Y HY => y_mov rfl rfl) rfl rfl ?_
   refine hk_y (fun Y HY => y_mov rfl rfl) rfl rfl ?_
   refine hk_y (fun Y HY => y_nilck rfl rfl) rfl rfl ?_
   refine hk_y (fun Y HY => y_fa rfl rfl kfpast2_6 rfl) rfl rfl ?_
   refine hk_y (fun Y HY => y_mov rfl rfl) rfl rfl ?_
   refine hk_y (fun Y HY => y_nilck rfl rfl) rfl rfl ?_
   refine hk_y (fun Y HY => y_fa rfl rfl kfpast2_7 rfl) rfl rfl ?_
   refine hk_y (fun Y HY => y_ldb (i := 0) (cs := [_, _, _, _, _, _]) HY rfl rfl kfpast2_1 rfl rfl) rfl rfl ?_
   refine hkt_nil [21, 25, 26, 27, 29, 30, 31, 32, 33] (fun M wl => ∃ (A2 : Option Addr) (cap2 : Nat) (A3 : Option Addr) (c3 : Nat) (A4 : Option Addr) (c4 : Nat), M = [] ∧ HS w0 wl (Ob.blk b [.slice A2 (d + 1) cap2, .int .i64 (d : Int)] 79 :: Ob.row A2 (d + 1) cap2 (ptCells (es.take d) ++ [.int .i64 p.x0, .int .i64 p.y0, .int .i64 p.x1, .int .i64 p.y1, .slice A3 p.o.n c3, .slice A4 p.q.n c4]) 30 6 :: Ob.row A3 p.o.n c3 (vi .i64 p.o.zs) 2 1 :: Ob.row A4 p.q.n c4 (vi .i64 p.q.zs) 2 1 :: obA Pt.obs es :: l)) (fun wX HX => ?_) ?_
   ·skip
    refine tt_alt ?_ ?_
    ·skip
     refine tt_op rfl (Yd.op (y_ld rfl rfl kfpast2_8 (HX.cell (i := 1) rfl rfl))) rfl rfl ?_
     rintro _ _ ⟨rfl, rfl⟩
     refine ⟨(HX.pickT (p := [_, _, _, _]) (m := [_]) [0] rfl (by decide)), fun w9 e11 => ?_⟩
     have H10 := HX.ext e11
     refine tt_op rfl (Yd.op (y_ld rfl rfl kfpast2_9 (H10.cell (i := 1) rfl rfl))) rfl rfl ?_
     rintro _ _ ⟨rfl, rfl⟩
     refine ⟨(H10.pickT (p := [_, _, _, _]) (m := [_]) [0] rfl (by decide)), fun w12 e14 => ?_⟩
     have H13 := H10.ext e14
     refine tt_op rfl (Yd.op (yv (congrArg (fun B => Value.slice B d cap) subA_zero) (y_sh (hi := d) rfl rfl rfl kfpast2_5 rfl hdc))) rfl rfl ?_
     rintro _ _ ⟨rfl, rfl⟩
     refine ⟨(H13.pickT (p := [_, _, _, _]) (m := [_]) [0] rfl (by decide)), fun w15 e17 => ?_⟩
     have H16 := H13.ext e17
     refine tt_op rfl (op_call (clipP A d cap _ hdc) rfl kfpast2_10 ⟨rfl, trivial⟩) rfl rfl ?_
     rintro _ w19 ⟨rfl, e18⟩
     have H20 := H16.ext e18
     refine ⟨(H20.pickT (p := [_, _, _, _]) (m := [_]) [0] rfl (by decide)), fun w21 e23 => ?_⟩
     have H22 := H20.ext e23
     refine tt_op rfl (op_call (pastOwn p _ (hp _ (H22.tail.tail.tail.tail)) mo mq) rfl kfpast2_11 ⟨rfl, trivial⟩) rfl rfl ?_
     rintro _ w25 ⟨A27, c28, B29, d30, rfl, k24⟩
     have H26 := H22.call k24
     refine ⟨(H26.pickT (p := [_, _, _, _, _, _]) (m := [_]) [2] rfl (by decide)), fun w31 e33 => ?_⟩
     have H32 := H26.ext e33
     refine tt_op rfl (op_litL (parts := [(0, _)]) (vs := [(0, _)]) (cs := [.int _ _, .int _ _, .int _ _, .int _ _, .slice _ _ _, .slice _ _ _]) [(0, [_, _, _, _, _, _])] H32 rfl Try.underlying22 kfpast2_12 rfl ⟨rfl, trivial⟩ rfl rfl rfl) rfl rfl ?_
     rintro _ w35 ⟨b34, rfl, H36⟩
     have H37 := H36.asrow (m := 1) (size := 6) rfl (by decide)
     refine ⟨(H37.pickT (p := [_, _, _, _, _, _, _]) (m := [_]) [3] rfl (by decide)), fun w38 e40 => ?_⟩
     have H39 := H37.ext e40
     refine tt_op rfl (op_appx (k := d) (m := 1) (xs := ptCells (es.take d)) H39 (by rw [← ptCells_take]; exact (H39.rd (i := 5) rfl).take _) (by rw [pt_len, List.length_take]; omega) rfl rfl rfl (H39.rd (i := 0) rfl) (rfl) Try.underlying22 kfpast2_13 rfl rfl (by unfold maxLen; omega) (by omega) (by omega)) rfl rfl ?_
     rintro _ w43 ⟨A41, c42, rfl, H44⟩
     refine ⟨(H44.pickT (p := [_, _, _, _, _, _, _, _]) (m := [_]) [4] rfl (by decide)), fun w45 e47 => ?_⟩
     have H46 := H44.ext e47
     refine tt_op rfl (Yd.op (y_nilck rfl rfl)) rfl rfl ?_
     rintro _ _ ⟨rfl, rfl⟩
     refine ⟨(H46.pickT (p := [_, _, _, _, _, _, _, _]) (m := [_]) [4] rfl (by decide)), fun w48 e50 => ?_⟩
     have H49 := H46.ext e50
     refine tt_op rfl (Yd.op (y_fa rfl rfl kfpast2_6 rfl)) rfl rfl ?_
     rintro _ _ ⟨rfl, rfl⟩
     refine ⟨(H49.pickT (p := [_, _, _, _, _, _, _, _]) (m := [_]) [4] rfl (by decide)), fun w51 e53 => ?_⟩
     have H52 := H49.ext e53
     refine tt_op rfl (op_st (i := 5) (vs := [.slice _ _ _]) H52 rfl rfl rfl rfl rfl kfpast2_14 rfl rfl rfl) rfl rfl ?_
     rintro _ w54 H55
     refine ⟨(H55.pickT (p := [_, _, _, _, _, _, _, _]) (m := [_]) [4] rfl (by decide)), fun w56 e58 => ?_⟩
     have H57 := H55.ext e58
     exact tt_leaf ⟨A41, c42, A27, c28, B29, d30, rfl, (H57.pickT (p := [_, _, _, _, _, _, _, _]) (m := [_, _, _, _, _]) [5, 0, 2, 3, 7] rfl (by decide))⟩ trivial (by repeat (first | exact kp_refl | refine kp_app rfl rfl ?_ | refine kp_cons rfl ?_))
    refine tt_op rfl (Yd.op (y_ld rfl rfl kfpast2_9 (HX.cell (i := 1) rfl rfl))) rfl rfl ?_
    rintro _ _ ⟨rfl, rfl⟩
    refine ⟨(HX.pickT (p := [_, _, _, _]) (m := [_]) [0] rfl (by decide)), fun w59 e61 => ?_⟩
    have H60 := HX.ext e61
    refine tt_op rfl (Yd.op (y_ld rfl rfl kfpast2_8 (H60.cell (i := 1) rfl rfl))) rfl rfl ?_
    rintro _ _ ⟨rfl, rfl⟩
    refine ⟨(H60.pickT (p := [_, _, _, _]) (m := [_]) [0] rfl (by decide)), fun w62 e64 => ?_⟩
    have H63 := H60.ext e64
    refine tt_op rfl (Yd.op (yv (congrArg (fun B => Value.slice B d cap) subA_zero) (y_sh (hi := d) rfl rfl rfl kfpast2_5 rfl hdc))) rfl rfl ?_
    rintro _ _ ⟨rfl, rfl⟩
    refine ⟨(H63.pickT (p := [_, _, _, _]) (m := [_]) [0] rfl (by decide)), fun w65 e67 => ?_⟩
    have H66 := H63.ext e67
    refine tt_op rfl (op_call (clipP A d cap _ hdc) rfl kfpast2_10 ⟨rfl, trivial⟩) rfl rfl ?_
    rintro _ w69 ⟨rfl, e68⟩
    have H70 := H66.ext e68
    refine ⟨(H70.pickT (p := [_, _, _, _]) (m := [_]) [0] rfl (by decide)), fun w71 e73 => ?_⟩
    have H72 := H70.ext e73
    refine tt_op rfl (op_call (pastOwn p _ (hp _ (H72.tail.tail.tail.tail)) mo mq) rfl kfpast2_11 ⟨rfl, trivial⟩) rfl rfl ?_
    rintro _ w75 ⟨A77, c78, B79, d80, rfl, k74⟩
    have H76 := H72.call k74
    refine ⟨(H76.pickT (p := [_, _, _, _, _, _]) (m := [_]) [2] rfl (by decide)), fun w81 e83 => ?_⟩
    have H82 := H76.ext e83
    refine tt_op rfl (op_litL (parts := [(0, _)]) (vs := [(0, _)]) (cs := [.int _ _, .int _ _, .int _ _, .int _ _, .slice _ _ _, .slice _ _ _]) [(0, [_, _, _, _, _, _])] H82 rfl Try.underlying22 kfpast2_12 rfl ⟨rfl, trivial⟩ rfl rfl rfl) rfl rfl ?_
    rintro _ w85 ⟨b84, rfl, H86⟩
    have H87 := H86.asrow (m := 1) (size := 6) rfl (by decide)
    refine ⟨(H87.pickT (p := [_, _, _, _, _, _, _]) (m := [_]) [3] rfl (by decide)), fun w88 e90 => ?_⟩
    have H89 := H87.ext e90
    refine tt_op rfl (op_appx (k := d) (m := 1) (xs := ptCells (es.take d)) H89 (by rw [← ptCells_take]; exact (H89.rd (i := 5) rfl).take _) (by rw [pt_len, List.length_take]; omega) rfl rfl rfl (H89.rd (i := 0) rfl) (rfl) Try.underlying22 kfpast2_13 rfl rfl (by unfold maxLen; omega) (by omega) (by omega)) rfl rfl ?_
    rintro _ w93 ⟨A91, c92, rfl, H94⟩
    refine ⟨(H94.pickT (p := [_, _, _, _, _, _, _, _]) (m := [_]) [4] rfl (by decide)), fun w95 e97 => ?_⟩
    have H96 := H94.ext e97
    refine tt_op rfl (Yd.op (y_nilck rfl rfl)) rfl rfl ?_
    rintro _ _ ⟨rfl, rfl⟩
    refine ⟨(H96.pickT (p := [_, _, _, _, _, _, _, _]) (m := [_]) [4] rfl (by decide)), fun w98 e100 => ?_⟩
    have H99 := H96.ext e100
    refine tt_op rfl (Yd.op (y_fa rfl rfl kfpast2_6 rfl)) rfl rfl ?_
    rintro _ _ ⟨rfl, rfl⟩
    refine ⟨(H99.pickT (p := [_, _, _, _, _, _, _, _]) (m := [_]) [4] rfl (by decide)), fun w101 e103 => ?_⟩
    have H102 := H99.ext e103
    refine tt_op rfl (op_st (i := 5) (vs := [.slice _ _ _]) H102 rfl rfl rfl rfl rfl kfpast2_14 rfl rfl rfl) rfl rfl ?_
    rintro _ w104 H105
    refine ⟨(H105.pickT (p := [_, _, _, _, _, _, _, _]) (m := [_]) [4] rfl (by decide)), fun w106 e108 => ?_⟩
    have H107 := H105.ext e108
    exact tt_leaf ⟨A91, c92, A77, c78, B79, d80, rfl, (H107.pickT (p := [_, _, _, _, _, _, _, _]) (m := [_, _, _, _, _]) [5, 0, 2, 3, 7] rfl (by decide))⟩ trivial (by repeat (first | exact kp_refl | refine kp_app rfl rfl ?_ | refine kp_cons rfl ?_))
   ·skip
    rintro M w110 ⟨A2, cap2, A3, c3, A4, c4, rfl, H109⟩
    rw [show ptCells (es.take d) ++ [.int .i64 p.x0, .int .i64 p.y0, .int .i64 p.x1, .int .i64 p.y1, .slice A3 p.o.n c3, .slice A4 p.q.n c4] = ptCells (es.take d ++ [⟨p.x0, p.y0, p.x1, p.y1, ⟨A3, p.o.n, c3, p.o.zs⟩, ⟨A4, p.q.n, c4, p.q.zs⟩⟩]) from ptCells_snoc (p := ⟨p.x0, p.y0, p.x1, p.y1, ⟨A3, p.o.n, c3, p.o.zs⟩, ⟨A4, p.q.n, c4, p.q.zs⟩⟩)] at H109
    refine fn_next ?_
    refine cw_seq ?_
    refine cw_seq ?_
    refine cw_reg ?_
    refine ry (y_mov rfl rfl) rfl rfl ?_
    refine ry (y_nilck rfl rfl) rfl rfl ?_
    refine ry (y_fa rfl rfl kfpast2_6 rfl) rfl rfl ?_
    refine ry (y_ld rfl rfl kfpast2_8 (H109.cell (i := 0) rfl rfl)) rfl rfl ?_
    refine ry (y_len rfl Try.underlying22 rfl) rfl rfl ?_
    refine ry (y_gtr rfl rfl rfl) rfl rfl ?_
    refine reg_nil ?_
    refine fn_next ?_
    refine cw_condd rfl (fun h111 => ?_) (fun h111 => ?_)
    · exfalso; omega
    ·skip
     refine cw_skip ?_
     refine fn_next ?_
     refine cw_seq ?_
     refine cw_reg ?_
     refine ry (y_mov rfl rfl) rfl rfl ?_
     refine ry (y_mov rfl rfl) rfl rfl ?_
     refine ry (y_nilck rfl rfl) rfl rfl ?_
     refine ry (y_fa rfl rfl kfpast2_6 rfl) rfl rfl ?_
     refine ry (y_ld rfl rfl kfpast2_8 (H109.cell (i := 0) rfl rfl)) rfl rfl ?_
     refine ry (y_len rfl Try.underlying22 rfl) rfl rfl ?_
     refine ry (y_nilck rfl rfl) rfl rfl ?_
     refine ry (y_fa rfl rfl kfpast2_7 rfl) rfl rfl ?_
     refine reg_op (op_st (i := 0) (vs := [.int _ _]) H109 rfl rfl rfl rfl rfl kfpast2_15 rfl rfl rfl) rfl rfl ?_
     rintro _ w112 H113
     refine reg_nil ?_
     refine fn_next ?_
     refine cw_seq ?_
     refine cw_reg ?_
     refine ry (y_asg rfl rfl) rfl rfl ?_
     refine reg_nil ?_
     refine fn_next ?_
     refine cw_ret ?_
     refine fn_ret1 rfl rfl ?_
     have hel : (es.take d ++ [(⟨p.x0, p.y0, p.x1, p.y1, ⟨A3, p.o.n, c3, p.o.zs⟩, ⟨A4, p.q.n, c4, p.q.zs⟩⟩ : Pt)]).length = d + 1 := by rw [List.length_append, List.length_take]; simp; omega
     refine ⟨A2, cap2, es.take d ++ [(⟨p.x0, p.y0, p.x1, p.y1, ⟨A3, p.o.n, c3, p.o.zs⟩, ⟨A4, p.q.n, c4, p.q.zs⟩⟩ : Pt)], ?_, rfl, ?_⟩
     · unfold pvDid; rw [if_pos hlt, List.map_append, List.map_take]; rfl
     rw [hel]
     have HA : HS w0 _ (obA Pt.obs (es.take d ++ [(⟨p.x0, p.y0, p.x1, p.y1, ⟨A3, p.o.n, c3, p.o.zs⟩, ⟨A4, p.q.n, c4, p.q.zs⟩⟩ : Pt)]) :: _) := HS.snocA (f := Pt.obs) (HS.perm (HS.subA (ys := es.take d) ((H113.pickT (p := [_, _, _, _, _]) (m := [_, _, _, _, _]) [4, 2, 3, 0, 1] rfl (by decide))) (List.take_sublist _ _)) (List.perm_append_comm (l₁ := [_]) (l₂ := [_, _])|>.append_right _))
     exact HA.pickT (p := [_, _, _]) (m := [_, _, _]) [1, 2, 0] rfl (by decide)

set_option maxRecDepth 100000 in
set_option maxHeartbeats 1000000 in
theorem pDid0_hi (w0 : World) (l : List Ob) (b : Nat) (A : Option Addr) (cap : Nat) (es : List Pt) (d : Nat) (p : Pt) (w : World) (hp : ∀ X, HS w0 X l → p.ok X) (mo : p.o.n ≤ 16777216) (mq : p.q.n ≤ 16777216) (hr : p.rightP) (ho : 0 < p.o.n) (hd : d ≤ es.length) (hb : es.length ≤ 40) (hlt : d = 40) (H0 : HS w0 w (Ob.blk b [.slice A es.length cap, .int .i64 (d : Int)] 79 :: Ob.row A es.length cap (ptCells es) 30 6 :: obA Pt.obs es :: l)) :
    Ret Try.prog 10 [.pointer (some ⟨b, 0, none⟩), .agg #[.int .i64 p.x0, .int .i64 p.y0, .int .i64 p.x1, .int .i64 p.y1, .slice p.o.A p.o.n p.o.c, .slice p.q.A p.q.n p.q.c]] w (fun z w' => ∃ A' cap' es', es'.map Pt.pv = pvDid (es.map Pt.pv) d p.pv ∧ z = .int .i64 0 ∧ HS w0 w' (Ob.blk b [.slice A' es'.length cap', .int .i64 (es'.length : Int)] 79 :: Ob.row A' es'.length cap' (ptCells es') 30 6 :: obA Pt.obs es' :: l)) := by
 have hnc := (H0.len (i := 1) rfl).2.1
 have hdc : d ≤ cap := by omega
 refine ret_enter Try.func10 rfl rfl rfl ?_
 refine cw_seq ?_
 refine cw_reg ?_
 refine reg_op (op_box (cs := [.int _ _, .int _ _, .int _ _, .int _ _, .slice _ _ _, .slice _ _ _]) H0 rfl rfl rfl) rfl rfl ?_
 rintro _ w2 ⟨b1, rfl, H3⟩
 refine ry (y_asg rfl rfl) rfl rfl ?_
 refine reg_nil ?_
 refine fn_next ?_
 refine cw_seq ?_
 refine cw_block ?_
 refine cw_seq ?_
 refine cw_reg ?_
 refine ry (y_mov rfl rfl) rfl rfl ?_
 refine ry (y_peqlnil rfl Try.underlying24 rfl rfl) rfl rfl ?_
 refine ry (y_asg rfl rfl) rfl rfl ?_
 refine reg_nil ?_
 refine fn_next ?_
 refine cw_condf rfl ?_
 refine cw_seq ?_
 refine cw_reg ?_
 refine ry (y_ldb (i := 0) (cs := [_, _, _, _, _, _]) H3 rfl rfl kfpast2_1 rfl rfl) rfl rfl ?_
 refine reg_op (op_call (patRight p _ (hp _ (H3.tail.tail.tail.tail)) mo mq) rfl kfpast2_2 ⟨rfl, trivial⟩) rfl rfl ?_
 rintro _ w5 ⟨rfl, e4⟩
 have H6 := H3.ext e4
 refine ry (y_notd rfl rfl) rfl rfl ?_
 refine ry (y_asg rfl rfl) rfl rfl ?_
 refine reg_nil ?_
 refine fn_next ?_
 refine cw_condd rfl (fun h7 => ?_) (fun h7 => ?_)
 · exact absurd hr h7
 ·skip
  refine cw_seq ?_
  refine cw_reg ?_
  refine ry (y_fa rfl rfl kfpast2_3 rfl) rfl rfl ?_
  refine ry (y_ld rfl rfl kfpast2_4 (H6.cell (i := 0) rfl rfl)) rfl rfl ?_
  refine ry (y_len rfl Try.underlying28 rfl) rfl rfl ?_
  refine ry (y_eql rfl rfl rfl) rfl rfl ?_
  refine ry (y_asg rfl rfl) rfl rfl ?_
  refine reg_nil ?_
  refine fn_next ?_
  refine cw_condd rfl (fun h8 => ?_) (fun h8 => ?_)
  · exfalso; omega
  ·skip
   refine cw_skip ?_
   refine fn_block ?_
   refine fn_next ?_
   refine cw_seq ?_
   refine cw_drawT H6 [0, 1, 2, 3, 5, 6, 7, 11] (.alt (.step 4 (.step 8 (.step 9 (.step 10 (.step 12 (.step 13 (.step 14 (.step 15 (.step 16 (.step 17 (.leaf))))))))))) (.step 8 (.step 4 (.step 9 (.step 10 (.step 12 (.step 13 (.step 14 (.step 15 (.step 16 (.step 17 (.leaf)))))))))))) (fun X HX => (HX.pickT (p := [_, _, _, _]) (m := [_]) [0] rfl (by decide))) (by kernel_rfl) (by kernel_rfl) (by rfl) ?_
   simp only [pick, List.getElem?_cons_succ, List.getElem?_cons_zero]
   refine hk_y (fun Y HY => y_mov rfl rfl) rfl rfl ?_
   refine hk_y (fun Y HY => y_mov rfl rfl) rfl rfl ?_
   refine hk_y (fun Y HY => y_nilck rfl rfl) rfl rfl ?_
   refine hk_y (fun Y HY => y_fa rfl rfl kfpast2_6 rfl) rfl rfl ?_
   refine hk_y (fun Y HY => y_mov rfl rfl) rfl rfl ?_
   refine hk_y (fun Y HY => y_nilck rfl rfl) rfl rfl ?_
   refine hk_y (fun Y HY => y_fa rfl rfl kfpast2_7 rfl) rfl rfl ?_
   refine hk_y (fun Y HY => y_ldb (i := 0) (cs := [_, _, _, _, _, _]) HY rfl rfl kfpast2_1 rfl rfl) rfl rfl ?_
   refine hkt_nil [21, 25, 26, 27, 29, 30, 31, 32, 33] (fun M wl => ∃ (A2 : Option Addr) (cap2 : Nat) (A3 : Option Addr) (c3 : Nat) (A4 : Option Addr) (c4 : Nat), M = [] ∧ HS w0 wl (Ob.blk b [.slice A2 (d + 1) cap2, .int .i64 (d : Int)] 79 :: Ob.row A2 (d + 1) cap2 (ptCells (es.take d) ++ [.int .i64 p.x0, .int .i64 p.y0, .int .i64 p.x1, .int .i64 p.y1, .slice A3 p.o.n c3, .slice A4 p.q.n c4]) 30 6 :: Ob.row A3 p.o.n c3 (vi .i64 p.o.zs) 2 1 :: Ob.row A4 p.q.n c4 (vi .i64 p.q.zs) 2 1 :: obA Pt.obs es :: l)) (fun wX HX => ?_) ?_
   ·skip
    refine tt_alt ?_ ?_
    ·skip
     refine tt_op rfl (Yd.op (y_ld rfl rfl kfpast2_8 (HX.cell (i := 1) rfl rfl))) rfl rfl ?_
     rintro _ _ ⟨rfl, rfl⟩
     refine ⟨(HX.pickT (p := [_, _, _, _]) (m := [_]) [0] rfl (by decide)), fun w9 e11 => ?_⟩
     have H10 := HX.ext e11
     refine tt_op rfl (Yd.op (y_ld rfl rfl kfpast2_9 (H10.cell (i := 1) rfl rfl))) rfl rfl ?_
     rintro _ _ ⟨rfl, rfl⟩
     refine ⟨(H10.pickT (p := [_, _, _, _]) (m := [_]) [0] rfl (by decide)), fun w12 e14 => ?_⟩
     have H13 := H10.ext e14
     refine tt_op rfl (Yd.op (yv (congrArg (fun B => Value.slice B d cap) subA_zero) (y_sh (hi := d) rfl rfl rfl kfpast2_5 rfl hdc))) rfl rfl ?_
     rintro _ _ ⟨rfl, rfl⟩
     refine ⟨(H13.pickT (p := [_, _, _, _]) (m := [_]) [0] rfl (by decide)), fun w15 e17 => ?_⟩
     have H16 := H13.ext e17
     refine tt_op rfl (op_call (clipP A d cap _ hdc) rfl kfpast2_10 ⟨rfl, trivial⟩) rfl rfl ?_
     rintro _ w19 ⟨rfl, e18⟩
     have H20 := H16.ext e18
     refine ⟨(H20.pickT (p := [_, _, _, _]) (m := [_]) [0] rfl (by decide)), fun w21 e23 => ?_⟩
     have H22 := H20.ext e23
     refine tt_op rfl (op_call (pastOwn p _ (hp _ (H22.tail.tail.tail.tail)) mo mq) rfl kfpast2_11 ⟨rfl, trivial⟩) rfl rfl ?_
     rintro _ w25 ⟨A27, c28, B29, d30, rfl, k24⟩
     have H26 := H22.call k24
     refine ⟨(H26.pickT (p := [_, _, _, _, _, _]) (m := [_]) [2] rfl (by decide)), fun w31 e33 => ?_⟩
     have H32 := H26.ext e33
     refine tt_op rfl (op_litL (parts := [(0, _)]) (vs := [(0, _)]) (cs := [.int _ _, .int _ _, .int _ _, .int _ _, .slice _ _ _, .slice _ _ _]) [(0, [_, _, _, _, _, _])] H32 rfl Try.underlying22 kfpast2_12 rfl ⟨rfl, trivial⟩ rfl rfl rfl) rfl rfl ?_
     rintro _ w35 ⟨b34, rfl, H36⟩
     have H37 := H36.asrow (m := 1) (size := 6) rfl (by decide)
     refine ⟨(H37.pickT (p := [_, _, _, _, _, _, _]) (m := [_]) [3] rfl (by decide)), fun w38 e40 => ?_⟩
     have H39 := H37.ext e40
     refine tt_op rfl (op_appx (k := d) (m := 1) (xs := ptCells (es.take d)) H39 (by rw [← ptCells_take]; exact (H39.rd (i := 5) rfl).take _) (by rw [pt_len, List.length_take]; omega) rfl rfl rfl (H39.rd (i := 0) rfl) (rfl) Try.underlying22 kfpast2_13 rfl rfl (by unfold maxLen; omega) (by omega) (by omega)) rfl rfl ?_
     rintro _ w43 ⟨A41, c42, rfl, H44⟩
     refine ⟨(H44.pickT (p := [_, _, _, _, _, _, _, _]) (m := [_]) [4] rfl (by decide)), fun w45 e47 => ?_⟩
     have H46 := H44.ext e47
     refine tt_op rfl (Yd.op (y_nilck rfl rfl)) rfl rfl ?_
     rintro _ _ ⟨rfl, rfl⟩
     refine ⟨(H46.pickT (p := [_, _, _, _, _, _, _, _]) (m := [_]) [4] rfl (by decide)), fun w48 e50 => ?_⟩
     have H49 := H46.ext e50
     refine tt_op rfl (Yd.op (y_fa rfl rfl kfpast2_6 rfl)) rfl rfl ?_
     rintro _ _ ⟨rfl, rfl⟩
     refine ⟨(H49.pickT (p := [_, _, _, _, _, _, _, _]) (m := [_]) [4] rfl (by decide)), fun w51 e53 => ?_⟩
     have H52 := H49.ext e53
     refine tt_op rfl (op_st (i := 5) (vs := [.slice _ _ _]) H52 rfl rfl rfl rfl rfl kfpast2_14 rfl rfl rfl) rfl rfl ?_
     rintro _ w54 H55
     refine ⟨(H55.pickT (p := [_, _, _, _, _, _, _, _]) (m := [_]) [4] rfl (by decide)), fun w56 e58 => ?_⟩
     have H57 := H55.ext e58
     exact tt_leaf ⟨A41, c42, A27, c28, B29, d30, rfl, (H57.pickT (p := [_, _, _, _, _, _, _, _]) (m := [_, _, _, _, _]) [5, 0, 2, 3, 7] rfl (by decide))⟩ trivial (by repeat (first | exact kp_refl | refine kp_app rfl rfl ?_ | refine kp_cons rfl ?_))
    refine tt_op rfl (Yd.op (y_ld rfl rfl kfpast2_9 (HX.cell (i := 1) rfl rfl))) rfl rfl ?_
    rintro _ _ ⟨rfl, rfl⟩
    refine ⟨(HX.pickT (p := [_, _, _, _]) (m := [_]) [0] rfl (by decide)), fun w59 e61 => ?_⟩
    have H60 := HX.ext e61
    refine tt_op rfl (Yd.op (y_ld rfl rfl kfpast2_8 (H60.cell (i := 1) rfl rfl))) rfl rfl ?_
    rintro _ _ ⟨rfl, rfl⟩
    refine ⟨(H60.pickT (p := [_, _, _, _]) (m := [_]) [0] rfl (by decide)), fun w62 e64 => ?_⟩
    have H63 := H60.ext e64
    refine tt_op rfl (Yd.op (yv (congrArg (fun B => Value.slice B d cap) subA_zero) (y_sh (hi := d) rfl rfl rfl kfpast2_5 rfl hdc))) rfl rfl ?_
    rintro _ _ ⟨rfl, rfl⟩
    refine ⟨(H63.pickT (p := [_, _, _, _]) (m := [_]) [0] rfl (by decide)), fun w65 e67 => ?_⟩
    have H66 := H63.ext e67
    refine tt_op rfl (op_call (clipP A d cap _ hdc) rfl kfpast2_10 ⟨rfl, trivial⟩) rfl rfl ?_
    rintro _ w69 ⟨rfl, e68⟩
    have H70 := H66.ext e68
    refine ⟨(H70.pickT (p := [_, _, _, _]) (m := [_]) [0] rfl (by decide)), fun w71 e73 => ?_⟩
    have H72 := H70.ext e73
    refine tt_op rfl (op_call (pastOwn p _ (hp _ (H72.tail.tail.tail.tail)) mo mq) rfl kfpast2_11 ⟨rfl, trivial⟩) rfl rfl ?_
    rintro _ w75 ⟨A77, c78, B79, d80, rfl, k74⟩
    have H76 := H72.call k74
    refine ⟨(H76.pickT (p := [_, _, _, _, _, _]) (m := [_]) [2] rfl (by decide)), fun w81 e83 => ?_⟩
    have H82 := H76.ext e83
    refine tt_op rfl (op_litL (parts := [(0, _)]) (vs := [(0, _)]) (cs := [.int _ _, .int _ _, .int _ _, .int _ _, .slice _ _ _, .slice _ _ _]) [(0, [_, _, _, _, _, _])] H82 rfl Try.underlying22 kfpast2_12 rfl ⟨rfl, trivial⟩ rfl rfl rfl) rfl rfl ?_
    rintro _ w85 ⟨b84, rfl, H86⟩
    have H87 := H86.asrow (m := 1) (size := 6) rfl (by decide)
    refine ⟨(H87.pickT (p := [_, _, _, _, _, _, _]) (m := [_]) [3] rfl (by decide)), fun w88 e90 => ?_⟩
    have H89 := H87.ext e90
    refine tt_op rfl (op_appx (k := d) (m := 1) (xs := ptCells (es.take d)) H89 (by rw [← ptCells_take]; exact (H89.rd (i := 5) rfl).take _) (by rw [pt_len, List.length_take]; omega) rfl rfl rfl (H89.rd (i := 0) rfl) (rfl) Try.underlying22 kfpast2_13 rfl rfl (by unfold maxLen; omega) (by omega) (by omega)) rfl rfl ?_
    rintro _ w93 ⟨A91, c92, rfl, H94⟩
    refine ⟨(H94.pickT (p := [_, _, _, _, _, _, _, _]) (m := [_]) [4] rfl (by decide)), fun w95 e97 => ?_⟩
    have H96 := H94.ext e97
    refine tt_op rfl (Yd.op (y_nilck rfl rfl)) rfl rfl ?_
    rintro _ _ ⟨rfl, rfl⟩
    refine ⟨(H96.pickT (p := [_, _, _, _, _, _, _, _]) (m := [_]) [4] rfl (by decide)), fun w98 e100 => ?_⟩
    have H99 := H96.ext e100
    refine tt_op rfl (Yd.op (y_fa rfl rfl kfpast2_6 rfl)) rfl rfl ?_
    rintro _ _ ⟨rfl, rfl⟩
    refine ⟨(H99.pickT (p := [_, _, _, _, _, _, _, _]) (m := [_]) [4] rfl (by decide)), fun w101 e103 => ?_⟩
    have H102 := H99.ext e103
    refine tt_op rfl (op_st (i := 5) (vs := [.slice _ _ _]) H102 rfl rfl rfl rfl rfl kfpast2_14 rfl rfl rfl) rfl rfl ?_
    rintro _ w104 H105
    refine ⟨(H105.pickT (p := [_, _, _, _, _, _, _, _]) (m := [_]) [4] rfl (by decide)), fun w106 e108 => ?_⟩
    have H107 := H105.ext e108
    exact tt_leaf ⟨A91, c92, A77, c78, B79, d80, rfl, (H107.pickT (p := [_, _, _, _, _, _, _, _]) (m := [_, _, _, _, _]) [5, 0, 2, 3, 7] rfl (by decide))⟩ trivial (by repeat (first | exact kp_refl | refine kp_app rfl rfl ?_ | refine kp_cons rfl ?_))
   ·skip
    rintro M w110 ⟨A2, cap2, A3, c3, A4, c4, rfl, H109⟩
    rw [show ptCells (es.take d) ++ [.int .i64 p.x0, .int .i64 p.y0, .int .i64 p.x1, .int .i64 p.y1, .slice A3 p.o.n c3, .slice A4 p.q.n c4] = ptCells (es.take d ++ [⟨p.x0, p.y0, p.x1, p.y1, ⟨A3, p.o.n, c3, p.o.zs⟩, ⟨A4, p.q.n, c4, p.q.zs⟩⟩]) from ptCells_snoc (p := ⟨p.x0, p.y0, p.x1, p.y1, ⟨A3, p.o.n, c3, p.o.zs⟩, ⟨A4, p.q.n, c4, p.q.zs⟩⟩)] at H109
    refine fn_next ?_
    refine cw_seq ?_
    refine cw_seq ?_
    refine cw_reg ?_
    refine ry (y_mov rfl rfl) rfl rfl ?_
    refine ry (y_nilck rfl rfl) rfl rfl ?_
    refine ry (y_fa rfl rfl kfpast2_6 rfl) rfl rfl ?_
    refine ry (y_ld rfl rfl kfpast2_8 (H109.cell (i := 0) rfl rfl)) rfl rfl ?_
    refine ry (y_len rfl Try.underlying22 rfl) rfl rfl ?_
    refine ry (y_gtr rfl rfl rfl) rfl rfl ?_
    refine reg_nil ?_
    refine fn_next ?_
    refine cw_condd rfl (fun h111 => ?_) (fun h111 => ?_)
    ·skip
     refine cw_reg ?_
     refine ry (y_mov rfl rfl) rfl rfl ?_
     refine ry (y_mov rfl rfl) rfl rfl ?_
     refine ry (y_nilck rfl rfl) rfl rfl ?_
     refine ry (y_fa rfl rfl kfpast2_6 rfl) rfl rfl ?_
     refine ry (y_ld rfl rfl kfpast2_8 (H109.cell (i := 0) rfl rfl)) rfl rfl ?_
     refine reg_op (op_call (patDelN w0 _ A2 cap2 (d + 1) (es.take d ++ [⟨p.x0, p.y0, p.x1, p.y1, ⟨A3, p.o.n, c3, p.o.zs⟩, ⟨A4, p.q.n, c4, p.q.zs⟩⟩]) _ (by rw [List.length_append, List.length_take]; simp; omega) (by omega) (by omega) (H109.pickT (p := [_, _, _, _, _]) (m := [_, _, _, _, _]) [1, 0, 2, 3, 4] rfl (by decide))) rfl kfpast2_16 ⟨rfl, rfl, rfl, trivial⟩) rfl rfl ?_
     rintro _ w113 ⟨rfl, H112⟩
     refine ry (y_nilck rfl rfl) rfl rfl ?_
     refine ry (y_fa rfl rfl kfpast2_6 rfl) rfl rfl ?_
     refine reg_op (op_st (i := 1) (vs := [.slice _ _ _]) H112 rfl rfl rfl rfl rfl kfpast2_14 rfl rfl rfl) rfl rfl ?_
     rintro _ w114 H115
     refine reg_nil ?_
     refine fn_next ?_
     refine cw_seq ?_
     refine cw_reg ?_
     refine ry (y_mov rfl rfl) rfl rfl ?_
     refine ry (y_mov rfl rfl) rfl rfl ?_
     refine ry (y_nilck rfl rfl) rfl rfl ?_
     refine ry (y_fa rfl rfl kfpast2_6 rfl) rfl rfl ?_
     refine ry (y_ld rfl rfl kfpast2_8 (H115.cell (i := 1) rfl rfl)) rfl rfl ?_
     refine ry (y_len rfl Try.underlying22 rfl) rfl rfl ?_
     refine ry (y_nilck rfl rfl) rfl rfl ?_
     refine ry (y_fa rfl rfl kfpast2_7 rfl) rfl rfl ?_
     refine reg_op (op_st (i := 1) (vs := [.int _ _]) H115 rfl rfl rfl rfl rfl kfpast2_15 rfl rfl rfl) rfl rfl ?_
     rintro _ w116 H117
     refine reg_nil ?_
     refine fn_next ?_
     refine cw_seq ?_
     refine cw_reg ?_
     refine ry (y_asg rfl rfl) rfl rfl ?_
     refine reg_nil ?_
     refine fn_next ?_
     refine cw_ret ?_
     refine fn_ret1 rfl rfl ?_
     have hel : ((es.take d ++ [(⟨p.x0, p.y0, p.x1, p.y1, ⟨A3, p.o.n, c3, p.o.zs⟩, ⟨A4, p.q.n, c4, p.q.zs⟩⟩ : Pt)]).drop 1).length = d + 1 - 1 := by rw [List.length_drop, List.length_append, List.length_take]; simp; omega
     refine ⟨A2, cap2, (es.take d ++ [(⟨p.x0, p.y0, p.x1, p.y1, ⟨A3, p.o.n, c3, p.o.zs⟩, ⟨A4, p.q.n, c4, p.q.zs⟩⟩ : Pt)]).drop 1, ?_, rfl, ?_⟩
     · unfold pvDid; rw [if_neg (by omega), List.map_drop, List.map_append, List.map_take]; rfl
     rw [hel]
     have HA : HS w0 _ (obA Pt.obs (es.take d ++ [(⟨p.x0, p.y0, p.x1, p.y1, ⟨A3, p.o.n, c3, p.o.zs⟩, ⟨A4, p.q.n, c4, p.q.zs⟩⟩ : Pt)]) :: _) := HS.snocA (f := Pt.obs) (HS.perm (HS.subA (ys := es.take d) ((H117.pickT (p := [_, _, _, _, _]) (m := [_, _, _, _, _]) [4, 2, 3, 1, 0] rfl (by decide))) (List.take_sublist _ _)) (List.perm_append_comm (l₁ := [_]) (l₂ := [_, _])|>.append_right _))
     exact (HA.subA (List.drop_sublist 1 _)).pickT (p := [_, _, _]) (m := [_, _, _]) [1, 2, 0] rfl (by decide)
    · exfalso; omega

end Go.Proofs.Ytgkkbeomhkggjaa
