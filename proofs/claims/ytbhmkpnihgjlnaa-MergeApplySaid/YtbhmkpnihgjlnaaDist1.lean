/- Layer 43: the sweeps. -/
import Derived.Test.YtbhmkpnihgjlnaaPlain43c
import Derived.Test.YtbhmkpnihgjlnaaLand
import Derived.Test.YtbhmkpnihgjlnaaK12
set_option linter.unusedVariables false
set_option linter.unusedSimpArgs false
namespace Go.Proofs.Ytbhmkpnihgjlnaa
open Go Go.RowKit
theorem kfdist1_1 : fldB Try.prog 93 1 1 = true := by kernel_rfl
theorem kfdist1_2 : oneB Try.prog 22 = true := by kernel_rfl
theorem kfdist1_3 : elB Try.prog 22 1 = true := by kernel_rfl
theorem kfdist1_4 : oneB Try.prog 2 = true := by kernel_rfl
theorem kfdist1_5 : szB Try.prog 2 1 = true := by kernel_rfl
theorem kfdist1_6 : (Try.prog.info? 46).bind (fun i => i.zero.map Value.cells) = some (List.toArray [(.int .i64 0), (.int .i64 0)]) := by kernel_rfl
theorem kfdist1_7 : fldB Try.prog 93 0 0 = true := by kernel_rfl
theorem kfdist1_8 : oneB Try.prog 3 = true := by kernel_rfl
theorem kfdist1_9 : szB Try.prog 46 2 = true := by kernel_rfl
theorem kfdist1_10 : aggB Try.prog 46 2 = true := by kernel_rfl
theorem kfdist1_11 : (Try.prog.info? 93).bind (fun i => i.zero.map Value.cells) = some (List.toArray [(.int .i64 0), (.slice none 0 0)]) := by kernel_rfl
theorem kfdist1_12 : callB Try.prog 59 = true := by kernel_rfl
theorem kfdist1_13 : callB Try.prog 58 = true := by kernel_rfl
theorem kfdist1_14 : callB Try.prog 62 = true := by kernel_rfl
theorem kfdist1_15 : (Try.prog.info? 2).map (fun i => (i.zero.map (·.cells.toList), i.size, i.bytes)) = some (some [(.int .i64 0)], 1, 8) := by kernel_rfl
theorem kfdist1_16 : szB Try.prog 93 2 = true := by kernel_rfl
theorem kfdist1_17 : aggB Try.prog 93 2 = true := by kernel_rfl
theorem kfdist1_18 : callB Try.prog 91 = true := by kernel_rfl
/-- a slot in other words -/
theorem cw_know {P : Program} {n : Nat} {Q : Exit → Act → World → Prop} {L : Fr} {w : World} {c : Code} {d : Nat} {v u : Value} (hv : lk L d = some v) (e : v = u) (k : Cw P n Q c ((d, u) :: L) w) : Cw P n Q c L w := fun a ha => k a (rep_know ha (by rw [hv, e]))

set_option maxRecDepth 100000 in
theorem dLower (w0 : World) (l : List Ob) (D : List Int) (A : Option Addr) (n cap a i j : Nat) (w : World) (hl : D.length = n) (hi : i < n) (hj : j < n) (hb : ∀ k, k < n → 0 ≤ nth D k ∧ nth D k ≤ 4096) (H0 : HS w0 w (Ob.row A n cap (vi .i64 (D)) 2 1 :: l)) :
    Ret Try.prog 91 [.agg #[.int .i64 (a : Int), .slice A n cap], .int .i64 (i : Int), .int .i64 (j : Int)] w (fun z w' => z = .tuple #[] ∧ HS w0 w' (Ob.row A n cap (vi .i64 (lowD D i j)) 2 1 :: l)) := by
 have b1 := hb i hi
 have b2 := hb j hj
 have hA := H0.addr (i := 0) rfl (show 0 < n by omega)
 have g1 := vi_get (k := .i64) (zs := D) (i := i) (by omega)
 have g2 := vi_get (k := .i64) (zs := D) (i := j) (by omega)
 refine ret_enter Try.func91 rfl rfl rfl ?_
 refine cw_seq ?_
 refine cw_reg ?_
 refine reg_op (op_box (cs := [.int _ _, .slice _ _ _]) H0 rfl rfl rfl) rfl rfl ?_
 rintro _ w2 ⟨b1, rfl, H3⟩
 refine reg_nil ?_
 refine fn_next ?_
 refine cw_drawT H3 [0, 1, 2, 3, 4, 5, 6, 8, 9, 10, 11] (.alt (.step 7 (.step 12 (.step 13 (.step 14 (.step 15 (.step 16 (.leaf))))))) (.step 12 (.alt (.step 7 (.step 13 (.step 14 (.step 15 (.step 16 (.leaf)))))) (.step 13 (.step 7 (.step 14 (.step 15 (.step 16 (.leaf))))))))) (fun X HX => (HX.pickT (p := [_, _]) (m := [_]) [0] rfl (by decide))) (by kernel_rfl) (by kernel_rfl) (by rfl) ?_
 simp only [pick, List.getElem?_cons_succ, List.getElem?_cons_zero]
 refine hk_y (fun Y HY => y_fa rfl rfl kfdist1_1 rfl) rfl rfl ?_
 refine hk_y (fun Y HY => y_ld rfl rfl kfdist1_2 (HY.cell (i := 0) rfl rfl)) rfl rfl ?_
 refine hk_y (fun Y HY => y_mov rfl rfl) rfl rfl ?_
 refine hk_y (fun Y HY => y_fa rfl rfl kfdist1_1 rfl) rfl rfl ?_
 refine hk_y (fun Y HY => y_ld rfl rfl kfdist1_2 (HY.cell (i := 0) rfl rfl)) rfl rfl ?_
 refine hk_y (fun Y HY => y_mov rfl rfl) rfl rfl ?_
 refine hk_y (fun Y HY => y_iae (hA) rfl rfl rfl kfdist1_3 (rfl) (by omega) (Nat.mul_one _)) rfl rfl ?_
 refine hk_y (fun Y HY => y_fa rfl rfl kfdist1_1 rfl) rfl rfl ?_
 refine hk_y (fun Y HY => y_ld rfl rfl kfdist1_2 (HY.cell (i := 0) rfl rfl)) rfl rfl ?_
 refine hk_y (fun Y HY => y_mov rfl rfl) rfl rfl ?_
 refine hk_y (fun Y HY => y_iae (hA) rfl rfl rfl kfdist1_3 (rfl) (by omega) (Nat.mul_one _)) rfl rfl ?_
 refine hkt_nil [13, 18, 19, 20, 21] (fun M wl => M = [] ∧ HS w0 wl (Ob.row A n cap (vi .i64 (lowD D i j)) 2 1 :: Ob.blk b1 [.int .i64 (a : Int), .slice A n cap] 93 :: l)) (fun wX HX => ?_) ?_
 ·skip
  refine tt_alt ?_ ?_
  ·skip
   refine tt_op rfl (Yd.op (y_ldr (HX.rd (i := 1) rfl) rfl rfl kfdist1_4 (g1))) rfl rfl ?_
   rintro _ _ ⟨rfl, rfl⟩
   refine ⟨(HX.pickT (p := [_, _]) (m := [_]) [0] rfl (by decide)), fun w4 e6 => ?_⟩
   have H5 := HX.ext e6
   refine tt_op rfl (Yd.op (y_ldr (H5.rd (i := 1) rfl) rfl rfl kfdist1_4 (g2))) rfl rfl ?_
   rintro _ _ ⟨rfl, rfl⟩
   refine ⟨(H5.pickT (p := [_, _]) (m := [_]) [0] rfl (by decide)), fun w7 e9 => ?_⟩
   have H8 := H5.ext e9
   refine tt_op rfl (Yd.op (y_add rfl rfl rfl (wi (by omega)))) rfl rfl ?_
   rintro _ _ ⟨rfl, rfl⟩
   refine ⟨(H8.pickT (p := [_, _]) (m := [_]) [0] rfl (by decide)), fun w10 e12 => ?_⟩
   have H11 := H8.ext e12
   refine tt_op rfl (Yd.op (y_min rfl rfl rfl)) rfl rfl ?_
   rintro _ _ ⟨rfl, rfl⟩
   refine ⟨(H11.pickT (p := [_, _]) (m := [_]) [0] rfl (by decide)), fun w13 e15 => ?_⟩
   have H14 := H11.ext e15
   refine tt_op rfl (Yd.op (y_iae (hA) rfl rfl rfl kfdist1_3 (rfl) (by omega) (Nat.mul_one _))) rfl rfl ?_
   rintro _ _ ⟨rfl, rfl⟩
   refine ⟨(H14.pickT (p := [_, _]) (m := [_]) [0] rfl (by decide)), fun w16 e18 => ?_⟩
   have H17 := H14.ext e18
   refine tt_op rfl (op_ste (i := 1) (vs := [.int _ _]) H17 rfl rfl rfl rfl rfl kfdist1_5 rfl (by rw [vi_len, hl]; show i + 1 ≤ n; omega) rfl rfl) rfl rfl ?_
   rintro _ w19 H20
   refine ⟨(H20.pickT (p := [_, _]) (m := [_]) [0] rfl (by decide)), fun w21 e23 => ?_⟩
   have H22 := H20.ext e23
   rw [vi_set] at H22
   exact tt_leaf ⟨rfl, (H22.pickT (p := [_, _]) (m := [_, _]) [1, 0] rfl (by decide))⟩ trivial (by repeat (first | exact kp_refl | refine kp_app rfl rfl ?_ | refine kp_cons rfl ?_))
  refine tt_op rfl (Yd.op (y_ldr (HX.rd (i := 1) rfl) rfl rfl kfdist1_4 (g2))) rfl rfl ?_
  rintro _ _ ⟨rfl, rfl⟩
  refine ⟨(HX.pickT (p := [_, _]) (m := [_]) [0] rfl (by decide)), fun w24 e26 => ?_⟩
  have H25 := HX.ext e26
  refine tt_alt ?_ ?_
  ·skip
   refine tt_op rfl (Yd.op (y_ldr (H25.rd (i := 1) rfl) rfl rfl kfdist1_4 (g1))) rfl rfl ?_
   rintro _ _ ⟨rfl, rfl⟩
   refine ⟨(H25.pickT (p := [_, _]) (m := [_]) [0] rfl (by decide)), fun w27 e29 => ?_⟩
   have H28 := H25.ext e29
   refine tt_op rfl (Yd.op (y_add rfl rfl rfl (wi (by omega)))) rfl rfl ?_
   rintro _ _ ⟨rfl, rfl⟩
   refine ⟨(H28.pickT (p := [_, _]) (m := [_]) [0] rfl (by decide)), fun w30 e32 => ?_⟩
   have H31 := H28.ext e32
   refine tt_op rfl (Yd.op (y_min rfl rfl rfl)) rfl rfl ?_
   rintro _ _ ⟨rfl, rfl⟩
   refine ⟨(H31.pickT (p := [_, _]) (m := [_]) [0] rfl (by decide)), fun w33 e35 => ?_⟩
   have H34 := H31.ext e35
   refine tt_op rfl (Yd.op (y_iae (hA) rfl rfl rfl kfdist1_3 (rfl) (by omega) (Nat.mul_one _))) rfl rfl ?_
   rintro _ _ ⟨rfl, rfl⟩
   refine ⟨(H34.pickT (p := [_, _]) (m := [_]) [0] rfl (by decide)), fun w36 e38 => ?_⟩
   have H37 := H34.ext e38
   refine tt_op rfl (op_ste (i := 1) (vs := [.int _ _]) H37 rfl rfl rfl rfl rfl kfdist1_5 rfl (by rw [vi_len, hl]; show i + 1 ≤ n; omega) rfl rfl) rfl rfl ?_
   rintro _ w39 H40
   refine ⟨(H40.pickT (p := [_, _]) (m := [_]) [0] rfl (by decide)), fun w41 e43 => ?_⟩
   have H42 := H40.ext e43
   rw [vi_set] at H42
   exact tt_leaf ⟨rfl, (H42.pickT (p := [_, _]) (m := [_, _]) [1, 0] rfl (by decide))⟩ trivial (by repeat (first | exact kp_refl | refine kp_app rfl rfl ?_ | refine kp_cons rfl ?_))
  refine tt_op rfl (Yd.op (y_add rfl rfl rfl (wi (by omega)))) rfl rfl ?_
  rintro _ _ ⟨rfl, rfl⟩
  refine ⟨(H25.pickT (p := [_, _]) (m := [_]) [0] rfl (by decide)), fun w44 e46 => ?_⟩
  have H45 := H25.ext e46
  refine tt_op rfl (Yd.op (y_ldr (H45.rd (i := 1) rfl) rfl rfl kfdist1_4 (g1))) rfl rfl ?_
  rintro _ _ ⟨rfl, rfl⟩
  refine ⟨(H45.pickT (p := [_, _]) (m := [_]) [0] rfl (by decide)), fun w47 e49 => ?_⟩
  have H48 := H45.ext e49
  refine tt_op rfl (Yd.op (y_min rfl rfl rfl)) rfl rfl ?_
  rintro _ _ ⟨rfl, rfl⟩
  refine ⟨(H48.pickT (p := [_, _]) (m := [_]) [0] rfl (by decide)), fun w50 e52 => ?_⟩
  have H51 := H48.ext e52
  refine tt_op rfl (Yd.op (y_iae (hA) rfl rfl rfl kfdist1_3 (rfl) (by omega) (Nat.mul_one _))) rfl rfl ?_
  rintro _ _ ⟨rfl, rfl⟩
  refine ⟨(H51.pickT (p := [_, _]) (m := [_]) [0] rfl (by decide)), fun w53 e55 => ?_⟩
  have H54 := H51.ext e55
  refine tt_op rfl (op_ste (i := 1) (vs := [.int _ _]) H54 rfl rfl rfl rfl rfl kfdist1_5 rfl (by rw [vi_len, hl]; show i + 1 ≤ n; omega) rfl rfl) rfl rfl ?_
  rintro _ w56 H57
  refine ⟨(H57.pickT (p := [_, _]) (m := [_]) [0] rfl (by decide)), fun w58 e60 => ?_⟩
  have H59 := H57.ext e60
  rw [vi_set] at H59
  exact tt_leaf ⟨rfl, (H59.pickT (p := [_, _]) (m := [_, _]) [1, 0] rfl (by decide))⟩ trivial (by repeat (first | exact kp_refl | refine kp_app rfl rfl ?_ | refine kp_cons rfl ?_))
 ·skip
  rintro M w62 ⟨rfl, H61⟩
  refine fn_normal ?_
  refine fn_retn (vs := []) rfl trivial rfl ?_
  exact ⟨rfl, (H61.pickT (p := [_, _]) (m := [_]) [0] rfl (by decide))⟩

set_option maxRecDepth 100000 in
theorem dAt (a i n cap : Nat) (A : Option Addr) (w : World) (ha : 1 ≤ a) (hi : i ≤ 1048576) :
    Ret Try.prog 69 [.agg #[.int .i64 (a : Int), .slice A n cap], .int .i64 (i : Int)] w (fun z w' => z = .agg #[.int .i64 ((i % a : Nat) : Int), .int .i64 ((i / a : Nat) : Int)] ∧ Below w.heap.size w w') := by
 refine ret_enter Try.func69 rfl rfl rfl ?_
 have H0 := HS.start w
 refine cw_seq ?_
 refine cw_reg ?_
 refine reg_op (op_box (cs := [.int _ _, .slice _ _ _]) H0 rfl rfl rfl) rfl rfl ?_
 rintro _ w2 ⟨b1, rfl, H3⟩
 refine reg_op (op_alloc H3 rfl kfdist1_6) rfl rfl ?_
 rintro _ w5 ⟨b4, rfl, H6⟩
 refine reg_nil ?_
 refine fn_next ?_
 refine cw_seq ?_
 refine cw_draw H6 [0, 1, 2, 3, 4, 5, 6, 7, 8] [9] (fun X HX => (HX.pick (m := [_]) [1] rfl (by decide))) (by kernel_rfl) (by kernel_rfl) (by rfl) ?_
 simp only [pick, List.getElem?_cons_succ, List.getElem?_cons_zero]
 refine hk_y (fun Y HY => y_mov rfl rfl) rfl rfl ?_
 refine hk_y (fun Y HY => y_fa rfl rfl kfdist1_7 rfl) rfl rfl ?_
 refine hk_y (fun Y HY => y_ld rfl rfl kfdist1_8 (HY.cell (i := 0) rfl rfl)) rfl rfl ?_
 refine hk_y (fun Y HY => y_rem rfl rfl rfl (by omega) (remN)) rfl rfl ?_
 refine hk_y (fun Y HY => y_mov rfl rfl) rfl rfl ?_
 refine hk_y (fun Y HY => y_fa rfl rfl kfdist1_7 rfl) rfl rfl ?_
 refine hk_y (fun Y HY => y_ld rfl rfl kfdist1_8 (HY.cell (i := 0) rfl rfl)) rfl rfl ?_
 refine hk_y (fun Y HY => y_quo rfl rfl rfl (by omega) (quoN (by omega))) rfl rfl ?_
 refine hk_y (fun Y HY => y_build (places := [(0, 1), (1, 1)]) (parts := [(0, _), (1, _)]) (vs := [(0, _), (1, _)]) (cs := [.int _ _, .int _ _]) rfl Try.underlying46 (by kernel_rfl) kfdist1_6 rfl ⟨rfl, rfl, trivial⟩ rfl) rfl rfl ?_
 refine hk_nil ?_
 intro w7 H8
 refine tv_op (op_st (i := 0) (vs := [.int _ _, .int _ _]) H8 rfl rfl rfl rfl rfl kfdist1_9 rfl rfl rfl) rfl rfl ?_
 rintro _ w9 H10
 refine ⟨(H10.pick (m := [_]) [1] rfl (by decide)), fun w11 e13 => ?_⟩
 have H12 := H10.ext e13
 refine tv_nil ?_
 refine fn_next ?_
 refine cw_ret ?_
 refine fn_ret1 rfl (⟨_, rfl, load_agg (cs := [_, _]) kfdist1_10 rfl fun j v hv => by rw [Nat.zero_add]; exact H12.cell (i := 0) rfl hv⟩) ?_
 exact ⟨rfl, H12.base⟩

set_option maxRecDepth 100000 in
theorem dNone (a n cap : Nat) (A : Option Addr) (D : List Int) (w : World) (hr : Rd w A (vi .i64 D)) (hl : D.length = n) (hn : 1 ≤ n) :
    Ret Try.prog 56 [.agg #[.int .i64 (a : Int), .slice A n cap]] w (fun z w' => z = .bool (decide (nth D 0 ≥ 4096)) ∧ Below w.heap.size w w') := by
 have g0 := vi_get (k := .i64) (zs := D) (i := 0) (by omega)
 refine ret_enter Try.func56 rfl rfl rfl ?_
 have H0 := HS.start w
 refine cw_seq ?_
 refine cw_reg ?_
 refine reg_op (op_box (cs := [.int _ _, .slice _ _ _]) H0 rfl rfl rfl) rfl rfl ?_
 rintro _ w2 ⟨b1, rfl, H3⟩
 refine ry (y_asg rfl rfl) rfl rfl ?_
 refine reg_nil ?_
 refine fn_next ?_
 refine cw_seq ?_
 refine cw_reg ?_
 refine ry (y_fa rfl rfl kfdist1_1 rfl) rfl rfl ?_
 refine ry (y_ld rfl rfl kfdist1_2 (H3.cell (i := 0) rfl rfl)) rfl rfl ?_
 refine ry (y_iar (i := 0) (hr.below H3.base) rfl rfl rfl kfdist1_3 (rfl) (by omega) (Nat.mul_one _) (g0)) rfl rfl ?_
 refine ry (y_ldr (hr.below H3.base) rfl rfl kfdist1_4 (g0)) rfl rfl ?_
 refine ry (y_geq rfl rfl rfl) rfl rfl ?_
 refine ry (y_asg rfl rfl) rfl rfl ?_
 refine reg_nil ?_
 refine fn_next ?_
 refine cw_ret ?_
 refine fn_ret1 rfl rfl ?_
 exact ⟨rfl, H3.base⟩

set_option maxRecDepth 100000 in
theorem dOf (g a h : Nat) (V : List Int) (t : Int) (w : World) (R : GRd w g a h V) :
    Ret Try.prog 55 [.pointer (some ⟨g, 0, none⟩), .int .i64 t] w (fun z w' => ∃ A cap D, z = .tuple #[.agg #[.int .i64 (a : Int), .slice A (a * h) cap], .int .i64 0] ∧ HS w w' [.row A (a * h) cap (vi .i64 (D)) 2 1] ∧ DOk V D a t) := by
 have hgv := R.gv
 have ha : 0 < a := hgv.a1
 have ha2 := hgv.a2
 have hm := hgv.sz.mul
 refine ret_enter Try.func55 rfl rfl rfl ?_
 have H0 := HS.start w
 refine cw_seq ?_
 refine cw_reg ?_
 refine reg_op (op_alloc H0 rfl kfdist1_11) rfl rfl ?_
 rintro _ w2 ⟨b1, rfl, H3⟩
 refine ry (y_asg rfl rfl) rfl rfl ?_
 refine reg_nil ?_
 refine fn_next ?_
 refine cw_seq ?_
 refine cw_reg ?_
 refine ry (y_mov rfl rfl) rfl rfl ?_
 refine ry (y_mov rfl rfl) rfl rfl ?_
 refine reg_op (op_call (gAll g a h (V)  _ (R.below H3.base)) rfl kfdist1_12 ⟨rfl, trivial⟩) rfl rfl ?_
 rintro _ w5 ⟨rfl, e4⟩
 have H6 := H3.ext e4
 refine reg_op (op_call (gValuesAll g a h (V) _ (R.below H6.base)) rfl kfdist1_13 ⟨rfl, rfl, trivial⟩) rfl rfl ?_
 rintro _ w8 ⟨A10, c11, rfl, k7⟩
 have H9 := H6.call k7
 refine ry (y_mov rfl rfl) rfl rfl ?_
 refine ry (y_ext rfl rfl rfl) rfl rfl ?_
 refine ry (y_ext rfl rfl rfl) rfl rfl ?_
 refine ry (y_asg rfl rfl) rfl rfl ?_
 refine ry (y_asg rfl rfl) rfl rfl ?_
 refine reg_nil ?_
 refine fn_next ?_
 refine cw_seq ?_
 refine cw_seq ?_
 refine cw_reg ?_
 refine ry (y_mov rfl rfl) rfl rfl ?_
 refine ry (y_neq rfl rfl rfl) rfl rfl ?_
 refine reg_nil ?_
 refine fn_next ?_
 refine cw_condd rfl (fun h12 => ?_) (fun h12 => ?_)
 · exact absurd rfl h12
 ·skip
  refine cw_skip ?_
  refine fn_next ?_
  refine cw_seq ?_
  refine cw_reg ?_
  refine ry (y_mov rfl rfl) rfl rfl ?_
  refine reg_op (op_call (gSize g a h (V)  _ (R.below H9.base)) rfl kfdist1_14 ⟨rfl, trivial⟩) rfl rfl ?_
  rintro _ w14 ⟨rfl, e13⟩
  have H15 := H9.ext e13
  refine ry (y_mov rfl rfl) rfl rfl ?_
  refine ry (y_ext rfl rfl rfl) rfl rfl ?_
  refine ry (y_ext rfl rfl rfl) rfl rfl ?_
  refine ry (y_asg rfl rfl) rfl rfl ?_
  refine ry (y_asg rfl rfl) rfl rfl ?_
  refine reg_nil ?_
  refine fn_next ?_
  refine cw_seq ?_
  refine cw_reg ?_
  refine ry (y_mov rfl rfl) rfl rfl ?_
  refine ry (y_mov rfl rfl) rfl rfl ?_
  refine ry (y_len rfl Try.underlying22 rfl) rfl rfl ?_
  refine reg_op (op_make (m := a * h) H15 rfl rfl rfl (rfl) (rfl) Try.underlying22 kfdist1_15 (by omega) (by unfold maxLen; omega)) rfl rfl ?_
  rintro _ w17 ⟨b16, rfl, H18⟩
  refine ry (y_build (places := [(0, 1), (1, 1)]) (parts := [(0, _), (1, _)]) (vs := [(0, _), (1, _)]) (cs := [.int _ _, .slice _ _ _]) rfl Try.underlying93 (by kernel_rfl) kfdist1_11 rfl ⟨rfl, rfl, trivial⟩ rfl) rfl rfl ?_
  refine reg_op (op_alloc H18 rfl kfdist1_11) rfl rfl ?_
  rintro _ w20 ⟨b19, rfl, H21⟩
  refine reg_op (op_st (i := 0) (vs := [.int _ _, .slice _ _ _]) H21 rfl rfl rfl rfl rfl kfdist1_16 rfl rfl rfl) rfl rfl ?_
  rintro _ w22 H23
  refine reg_nil ?_
  refine fn_next ?_
  refine cw_seq ?_
  refine cw_seq ?_
  refine cw_reg ?_
  refine ry (y_mov rfl rfl) rfl rfl ?_
  refine ry (y_len rfl Try.underlying22 rfl) rfl rfl ?_
  refine ry (y_mov rfl rfl) rfl rfl ?_
  refine reg_nil ?_
  refine fn_next ?_
  refine cw_block ?_
  rw [vi_zero, d0_zero (V := V) (t := t) hgv.len] at H23
  refine cw_loopJ [11, 12, 38, 39, 40, 41, 42, 43, 44, 45, 46, 47, 48, 49, 50, 51, 52, 53, 54] (fun M wl ml => ∃ (i : Nat), M = [(38, .int .i64 (i : Int))] ∧ HS w wl [Ob.row (some ⟨b16, 0, none⟩) (a * h) (a * h) (vi .i64 (d0 V t i)) 2 1, Ob.blk b19 [.int .i64 (a : Int), .slice (some ⟨b16, 0, none⟩) (a * h) (a * h)] 93, Ob.blk b1 [.int .i64 0, .slice none 0 0] 93, Ob.row A10 (a * h) c11 (vi .i64 (V)) 2 1] ∧ (i ≤ a * h) ∧ ml = a * h - i) ⟨0, rfl, (H23.pick (m := [_, _, _, _]) [1, 0, 3, 2] rfl (by decide)), Nat.zero_le _, rfl⟩ ⟨rfl, trivial⟩ ?_
  rintro M w24 m26 ⟨i, rfl, H25, hp0, rfl⟩
  refine cw_seq ?_
  refine cw_reg ?_
  refine ry (y_lss rfl rfl rfl) rfl rfl ?_
  refine reg_nil ?_
  refine fn_next ?_
  refine cw_seq ?_
  refine cw_condd rfl (fun h27 => ?_) (fun h27 => ?_)
  ·skip
   have hi : i < a * h := by omega
   have hgi := vi_get (k := .i64) (zs := V) (i := i) (by rw [hgv.len]; exact hi)
   have hAd := H25.addr (i := 0) rfl (show 0 < a * h by omega)
   refine cw_skip ?_
   refine fn_next ?_
   refine cw_seq ?_
   refine cw_block ?_
   refine cw_seq ?_
   refine cw_reg ?_
   refine ry (y_mov rfl rfl) rfl rfl ?_
   refine ry (y_iar (H25.rd (i := 3) rfl) rfl rfl rfl kfdist1_3 (rfl) (by omega) (Nat.mul_one _) (hgi)) rfl rfl ?_
   refine ry (y_ldr (H25.rd (i := 3) rfl) rfl rfl kfdist1_4 (hgi)) rfl rfl ?_
   refine ry (y_asg rfl rfl) rfl rfl ?_
   refine ry (y_asg rfl rfl) rfl rfl ?_
   refine reg_nil ?_
   refine fn_next ?_
   refine cw_seq ?_
   refine cw_reg ?_
   refine ry (y_fa rfl rfl kfdist1_1 rfl) rfl rfl ?_
   refine ry (y_ld rfl rfl kfdist1_2 (H25.cell (i := 1) rfl rfl)) rfl rfl ?_
   refine ry (y_mov rfl rfl) rfl rfl ?_
   refine ry (y_iae (hAd) rfl rfl rfl kfdist1_3 (rfl) (by omega) (Nat.mul_one _)) rfl rfl ?_
   refine reg_op (op_ste (i := 0) (vs := [.int _ _]) H25 rfl rfl rfl rfl rfl kfdist1_5 rfl (by rw [vi_len, d0_len, hgv.len]; show i + 1 ≤ _; omega) rfl rfl) rfl rfl ?_
   rintro _ w28 H29
   refine reg_nil ?_
   refine fn_next ?_
   refine cw_seq ?_
   refine cw_reg ?_
   refine ry (y_mov rfl rfl) rfl rfl ?_
   refine ry (y_mov rfl rfl) rfl rfl ?_
   refine ry (y_geq rfl rfl rfl) rfl rfl ?_
   refine reg_nil ?_
   refine fn_next ?_
   refine cw_condd rfl (fun h30 => ?_) (fun h30 => ?_)
   ·skip
    have hc1 : t ≤ nth V i := by omega
    refine cw_reg ?_
    refine ry (y_fa rfl rfl kfdist1_1 rfl) rfl rfl ?_
    refine ry (y_ld rfl rfl kfdist1_2 (H29.cell (i := 1) rfl rfl)) rfl rfl ?_
    refine ry (y_mov rfl rfl) rfl rfl ?_
    refine ry (y_iae (hAd) rfl rfl rfl kfdist1_3 (rfl) (by omega) (Nat.mul_one _)) rfl rfl ?_
    refine reg_op (op_ste (i := 0) (vs := [.int _ _]) H29 rfl rfl rfl rfl rfl kfdist1_5 rfl (by rw [putL_len, vi_len, d0_len, hgv.len]; show i + 1 ≤ _; omega) rfl rfl) rfl rfl ?_
    rintro _ w31 H32
    refine reg_nil ?_
    refine fn_block ?_
    refine fn_next ?_
    refine cw_reg ?_
    refine ry (y_add rfl rfl rfl (wi (by omega))) rfl rfl ?_
    refine ry (y_mov rfl rfl) rfl rfl ?_
    refine reg_nil ?_
    first | rw [vi_set, vi_set, d0_near (by rw [hgv.len]; exact hi) hc1] at H32 | rw [vi_set, d0_far (by rw [hgv.len]; exact hi) hc1] at H32
    refine fn_roundJ ⟨i + 1, rfl, H32, by omega, rfl⟩ ⟨rfl, trivial⟩ (by omega) (by repeat (first | exact kp_refl | refine kp_app rfl rfl ?_ | refine kp_cons rfl ?_)) rfl
   ·skip
    have hc1 : ¬ t ≤ nth V i := by omega
    refine cw_skip ?_
    refine fn_block ?_
    refine fn_next ?_
    refine cw_reg ?_
    refine ry (y_add rfl rfl rfl (wi (by omega))) rfl rfl ?_
    refine ry (y_mov rfl rfl) rfl rfl ?_
    refine reg_nil ?_
    first | rw [vi_set, vi_set, d0_near (by rw [hgv.len]; exact hi) hc1] at H29 | rw [vi_set, d0_far (by rw [hgv.len]; exact hi) hc1] at H29
    refine fn_roundJ ⟨i + 1, rfl, H29, by omega, rfl⟩ ⟨rfl, trivial⟩ (by omega) (by repeat (first | exact kp_refl | refine kp_app rfl rfl ?_ | refine kp_cons rfl ?_)) rfl
  ·skip
   have hie : i = a * h := by omega
   subst hie
   refine cw_exit ?_
   refine fn_then_exit (fn_then_exit (fn_block_exit ?_))
   refine fn_next ?_
   refine cw_seq ?_
   refine cw_seq ?_
   refine cw_reg ?_
   refine ry (y_fa rfl rfl kfdist1_1 rfl) rfl rfl ?_
   refine ry (y_ld rfl rfl kfdist1_2 (H25.cell (i := 1) rfl rfl)) rfl rfl ?_
   refine ry (y_len rfl Try.underlying22 rfl) rfl rfl ?_
   refine ry (y_mov rfl rfl) rfl rfl ?_
   refine reg_nil ?_
   refine fn_next ?_
   refine cw_block ?_
   refine cw_loopJ [13, 58, 59, 60, 61, 62, 63, 64, 65, 66, 67, 68, 69, 70, 71, 72, 73, 74, 75, 76, 77, 78, 79, 80, 81, 82] (fun M wl ml => ∃ (i : Nat) (D : List Int), M = [(58, .int .i64 (i : Int))] ∧ HS w wl [Ob.row (some ⟨b16, 0, none⟩) (a * h) (a * h) (vi .i64 (D)) 2 1, Ob.blk b19 [.int .i64 (a : Int), .slice (some ⟨b16, 0, none⟩) (a * h) (a * h)] 93, Ob.blk b1 [.int .i64 0, .slice none 0 0] 93] ∧ (i ≤ a * h) ∧ (FwI V D a t i) ∧ ml = a * h - i) ⟨0, _, rfl, (H25.pick (m := [_, _, _]) [0, 1, 2] rfl (by decide)), Nat.zero_le _, fwI_zero hgv.len, rfl⟩ ⟨rfl, trivial⟩ ?_
   rintro M w33 m35 ⟨i, D, rfl, H34, hp0, hp1, rfl⟩
   refine cw_seq ?_
   refine cw_reg ?_
   refine ry (y_lss rfl rfl rfl) rfl rfl ?_
   refine reg_nil ?_
   refine fn_next ?_
   refine cw_seq ?_
   refine cw_condd rfl (fun h36 => ?_) (fun h36 => ?_)
   ·skip
    have hi : i < a * h := by omega
    have hb : ∀ k, k < a * h → 0 ≤ nth D k ∧ nth D k ≤ 4096 := fun k hk => hp1.bd (by rw [hgv.len]; exact hk)
    have hlD : D.length = a * h := hp1.1.1.trans hgv.len
    refine cw_skip ?_
    refine fn_next ?_
    refine cw_seq ?_
    refine cw_block ?_
    refine cw_seq ?_
    refine cw_reg ?_
    refine ry (y_mov rfl rfl) rfl rfl ?_
    refine ry (y_asg rfl rfl) rfl rfl ?_
    refine reg_nil ?_
    refine fn_next ?_
    refine cw_seq ?_
    refine cw_seq ?_
    refine cw_reg ?_
    refine ry (y_mov rfl rfl) rfl rfl ?_
    refine ry (y_fa rfl rfl kfdist1_7 rfl) rfl rfl ?_
    refine ry (y_ld rfl rfl kfdist1_8 (H34.cell (i := 1) rfl rfl)) rfl rfl ?_
    refine ry (y_geq rfl rfl rfl) rfl rfl ?_
    refine reg_nil ?_
    refine fn_next ?_
    refine cw_condd rfl (fun h37 => ?_) (fun h37 => ?_)
    ·skip
     have c1 : a ≤ i := by omega
     refine cw_reg ?_
     refine ry (y_ldb (i := 1) (cs := [_, _]) H34 rfl rfl kfdist1_17 rfl rfl) rfl rfl ?_
     refine ry (y_mov rfl rfl) rfl rfl ?_
     refine ry (y_mov rfl rfl) rfl rfl ?_
     refine ry (y_fa rfl rfl kfdist1_7 rfl) rfl rfl ?_
     refine ry (y_ld rfl rfl kfdist1_8 (H34.cell (i := 1) rfl rfl)) rfl rfl ?_
     refine ry (y_sub rfl rfl rfl (show _ = ((i - a : Nat) : Int) from (wi (by omega)).trans (by omega))) rfl rfl ?_
     refine reg_op (op_call (dLower w _ (D) (some ⟨b16, 0, none⟩) (a * h) (a * h) a i (i - a) _ hlD hi (by omega) hb H34) rfl kfdist1_18 ⟨rfl, rfl, rfl, trivial⟩) rfl rfl ?_
     rintro _ w39 ⟨rfl, H38⟩
     refine reg_nil ?_
     refine fn_next ?_
     refine cw_seq ?_
     refine cw_reg ?_
     refine ry (y_mov rfl rfl) rfl rfl ?_
     refine ry (y_fa rfl rfl kfdist1_7 rfl) rfl rfl ?_
     refine ry (y_ld rfl rfl kfdist1_8 (H38.cell (i := 1) rfl rfl)) rfl rfl ?_
     refine ry (y_rem rfl rfl rfl (by omega) (remN)) rfl rfl ?_
     refine ry (y_gtr rfl rfl rfl) rfl rfl ?_
     refine reg_nil ?_
     refine fn_next ?_
     refine cw_condd rfl (fun h40 => ?_) (fun h40 => ?_)
     ·skip
      have c2 : 0 < i % a := by omega
      have hip := pos_of_mod c2
      refine cw_reg ?_
      refine ry (y_ldb (i := 1) (cs := [_, _]) H38 rfl rfl kfdist1_17 rfl rfl) rfl rfl ?_
      refine ry (y_mov rfl rfl) rfl rfl ?_
      refine ry (y_mov rfl rfl) rfl rfl ?_
      refine ry (y_sub rfl rfl rfl (show _ = ((i - 1 : Nat) : Int) from (wi (by omega)).trans (by omega))) rfl rfl ?_
      refine reg_op (op_call (dLower w _ (lowD (D) i (i - a)) (some ⟨b16, 0, none⟩) (a * h) (a * h) a i (i - 1) _ (lowD_len.trans hlD) hi (by omega) (lowD_bd hb hi (by omega) hlD) H38) rfl kfdist1_18 ⟨rfl, rfl, rfl, trivial⟩) rfl rfl ?_
      rintro _ w42 ⟨rfl, H41⟩
      refine reg_nil ?_
      refine fn_block ?_
      refine fn_next ?_
      refine cw_reg ?_
      refine ry (y_add rfl rfl rfl (wi (by omega))) rfl rfl ?_
      refine ry (y_mov rfl rfl) rfl rfl ?_
      refine reg_nil ?_
      have hq := fw_round hp1 ha (by rw [hgv.len]; exact hi)
      rw [lowIf_t c2, lowIf_t c1] at hq
      refine fn_roundJ ⟨i + 1, _, rfl, H41, by omega, hq, rfl⟩ ⟨rfl, trivial⟩ (by omega) (by repeat (first | exact kp_refl | refine kp_app rfl rfl ?_ | refine kp_cons rfl ?_)) rfl
     ·skip
      have c2 : ¬ 0 < i % a := by omega
      refine cw_skip ?_
      refine fn_block ?_
      refine fn_next ?_
      refine cw_reg ?_
      refine ry (y_add rfl rfl rfl (wi (by omega))) rfl rfl ?_
      refine ry (y_mov rfl rfl) rfl rfl ?_
      refine reg_nil ?_
      have hq := fw_round hp1 ha (by rw [hgv.len]; exact hi)
      rw [lowIf_f c2, lowIf_t c1] at hq
      refine fn_roundJ ⟨i + 1, _, rfl, H38, by omega, hq, rfl⟩ ⟨rfl, trivial⟩ (by omega) (by repeat (first | exact kp_refl | refine kp_app rfl rfl ?_ | refine kp_cons rfl ?_)) rfl
    ·skip
     have c1 : ¬ a ≤ i := by omega
     refine cw_skip ?_
     refine fn_next ?_
     refine cw_seq ?_
     refine cw_reg ?_
     refine ry (y_mov rfl rfl) rfl rfl ?_
     refine ry (y_fa rfl rfl kfdist1_7 rfl) rfl rfl ?_
     refine ry (y_ld rfl rfl kfdist1_8 (H34.cell (i := 1) rfl rfl)) rfl rfl ?_
     refine ry (y_rem rfl rfl rfl (by omega) (remN)) rfl rfl ?_
     refine ry (y_gtr rfl rfl rfl) rfl rfl ?_
     refine reg_nil ?_
     refine fn_next ?_
     refine cw_condd rfl (fun h43 => ?_) (fun h43 => ?_)
     ·skip
      have c2 : 0 < i % a := by omega
      have hip := pos_of_mod c2
      refine cw_reg ?_
      refine ry (y_ldb (i := 1) (cs := [_, _]) H34 rfl rfl kfdist1_17 rfl rfl) rfl rfl ?_
      refine ry (y_mov rfl rfl) rfl rfl ?_
      refine ry (y_mov rfl rfl) rfl rfl ?_
      refine ry (y_sub rfl rfl rfl (show _ = ((i - 1 : Nat) : Int) from (wi (by omega)).trans (by omega))) rfl rfl ?_
      refine reg_op (op_call (dLower w _ (D) (some ⟨b16, 0, none⟩) (a * h) (a * h) a i (i - 1) _ hlD hi (by omega) hb H34) rfl kfdist1_18 ⟨rfl, rfl, rfl, trivial⟩) rfl rfl ?_
      rintro _ w45 ⟨rfl, H44⟩
      refine reg_nil ?_
      refine fn_block ?_
      refine fn_next ?_
      refine cw_reg ?_
      refine ry (y_add rfl rfl rfl (wi (by omega))) rfl rfl ?_
      refine ry (y_mov rfl rfl) rfl rfl ?_
      refine reg_nil ?_
      have hq := fw_round hp1 ha (by rw [hgv.len]; exact hi)
      rw [lowIf_t c2, lowIf_f c1] at hq
      refine fn_roundJ ⟨i + 1, _, rfl, H44, by omega, hq, rfl⟩ ⟨rfl, trivial⟩ (by omega) (by repeat (first | exact kp_refl | refine kp_app rfl rfl ?_ | refine kp_cons rfl ?_)) rfl
     ·skip
      have c2 : ¬ 0 < i % a := by omega
      refine cw_skip ?_
      refine fn_block ?_
      refine fn_next ?_
      refine cw_reg ?_
      refine ry (y_add rfl rfl rfl (wi (by omega))) rfl rfl ?_
      refine ry (y_mov rfl rfl) rfl rfl ?_
      refine reg_nil ?_
      have hq := fw_round hp1 ha (by rw [hgv.len]; exact hi)
      rw [lowIf_f c2, lowIf_f c1] at hq
      refine fn_roundJ ⟨i + 1, _, rfl, H34, by omega, hq, rfl⟩ ⟨rfl, trivial⟩ (by omega) (by repeat (first | exact kp_refl | refine kp_app rfl rfl ?_ | refine kp_cons rfl ?_)) rfl
   ·skip
    have hie : i = a * h := by omega
    subst hie
    refine cw_exit ?_
    refine fn_then_exit (fn_then_exit (fn_block_exit ?_))
    refine fn_next ?_
    refine cw_seq ?_
    refine cw_seq ?_
    refine cw_reg ?_
    refine ry (y_fa rfl rfl kfdist1_1 rfl) rfl rfl ?_
    refine ry (y_ld rfl rfl kfdist1_2 (H34.cell (i := 1) rfl rfl)) rfl rfl ?_
    refine ry (y_len rfl Try.underlying22 rfl) rfl rfl ?_
    refine ry (y_sub rfl rfl rfl (wi (by omega))) rfl rfl ?_
    refine ry (y_asg rfl rfl) rfl rfl ?_
    refine reg_nil ?_
    refine fn_next ?_
    refine cw_block ?_
    refine cw_loopJ [14, 87, 88, 89, 90, 91, 92, 93, 94, 95, 96, 97, 98, 99, 100, 101, 102, 103, 104, 105, 106, 107, 108, 109, 110, 111, 112, 113, 114, 115, 116, 117, 118] (fun M wl ml => ∃ (c : Nat) (D' : List Int), M = [(14, .int .i64 ((c : Int) - 1))] ∧ HS w wl [Ob.row (some ⟨b16, 0, none⟩) (a * h) (a * h) (vi .i64 (D')) 2 1, Ob.blk b19 [.int .i64 (a : Int), .slice (some ⟨b16, 0, none⟩) (a * h) (a * h)] 93, Ob.blk b1 [.int .i64 0, .slice none 0 0] 93] ∧ (c ≤ a * h) ∧ (BwI V D' a t c) ∧ ml = c + 1) ⟨a * h, _, rfl, H34, Nat.le_refl _, FwI.bw' hgv.len hp1, rfl⟩ ⟨rfl, trivial⟩ ?_
    rintro M w46 m48 ⟨c, D', rfl, H47, hq0, hq1, rfl⟩
    refine cw_seq ?_
    refine cw_seq ?_
    refine cw_reg ?_
    refine ry (y_mov rfl rfl) rfl rfl ?_
    refine ry (y_geq rfl rfl rfl) rfl rfl ?_
    refine reg_nil ?_
    refine fn_next ?_
    refine cw_condd rfl (fun h49 => ?_) (fun h49 => ?_)
    ·skip
     obtain ⟨i, rfl⟩ : ∃ i, c = i + 1 := ⟨c - 1, by omega⟩
     refine cw_know (d := 14) (u := .int .i64 (i : Int)) rfl (by rw [show (((i + 1 : Nat) : Int) - 1) = (i : Int) by omega]) ?_
     have hi : i < a * h := by omega
     have hb : ∀ k, k < a * h → 0 ≤ nth D' k ∧ nth D' k ≤ 4096 := fun k hk => hq1.bd (by rw [hgv.len]; exact hk)
     have hlD : D'.length = a * h := hq1.1.1.trans hgv.len
     refine cw_skip ?_
     refine fn_next ?_
     refine cw_seq ?_
     refine cw_block ?_
     refine cw_seq ?_
     refine cw_seq ?_
     refine cw_reg ?_
     refine ry (y_mov rfl rfl) rfl rfl ?_
     refine ry (y_fa rfl rfl kfdist1_7 rfl) rfl rfl ?_
     refine ry (y_ld rfl rfl kfdist1_8 (H47.cell (i := 1) rfl rfl)) rfl rfl ?_
     refine ry (y_add rfl rfl rfl (show _ = ((i + a : Nat) : Int) from (wi (by omega)).trans (by omega))) rfl rfl ?_
     refine ry (y_fa rfl rfl kfdist1_1 rfl) rfl rfl ?_
     refine ry (y_ld rfl rfl kfdist1_2 (H47.cell (i := 1) rfl rfl)) rfl rfl ?_
     refine ry (y_len rfl Try.underlying22 rfl) rfl rfl ?_
     refine ry (y_lss rfl rfl rfl) rfl rfl ?_
     refine reg_nil ?_
     refine fn_next ?_
     refine cw_condd rfl (fun h50 => ?_) (fun h50 => ?_)
     ·skip
      have c1 : i + a < V.length := by rw [hgv.len]; omega
      refine cw_reg ?_
      refine ry (y_ldb (i := 1) (cs := [_, _]) H47 rfl rfl kfdist1_17 rfl rfl) rfl rfl ?_
      refine ry (y_mov rfl rfl) rfl rfl ?_
      refine ry (y_mov rfl rfl) rfl rfl ?_
      refine ry (y_fa rfl rfl kfdist1_7 rfl) rfl rfl ?_
      refine ry (y_ld rfl rfl kfdist1_8 (H47.cell (i := 1) rfl rfl)) rfl rfl ?_
      refine ry (y_add rfl rfl rfl (show _ = ((i + a : Nat) : Int) from (wi (by omega)).trans (by omega))) rfl rfl ?_
      refine reg_op (op_call (dLower w _ (D') (some ⟨b16, 0, none⟩) (a * h) (a * h) a i (i + a) _ hlD hi (by omega) hb H47) rfl kfdist1_18 ⟨rfl, rfl, rfl, trivial⟩) rfl rfl ?_
      rintro _ w52 ⟨rfl, H51⟩
      refine reg_nil ?_
      refine fn_next ?_
      refine cw_seq ?_
      refine cw_draw H51 [0, 1, 2, 3, 4, 5, 6, 7] [] (fun X HX => HX) (by kernel_rfl) (by kernel_rfl) (by rfl) ?_
      simp only [pick, List.getElem?_cons_succ, List.getElem?_cons_zero]
      refine hk_y (fun Y HY => y_mov rfl rfl) rfl rfl ?_
      refine hk_y (fun Y HY => y_fa rfl rfl kfdist1_7 rfl) rfl rfl ?_
      refine hk_y (fun Y HY => y_ld rfl rfl kfdist1_8 (HY.cell (i := 1) rfl rfl)) rfl rfl ?_
      refine hk_y (fun Y HY => y_rem rfl rfl rfl (by omega) (remN)) rfl rfl ?_
      refine hk_y (fun Y HY => y_fa rfl rfl kfdist1_7 rfl) rfl rfl ?_
      refine hk_y (fun Y HY => y_ld rfl rfl kfdist1_8 (HY.cell (i := 1) rfl rfl)) rfl rfl ?_
      refine hk_y (fun Y HY => y_sub rfl rfl rfl (wi (by omega))) rfl rfl ?_
      refine hk_y (fun Y HY => y_lss rfl rfl rfl) rfl rfl ?_
      refine hk_nil ?_
      intro w53 H54
      refine tv_nil ?_
      refine fn_next ?_
      refine cw_condd rfl (fun h55 => ?_) (fun h55 => ?_)
      ·skip
       have c2 : i % a < a - 1 := by omega
       have hj1 := right_lt hi c2
       refine cw_reg ?_
       refine ry (y_ldb (i := 1) (cs := [_, _]) H54 rfl rfl kfdist1_17 rfl rfl) rfl rfl ?_
       refine ry (y_mov rfl rfl) rfl rfl ?_
       refine ry (y_mov rfl rfl) rfl rfl ?_
       refine ry (y_add rfl rfl rfl (show _ = ((i + 1 : Nat) : Int) from (wi (by omega)).trans (by omega))) rfl rfl ?_
       refine reg_op (op_call (dLower w _ (lowD (D') i (i + a)) (some ⟨b16, 0, none⟩) (a * h) (a * h) a i (i + 1) _ (lowD_len.trans hlD) hi hj1 (lowD_bd hb hi (by omega) hlD) H54) rfl kfdist1_18 ⟨rfl, rfl, rfl, trivial⟩) rfl rfl ?_
       rintro _ w57 ⟨rfl, H56⟩
       refine reg_nil ?_
       refine fn_block ?_
       refine fn_next ?_
       refine cw_reg ?_
       refine ry (y_mov rfl rfl) rfl rfl ?_
       refine ry (y_sub rfl rfl rfl (wi (by omega))) rfl rfl ?_
       refine ry (y_asg rfl rfl) rfl rfl ?_
       refine reg_nil ?_
       have hq := bw_round hq1 ha hgv.len (by rw [hgv.len]; exact hi)
       rw [lowIf_t c2, lowIf_t c1] at hq
       refine fn_roundJ ⟨i, _, rfl, H56, by omega, hq, rfl⟩ ⟨rfl, trivial⟩ (by omega) (by repeat (first | exact kp_refl | refine kp_app rfl rfl ?_ | refine kp_cons rfl ?_)) rfl
      ·skip
       have c2 : ¬ i % a < a - 1 := by omega
       refine cw_skip ?_
       refine fn_block ?_
       refine fn_next ?_
       refine cw_reg ?_
       refine ry (y_mov rfl rfl) rfl rfl ?_
       refine ry (y_sub rfl rfl rfl (wi (by omega))) rfl rfl ?_
       refine ry (y_asg rfl rfl) rfl rfl ?_
       refine reg_nil ?_
       have hq := bw_round hq1 ha hgv.len (by rw [hgv.len]; exact hi)
       rw [lowIf_f c2, lowIf_t c1] at hq
       refine fn_roundJ ⟨i, _, rfl, H54, by omega, hq, rfl⟩ ⟨rfl, trivial⟩ (by omega) (by repeat (first | exact kp_refl | refine kp_app rfl rfl ?_ | refine kp_cons rfl ?_)) rfl
     ·skip
      have c1 : ¬ i + a < V.length := by rw [hgv.len]; omega
      refine cw_skip ?_
      refine fn_next ?_
      refine cw_seq ?_
      refine cw_draw H47 [0, 1, 2, 3, 4, 5, 6, 7] [] (fun X HX => HX) (by kernel_rfl) (by kernel_rfl) (by rfl) ?_
      simp only [pick, List.getElem?_cons_succ, List.getElem?_cons_zero]
      refine hk_y (fun Y HY => y_mov rfl rfl) rfl rfl ?_
      refine hk_y (fun Y HY => y_fa rfl rfl kfdist1_7 rfl) rfl rfl ?_
      refine hk_y (fun Y HY => y_ld rfl rfl kfdist1_8 (HY.cell (i := 1) rfl rfl)) rfl rfl ?_
      refine hk_y (fun Y HY => y_rem rfl rfl rfl (by omega) (remN)) rfl rfl ?_
      refine hk_y (fun Y HY => y_fa rfl rfl kfdist1_7 rfl) rfl rfl ?_
      refine hk_y (fun Y HY => y_ld rfl rfl kfdist1_8 (HY.cell (i := 1) rfl rfl)) rfl rfl ?_
      refine hk_y (fun Y HY => y_sub rfl rfl rfl (wi (by omega))) rfl rfl ?_
      refine hk_y (fun Y HY => y_lss rfl rfl rfl) rfl rfl ?_
      refine hk_nil ?_
      intro w58 H59
      refine tv_nil ?_
      refine fn_next ?_
      refine cw_condd rfl (fun h60 => ?_) (fun h60 => ?_)
      ·skip
       have c2 : i % a < a - 1 := by omega
       have hj1 := right_lt hi c2
       refine cw_reg ?_
       refine ry (y_ldb (i := 1) (cs := [_, _]) H59 rfl rfl kfdist1_17 rfl rfl) rfl rfl ?_
       refine ry (y_mov rfl rfl) rfl rfl ?_
       refine ry (y_mov rfl rfl) rfl rfl ?_
       refine ry (y_add rfl rfl rfl (show _ = ((i + 1 : Nat) : Int) from (wi (by omega)).trans (by omega))) rfl rfl ?_
       refine reg_op (op_call (dLower w _ (D') (some ⟨b16, 0, none⟩) (a * h) (a * h) a i (i + 1) _ hlD hi hj1 hb H59) rfl kfdist1_18 ⟨rfl, rfl, rfl, trivial⟩) rfl rfl ?_
       rintro _ w62 ⟨rfl, H61⟩
       refine reg_nil ?_
       refine fn_block ?_
       refine fn_next ?_
       refine cw_reg ?_
       refine ry (y_mov rfl rfl) rfl rfl ?_
       refine ry (y_sub rfl rfl rfl (wi (by omega))) rfl rfl ?_
       refine ry (y_asg rfl rfl) rfl rfl ?_
       refine reg_nil ?_
       have hq := bw_round hq1 ha hgv.len (by rw [hgv.len]; exact hi)
       rw [lowIf_t c2, lowIf_f c1] at hq
       refine fn_roundJ ⟨i, _, rfl, H61, by omega, hq, rfl⟩ ⟨rfl, trivial⟩ (by omega) (by repeat (first | exact kp_refl | refine kp_app rfl rfl ?_ | refine kp_cons rfl ?_)) rfl
      ·skip
       have c2 : ¬ i % a < a - 1 := by omega
       refine cw_skip ?_
       refine fn_block ?_
       refine fn_next ?_
       refine cw_reg ?_
       refine ry (y_mov rfl rfl) rfl rfl ?_
       refine ry (y_sub rfl rfl rfl (wi (by omega))) rfl rfl ?_
       refine ry (y_asg rfl rfl) rfl rfl ?_
       refine reg_nil ?_
       have hq := bw_round hq1 ha hgv.len (by rw [hgv.len]; exact hi)
       rw [lowIf_f c2, lowIf_f c1] at hq
       refine fn_roundJ ⟨i, _, rfl, H59, by omega, hq, rfl⟩ ⟨rfl, trivial⟩ (by omega) (by repeat (first | exact kp_refl | refine kp_app rfl rfl ?_ | refine kp_cons rfl ?_)) rfl
    ·skip
     obtain rfl : c = 0 := by omega
     refine cw_exit ?_
     refine fn_then_exit (fn_then_exit (fn_block_exit ?_))
     refine fn_next ?_
     refine cw_seq ?_
     refine cw_reg ?_
     refine ry (y_ldb (i := 1) (cs := [_, _]) H47 rfl rfl kfdist1_17 rfl rfl) rfl rfl ?_
     refine reg_op (op_st (i := 2) (vs := [.int _ _, .slice _ _ _]) H47 rfl rfl rfl rfl rfl kfdist1_16 rfl rfl rfl) rfl rfl ?_
     rintro _ w63 H64
     refine ry (y_asg rfl rfl) rfl rfl ?_
     refine reg_nil ?_
     refine fn_next ?_
     refine cw_ret ?_
     refine fn_retn (vs := [_, _]) rfl ⟨⟨_, rfl, load_agg (cs := [_, _]) kfdist1_17 rfl fun j v hv => by rw [Nat.zero_add]; exact H64.cell (i := 2) rfl hv⟩, rfl, trivial⟩ rfl ?_
     exact ⟨_, _, _, rfl, (H64.pick (m := [_]) [0] rfl (by decide)), hq1.ok⟩

end Go.Proofs.Ytbhmkpnihgjlnaa
