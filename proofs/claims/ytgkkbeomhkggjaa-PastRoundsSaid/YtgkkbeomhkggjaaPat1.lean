/- Layer 11: patches: which are right; what they lead to. -/
import Derived.Test.YtgkkbeomhkggjaaElems
import Derived.Test.YtgkkbeomhkggjaaRef10
set_option linter.unusedVariables false
set_option linter.unusedSimpArgs false
namespace Go.Proofs.Ytgkkbeomhkggjaa
open Go Go.RowKit
theorem kfpat1_1 : fldB Try.prog 30 0 0 = true := by kernel_rfl
theorem kfpat1_2 : aggB Try.prog 27 4 = true := by kernel_rfl
theorem kfpat1_3 : (Try.prog.info? 27).bind (fun i => i.zero.map Value.cells) = some (List.toArray [(.int .i64 0), (.int .i64 0), (.int .i64 0), (.int .i64 0)]) := by kernel_rfl
theorem kfpat1_4 : seqB Try.prog 27 4 = true := by kernel_rfl
theorem kfpat1_5 : fldB Try.prog 30 1 4 = true := by kernel_rfl
theorem kfpat1_6 : oneB Try.prog 28 = true := by kernel_rfl
theorem kfpat1_7 : fldB Try.prog 30 2 5 = true := by kernel_rfl
theorem kfpat1_8 : elB Try.prog 28 1 = true := by kernel_rfl
theorem kfpat1_9 : oneB Try.prog 2 = true := by kernel_rfl
theorem kfpat1_10 : callB Try.prog 87 = true := by kernel_rfl
theorem kfpat1_11 : callB Try.prog 99 = true := by kernel_rfl
theorem kfpat1_12 : callB Try.prog 55 = true := by kernel_rfl
theorem kfpat1_13 : callB Try.prog 86 = true := by kernel_rfl
theorem kfpat1_14 : aggB Try.prog 30 6 = true := by kernel_rfl
theorem kfpat1_15 : callB Try.prog 62 = true := by kernel_rfl
theorem kfpat1_16 : callB Try.prog 63 = true := by kernel_rfl
theorem kfpat1_17 : callB Try.prog 64 = true := by kernel_rfl
theorem kfpat1_18 : callB Try.prog 34 = true := by kernel_rfl
theorem kfpat1_19 : callB Try.prog 28 = true := by kernel_rfl
theorem kfpat1_21 : callB Try.prog 68 = true := by kernel_rfl
def Pt.emptyP (p : Pt) : Prop := p.x0 = 0 ∧ p.y0 = 0 ∧ p.x1 = 0 ∧ p.y1 = 0 ∧ p.o.n = 0 ∧ p.q.n = 0
instance (p : Pt) : Decidable p.emptyP := by unfold Pt.emptyP; infer_instance
def Pt.rightP (p : Pt) : Prop := p.emptyP ∨ (RightP p.x0 p.y0 p.x1 p.y1 ∧ ((p.o.n : Int) = areaI p.x0 p.y0 p.x1 p.y1 ∧ AllB p.o.zs) ∧ ((p.q.n : Int) = areaI p.x0 p.y0 p.x1 p.y1 ∧ AllB p.q.zs))
instance (p : Pt) : Decidable p.rightP := by unfold Pt.rightP; infer_instance
/-- a patch's error, what comes of it -/
def apC (a h : Nat) (V : List Int) (p : Pt) : Int := if p.rightP then (if p.emptyP then 0 else if withinC p.x0 p.y0 p.x1 p.y1 a h = 0 then (if gvalV V a h p.x0 p.y0 p.x1 p.y1 = p.o.zs then 0 else 15) else withinC p.x0 p.y0 p.x1 p.y1 a h) else 13
def ApP (a h : Nat) (V : List Int) (p : Pt) : Prop := p.rightP ∧ ¬ p.emptyP ∧ withinC p.x0 p.y0 p.x1 p.y1 a h = 0 ∧ gvalV V a h p.x0 p.y0 p.x1 p.y1 = p.o.zs
instance (a h : Nat) (V : List Int) (p : Pt) : Decidable (ApP a h V p) := by unfold ApP; infer_instance
def apV (a h : Nat) (V : List Int) (p : Pt) : List Int := if ApP a h V p then pasteV V a h p.x0 p.y0 p.x1 p.y1 p.q.zs else V
section
variable {a h : Nat} {V : List Int} {p : Pt}
theorem apC_13 (h1 : ¬ p.rightP) : apC a h V p = 13 := if_neg h1
theorem apC_e (h1 : p.rightP) (h2 : p.emptyP) : apC a h V p = 0 := by unfold apC; rw [if_pos h1, if_pos h2]
theorem apC_w (h1 : p.rightP) (h2 : ¬ p.emptyP) (h3 : ¬ withinC p.x0 p.y0 p.x1 p.y1 a h = 0) : apC a h V p = withinC p.x0 p.y0 p.x1 p.y1 a h := by unfold apC; rw [if_pos h1, if_neg h2, if_neg h3]
theorem apC_15 (h1 : p.rightP) (h2 : ¬ p.emptyP) (h3 : withinC p.x0 p.y0 p.x1 p.y1 a h = 0) (h4 : ¬ gvalV V a h p.x0 p.y0 p.x1 p.y1 = p.o.zs) : apC a h V p = 15 := by unfold apC; rw [if_pos h1, if_neg h2, if_pos h3, if_neg h4]
theorem apC_ok (h1 : ApP a h V p) : apC a h V p = 0 := by unfold apC; rw [if_pos h1.1, if_neg h1.2.1, if_pos h1.2.2.1, if_pos h1.2.2.2]
theorem apV_ok (h1 : ApP a h V p) : apV a h V p = pasteV V a h p.x0 p.y0 p.x1 p.y1 p.q.zs := if_pos h1
theorem apV_no (h1 : ¬ ApP a h V p) : apV a h V p = V := if_neg h1
theorem apV_len : (apV a h V p).length = V.length := by unfold apV; split; exact pasteV_len; rfl
theorem apV_bd (hV : AllB V) : AllB (apV a h V p) := by
  unfold apV
  split
  · rename_i k
    rcases k.1 with e | e
    · exact absurd e k.2.1
    · unfold pasteV; split; exact layV_bd hV e.2.2.2; exact hV
  · exact hV
theorem ApP.right (k : ApP a h V p) : (RightP p.x0 p.y0 p.x1 p.y1 ∧ ((p.o.n : Int) = areaI p.x0 p.y0 p.x1 p.y1 ∧ AllB p.o.zs) ∧ ((p.q.n : Int) = areaI p.x0 p.y0 p.x1 p.y1 ∧ AllB p.q.zs)) := k.1.resolve_left k.2.1
theorem ApP.pc (k : ApP a h V p) (hl : p.q.zs.length = p.q.n) : pasteC a h p.x0 p.y0 p.x1 p.y1 p.q.zs = 0 := pasteC_ok k.2.2.1 (by rw [hl]; exact k.right.2.2.1) k.right.2.2.2
end

set_option maxRecDepth 100000 in
theorem patEmpty (p : Pt) (w : World) (hp : p.ok w) :
    Ret Try.prog 62 [.agg #[.int .i64 p.x0, .int .i64 p.y0, .int .i64 p.x1, .int .i64 p.y1, .slice p.o.A p.o.n p.o.c, .slice p.q.A p.q.n p.q.c]] w (fun z w' => z = .bool (decide p.emptyP) ∧ Below w.heap.size w w') := by
 refine ret_enter Try.func62 rfl rfl rfl ?_
 have H0 := HS.start w
 refine cw_seq ?_
 refine cw_reg ?_
 refine reg_op (op_box (cs := [.int _ _, .int _ _, .int _ _, .int _ _, .slice _ _ _, .slice _ _ _]) H0 rfl rfl rfl) rfl rfl ?_
 rintro _ w2 ⟨b1, rfl, H3⟩
 refine ry (y_asg rfl rfl) rfl rfl ?_
 refine reg_nil ?_
 refine fn_next ?_
 refine cw_seq ?_
 refine cw_reg ?_
 refine ry (y_fa rfl rfl kfpat1_1 rfl) rfl rfl ?_
 refine ry (y_lda (cs := [_, _, _, _]) rfl rfl kfpat1_2 rfl (fun j v hv => H3.cell (i := 0) rfl (lst_part (a := 0) (m := 4) hv))) rfl rfl ?_
 refine ry (y_build (places := [(0, 1), (1, 1), (2, 1), (3, 1)]) (parts := []) (vs := []) (cs := [.int _ _, .int _ _, .int _ _, .int _ _]) rfl Try.underlying27 (by kernel_rfl) kfpat1_3 rfl trivial rfl) rfl rfl ?_
 refine ry (y_seq (ks := [.i64, .i64, .i64, .i64]) (a := [p.x0, p.y0, p.x1, p.y1]) (b := [0, 0, 0, 0]) rfl (.inl ⟨rfl, rfl⟩) kfpat1_4 rfl rfl rfl rfl rfl rfl rfl) rfl rfl ?_
 refine ry (y_mov rfl rfl) rfl rfl ?_
 refine rg_splitd (d := 7) rfl (fun h4 => ?_) (fun h4 => ?_)
 ·skip
  have c7 := h4
  simp only [List.cons.injEq, and_true] at c7
  refine rgy (y_fa rfl rfl kfpat1_5 rfl) rfl rfl rfl rfl ?_
  refine rgy (y_ld rfl rfl kfpat1_6 (H3.cell (i := 0) rfl rfl)) rfl rfl rfl rfl ?_
  refine rgy (y_len rfl Try.underlying28 rfl) rfl rfl rfl rfl ?_
  refine rgy (y_eql rfl rfl rfl) rfl rfl rfl rfl ?_
  refine ry (y_pick rfl rfl rfl) rfl rfl ?_
  refine ry (y_mov rfl rfl) rfl rfl ?_
  refine rg_splitd (d := 13) rfl (fun h5 => ?_) (fun h5 => ?_)
  ·skip
   have c13 := h5
   refine rgy (y_fa rfl rfl kfpat1_7 rfl) rfl rfl rfl rfl ?_
   refine rgy (y_ld rfl rfl kfpat1_6 (H3.cell (i := 0) rfl rfl)) rfl rfl rfl rfl ?_
   refine rgy (y_len rfl Try.underlying28 rfl) rfl rfl rfl rfl ?_
   refine rgy (y_eql rfl rfl rfl) rfl rfl rfl rfl ?_
   refine ry (y_pick rfl rfl rfl) rfl rfl ?_
   refine ry (y_asg rfl rfl) rfl rfl ?_
   refine reg_nil ?_
   refine fn_next ?_
   refine cw_ret ?_
   refine fn_ret1 rfl rfl ?_
   refine ⟨?_, H3.base⟩
   first | exact bdec (by unfold Pt.emptyP; omega) | exact bfls (by unfold Pt.emptyP; omega)
  ·skip
   have c13 := h5
   refine rg_off rfl rfl rfl rfl rfl ?_
   refine rg_off rfl rfl rfl rfl rfl ?_
   refine rg_off rfl rfl rfl rfl rfl ?_
   refine rg_off rfl rfl rfl rfl rfl ?_
   refine ry (y_pick rfl rfl rfl) rfl rfl ?_
   refine ry (y_asg rfl rfl) rfl rfl ?_
   refine reg_nil ?_
   refine fn_next ?_
   refine cw_ret ?_
   refine fn_ret1 rfl rfl ?_
   refine ⟨?_, H3.base⟩
   first | exact bdec (by unfold Pt.emptyP; omega) | exact bfls (by unfold Pt.emptyP; omega)
 ·skip
  have c7 := h4
  simp only [List.cons.injEq, and_true] at c7
  refine rg_off rfl rfl rfl rfl rfl ?_
  refine rg_off rfl rfl rfl rfl rfl ?_
  refine rg_off rfl rfl rfl rfl rfl ?_
  refine rg_off rfl rfl rfl rfl rfl ?_
  refine ry (y_pick rfl rfl rfl) rfl rfl ?_
  refine ry (y_mov rfl rfl) rfl rfl ?_
  refine rg_off rfl rfl rfl rfl rfl ?_
  refine rg_off rfl rfl rfl rfl rfl ?_
  refine rg_off rfl rfl rfl rfl rfl ?_
  refine rg_off rfl rfl rfl rfl rfl ?_
  refine ry (y_pick rfl rfl rfl) rfl rfl ?_
  refine ry (y_asg rfl rfl) rfl rfl ?_
  refine reg_nil ?_
  refine fn_next ?_
  refine cw_ret ?_
  refine fn_ret1 rfl rfl ?_
  refine ⟨?_, H3.base⟩
  first | exact bdec (by unfold Pt.emptyP; omega) | exact bfls (by unfold Pt.emptyP; omega)

set_option maxRecDepth 100000 in
theorem patNo (v : Int) (w : World) :
    Ret Try.prog 87 [.int .i64 v] w (fun u w' => u = .bool (decide (¬ B32 v)) ∧ Below w.heap.size w w') := by
 refine ret_enter Try.func87 rfl rfl rfl ?_
 have H0 := HS.start w
 refine cw_seq ?_
 refine cw_reg ?_
 refine ry (y_asg rfl rfl) rfl rfl ?_
 refine reg_nil ?_
 refine fn_next ?_
 refine cw_seq ?_
 refine cw_reg ?_
 refine ry (y_mov rfl rfl) rfl rfl ?_
 refine ry (y_lss rfl rfl rfl) rfl rfl ?_
 refine ry (y_mov rfl rfl) rfl rfl ?_
 refine rg_splitd (d := 5) rfl (fun h1 => ?_) (fun h1 => ?_)
 ·skip
  have c5 := h1
  refine rg_off rfl rfl rfl rfl rfl ?_
  refine rg_off rfl rfl rfl rfl rfl ?_
  refine ry (y_pick rfl rfl rfl) rfl rfl ?_
  refine ry (y_asg rfl rfl) rfl rfl ?_
  refine reg_nil ?_
  refine fn_next ?_
  refine cw_ret ?_
  refine fn_ret1 rfl rfl ?_
  refine ⟨?_, H0.base⟩
  first | exact bdec (by unfold B32; omega) | exact btru (by unfold B32; omega)
 ·skip
  have c5 := h1
  refine rgy (y_mov rfl rfl) rfl rfl rfl rfl ?_
  refine rgy (y_gtr rfl rfl rfl) rfl rfl rfl rfl ?_
  refine ry (y_pick rfl rfl rfl) rfl rfl ?_
  refine ry (y_asg rfl rfl) rfl rfl ?_
  refine reg_nil ?_
  refine fn_next ?_
  refine cw_ret ?_
  refine fn_ret1 rfl rfl ?_
  refine ⟨?_, H0.base⟩
  first | exact bdec (by unfold B32; omega) | exact btru (by unfold B32; omega)

set_option maxRecDepth 100000 in
theorem patIx (A : Option Addr) (n cap : Nat) (L : List Int) (w : World) (h : Rd w A (vi .i64 L)) (hl : L.length = n) (hn : n ≤ 16777216) :
    Ret Try.prog 99 [.slice A n cap, .func (.func 87) #[] #[]] w (fun v w' => v = .int .i64 (ixB L) ∧ Below w.heap.size w w') := by
 refine ret_enter Try.func99 rfl rfl rfl ?_
 have H0 := HS.start w
 refine cw_seq ?_
 refine cw_reg ?_
 refine ry (y_asg rfl rfl) rfl rfl ?_
 refine reg_nil ?_
 refine fn_next ?_
 refine cw_seq ?_
 refine cw_seq ?_
 refine cw_reg ?_
 refine ry (y_mov rfl rfl) rfl rfl ?_
 refine ry (y_len rfl Try.underlying28 rfl) rfl rfl ?_
 refine ry (y_mov rfl rfl) rfl rfl ?_
 refine reg_nil ?_
 refine fn_next ?_
 refine cw_block ?_
 refine cw_loopJ [4, 5, 8, 9, 10, 11, 12, 13, 14, 15, 16, 17, 18] (fun M wl ml => ∃ (i : Nat), M = [(8, .int .i64 (i : Int))] ∧ HS w wl [] ∧ (i ≤ n) ∧ (Hid (∀ j, j < i → B32 (nth L j))) ∧ ml = n - i) ⟨0, rfl, H0, Nat.zero_le _, Lib.hid (fun j hj => absurd hj (Nat.not_lt_zero _)), rfl⟩ ⟨rfl, trivial⟩ ?_
 rintro M w1 m3 ⟨i, rfl, H2, hp0, hp1, rfl⟩
 refine cw_seq ?_
 refine cw_reg ?_
 refine ry (y_lss rfl rfl rfl) rfl rfl ?_
 refine reg_nil ?_
 refine fn_next ?_
 refine cw_seq ?_
 refine cw_condd rfl (fun h4 => ?_) (fun h4 => ?_)
 ·skip
  have hgi := vi_get (k := .i64) (zs := L) (i := i) (by omega)
  refine cw_skip ?_
  refine fn_next ?_
  refine cw_seq ?_
  refine cw_block ?_
  refine cw_seq ?_
  refine cw_reg ?_
  refine ry (y_mov rfl rfl) rfl rfl ?_
  refine ry (y_asg rfl rfl) rfl rfl ?_
  refine reg_nil ?_
  refine fn_next ?_
  refine cw_seq ?_
  refine cw_reg ?_
  refine ry (y_mov rfl rfl) rfl rfl ?_
  refine ry (y_mov rfl rfl) rfl rfl ?_
  refine ry (y_mov rfl rfl) rfl rfl ?_
  refine ry (y_iar (h.below H2.base) rfl rfl rfl kfpat1_8 (rfl) (by omega) (Nat.mul_one _) (hgi)) rfl rfl ?_
  refine ry (y_ldr (h.below H2.base) rfl rfl kfpat1_9 (hgi)) rfl rfl ?_
  refine reg_op (op_callv (fs := []) (vs := [_]) (cs := []) (patNo (nth L i) _) rfl kfpat1_10 rfl ⟨rfl, trivial⟩) rfl rfl ?_
  rintro _ w6 ⟨rfl, e5⟩
  have H7 := H2.ext e5
  refine reg_nil ?_
  refine fn_next ?_
  refine cw_condd rfl (fun hne => ?_) (fun hne => ?_)
  ·skip
   refine cw_seq ?_
   refine cw_reg ?_
   refine ry (y_mov rfl rfl) rfl rfl ?_
   refine ry (y_asg rfl rfl) rfl rfl ?_
   refine reg_nil ?_
   refine fn_next ?_
   refine cw_ret ?_
   refine fn_block_ret (fn_then_ret (fn_then_ret (fn_block_ret (fn_then_ret ?_))))
   refine fn_ret1 rfl rfl ?_
   rw [ixB_at hp1.out (by omega) hne]
   exact ⟨rfl, H7.base⟩
  ·skip
   refine cw_skip ?_
   refine fn_block ?_
   refine fn_next ?_
   refine cw_reg ?_
   refine ry (y_add rfl rfl rfl (wi (by omega))) rfl rfl ?_
   refine ry (y_mov rfl rfl) rfl rfl ?_
   refine reg_nil ?_
   refine fn_roundJ ⟨i + 1, rfl, H7, by omega, Lib.hid (fun j hj => (Nat.lt_or_eq_of_le (Nat.le_of_lt_succ hj)).elim (hp1.out j) (fun e => e ▸ Classical.not_not.1 hne)), rfl⟩ ⟨rfl, trivial⟩ (by omega) (by repeat (first | exact kp_refl | refine kp_app rfl rfl ?_ | refine kp_cons rfl ?_)) rfl
 ·skip
  obtain rfl : i = n := by omega
  refine cw_exit ?_
  refine fn_then_exit (fn_then_exit (fn_block_exit ?_))
  refine fn_next ?_
  refine cw_seq ?_
  refine cw_reg ?_
  refine ry (y_asg rfl rfl) rfl rfl ?_
  refine reg_nil ?_
  refine fn_next ?_
  refine cw_ret ?_
  refine fn_ret1 rfl rfl ?_
  rw [ixB_no (fun j hj => hp1.out j (by omega))]
  exact ⟨rfl, H2.base⟩

set_option maxRecDepth 100000 in
theorem patHas (A : Option Addr) (n cap : Nat) (L : List Int) (w : World) (h : Rd w A (vi .i64 L)) (hl : L.length = n) (hn : n ≤ 16777216) :
    Ret Try.prog 86 [.slice A n cap, .func (.func 87) #[] #[]] w (fun v w' => v = .bool (decide (¬ AllB L)) ∧ Below w.heap.size w w') := by
 refine ret_enter Try.func86 rfl rfl rfl ?_
 have H0 := HS.start w
 refine cw_seq ?_
 refine cw_reg ?_
 refine ry (y_asg rfl rfl) rfl rfl ?_
 refine reg_nil ?_
 refine fn_next ?_
 refine cw_seq ?_
 refine cw_reg ?_
 refine ry (y_mov rfl rfl) rfl rfl ?_
 refine ry (y_mov rfl rfl) rfl rfl ?_
 refine reg_op (op_call (patIx A n cap L _ (h.below H0.base) hl hn) rfl kfpat1_11 ⟨rfl, rfl, trivial⟩) rfl rfl ?_
 rintro _ w2 ⟨rfl, e1⟩
 have H3 := H0.ext e1
 refine ry (y_geq rfl rfl rfl) rfl rfl ?_
 refine ry (y_asg rfl rfl) rfl rfl ?_
 refine reg_nil ?_
 refine fn_next ?_
 refine cw_ret ?_
 refine fn_ret1 rfl rfl ?_
 exact ⟨bdec ixB_iff, H3.base⟩

set_option maxRecDepth 100000 in
theorem patVals (x0 y0 x1 y1 : Int) (A : Option Addr) (n cap : Nat) (L : List Int) (w : World) (hr : Rd w A (vi .i64 L)) (hl : L.length = n) (hn : n ≤ 16777216) :
    Ret Try.prog 64 [.agg #[.int .i64 x0, .int .i64 y0, .int .i64 x1, .int .i64 y1], .slice A n cap] w (fun z w' => z = .bool (decide ((n : Int) = areaI x0 y0 x1 y1 ∧ AllB L)) ∧ Below w.heap.size w w') := by
 refine ret_enter Try.func64 rfl rfl rfl ?_
 have H0 := HS.start w
 refine cw_seq ?_
 refine cw_reg ?_
 refine reg_op (op_box (cs := [.int _ _, .int _ _, .int _ _, .int _ _]) H0 rfl rfl rfl) rfl rfl ?_
 rintro _ w2 ⟨b1, rfl, H3⟩
 refine ry (y_asg rfl rfl) rfl rfl ?_
 refine reg_nil ?_
 refine fn_next ?_
 refine cw_seq ?_
 refine cw_reg ?_
 refine ry (y_mov rfl rfl) rfl rfl ?_
 refine ry (y_len rfl Try.underlying28 rfl) rfl rfl ?_
 refine ry (y_ldb (i := 0) (cs := [_, _, _, _]) H3 rfl rfl kfpat1_2 rfl rfl) rfl rfl ?_
 refine reg_op (op_call (ret_elder (area_any x0 y0 x1 y1 _)) rfl kfpat1_12 ⟨rfl, trivial⟩) rfl rfl ?_
 rintro _ w5 ⟨rfl, e4⟩
 have H6 := H3.ext e4
 refine ry (y_eql rfl rfl rfl) rfl rfl ?_
 refine ry (y_mov rfl rfl) rfl rfl ?_
 refine rg_splitd (d := 10) rfl (fun h7 => ?_) (fun h7 => ?_)
 ·skip
  have c10 := h7
  refine rgy (y_mov rfl rfl) rfl rfl rfl rfl ?_
  refine rg_on rfl rfl rfl (op_call (patHas A n cap L _ (hr.below H6.base) hl hn) rfl kfpat1_13 ⟨rfl, rfl, trivial⟩) rfl ?_
  rintro _ w9 ⟨rfl, e8⟩
  have H10 := H6.ext e8
  refine rgy (y_notd rfl rfl) rfl rfl rfl rfl ?_
  refine ry (y_pick rfl rfl rfl) rfl rfl ?_
  refine ry (y_asg rfl rfl) rfl rfl ?_
  refine reg_nil ?_
  refine fn_next ?_
  refine cw_ret ?_
  refine fn_ret1 rfl rfl ?_
  refine ⟨?_, H10.base⟩
  first | exact bdec ⟨fun q => ⟨c10, Classical.not_not.1 q⟩, fun q => Classical.not_not.2 q.2⟩ | exact bfls (fun q => c10 q.1)
 ·skip
  have c10 := h7
  refine rg_off rfl rfl rfl rfl rfl ?_
  refine rg_off rfl rfl rfl rfl rfl ?_
  refine rg_off rfl rfl rfl rfl rfl ?_
  refine ry (y_pick rfl rfl rfl) rfl rfl ?_
  refine ry (y_asg rfl rfl) rfl rfl ?_
  refine reg_nil ?_
  refine fn_next ?_
  refine cw_ret ?_
  refine fn_ret1 rfl rfl ?_
  refine ⟨?_, H6.base⟩
  first | exact bdec ⟨fun q => ⟨c10, Classical.not_not.1 q⟩, fun q => Classical.not_not.2 q.2⟩ | exact bfls (fun q => c10 q.1)

set_option maxRecDepth 100000 in
theorem patRight (p : Pt) (w : World) (hp : p.ok w) (mo : p.o.n ≤ 16777216) (mq : p.q.n ≤ 16777216) :
    Ret Try.prog 34 [.agg #[.int .i64 p.x0, .int .i64 p.y0, .int .i64 p.x1, .int .i64 p.y1, .slice p.o.A p.o.n p.o.c, .slice p.q.A p.q.n p.q.c]] w (fun z w' => z = .bool (decide p.rightP) ∧ Below w.heap.size w w') := by
 refine ret_enter Try.func34 rfl rfl rfl ?_
 have H0 := HS.start w
 refine cw_seq ?_
 refine cw_reg ?_
 refine reg_op (op_box (cs := [.int _ _, .int _ _, .int _ _, .int _ _, .slice _ _ _, .slice _ _ _]) H0 rfl rfl rfl) rfl rfl ?_
 rintro _ w2 ⟨b1, rfl, H3⟩
 refine ry (y_asg rfl rfl) rfl rfl ?_
 refine reg_nil ?_
 refine fn_next ?_
 refine cw_seq ?_
 refine cw_reg ?_
 refine ry (y_ldb (i := 0) (cs := [_, _, _, _, _, _]) H3 rfl rfl kfpat1_14 rfl rfl) rfl rfl ?_
 refine reg_op (op_call (patEmpty p _ (hp.below H3.base)) rfl kfpat1_15 ⟨rfl, trivial⟩) rfl rfl ?_
 rintro _ w5 ⟨rfl, e4⟩
 have H6 := H3.ext e4
 refine ry (y_mov rfl rfl) rfl rfl ?_
 refine rg_splitd (d := 5) rfl (fun h7 => ?_) (fun h7 => ?_)
 ·skip
  have c5 := h7
  refine rg_off rfl rfl rfl rfl rfl ?_
  refine rg_off rfl rfl rfl rfl rfl ?_
  refine rg_off rfl rfl rfl rfl rfl ?_
  refine rg_off rfl rfl rfl rfl rfl ?_
  refine rg_offu rfl rfl rfl rfl ?_
  refine rg_offu rfl rfl rfl rfl ?_
  refine rg_offu rfl rfl rfl rfl ?_
  refine rg_offu rfl rfl rfl rfl ?_
  refine rg_offu rfl rfl rfl rfl ?_
  refine rg_off rfl rfl rfl rfl rfl ?_
  refine rg_off rfl rfl rfl rfl rfl ?_
  refine rg_offu rfl rfl rfl rfl ?_
  refine rg_offu rfl rfl rfl rfl ?_
  refine rg_offu rfl rfl rfl rfl ?_
  refine rg_offu rfl rfl rfl rfl ?_
  refine rg_offu rfl rfl rfl rfl ?_
  refine rg_off rfl rfl rfl rfl rfl ?_
  refine ry (y_pick rfl rfl rfl) rfl rfl ?_
  refine ry (y_asg rfl rfl) rfl rfl ?_
  refine reg_nil ?_
  refine fn_next ?_
  refine cw_ret ?_
  refine fn_ret1 rfl rfl ?_
  refine ⟨?_, H6.base⟩
  first | exact btru (.inl c5) | exact bfls (fun q => q.elim c5 (fun q => c9 q.1)) | exact bfls (fun q => q.elim c5 (fun q => c16 q.2.1)) | exact bdec ⟨fun q => .inr ⟨c9, c16, q⟩, fun q => q.elim (fun q => absurd q c5) (fun q => q.2.2)⟩
 ·skip
  have c5 := h7
  refine rgy (y_fa rfl rfl kfpat1_1 rfl) rfl rfl rfl rfl ?_
  refine rgy (y_lda (cs := [_, _, _, _]) rfl rfl kfpat1_2 rfl (fun j v hv => H6.cell (i := 0) rfl (lst_part (a := 0) (m := 4) hv))) rfl rfl rfl rfl ?_
  refine rg_on rfl rfl rfl (op_call (ret_v (v := .bool (decide (RightP p.x0 p.y0 p.x1 p.y1))) (ret_elder (right_any p.x0 p.y0 p.x1 p.y1 _)) rfl) rfl kfpat1_16 ⟨rfl, trivial⟩) rfl ?_
  rintro _ w9 ⟨rfl, e8⟩
  have H10 := H6.ext e8
  refine rgy (y_mov rfl rfl) rfl rfl rfl rfl ?_
  refine rg_splitd (d := 9) rfl (fun h11 => ?_) (fun h11 => ?_)
  ·skip
   have c9 := h11
   refine rgy (y_fa rfl rfl kfpat1_1 rfl) rfl rfl rfl rfl ?_
   refine rgy (y_lda (cs := [_, _, _, _]) rfl rfl kfpat1_2 rfl (fun j v hv => H10.cell (i := 0) rfl (lst_part (a := 0) (m := 4) hv))) rfl rfl rfl rfl ?_
   refine rgy (y_fa rfl rfl kfpat1_5 rfl) rfl rfl rfl rfl ?_
   refine rgy (y_ld rfl rfl kfpat1_6 (H10.cell (i := 0) rfl rfl)) rfl rfl rfl rfl ?_
   refine rg_on rfl rfl rfl (op_call (patVals p.x0 p.y0 p.x1 p.y1 p.o.A p.o.n p.o.c p.o.zs _ (hp.ho.rd.below H10.base) hp.ho.len mo) rfl kfpat1_17 ⟨rfl, rfl, trivial⟩) rfl ?_
   rintro _ w13 ⟨rfl, e12⟩
   have H14 := H10.ext e12
   refine rgy (y_pick rfl rfl rfl) rfl rfl rfl rfl ?_
   refine rgy (y_mov rfl rfl) rfl rfl rfl rfl ?_
   refine rg_splitd (d := 16) rfl (fun h15 => ?_) (fun h15 => ?_)
   ·skip
    have c16 := h15
    refine rgy (y_fa rfl rfl kfpat1_1 rfl) rfl rfl rfl rfl ?_
    refine rgy (y_lda (cs := [_, _, _, _]) rfl rfl kfpat1_2 rfl (fun j v hv => H14.cell (i := 0) rfl (lst_part (a := 0) (m := 4) hv))) rfl rfl rfl rfl ?_
    refine rgy (y_fa rfl rfl kfpat1_7 rfl) rfl rfl rfl rfl ?_
    refine rgy (y_ld rfl rfl kfpat1_6 (H14.cell (i := 0) rfl rfl)) rfl rfl rfl rfl ?_
    refine rg_on rfl rfl rfl (op_call (patVals p.x0 p.y0 p.x1 p.y1 p.q.A p.q.n p.q.c p.q.zs _ (hp.hq.rd.below H14.base) hp.hq.len mq) rfl kfpat1_17 ⟨rfl, rfl, trivial⟩) rfl ?_
    rintro _ w17 ⟨rfl, e16⟩
    have H18 := H14.ext e16
    refine rgy (y_pick rfl rfl rfl) rfl rfl rfl rfl ?_
    refine ry (y_pick rfl rfl rfl) rfl rfl ?_
    refine ry (y_asg rfl rfl) rfl rfl ?_
    refine reg_nil ?_
    refine fn_next ?_
    refine cw_ret ?_
    refine fn_ret1 rfl rfl ?_
    refine ⟨?_, H18.base⟩
    first | exact btru (.inl c5) | exact bfls (fun q => q.elim c5 (fun q => c9 q.1)) | exact bfls (fun q => q.elim c5 (fun q => c16 q.2.1)) | exact bdec ⟨fun q => .inr ⟨c9, c16, q⟩, fun q => q.elim (fun q => absurd q c5) (fun q => q.2.2)⟩
   ·skip
    have c16 := h15
    refine rg_off rfl rfl rfl rfl rfl ?_
    refine rg_off rfl rfl rfl rfl rfl ?_
    refine rg_off rfl rfl rfl rfl rfl ?_
    refine rg_off rfl rfl rfl rfl rfl ?_
    refine rg_off rfl rfl rfl rfl rfl ?_
    refine rgy (y_pick rfl rfl rfl) rfl rfl rfl rfl ?_
    refine ry (y_pick rfl rfl rfl) rfl rfl ?_
    refine ry (y_asg rfl rfl) rfl rfl ?_
    refine reg_nil ?_
    refine fn_next ?_
    refine cw_ret ?_
    refine fn_ret1 rfl rfl ?_
    refine ⟨?_, H14.base⟩
    first | exact btru (.inl c5) | exact bfls (fun q => q.elim c5 (fun q => c9 q.1)) | exact bfls (fun q => q.elim c5 (fun q => c16 q.2.1)) | exact bdec ⟨fun q => .inr ⟨c9, c16, q⟩, fun q => q.elim (fun q => absurd q c5) (fun q => q.2.2)⟩
  ·skip
   have c9 := h11
   refine rg_off rfl rfl rfl rfl rfl ?_
   refine rg_off rfl rfl rfl rfl rfl ?_
   refine rg_off rfl rfl rfl rfl rfl ?_
   refine rg_off rfl rfl rfl rfl rfl ?_
   refine rg_off rfl rfl rfl rfl rfl ?_
   refine rgy (y_pick rfl rfl rfl) rfl rfl rfl rfl ?_
   refine rgy (y_mov rfl rfl) rfl rfl rfl rfl ?_
   refine rg_off rfl rfl rfl rfl rfl ?_
   refine rg_off rfl rfl rfl rfl rfl ?_
   refine rg_off rfl rfl rfl rfl rfl ?_
   refine rg_off rfl rfl rfl rfl rfl ?_
   refine rg_off rfl rfl rfl rfl rfl ?_
   refine rgy (y_pick rfl rfl rfl) rfl rfl rfl rfl ?_
   refine ry (y_pick rfl rfl rfl) rfl rfl ?_
   refine ry (y_asg rfl rfl) rfl rfl ?_
   refine reg_nil ?_
   refine fn_next ?_
   refine cw_ret ?_
   refine fn_ret1 rfl rfl ?_
   refine ⟨?_, H10.base⟩
   first | exact btru (.inl c5) | exact bfls (fun q => q.elim c5 (fun q => c9 q.1)) | exact bfls (fun q => q.elim c5 (fun q => c16 q.2.1)) | exact bdec ⟨fun q => .inr ⟨c9, c16, q⟩, fun q => q.elim (fun q => absurd q c5) (fun q => q.2.2)⟩

end Go.Proofs.Ytgkkbeomhkggjaa
