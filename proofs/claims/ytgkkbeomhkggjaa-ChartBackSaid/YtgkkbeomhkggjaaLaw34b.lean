/- Layer 34: drawn, read, and drawn. -/
import Derived.Test.YtgkkbeomhkggjaaLaw34
import Derived.Test.YtgkkbeomhkggjaaLand2
set_option linter.unusedVariables false
set_option linter.unusedSimpArgs false
namespace Go.Proofs.Ytgkkbeomhkggjaa
open Go Go.RowKit
theorem kflaw34b_1 : callB Try.prog 21 = true := by kernel_rfl
theorem kflaw34b_2 : callB Try.prog 22 = true := by kernel_rfl
theorem kflaw34b_3 : (Try.prog.info? 53).bind (fun i => i.zero.map Value.cells) = some (List.toArray [(.int .i64 0), (.int .i64 0), (.slice none 0 0)]) := by kernel_rfl
theorem kflaw34b_4 : szB Try.prog 53 3 = true := by kernel_rfl
theorem kflaw34b_5 : callB Try.prog 23 = true := by kernel_rfl
theorem kflaw34b_6 : callB Try.prog 24 = true := by kernel_rfl
theorem kflaw34b_7 : aggB Try.prog 27 4 = true := by kernel_rfl
theorem kflaw34b_8 : callB Try.prog 25 = true := by kernel_rfl
theorem kflaw34b_9 : callB Try.prog 26 = true := by kernel_rfl
theorem kflaw34b_10 : callB Try.prog 27 = true := by kernel_rfl
theorem kflaw34b_11 : callB Try.prog 28 = true := by kernel_rfl
theorem kflaw34b_12 : callB Try.prog 29 = true := by kernel_rfl
theorem kflaw34b_13 : elB Try.prog 28 1 = true := by kernel_rfl
theorem kflaw34b_14 : oneB Try.prog 2 = true := by kernel_rfl
theorem kflaw34b_15 : elB Try.prog 51 2 = true := by kernel_rfl
theorem kflaw34b_16 : fldB Try.prog 70 0 0 = true := by kernel_rfl
theorem drawAll (g a h : Nat) (V : List Int) (A : Option Addr) (n c : Nat) (l : List Bd) (w : World) (R : GRd w g a h V) (hr : rgtB l = true) (hb : Rd w A (bcells l)) (hl : l.length = n) (hn : n ≤ 100000000) (hcap : n ≤ c) :
    Ret Try.prog 25 [.pointer (some ⟨g, 0, none⟩), .agg #[.int .i64 0, .int .i64 0, .int .i64 ((a : Int) - 1), .int .i64 ((h : Int) - 1)], .slice A n c] w (fun v w' => ∃ A1 c1, v = .tuple #[.slice A1 h c1, .int .i64 0] ∧ HS w w' [.row A1 h c1 (strs (drawL l a V h)) 9 1]) := by
  have s := R.gv.sz
  obtain ⟨s1, s2, s3, s4⟩ := id s
  have e1 : ((a : Int) - 1) = ((a - 1 : Nat) : Int) := by omega
  have e2 : ((h : Int) - 1) = ((h - 1 : Nat) : Int) := by omega
  have hw := within_all s
  have hv := gvalV_all R.gv
  rw [e1, e2] at hw hv
  have k := drawOk g a h V 0 0 (a - 1) (h - 1) A n c l V w R hw (Nat.zero_le _) (by omega) (Nat.zero_le _) (by omega) hv (by rw [R.gv.len, show h - 1 + 1 - 0 = h by omega, show a - 1 + 1 - 0 = a by omega, Nat.mul_comm]) hr hb hl hn hcap
  rw [show h - 1 + 1 - 0 = h by omega, show a - 1 + 1 - 0 = a by omega] at k
  rw [e1, e2]; exact k
theorem nth_mapq {l : List Bd} {vs : List Int} {i : Nat} (h : i < vs.length) : nth (vs.map (qv l)) i = qv l (nth vs i) := by
  rw [nth_lt h]; simp [nth, List.getD, h]

set_option maxRecDepth 100000 in
theorem chartBack_no (a h : Int) (L : List Int) (A9 : Option Addr) (n9 cap : Nat) (x0 y0 x1 y1 : Int) (A : Option Addr) (n c : Nat) (l : List Bd) (w : World) (ha : I6 a) (hh : I6 h) (hrL : Rd w A9 (vi .i64 L)) (hlL : L.length = n9) (hnm : n ≤ maxLen) (hb : Rd w A (bcells l)) (hl : l.length = n) (hcap : n ≤ c) (hp : ¬ LandP a h (1000 : Nat) L) :
    Ret Try.prog 6 [.int .i64 a, .int .i64 h, .slice A9 n9 cap, .agg #[.int .i64 x0, .int .i64 y0, .int .i64 x1, .int .i64 y1], .slice A n c] w (fun z w' => z = .bool true ∧ Below w.heap.size w w') := by
 refine ret_enter Try.func6 rfl rfl rfl ?_
 have H0 := HS.start w
 refine cw_seq ?_
 refine cw_reg ?_
 refine reg_op (op_box (cs := [.int _ _, .int _ _, .int _ _, .int _ _]) H0 rfl rfl rfl) rfl rfl ?_
 rintro _ w2 ⟨b1, rfl, H3⟩
 refine ry (y_asg rfl rfl) rfl rfl ?_
 refine reg_nil ?_
 refine fn_next ?_
 refine cw_seq ?_
 refine cw_seq ?_
 refine cw_reg ?_
 refine reg_op (op_call (chartAwake _) rfl kflaw34b_1 trivial) rfl rfl ?_
 rintro _ w5 ⟨rfl, e4⟩
 have H6 := H3.ext e4
 refine ry (y_not rfl rfl) rfl rfl ?_
 refine reg_nil ?_
 refine fn_next ?_
 refine cw_condf rfl ?_
 refine cw_skip ?_
 refine fn_next ?_
 refine cw_seq ?_
 refine cw_reg ?_
 refine ry (y_mov rfl rfl) rfl rfl ?_
 refine ry (y_mov rfl rfl) rfl rfl ?_
 refine ry (y_mov rfl rfl) rfl rfl ?_
 refine reg_op (op_call (land_any a h 1000 L A9 n9 cap _ ha hh (by decide) (hrL.below H6.base) hlL) rfl kflaw34b_2 ⟨rfl, rfl, rfl, rfl, trivial⟩) rfl rfl ?_
 rintro _ w8 ⟨rfl, e7⟩
 have H9 := H6.ext e7
 refine ry (y_mov rfl rfl) rfl rfl ?_
 refine ry (y_ext rfl rfl rfl) rfl rfl ?_
 refine ry (y_ext rfl rfl rfl) rfl rfl ?_
 refine reg_op (op_alloc H9 rfl kflaw34b_3) rfl rfl ?_
 rintro _ w11 ⟨b10, rfl, H12⟩
 refine reg_op (op_st (i := 0) (vs := [.int _ _, .int _ _, .slice _ _ _]) H12 rfl rfl rfl rfl rfl kflaw34b_4 rfl rfl rfl) rfl rfl ?_
 rintro _ w13 H14
 refine ry (y_asg rfl rfl) rfl rfl ?_
 refine reg_nil ?_
 refine fn_next ?_
 refine cw_seq ?_
 refine cw_seq ?_
 refine cw_reg ?_
 refine ry (y_mov rfl rfl) rfl rfl ?_
 refine ry (y_notd rfl rfl) rfl rfl ?_
 refine ry (y_mov rfl rfl) rfl rfl ?_
 refine rg_splitd (d := 36) rfl (fun h15 => ?_) (fun h15 => ?_)
 ·skip
  refine rg_off rfl rfl rfl rfl rfl ?_
  refine rg_off rfl rfl rfl rfl rfl ?_
  refine rg_off rfl rfl rfl rfl rfl ?_
  refine ry (y_pick rfl rfl rfl) rfl rfl ?_
  refine ry (y_mov rfl rfl) rfl rfl ?_
  refine rg_off rfl rfl rfl rfl rfl ?_
  refine rg_off rfl rfl rfl rfl rfl ?_
  refine rg_off rfl rfl rfl rfl rfl ?_
  refine ry (y_pick rfl rfl rfl) rfl rfl ?_
  refine reg_nil ?_
  refine fn_next ?_
  refine cw_condt rfl ?_
  refine cw_seq ?_
  refine cw_reg ?_
  refine ry (y_asg rfl rfl) rfl rfl ?_
  refine reg_nil ?_
  refine fn_next ?_
  refine cw_ret ?_
  refine fn_then_ret ?_
  refine fn_ret1 rfl rfl ?_
  exact ⟨rfl, H14.base⟩
 ·skip
  refine rgy (y_mov rfl rfl) rfl rfl rfl rfl ?_
  refine rgy (y_len rfl Try.underlying51 rfl) rfl rfl rfl rfl ?_
  refine rgy (y_gtr rfl rfl rfl) rfl rfl rfl rfl ?_
  refine ry (y_pick rfl rfl rfl) rfl rfl ?_
  refine ry (y_mov rfl rfl) rfl rfl ?_
  refine rg_splitd (d := 41) rfl (fun h16 => ?_) (fun h16 => ?_)
  ·skip
   refine rg_off rfl rfl rfl rfl rfl ?_
   refine rg_off rfl rfl rfl rfl rfl ?_
   refine rg_off rfl rfl rfl rfl rfl ?_
   refine ry (y_pick rfl rfl rfl) rfl rfl ?_
   refine reg_nil ?_
   refine fn_next ?_
   refine cw_condt rfl ?_
   refine cw_seq ?_
   refine cw_reg ?_
   refine ry (y_asg rfl rfl) rfl rfl ?_
   refine reg_nil ?_
   refine fn_next ?_
   refine cw_ret ?_
   refine fn_then_ret ?_
   refine fn_ret1 rfl rfl ?_
   exact ⟨rfl, H14.base⟩
  ·skip
   refine rgy (y_mov rfl rfl) rfl rfl rfl rfl ?_
   refine rg_on rfl rfl rfl (op_call (refRight3 A n c l _ (hb.below H14.base) hl (by omega)) rfl kflaw34b_5 ⟨rfl, trivial⟩) rfl ?_
   rintro _ w18 ⟨rfl, e17⟩
   have H19 := H14.ext e17
   refine rgy (y_not rfl rfl) rfl rfl rfl rfl ?_
   refine ry (y_pick rfl rfl rfl) rfl rfl ?_
   refine reg_nil ?_
   refine fn_next ?_
   refine cw_cond rfl (fun h20 => ?_) (fun h20 => ?_)
   ·skip
    refine cw_seq ?_
    refine cw_reg ?_
    refine ry (y_asg rfl rfl) rfl rfl ?_
    refine reg_nil ?_
    refine fn_next ?_
    refine cw_ret ?_
    refine fn_then_ret ?_
    refine fn_ret1 rfl rfl ?_
    exact ⟨rfl, H19.base⟩
   · (first | exact absurd (Classical.not_not.1 (by assumption)) hp | exact absurd (by assumption) hp | (exfalso; omega))

set_option maxRecDepth 100000 in
set_option maxHeartbeats 1000000 in
theorem chartBack_out (a h : Nat) (L : List Int) (A9 : Option Addr) (cap : Nat) (x0 y0 x1 y1 : Int) (A : Option Addr) (n c : Nat) (l : List Bd) (w : World) (h1 : 1 ≤ a) (h2 : a ≤ 1000) (h3 : 1 ≤ h) (h4 : h ≤ 1000) (h5 : a * h ≤ 1000) (hrL : Rd w A9 (vi .i64 L)) (hlL : L.length = a * h) (hbL : AllB L) (hnm : n ≤ maxLen) (hb : Rd w A (bcells l)) (hl : l.length = n) (hcap : n ≤ c) (hw : ¬ withinC x0 y0 x1 y1 a h = 0) :
    Ret Try.prog 6 [.int .i64 (a : Int), .int .i64 (h : Int), .slice A9 (a * h) cap, .agg #[.int .i64 x0, .int .i64 y0, .int .i64 x1, .int .i64 y1], .slice A n c] w (fun z w' => z = .bool true ∧ Below w.heap.size w w') := by
 have s : SzG a h := ⟨h1, by omega, h3, by omega⟩
 have hmx : maxLen ≤ 9223372036854775807 := by decide
 refine ret_enter Try.func6 rfl rfl rfl ?_
 have H0 := HS.start w
 refine cw_seq ?_
 refine cw_reg ?_
 refine reg_op (op_box (cs := [.int _ _, .int _ _, .int _ _, .int _ _]) H0 rfl rfl rfl) rfl rfl ?_
 rintro _ w2 ⟨b1, rfl, H3⟩
 refine ry (y_asg rfl rfl) rfl rfl ?_
 refine reg_nil ?_
 refine fn_next ?_
 refine cw_seq ?_
 refine cw_seq ?_
 refine cw_reg ?_
 refine reg_op (op_call (chartAwake _) rfl kflaw34b_1 trivial) rfl rfl ?_
 rintro _ w5 ⟨rfl, e4⟩
 have H6 := H3.ext e4
 refine ry (y_not rfl rfl) rfl rfl ?_
 refine reg_nil ?_
 refine fn_next ?_
 refine cw_condf rfl ?_
 refine cw_skip ?_
 refine fn_next ?_
 refine cw_seq ?_
 refine cw_reg ?_
 refine ry (y_mov rfl rfl) rfl rfl ?_
 refine ry (y_mov rfl rfl) rfl rfl ?_
 refine ry (y_mov rfl rfl) rfl rfl ?_
 refine reg_op (op_call (land_ok a h 1000 L A9 (a * h) cap _ h1 h2 h3 h4 h5 rfl hlL hbL (by decide) (hrL.below H6.base)) rfl kflaw34b_2 ⟨rfl, rfl, rfl, rfl, trivial⟩) rfl rfl ?_
 rintro _ w8 ⟨rfl, e7⟩
 have H9 := H6.ext e7
 refine ry (y_mov rfl rfl) rfl rfl ?_
 refine ry (y_ext rfl rfl rfl) rfl rfl ?_
 refine ry (y_ext rfl rfl rfl) rfl rfl ?_
 refine reg_op (op_alloc H9 rfl kflaw34b_3) rfl rfl ?_
 rintro _ w11 ⟨b10, rfl, H12⟩
 refine reg_op (op_st (i := 0) (vs := [.int _ _, .int _ _, .slice _ _ _]) H12 rfl rfl rfl rfl rfl kflaw34b_4 rfl rfl rfl) rfl rfl ?_
 rintro _ w13 H14
 refine ry (y_asg rfl rfl) rfl rfl ?_
 refine reg_nil ?_
 refine fn_next ?_
 refine cw_seq ?_
 refine cw_seq ?_
 refine cw_reg ?_
 refine ry (y_mov rfl rfl) rfl rfl ?_
 refine ry (y_not rfl rfl) rfl rfl ?_
 refine ry (y_mov rfl rfl) rfl rfl ?_
 refine rgy (y_mov rfl rfl) rfl rfl rfl rfl ?_
 refine rgy (y_len rfl Try.underlying51 rfl) rfl rfl rfl rfl ?_
 refine rgy (y_gtr rfl rfl rfl) rfl rfl rfl rfl ?_
 refine ry (y_pick rfl rfl rfl) rfl rfl ?_
 refine ry (y_mov rfl rfl) rfl rfl ?_
 refine rg_splitd (d := 41) rfl (fun h15 => ?_) (fun h15 => ?_)
 ·skip
  refine rg_off rfl rfl rfl rfl rfl ?_
  refine rg_off rfl rfl rfl rfl rfl ?_
  refine rg_off rfl rfl rfl rfl rfl ?_
  refine ry (y_pick rfl rfl rfl) rfl rfl ?_
  refine reg_nil ?_
  refine fn_next ?_
  refine cw_condt rfl ?_
  refine cw_seq ?_
  refine cw_reg ?_
  refine ry (y_asg rfl rfl) rfl rfl ?_
  refine reg_nil ?_
  refine fn_next ?_
  refine cw_ret ?_
  refine fn_then_ret ?_
  refine fn_ret1 rfl rfl ?_
  exact ⟨rfl, H14.base⟩
 ·skip
  refine rgy (y_mov rfl rfl) rfl rfl rfl rfl ?_
  refine rg_on rfl rfl rfl (op_call (refRight3 A n c l _ (hb.below H14.base) hl (by omega)) rfl kflaw34b_5 ⟨rfl, trivial⟩) rfl ?_
  rintro _ w17 ⟨rfl, e16⟩
  have H18 := H14.ext e16
  refine rgy (y_not rfl rfl) rfl rfl rfl rfl ?_
  refine ry (y_pick rfl rfl rfl) rfl rfl ?_
  refine reg_nil ?_
  refine fn_next ?_
  refine cw_cond rfl (fun h19 => ?_) (fun h19 => ?_)
  ·skip
   refine cw_seq ?_
   refine cw_reg ?_
   refine ry (y_asg rfl rfl) rfl rfl ?_
   refine reg_nil ?_
   refine fn_next ?_
   refine cw_ret ?_
   refine fn_then_ret ?_
   refine fn_ret1 rfl rfl ?_
   exact ⟨rfl, H18.base⟩
  ·skip
   have hr : rgtB l = true := by simpa using h19
   have hR := (rgtB_iff l).1 hr
   have hl1 := hR.1.1
   refine cw_skip ?_
   refine fn_next ?_
   refine cw_seq ?_
   refine cw_reg ?_
   refine ry (y_mov rfl rfl) rfl rfl ?_
   refine ry (y_mov rfl rfl) rfl rfl ?_
   refine ry (y_mov rfl rfl) rfl rfl ?_
   refine reg_op (op_call (made_ok a h L A9 (a * h) cap _ s hlL rfl hbL (hrL.below H18.base)) rfl kflaw34b_6 ⟨rfl, rfl, rfl, trivial⟩) rfl rfl ?_
   rintro _ w21 ⟨g23, bl24, rfl, k20⟩
   have H22 := H18.call k20
   refine ry (y_mov rfl rfl) rfl rfl ?_
   refine ry (y_ext rfl rfl rfl) rfl rfl ?_
   refine ry (y_ext rfl rfl rfl) rfl rfl ?_
   refine ry (y_asg rfl rfl) rfl rfl ?_
   refine ry (y_asg rfl rfl) rfl rfl ?_
   refine reg_nil ?_
   refine fn_next ?_
   refine cw_seq ?_
   refine cw_seq ?_
   refine cw_reg ?_
   refine ry (y_mov rfl rfl) rfl rfl ?_
   refine ry (y_not rfl rfl) rfl rfl ?_
   refine reg_nil ?_
   refine fn_next ?_
   refine cw_condf rfl ?_
   refine cw_skip ?_
   refine fn_next ?_
   refine cw_seq ?_
   refine cw_reg ?_
   refine ry (y_mov rfl rfl) rfl rfl ?_
   refine ry (y_ldb (i := 2) (cs := [_, _, _, _]) H22 rfl rfl kflaw34b_7 rfl rfl) rfl rfl ?_
   refine ry (y_mov rfl rfl) rfl rfl ?_
   refine reg_op (op_call (drawNo g23 a h L x0 y0 x1 y1 A n c l _ (H22.rdg (i := 0) rfl) hw (hb.below H22.base) hl (by omega) hcap) rfl kflaw34b_8 ⟨rfl, rfl, rfl, trivial⟩) rfl rfl ?_
   rintro _ w26 ⟨rfl, e25⟩
   have H27 := H22.ext e25
   refine ry (y_mov rfl rfl) rfl rfl ?_
   refine ry (y_ext rfl rfl rfl) rfl rfl ?_
   refine ry (y_ext rfl rfl rfl) rfl rfl ?_
   refine ry (y_asg rfl rfl) rfl rfl ?_
   refine ry (y_asg rfl rfl) rfl rfl ?_
   refine reg_nil ?_
   refine fn_next ?_
   refine cw_seq ?_
   refine cw_seq ?_
   refine cw_reg ?_
   refine ry (y_mov rfl rfl) rfl rfl ?_
   refine ry (y_neq rfl rfl rfl) rfl rfl ?_
   refine reg_nil ?_
   refine fn_next ?_
   refine cw_condd rfl (fun h28 => ?_) (fun h28 => ?_)
   ·skip
    refine cw_seq ?_
    refine cw_reg ?_
    refine ry (y_mov rfl rfl) rfl rfl ?_
    refine ry (y_len rfl Try.underlying60 rfl) rfl rfl ?_
    refine ry (y_eql rfl rfl rfl) rfl rfl ?_
    refine ry (y_asg rfl rfl) rfl rfl ?_
    refine reg_nil ?_
    refine fn_next ?_
    refine cw_ret ?_
    refine fn_then_ret ?_
    refine fn_ret1 rfl rfl ?_
    exact ⟨rfl, H27.base⟩
   · exact (h28 hw).elim

set_option maxRecDepth 100000 in
set_option maxHeartbeats 4000000 in
theorem chartBack_in (a h : Nat) (L : List Int) (A9 : Option Addr) (cap : Nat) (p0 q0 p1 q1 : Nat) (A : Option Addr) (n c : Nat) (l : List Bd) (VS : List Int) (w : World) (h1 : 1 ≤ a) (h2 : a ≤ 1000) (h3 : 1 ≤ h) (h4 : h ≤ 1000) (h5 : a * h ≤ 1000) (hrL : Rd w A9 (vi .i64 L)) (hlL : L.length = a * h) (hbL : AllB L) (hnm : n ≤ maxLen) (hb : Rd w A (bcells l)) (hl : l.length = n) (hcap : n ≤ c) (hw : withinC p0 q0 p1 q1 a h = 0) (g1 : p0 ≤ p1) (g2 : p1 < a) (g3 : q0 ≤ q1) (g4 : q1 < h) (hVS : gvalV L a h p0 q0 p1 q1 = VS) (hVl : VS.length = (q1 + 1 - q0) * (p1 + 1 - p0)) :
    Ret Try.prog 6 [.int .i64 (a : Int), .int .i64 (h : Int), .slice A9 (a * h) cap, .agg #[.int .i64 (p0 : Int), .int .i64 (q0 : Int), .int .i64 (p1 : Int), .int .i64 (q1 : Int)], .slice A n c] w (fun z w' => z = .bool true ∧ Below w.heap.size w w') := by
 have s : SzG a h := ⟨h1, by omega, h3, by omega⟩
 have hmx : maxLen ≤ 9223372036854775807 := by decide
 have hVg : (gvalV L a h p0 q0 p1 q1).length = VS.length := by rw [hVS]
 have hmc : (q1 + 1 - q0) * (p1 + 1 - p0) = (p1 + 1 - p0) * (q1 + 1 - q0) := Nat.mul_comm _ _
 have hVb : (p1 + 1 - p0) * (q1 + 1 - q0) ≤ 1000 * 1000 := Nat.mul_le_mul (by omega) (by omega)
 refine ret_enter Try.func6 rfl rfl rfl ?_
 have H0 := HS.start w
 refine cw_seq ?_
 refine cw_reg ?_
 refine reg_op (op_box (cs := [.int _ _, .int _ _, .int _ _, .int _ _]) H0 rfl rfl rfl) rfl rfl ?_
 rintro _ w2 ⟨b1, rfl, H3⟩
 refine ry (y_asg rfl rfl) rfl rfl ?_
 refine reg_nil ?_
 refine fn_next ?_
 refine cw_seq ?_
 refine cw_seq ?_
 refine cw_reg ?_
 refine reg_op (op_call (chartAwake _) rfl kflaw34b_1 trivial) rfl rfl ?_
 rintro _ w5 ⟨rfl, e4⟩
 have H6 := H3.ext e4
 refine ry (y_not rfl rfl) rfl rfl ?_
 refine reg_nil ?_
 refine fn_next ?_
 refine cw_condf rfl ?_
 refine cw_skip ?_
 refine fn_next ?_
 refine cw_seq ?_
 refine cw_reg ?_
 refine ry (y_mov rfl rfl) rfl rfl ?_
 refine ry (y_mov rfl rfl) rfl rfl ?_
 refine ry (y_mov rfl rfl) rfl rfl ?_
 refine reg_op (op_call (land_ok a h 1000 L A9 (a * h) cap _ h1 h2 h3 h4 h5 rfl hlL hbL (by decide) (hrL.below H6.base)) rfl kflaw34b_2 ⟨rfl, rfl, rfl, rfl, trivial⟩) rfl rfl ?_
 rintro _ w8 ⟨rfl, e7⟩
 have H9 := H6.ext e7
 refine ry (y_mov rfl rfl) rfl rfl ?_
 refine ry (y_ext rfl rfl rfl) rfl rfl ?_
 refine ry (y_ext rfl rfl rfl) rfl rfl ?_
 refine reg_op (op_alloc H9 rfl kflaw34b_3) rfl rfl ?_
 rintro _ w11 ⟨b10, rfl, H12⟩
 refine reg_op (op_st (i := 0) (vs := [.int _ _, .int _ _, .slice _ _ _]) H12 rfl rfl rfl rfl rfl kflaw34b_4 rfl rfl rfl) rfl rfl ?_
 rintro _ w13 H14
 refine ry (y_asg rfl rfl) rfl rfl ?_
 refine reg_nil ?_
 refine fn_next ?_
 refine cw_seq ?_
 refine cw_seq ?_
 refine cw_reg ?_
 refine ry (y_mov rfl rfl) rfl rfl ?_
 refine ry (y_not rfl rfl) rfl rfl ?_
 refine ry (y_mov rfl rfl) rfl rfl ?_
 refine rgy (y_mov rfl rfl) rfl rfl rfl rfl ?_
 refine rgy (y_len rfl Try.underlying51 rfl) rfl rfl rfl rfl ?_
 refine rgy (y_gtr rfl rfl rfl) rfl rfl rfl rfl ?_
 refine ry (y_pick rfl rfl rfl) rfl rfl ?_
 refine ry (y_mov rfl rfl) rfl rfl ?_
 refine rg_splitd (d := 41) rfl (fun h15 => ?_) (fun h15 => ?_)
 ·skip
  refine rg_off rfl rfl rfl rfl rfl ?_
  refine rg_off rfl rfl rfl rfl rfl ?_
  refine rg_off rfl rfl rfl rfl rfl ?_
  refine ry (y_pick rfl rfl rfl) rfl rfl ?_
  refine reg_nil ?_
  refine fn_next ?_
  refine cw_condt rfl ?_
  refine cw_seq ?_
  refine cw_reg ?_
  refine ry (y_asg rfl rfl) rfl rfl ?_
  refine reg_nil ?_
  refine fn_next ?_
  refine cw_ret ?_
  refine fn_then_ret ?_
  refine fn_ret1 rfl rfl ?_
  exact ⟨rfl, H14.base⟩
 ·skip
  refine rgy (y_mov rfl rfl) rfl rfl rfl rfl ?_
  refine rg_on rfl rfl rfl (op_call (refRight3 A n c l _ (hb.below H14.base) hl (by omega)) rfl kflaw34b_5 ⟨rfl, trivial⟩) rfl ?_
  rintro _ w17 ⟨rfl, e16⟩
  have H18 := H14.ext e16
  refine rgy (y_not rfl rfl) rfl rfl rfl rfl ?_
  refine ry (y_pick rfl rfl rfl) rfl rfl ?_
  refine reg_nil ?_
  refine fn_next ?_
  refine cw_cond rfl (fun h19 => ?_) (fun h19 => ?_)
  ·skip
   refine cw_seq ?_
   refine cw_reg ?_
   refine ry (y_asg rfl rfl) rfl rfl ?_
   refine reg_nil ?_
   refine fn_next ?_
   refine cw_ret ?_
   refine fn_then_ret ?_
   refine fn_ret1 rfl rfl ?_
   exact ⟨rfl, H18.base⟩
  ·skip
   have hr : rgtB l = true := by simpa using h19
   have hR := (rgtB_iff l).1 hr
   have hl1 := hR.1.1
   refine cw_skip ?_
   refine fn_next ?_
   refine cw_seq ?_
   refine cw_reg ?_
   refine ry (y_mov rfl rfl) rfl rfl ?_
   refine ry (y_mov rfl rfl) rfl rfl ?_
   refine ry (y_mov rfl rfl) rfl rfl ?_
   refine reg_op (op_call (made_ok a h L A9 (a * h) cap _ s hlL rfl hbL (hrL.below H18.base)) rfl kflaw34b_6 ⟨rfl, rfl, rfl, trivial⟩) rfl rfl ?_
   rintro _ w21 ⟨g23, bl24, rfl, k20⟩
   have H22 := H18.call k20
   refine ry (y_mov rfl rfl) rfl rfl ?_
   refine ry (y_ext rfl rfl rfl) rfl rfl ?_
   refine ry (y_ext rfl rfl rfl) rfl rfl ?_
   refine ry (y_asg rfl rfl) rfl rfl ?_
   refine ry (y_asg rfl rfl) rfl rfl ?_
   refine reg_nil ?_
   refine fn_next ?_
   refine cw_seq ?_
   refine cw_seq ?_
   refine cw_reg ?_
   refine ry (y_mov rfl rfl) rfl rfl ?_
   refine ry (y_not rfl rfl) rfl rfl ?_
   refine reg_nil ?_
   refine fn_next ?_
   refine cw_condf rfl ?_
   refine cw_skip ?_
   refine fn_next ?_
   refine cw_seq ?_
   refine cw_reg ?_
   refine ry (y_mov rfl rfl) rfl rfl ?_
   refine ry (y_ldb (i := 2) (cs := [_, _, _, _]) H22 rfl rfl kflaw34b_7 rfl rfl) rfl rfl ?_
   refine ry (y_mov rfl rfl) rfl rfl ?_
   refine reg_op (op_call (drawOk g23 a h L p0 q0 p1 q1 A n c l VS _ (H22.rdg (i := 0) rfl) hw g1 (by omega) g3 (by omega) hVS hVl hr (hb.below H22.base) hl (by omega) hcap) rfl kflaw34b_8 ⟨rfl, rfl, rfl, trivial⟩) rfl rfl ?_
   rintro _ w26 ⟨A28, c29, rfl, k25⟩
   have H27 := H22.call k25
   refine ry (y_mov rfl rfl) rfl rfl ?_
   refine ry (y_ext rfl rfl rfl) rfl rfl ?_
   refine ry (y_ext rfl rfl rfl) rfl rfl ?_
   refine ry (y_asg rfl rfl) rfl rfl ?_
   refine ry (y_asg rfl rfl) rfl rfl ?_
   refine reg_nil ?_
   refine fn_next ?_
   refine cw_seq ?_
   refine cw_seq ?_
   refine cw_reg ?_
   refine ry (y_mov rfl rfl) rfl rfl ?_
   refine ry (y_neq rfl rfl rfl) rfl rfl ?_
   refine reg_nil ?_
   refine fn_next ?_
   refine cw_condf rfl ?_
   refine cw_skip ?_
   refine fn_next ?_
   refine cw_seq ?_
   refine cw_reg ?_
   refine ry (y_mov rfl rfl) rfl rfl ?_
   refine ry (y_mov rfl rfl) rfl rfl ?_
   refine reg_op (op_call (readOk _ (q1 + 1 - q0) _ (drawL l (p1 + 1 - p0) VS (q1 + 1 - q0)) A n c l (p1 + 1 - p0) (VS.map (qv l)) _ (H27.rd (i := 0) rfl) drawL_len (by omega) (drawL_byts hR) (drawL_sz (by omega)) (hb.below H27.base) hl (by omega) hcap (readM_draw hR hVl (by omega) (by omega) (by omega) (by omega))) rfl kflaw34b_9 ⟨rfl, rfl, trivial⟩) rfl rfl ?_
   rintro _ w31 ⟨g33, bl34, rfl, k30⟩
   have H32 := H27.call k30
   refine ry (y_mov rfl rfl) rfl rfl ?_
   refine ry (y_ext rfl rfl rfl) rfl rfl ?_
   refine ry (y_ext rfl rfl rfl) rfl rfl ?_
   refine ry (y_asg rfl rfl) rfl rfl ?_
   refine ry (y_asg rfl rfl) rfl rfl ?_
   refine reg_nil ?_
   refine fn_next ?_
   refine cw_seq ?_
   refine cw_reg ?_
   refine ry (y_mov rfl rfl) rfl rfl ?_
   refine ry (y_mov rfl rfl) rfl rfl ?_
   refine reg_op (op_call (gAll g33 (p1 + 1 - p0) (q1 + 1 - q0) ((VS.map (qv l)))  _ (H32.rdg (i := 0) rfl)) rfl kflaw34b_10 ⟨rfl, trivial⟩) rfl rfl ?_
   rintro _ w36 ⟨rfl, e35⟩
   have H37 := H32.ext e35
   refine ry (y_mov rfl rfl) rfl rfl ?_
   refine reg_op (op_call (drawAll g33 (p1 + 1 - p0) (q1 + 1 - q0) (VS.map (qv l)) A n c l _ (H37.rdg (i := 0) rfl) hr (hb.below H37.base) hl (by omega) hcap) rfl kflaw34b_8 ⟨rfl, rfl, rfl, trivial⟩) rfl rfl ?_
   rintro _ w39 ⟨A41, c42, rfl, k38⟩
   have H40 := H37.call k38
   rw [drawL_q hR] at H40
   refine ry (y_mov rfl rfl) rfl rfl ?_
   refine ry (y_ext rfl rfl rfl) rfl rfl ?_
   refine ry (y_ext rfl rfl rfl) rfl rfl ?_
   refine ry (y_asg rfl rfl) rfl rfl ?_
   refine ry (y_asg rfl rfl) rfl rfl ?_
   refine reg_nil ?_
   refine fn_next ?_
   refine cw_seq ?_
   refine cw_reg ?_
   refine ry (y_mov rfl rfl) rfl rfl ?_
   refine ry (y_ldb (i := 5) (cs := [_, _, _, _]) H40 rfl rfl kflaw34b_7 rfl rfl) rfl rfl ?_
   refine reg_op (op_call (gValues g23 a h (L) p0 q0 p1 q1 _ (H40.rdg (i := 3) rfl)) rfl kflaw34b_11 ⟨rfl, rfl, trivial⟩) rfl rfl ?_
   rintro _ w44 ⟨A46, c47, rfl, k43⟩
   have H45 := H40.call k43
   rw [hVS] at H45
   refine ry (y_mov rfl rfl) rfl rfl ?_
   refine ry (y_ext rfl rfl rfl) rfl rfl ?_
   refine ry (y_ext rfl rfl rfl) rfl rfl ?_
   refine ry (y_asg rfl rfl) rfl rfl ?_
   refine ry (y_asg rfl rfl) rfl rfl ?_
   refine reg_nil ?_
   refine fn_next ?_
   refine cw_seq ?_
   refine cw_reg ?_
   refine ry (y_mov rfl rfl) rfl rfl ?_
   refine ry (y_mov rfl rfl) rfl rfl ?_
   refine reg_op (op_call (gAll g33 (p1 + 1 - p0) (q1 + 1 - q0) ((VS.map (qv l)))  _ (H45.rdg (i := 2) rfl)) rfl kflaw34b_10 ⟨rfl, trivial⟩) rfl rfl ?_
   rintro _ w49 ⟨rfl, e48⟩
   have H50 := H45.ext e48
   refine reg_op (op_call (gValuesAll g33 (p1 + 1 - p0) (q1 + 1 - q0) ((VS.map (qv l))) _ (H50.rdg (i := 2) rfl)) rfl kflaw34b_11 ⟨rfl, rfl, trivial⟩) rfl rfl ?_
   rintro _ w52 ⟨A54, c55, rfl, k51⟩
   have H53 := H50.call k51
   refine ry (y_mov rfl rfl) rfl rfl ?_
   refine ry (y_ext rfl rfl rfl) rfl rfl ?_
   refine ry (y_ext rfl rfl rfl) rfl rfl ?_
   refine ry (y_asg rfl rfl) rfl rfl ?_
   refine ry (y_asg rfl rfl) rfl rfl ?_
   refine reg_nil ?_
   refine fn_next ?_
   refine cw_seq ?_
   refine cw_seq ?_
   refine cw_reg ?_
   refine ry (y_mov rfl rfl) rfl rfl ?_
   refine ry (y_neq rfl rfl rfl) rfl rfl ?_
   refine ry (y_mov rfl rfl) rfl rfl ?_
   refine rgy (y_mov rfl rfl) rfl rfl rfl rfl ?_
   refine rgy (y_neq rfl rfl rfl) rfl rfl rfl rfl ?_
   refine ry (y_pick rfl rfl rfl) rfl rfl ?_
   refine ry (y_mov rfl rfl) rfl rfl ?_
   refine rgy (y_mov rfl rfl) rfl rfl rfl rfl ?_
   refine rgy (y_neq rfl rfl rfl) rfl rfl rfl rfl ?_
   refine ry (y_pick rfl rfl rfl) rfl rfl ?_
   refine ry (y_mov rfl rfl) rfl rfl ?_
   refine rg_splitd (d := 104) rfl (fun h56 => ?_) (fun h56 => ?_)
   · exact absurd hw h56
   ·skip
    refine rgy (y_mov rfl rfl) rfl rfl rfl rfl ?_
    refine rgy (y_neq rfl rfl rfl) rfl rfl rfl rfl ?_
    refine ry (y_pick rfl rfl rfl) rfl rfl ?_
    refine ry (y_mov rfl rfl) rfl rfl ?_
    refine rg_splitd (d := 108) rfl (fun h57 => ?_) (fun h57 => ?_)
    · exact absurd rfl h57
    ·skip
     refine rgy (y_mov rfl rfl) rfl rfl rfl rfl ?_
     refine rgy (y_mov rfl rfl) rfl rfl rfl rfl ?_
     refine rg_on rfl rfl rfl (op_call (lSame34 _ _ (q1 + 1 - q0) _ _ (drawL l (p1 + 1 - p0) VS (q1 + 1 - q0)) _ (H53.rd (i := 2) rfl) (H53.rd (i := 4) rfl) drawL_len (by omega) (drawL_byts hR)) rfl kflaw34b_12 ⟨rfl, rfl, trivial⟩) rfl ?_
     rintro _ w59 ⟨rfl, e58⟩
     have H60 := H53.ext e58
     refine rgy (y_not rfl rfl) rfl rfl rfl rfl ?_
     refine ry (y_pick rfl rfl rfl) rfl rfl ?_
     refine ry (y_mov rfl rfl) rfl rfl ?_
     refine rgy (y_mov rfl rfl) rfl rfl rfl rfl ?_
     refine rgy (y_len rfl Try.underlying28 rfl) rfl rfl rfl rfl ?_
     refine rgy (y_mov rfl rfl) rfl rfl rfl rfl ?_
     refine rgy (y_len rfl Try.underlying28 rfl) rfl rfl rfl rfl ?_
     refine rgy (y_neq rfl rfl rfl) rfl rfl rfl rfl ?_
     refine ry (y_pick rfl rfl rfl) rfl rfl ?_
     refine reg_nil ?_
     refine fn_next ?_
     refine cw_condd rfl (fun h61 => ?_) (fun h61 => ?_)
     · exfalso; omega
     ·skip
      refine cw_skip ?_
      refine fn_next ?_
      refine cw_seq ?_
      refine cw_seq ?_
      refine cw_reg ?_
      refine ry (y_asg rfl rfl) rfl rfl ?_
      refine reg_nil ?_
      refine fn_next ?_
      refine cw_block ?_
      refine cw_loopJ [10, 24, 121, 122, 123, 124, 125, 126, 127, 128, 129, 130, 131, 132, 133, 134, 135, 136, 137, 138, 139, 140, 141, 142, 143, 144, 145, 146] (fun M wl ml => ∃ (i : Nat), M = [(24, .int .i64 (i : Int))] ∧ HS w wl [Ob.row A46 VS.length c47 (vi .i64 VS) 2 1, Ob.row A54 ((p1 + 1 - p0) * (q1 + 1 - q0)) c55 (vi .i64 (VS.map (qv l))) 2 1] ∧ (i ≤ (p1 + 1 - p0) * (q1 + 1 - q0)) ∧ ml = (p1 + 1 - p0) * (q1 + 1 - q0) + 1 - i) ⟨0, rfl, (H60.pick (m := [_, _]) [1, 0] rfl (by decide)), Nat.zero_le _, rfl⟩ ⟨rfl, trivial⟩ ?_
      rintro M w62 m64 ⟨i, rfl, H63, hin, rfl⟩
      refine cw_seq ?_
      refine cw_seq ?_
      refine cw_reg ?_
      refine ry (y_mov rfl rfl) rfl rfl ?_
      refine ry (y_mov rfl rfl) rfl rfl ?_
      refine ry (y_len rfl Try.underlying28 rfl) rfl rfl ?_
      refine ry (y_lss rfl rfl rfl) rfl rfl ?_
      refine reg_nil ?_
      refine fn_next ?_
      refine cw_condd rfl (fun h65 => ?_) (fun h65 => ?_)
      ·skip
       have gw := vi_get (k := .i64) (zs := VS) (i := i) (by omega)
       have gn := vi_get (k := .i64) (zs := (VS.map (qv l))) (i := i) (by rw [List.length_map]; omega)
       rw [nth_mapq (by omega)] at gn
       have gb := b_get0 (l := l) (i := 0) (by have := hR.1.1; omega)
       have hq := qv_le hR (nth VS i)
       refine cw_skip ?_
       refine fn_next ?_
       refine cw_seq ?_
       refine cw_block ?_
       refine cw_seq ?_
       refine cw_draw H63 [0, 1, 2, 3, 4, 5, 6, 7, 8, 9, 10, 11, 12, 13, 14, 15, 16, 17, 18, 19] [] (fun X HX => HX) (by kernel_rfl) (by kernel_rfl) (by rfl) ?_
       simp only [pick, List.getElem?_cons_succ, List.getElem?_cons_zero]
       refine hk_y (fun Y HY => y_mov rfl rfl) rfl rfl ?_
       refine hk_y (fun Y HY => y_mov rfl rfl) rfl rfl ?_
       refine hk_y (fun Y HY => y_iar (HY.rd (i := 1) rfl) rfl rfl rfl kflaw34b_13 (rfl) (by omega) (Nat.mul_one _) (gn)) rfl rfl ?_
       refine hk_y (fun Y HY => y_ldr (HY.rd (i := 1) rfl) rfl rfl kflaw34b_14 (gn)) rfl rfl ?_
       refine hk_y (fun Y HY => y_mov rfl rfl) rfl rfl ?_
       refine hk_y (fun Y HY => y_mov rfl rfl) rfl rfl ?_
       refine hk_y (fun Y HY => y_iar (HY.rd (i := 0) rfl) rfl rfl rfl kflaw34b_13 (rfl) (by omega) (Nat.mul_one _) (gw)) rfl rfl ?_
       refine hk_y (fun Y HY => y_ldr (HY.rd (i := 0) rfl) rfl rfl kflaw34b_14 (gw)) rfl rfl ?_
       refine hk_y (fun Y HY => y_gtr rfl rfl rfl) rfl rfl ?_
       refine hk_y (fun Y HY => y_mov rfl rfl) rfl rfl ?_
       refine hk_splitd tv_all (d := 136) rfl (fun h66 => ?_) (fun h66 => ?_)
       ·skip
        refine hk_on (qy_yd fun Y HY => y_mov rfl rfl) rfl rfl rfl rfl ?_
        refine hk_on (qy_yd fun Y HY => y_mov rfl rfl) rfl rfl rfl rfl ?_
        refine hk_on (qy_yd fun Y HY => y_iar (HY.rd (i := 0) rfl) rfl rfl rfl kflaw34b_13 (rfl) (by omega) (Nat.mul_one _) (gw)) rfl rfl rfl rfl ?_
        refine hk_on (qy_yd fun Y HY => y_ldr (HY.rd (i := 0) rfl) rfl rfl kflaw34b_14 (gw)) rfl rfl rfl rfl ?_
        refine hk_on (qy_yd fun Y HY => y_mov rfl rfl) rfl rfl rfl rfl ?_
        refine hk_on (qy_yd fun Y HY => y_iar (i := 0) (hb.below HY.base) rfl rfl rfl kflaw34b_15 (rfl) (by omega) (rfl) (gb)) rfl rfl rfl rfl ?_
        refine hk_on (qy_yd fun Y HY => y_far (hb.below HY.base) rfl rfl kflaw34b_16 rfl (gb)) rfl rfl rfl rfl ?_
        refine hk_on (qy_yd fun Y HY => y_ldr (hb.below HY.base) rfl rfl kflaw34b_14 (gb)) rfl rfl rfl rfl ?_
        refine hk_on (qy_yd fun Y HY => y_geq rfl rfl rfl) rfl rfl rfl rfl ?_
        refine hk_y (fun Y HY => y_pick rfl rfl rfl) rfl rfl ?_
        refine hk_nil ?_
        intro w67 H68
        refine tv_nil ?_
        refine fn_next ?_
        refine cw_condd rfl (fun h69 => ?_) (fun h69 => ?_)
        · exfalso; omega
        ·skip
         refine cw_skip ?_
         refine fn_block ?_
         refine fn_next ?_
         refine cw_reg ?_
         refine ry (y_mov rfl rfl) rfl rfl ?_
         refine ry (y_add rfl rfl rfl (wi (by omega))) rfl rfl ?_
         refine ry (y_asg rfl rfl) rfl rfl ?_
         refine reg_nil ?_
         refine fn_roundJ ⟨i + 1, rfl, H68, by omega, rfl⟩ ⟨rfl, trivial⟩ (by omega) (by repeat (first | exact kp_refl | refine kp_app rfl rfl ?_ | refine kp_cons rfl ?_)) rfl
       ·skip
        refine hk_off rfl rfl rfl rfl rfl ?_
        refine hk_off rfl rfl rfl rfl rfl ?_
        refine hk_off rfl rfl rfl rfl rfl ?_
        refine hk_off rfl rfl rfl rfl rfl ?_
        refine hk_off rfl rfl rfl rfl rfl ?_
        refine hk_off rfl rfl rfl rfl rfl ?_
        refine hk_off rfl rfl rfl rfl rfl ?_
        refine hk_off rfl rfl rfl rfl rfl ?_
        refine hk_off rfl rfl rfl rfl rfl ?_
        refine hk_y (fun Y HY => y_pick rfl rfl rfl) rfl rfl ?_
        refine hk_nil ?_
        intro w70 H71
        refine tv_nil ?_
        refine fn_next ?_
        refine cw_condf rfl ?_
        refine cw_skip ?_
        refine fn_block ?_
        refine fn_next ?_
        refine cw_reg ?_
        refine ry (y_mov rfl rfl) rfl rfl ?_
        refine ry (y_add rfl rfl rfl (wi (by omega))) rfl rfl ?_
        refine ry (y_asg rfl rfl) rfl rfl ?_
        refine reg_nil ?_
        refine fn_roundJ ⟨i + 1, rfl, H71, by omega, rfl⟩ ⟨rfl, trivial⟩ (by omega) (by repeat (first | exact kp_refl | refine kp_app rfl rfl ?_ | refine kp_cons rfl ?_)) rfl
      ·skip
       refine cw_exit ?_
       refine fn_then_exit (fn_then_exit (fn_block_exit ?_))
       refine fn_next ?_
       refine cw_seq ?_
       refine cw_reg ?_
       refine ry (y_asg rfl rfl) rfl rfl ?_
       refine reg_nil ?_
       refine fn_next ?_
       refine cw_ret ?_
       refine fn_ret1 rfl rfl ?_
       exact ⟨rfl, H63.base⟩

theorem chartBack_all (a h : Int) (L : List Int) (A9 : Option Addr) (n9 cap : Nat) (x0 y0 x1 y1 : Int) (A : Option Addr) (n c : Nat) (l : List Bd) (w : World) (ha : I6 a) (hh : I6 h) (hrL : Rd w A9 (vi .i64 L)) (hlL : L.length = n9) (hnm : n ≤ maxLen) (hb : Rd w A (bcells l)) (hl : l.length = n) (hcap : n ≤ c) : Ret Try.prog 6 [.int .i64 a, .int .i64 h, .slice A9 n9 cap, .agg #[.int .i64 x0, .int .i64 y0, .int .i64 x1, .int .i64 y1], .slice A n c] w (fun z w' => z = .bool true ∧ Below w.heap.size w w') := by
  by_cases hp : LandP a h (1000 : Nat) L
  · obtain ⟨a, h, rfl, rfl, h1, h2, h3, h4, h5, h6, h7⟩ := LandP.nat hp
    obtain rfl : n9 = a * h := by omega
    by_cases hw : withinC x0 y0 x1 y1 a h = 0
    · obtain ⟨p0, q0, p1, q1, rfl, rfl, rfl, rfl, g1, g2, g3, g4⟩ := within_natG (show SzG a h from ⟨h1, by omega, h3, by omega⟩) hw
      exact chartBack_in a h L A9 cap p0 q0 p1 q1 A n c l _ w h1 h2 h3 h4 h5 hrL hlL h7 hnm hb hl hcap hw g1 g2 g3 g4 rfl (by rw [gvalV_ok hw g1 g3, rvAll_len])
    · exact chartBack_out a h L A9 cap x0 y0 x1 y1 A n c l w h1 h2 h3 h4 h5 hrL hlL h7 hnm hb hl hcap hw
  · exact chartBack_no a h L A9 n9 cap x0 y0 x1 y1 A n c l w ha hh hrL hlL hnm hb hl hcap hp

theorem chartBack_law (a : Int) (h : Int) (zs : List Int) (A2 : Option Addr) (n2 c2 : Nat) (rx0 ry0 rx1 ry1 : Int) (l : List Bd) (A4 : Option Addr) (n4 c4 : Nat) (W : World) (ba : I6 a) (bh : I6 h) (hzs : Ints .i64 W A2 n2 zs) (le2 : n2 ≤ c2) (mx2 : c2 ≤ maxLen) (wzs : ∀ z ∈ zs, I6 z) (brx0 : I6 rx0) (bry0 : I6 ry0) (brx1 : I6 rx1) (bry1 : I6 ry1) (hl : Rd W A4 (bcells l)) (ll : l.length = n4) (le4 : n4 ≤ c4) (mx4 : c4 ≤ maxLen) (wl : ∀ x ∈ l, x.ok) :
    Calls Try.prog 6 #[.int .i64 a, .int .i64 h, .slice A2 n2 c2, .agg #[.int .i64 rx0, .int .i64 ry0, .int .i64 rx1, .int .i64 ry1], .slice A4 n4 c4] W fun e w' => e = .returned (.bool true) ∧ Below W.heap.size W w' := lawOf (chartBack_all a h zs A2 n2 c2 rx0 ry0 rx1 ry1 A4 n4 c4 l W ba bh (Rd.of_ints hzs) hzs.len (Nat.le_trans le4 mx4) hl ll le4)

end Go.Proofs.Ytgkkbeomhkggjaa
