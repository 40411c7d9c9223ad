/- Layer 47: the law of patches. -/
import Derived.Test.YtbhmkpnihgjlnaaMerge3
set_option linter.unusedVariables false
set_option linter.unusedSimpArgs false
namespace Go.Proofs.Ytbhmkpnihgjlnaa
open Go Go.RowKit
theorem kflaw47c_1 : callB Try.prog 19 = true := by kernel_rfl
theorem kflaw47c_2 : callB Try.prog 16 = true := by kernel_rfl
theorem kflaw47c_3 : (Try.prog.info? 25).bind (fun i => i.zero.map Value.cells) = some (List.toArray [(.int .i64 0), (.int .i64 0), (.slice none 0 0)]) := by kernel_rfl
theorem kflaw47c_4 : szB Try.prog 25 3 = true := by kernel_rfl
theorem kflaw47c_5 : elB Try.prog 78 6 = true := by kernel_rfl
theorem kflaw47c_6 : fldB Try.prog 80 1 4 = true := by kernel_rfl
theorem kflaw47c_7 : oneB Try.prog 22 = true := by kernel_rfl
theorem kflaw47c_8 : fldB Try.prog 80 2 5 = true := by kernel_rfl
theorem kflaw47c_9 : callB Try.prog 17 = true := by kernel_rfl
theorem kflaw47c_10 : callB Try.prog 48 = true := by kernel_rfl
theorem kflaw47c_11 : aggB Try.prog 25 3 = true := by kernel_rfl
theorem kflaw47c_12 : callB Try.prog 49 = true := by kernel_rfl
theorem kflaw47c_13 : callB Try.prog 22 = true := by kernel_rfl

set_option maxRecDepth 100000 in
theorem mergeApply_no (a h : Int) (L : List Int) (AL : Option Addr) (nL cL : Nat) (ps : List Pt) (B : Option Addr) (n c : Nat) (w : World) (ha : I6 a) (hh : I6 h) (rL : Rd w AL (vi .i64 L)) (lL : L.length = nL) (hps : Rd w B (ptCells ps)) (hln : ps.length = n) (hall : ∀ x ∈ ps, x.ok w) (hp : ¬ (LandP a h (1000 : Nat) L ∧ n ≤ 20)) :
    Ret Try.prog 12 [.int .i64 a, .int .i64 h, .slice AL nL cL, .slice B n c] w (fun z w' => z = .bool true ∧ Below w.heap.size w w') := by
 refine ret_enter Try.func12 rfl rfl rfl ?_
 have H0 := HS.start w
 refine cw_seq ?_
 refine cw_reg ?_
 refine ry (y_asg rfl rfl) rfl rfl ?_
 refine reg_nil ?_
 refine fn_next ?_
 refine cw_seq ?_
 refine cw_seq ?_
 refine cw_reg ?_
 refine reg_op (op_call (mergeAwake _) rfl kflaw47c_1 trivial) rfl rfl ?_
 rintro _ w2 ⟨rfl, e1⟩
 have H3 := H0.ext e1
 refine ry (y_not rfl rfl) rfl rfl ?_
 refine reg_nil ?_
 refine fn_next ?_
 refine cw_condf rfl ?_
 refine cw_skip ?_
 refine fn_next ?_
 refine cw_seq ?_
 refine cw_reg ?_
 refine ry (y_mov rfl rfl) rfl rfl ?_
 refine ry (y_mov rfl rfl) rfl rfl ?_
 refine ry (y_mov rfl rfl) rfl rfl ?_
 refine reg_op (op_call (land_any a h 1000 L AL nL cL _ ha hh (by decide) (rL.below H3.base) lL) rfl kflaw47c_2 ⟨rfl, rfl, rfl, rfl, trivial⟩) rfl rfl ?_
 rintro _ w5 ⟨rfl, e4⟩
 have H6 := H3.ext e4
 refine ry (y_mov rfl rfl) rfl rfl ?_
 refine ry (y_ext rfl rfl rfl) rfl rfl ?_
 refine ry (y_ext rfl rfl rfl) rfl rfl ?_
 refine reg_op (op_alloc H6 rfl kflaw47c_3) rfl rfl ?_
 rintro _ w8 ⟨b7, rfl, H9⟩
 refine reg_op (op_st (i := 0) (vs := [.int _ _, .int _ _, .slice _ _ _]) H9 rfl rfl rfl rfl rfl kflaw47c_4 rfl rfl rfl) rfl rfl ?_
 rintro _ w10 H11
 refine ry (y_asg rfl rfl) rfl rfl ?_
 refine reg_nil ?_
 refine fn_next ?_
 refine cw_seq ?_
 refine cw_seq ?_
 refine cw_reg ?_
 refine ry (y_mov rfl rfl) rfl rfl ?_
 refine ry (y_notd rfl rfl) rfl rfl ?_
 refine ry (y_mov rfl rfl) rfl rfl ?_
 refine rg_splitd (d := 30) rfl (fun h12 => ?_) (fun h12 => ?_)
 ·skip
  refine rg_off rfl rfl rfl rfl rfl ?_
  refine rg_off rfl rfl rfl rfl rfl ?_
  refine rg_off rfl rfl rfl rfl rfl ?_
  refine ry (y_pick rfl rfl rfl) rfl rfl ?_
  refine reg_nil ?_
  refine fn_next ?_
  refine cw_condt rfl ?_
  refine cw_seq ?_
  refine cw_reg ?_
  refine ry (y_asg rfl rfl) rfl rfl ?_
  refine reg_nil ?_
  refine fn_next ?_
  refine cw_ret ?_
  refine fn_then_ret ?_
  refine fn_ret1 rfl rfl ?_
  exact ⟨rfl, H11.base⟩
 ·skip
  have q1 := Classical.not_not.1 h12
  refine rgy (y_mov rfl rfl) rfl rfl rfl rfl ?_
  refine rgy (y_len rfl Try.underlying78 rfl) rfl rfl rfl rfl ?_
  refine rgy (y_gtr rfl rfl rfl) rfl rfl rfl rfl ?_
  refine ry (y_pick rfl rfl rfl) rfl rfl ?_
  refine reg_nil ?_
  refine fn_next ?_
  refine cw_condd rfl (fun h13 => ?_) (fun h13 => ?_)
  ·skip
   refine cw_seq ?_
   refine cw_reg ?_
   refine ry (y_asg rfl rfl) rfl rfl ?_
   refine reg_nil ?_
   refine fn_next ?_
   refine cw_ret ?_
   refine fn_then_ret ?_
   refine fn_ret1 rfl rfl ?_
   exact ⟨rfl, H11.base⟩
  · exact absurd ⟨q1, by omega⟩ hp

theorem pI_of {l : List Pt} {x : Pt} (h : x ∈ l) : ∃ j, j < l.length ∧ pI l j = x := by
  obtain ⟨j, hj, rfl⟩ := List.mem_iff_getElem.1 h
  exact ⟨j, hj, by unfold pI; rw [List.getD_eq_getElem?_getD, List.getElem?_eq_getElem hj]; rfl⟩

set_option maxRecDepth 100000 in
theorem mergeApply_big (a h : Nat) (L : List Int) (AL : Option Addr) (cL : Nat) (ps : List Pt) (B : Option Addr) (n c : Nat) (w : World) (h1 : 1 ≤ a) (h2 : a ≤ 1000) (h3 : 1 ≤ h) (h4 : h ≤ 1000) (h5 : a * h ≤ 1000) (rL : Rd w AL (vi .i64 L)) (lL : L.length = a * h) (bL : AllB L) (hps : Rd w B (ptCells ps)) (hln : ps.length = n) (hall : ∀ x ∈ ps, x.ok w) (hn : n ≤ 20) (hbig : ¬ ∀ x ∈ ps, x.o.n ≤ 1500 ∧ x.q.n ≤ 1500) :
    Ret Try.prog 12 [.int .i64 (a : Int), .int .i64 (h : Int), .slice AL (a * h) cL, .slice B n c] w (fun z w' => z = .bool true ∧ Below w.heap.size w w') := by
 have s : SzG a h := ⟨h1, by omega, h3, by omega⟩
 refine ret_enter Try.func12 rfl rfl rfl ?_
 have H0 := HS.start w
 refine cw_seq ?_
 refine cw_reg ?_
 refine ry (y_asg rfl rfl) rfl rfl ?_
 refine reg_nil ?_
 refine fn_next ?_
 refine cw_seq ?_
 refine cw_seq ?_
 refine cw_reg ?_
 refine reg_op (op_call (mergeAwake _) rfl kflaw47c_1 trivial) rfl rfl ?_
 rintro _ w2 ⟨rfl, e1⟩
 have H3 := H0.ext e1
 refine ry (y_not rfl rfl) rfl rfl ?_
 refine reg_nil ?_
 refine fn_next ?_
 refine cw_condf rfl ?_
 refine cw_skip ?_
 refine fn_next ?_
 refine cw_seq ?_
 refine cw_reg ?_
 refine ry (y_mov rfl rfl) rfl rfl ?_
 refine ry (y_mov rfl rfl) rfl rfl ?_
 refine ry (y_mov rfl rfl) rfl rfl ?_
 refine reg_op (op_call (land_ok a h 1000 L AL (a * h) cL _ h1 h2 h3 h4 h5 rfl lL bL (by decide) (rL.below H3.base)) rfl kflaw47c_2 ⟨rfl, rfl, rfl, rfl, trivial⟩) rfl rfl ?_
 rintro _ w5 ⟨rfl, e4⟩
 have H6 := H3.ext e4
 refine ry (y_mov rfl rfl) rfl rfl ?_
 refine ry (y_ext rfl rfl rfl) rfl rfl ?_
 refine ry (y_ext rfl rfl rfl) rfl rfl ?_
 refine reg_op (op_alloc H6 rfl kflaw47c_3) rfl rfl ?_
 rintro _ w8 ⟨b7, rfl, H9⟩
 refine reg_op (op_st (i := 0) (vs := [.int _ _, .int _ _, .slice _ _ _]) H9 rfl rfl rfl rfl rfl kflaw47c_4 rfl rfl rfl) rfl rfl ?_
 rintro _ w10 H11
 refine ry (y_asg rfl rfl) rfl rfl ?_
 refine reg_nil ?_
 refine fn_next ?_
 refine cw_seq ?_
 refine cw_seq ?_
 refine cw_reg ?_
 refine ry (y_mov rfl rfl) rfl rfl ?_
 refine ry (y_not rfl rfl) rfl rfl ?_
 refine ry (y_mov rfl rfl) rfl rfl ?_
 refine rgy (y_mov rfl rfl) rfl rfl rfl rfl ?_
 refine rgy (y_len rfl Try.underlying78 rfl) rfl rfl rfl rfl ?_
 refine rgy (y_gtr rfl rfl rfl) rfl rfl rfl rfl ?_
 refine ry (y_pick rfl rfl rfl) rfl rfl ?_
 refine reg_nil ?_
 refine fn_next ?_
 refine cw_condd rfl (fun h12 => ?_) (fun h12 => ?_)
 · exfalso; omega
 ·skip
  refine cw_skip ?_
  refine fn_next ?_
  refine cw_seq ?_
  refine cw_seq ?_
  refine cw_reg ?_
  refine ry (y_asg rfl rfl) rfl rfl ?_
  refine reg_nil ?_
  refine fn_next ?_
  refine cw_block ?_
  refine cw_loopJ [8, 11, 35, 36, 37, 38, 39, 40, 41, 42, 43, 44, 45, 46, 47, 48, 49, 50, 51, 52, 53, 54, 55, 56] (fun M wl ml => ∃ (i : Nat), M = [(11, .int .i64 (i : Int))] ∧ HS w wl [Ob.blk b7 [.int .i64 (a : Int), .int .i64 (h : Int), .slice AL (a * h) cL] 25] ∧ (i ≤ n) ∧ (Hid (∀ j, j < i → (pI ps j).o.n ≤ 1500 ∧ (pI ps j).q.n ≤ 1500)) ∧ ml = n - i) ⟨0, rfl, H11, Nat.zero_le _, Lib.hid (fun j hj => absurd hj (Nat.not_lt_zero _)), rfl⟩ ⟨rfl, trivial⟩ ?_
  rintro M w13 m15 ⟨i, rfl, H14, hp0, hp1, rfl⟩
  refine cw_seq ?_
  refine cw_seq ?_
  refine cw_reg ?_
  refine ry (y_mov rfl rfl) rfl rfl ?_
  refine ry (y_mov rfl rfl) rfl rfl ?_
  refine ry (y_len rfl Try.underlying78 rfl) rfl rfl ?_
  refine ry (y_lss rfl rfl rfl) rfl rfl ?_
  refine reg_nil ?_
  refine fn_next ?_
  refine cw_condd rfl (fun h16 => ?_) (fun h16 => ?_)
  ·skip
   have pq : ∀ (j : Nat) (v : Value), ([.int .i64 (pI ps i).x0, .int .i64 (pI ps i).y0, .int .i64 (pI ps i).x1, .int .i64 (pI ps i).y1, .slice (pI ps i).o.A (pI ps i).o.n (pI ps i).o.c, .slice (pI ps i).q.A (pI ps i).q.n (pI ps i).q.c] : List Value)[j]? = some v → (ptCells ps)[i * 6 + j]? = some v := pt_get (pI_get (by omega))
   refine cw_skip ?_
   refine fn_next ?_
   refine cw_seq ?_
   refine cw_block ?_
   refine cw_seq ?_
   refine cw_reg ?_
   refine ry (y_mov rfl rfl) rfl rfl ?_
   refine ry (y_mov rfl rfl) rfl rfl ?_
   refine ry (y_iar (i := i) ((hps.below H14.base)) rfl rfl rfl kflaw47c_5 (rfl) (by omega) (rfl) (pq 0 _ rfl)) rfl rfl ?_
   refine ry (y_far ((hps.below H14.base)) rfl rfl kflaw47c_6 rfl (pq 0 _ rfl)) rfl rfl ?_
   refine ry (y_ldr ((hps.below H14.base)) rfl rfl kflaw47c_7 (pq 4 _ rfl)) rfl rfl ?_
   refine ry (y_len rfl Try.underlying22 rfl) rfl rfl ?_
   refine ry (y_gtr rfl rfl rfl) rfl rfl ?_
   refine ry (y_mov rfl rfl) rfl rfl ?_
   refine rg_splitd (d := 48) rfl (fun h17 => ?_) (fun h17 => ?_)
   ·skip
    have c48 := h17
    refine rg_off rfl rfl rfl rfl rfl ?_
    refine rg_off rfl rfl rfl rfl rfl ?_
    refine rg_off rfl rfl rfl rfl rfl ?_
    refine rg_off rfl rfl rfl rfl rfl ?_
    refine rg_off rfl rfl rfl rfl rfl ?_
    refine rg_off rfl rfl rfl rfl rfl ?_
    refine rg_off rfl rfl rfl rfl rfl ?_
    refine ry (y_pick rfl rfl rfl) rfl rfl ?_
    refine reg_nil ?_
    refine fn_next ?_
    refine cw_condt rfl ?_
    refine cw_seq ?_
    refine cw_reg ?_
    refine ry (y_asg rfl rfl) rfl rfl ?_
    refine reg_nil ?_
    refine fn_next ?_
    refine cw_ret ?_
    refine fn_block_ret (fn_then_ret (fn_then_ret (fn_block_ret (fn_then_ret ?_))))
    refine fn_ret1 rfl rfl ?_
    exact ⟨rfl, H14.base⟩
   ·skip
    have c48 := h17
    refine rgy (y_mov rfl rfl) rfl rfl rfl rfl ?_
    refine rgy (y_mov rfl rfl) rfl rfl rfl rfl ?_
    refine rgy (y_iar (i := i) ((hps.below H14.base)) rfl rfl rfl kflaw47c_5 (rfl) (by omega) (rfl) (pq 0 _ rfl)) rfl rfl rfl rfl ?_
    refine rgy (y_far ((hps.below H14.base)) rfl rfl kflaw47c_8 rfl (pq 0 _ rfl)) rfl rfl rfl rfl ?_
    refine rgy (y_ldr ((hps.below H14.base)) rfl rfl kflaw47c_7 (pq 5 _ rfl)) rfl rfl rfl rfl ?_
    refine rgy (y_len rfl Try.underlying22 rfl) rfl rfl rfl rfl ?_
    refine rgy (y_gtr rfl rfl rfl) rfl rfl rfl rfl ?_
    refine ry (y_pick rfl rfl rfl) rfl rfl ?_
    refine reg_nil ?_
    refine fn_next ?_
    refine cw_condd rfl (fun h18 => ?_) (fun h18 => ?_)
    ·skip
     refine cw_seq ?_
     refine cw_reg ?_
     refine ry (y_asg rfl rfl) rfl rfl ?_
     refine reg_nil ?_
     refine fn_next ?_
     refine cw_ret ?_
     refine fn_block_ret (fn_then_ret (fn_then_ret (fn_block_ret (fn_then_ret ?_))))
     refine fn_ret1 rfl rfl ?_
     exact ⟨rfl, H14.base⟩
    ·skip
     refine cw_skip ?_
     refine fn_block ?_
     refine fn_next ?_
     refine cw_reg ?_
     refine ry (y_mov rfl rfl) rfl rfl ?_
     refine ry (y_add rfl rfl rfl (wi (by omega))) rfl rfl ?_
     refine ry (y_asg rfl rfl) rfl rfl ?_
     refine reg_nil ?_
     refine fn_roundJ ⟨i + 1, rfl, H14, by omega, Lib.hid (fun j hj => (Nat.lt_or_eq_of_le (Nat.le_of_lt_succ hj)).elim (hp1.out j) (fun e => by subst e; exact ⟨by omega, by omega⟩)), rfl⟩ ⟨rfl, trivial⟩ (by omega) (by repeat (first | exact kp_refl | refine kp_app rfl rfl ?_ | refine kp_cons rfl ?_)) rfl
  ·skip
   exact absurd (fun x hx => by obtain ⟨j, hj, rfl⟩ := pI_of hx; exact hp1.out j (by omega)) hbig

set_option maxRecDepth 100000 in
set_option maxHeartbeats 2000000 in
theorem mergeApply_ok (a h : Nat) (L : List Int) (AL : Option Addr) (cL : Nat) (ps : List Pt) (B : Option Addr) (n c : Nat) (w : World) (h1 : 1 ≤ a) (h2 : a ≤ 1000) (h3 : 1 ≤ h) (h4 : h ≤ 1000) (h5 : a * h ≤ 1000) (rL : Rd w AL (vi .i64 L)) (lL : L.length = a * h) (bL : AllB L) (hps : Rd w B (ptCells ps)) (hln : ps.length = n) (hall : ∀ x ∈ ps, x.ok w) (hn : n ≤ 20) (hsz : ∀ x ∈ ps, x.o.n ≤ 1500 ∧ x.q.n ≤ 1500) (hz : ∀ j, j < n → apE a h L ps j = 0) :
    Ret Try.prog 12 [.int .i64 (a : Int), .int .i64 (h : Int), .slice AL (a * h) cL, .slice B n c] w (fun z w' => z = .bool true ∧ Below w.heap.size w w') := by
 have s : SzG a h := ⟨h1, by omega, h3, by omega⟩
 have H0 : HS w w [] := HS.start w
 refine ret_enter Try.func12 rfl rfl rfl ?_
 refine cw_seq ?_
 refine cw_reg ?_
 refine ry (y_asg rfl rfl) rfl rfl ?_
 refine reg_nil ?_
 refine fn_next ?_
 refine cw_seq ?_
 refine cw_seq ?_
 refine cw_reg ?_
 refine reg_op (op_call (mergeAwake _) rfl kflaw47c_1 trivial) rfl rfl ?_
 rintro _ w2 ⟨rfl, e1⟩
 have H3 := H0.ext e1
 refine ry (y_not rfl rfl) rfl rfl ?_
 refine reg_nil ?_
 refine fn_next ?_
 refine cw_condf rfl ?_
 refine cw_skip ?_
 refine fn_next ?_
 refine cw_seq ?_
 refine cw_reg ?_
 refine ry (y_mov rfl rfl) rfl rfl ?_
 refine ry (y_mov rfl rfl) rfl rfl ?_
 refine ry (y_mov rfl rfl) rfl rfl ?_
 refine reg_op (op_call (land_ok a h 1000 L AL (a * h) cL _ h1 h2 h3 h4 h5 rfl lL bL (by decide) (rL.below H3.base)) rfl kflaw47c_2 ⟨rfl, rfl, rfl, rfl, trivial⟩) rfl rfl ?_
 rintro _ w5 ⟨rfl, e4⟩
 have H6 := H3.ext e4
 refine ry (y_mov rfl rfl) rfl rfl ?_
 refine ry (y_ext rfl rfl rfl) rfl rfl ?_
 refine ry (y_ext rfl rfl rfl) rfl rfl ?_
 refine reg_op (op_alloc H6 rfl kflaw47c_3) rfl rfl ?_
 rintro _ w8 ⟨b7, rfl, H9⟩
 refine reg_op (op_st (i := 0) (vs := [.int _ _, .int _ _, .slice _ _ _]) H9 rfl rfl rfl rfl rfl kflaw47c_4 rfl rfl rfl) rfl rfl ?_
 rintro _ w10 H11
 refine ry (y_asg rfl rfl) rfl rfl ?_
 refine reg_nil ?_
 refine fn_next ?_
 refine cw_seq ?_
 refine cw_seq ?_
 refine cw_reg ?_
 refine ry (y_mov rfl rfl) rfl rfl ?_
 refine ry (y_not rfl rfl) rfl rfl ?_
 refine ry (y_mov rfl rfl) rfl rfl ?_
 refine rgy (y_mov rfl rfl) rfl rfl rfl rfl ?_
 refine rgy (y_len rfl Try.underlying78 rfl) rfl rfl rfl rfl ?_
 refine rgy (y_gtr rfl rfl rfl) rfl rfl rfl rfl ?_
 refine ry (y_pick rfl rfl rfl) rfl rfl ?_
 refine reg_nil ?_
 refine fn_next ?_
 refine cw_condd rfl (fun h12 => ?_) (fun h12 => ?_)
 · exfalso; omega
 ·skip
  refine cw_skip ?_
  refine fn_next ?_
  refine cw_seq ?_
  refine cw_seq ?_
  refine cw_reg ?_
  refine ry (y_asg rfl rfl) rfl rfl ?_
  refine reg_nil ?_
  refine fn_next ?_
  refine cw_block ?_
  refine cw_loopJ [8, 11, 35, 36, 37, 38, 39, 40, 41, 42, 43, 44, 45, 46, 47, 48, 49, 50, 51, 52, 53, 54, 55, 56] (fun M wl ml => ∃ (i : Nat), M = [(11, .int .i64 (i : Int))] ∧ HS w wl (Ob.blk b7 [.int .i64 (a : Int), .int .i64 (h : Int), .slice AL (a * h) cL] 25 :: []) ∧ (i ≤ n) ∧ (Hid (∀ j, j < i → (pI ps j).o.n ≤ 1500 ∧ (pI ps j).q.n ≤ 1500)) ∧ ml = n - i) ⟨0, rfl, H11, Nat.zero_le _, Lib.hid (fun j hj => absurd hj (Nat.not_lt_zero _)), rfl⟩ ⟨rfl, trivial⟩ ?_
  rintro M w13 m15 ⟨i, rfl, H14, hp0, hp1, rfl⟩
  refine cw_seq ?_
  refine cw_seq ?_
  refine cw_reg ?_
  refine ry (y_mov rfl rfl) rfl rfl ?_
  refine ry (y_mov rfl rfl) rfl rfl ?_
  refine ry (y_len rfl Try.underlying78 rfl) rfl rfl ?_
  refine ry (y_lss rfl rfl rfl) rfl rfl ?_
  refine reg_nil ?_
  refine fn_next ?_
  refine cw_condd rfl (fun h16 => ?_) (fun h16 => ?_)
  ·skip
   have pq : ∀ (j : Nat) (v : Value), ([.int .i64 (pI ps i).x0, .int .i64 (pI ps i).y0, .int .i64 (pI ps i).x1, .int .i64 (pI ps i).y1, .slice (pI ps i).o.A (pI ps i).o.n (pI ps i).o.c, .slice (pI ps i).q.A (pI ps i).q.n (pI ps i).q.c] : List Value)[j]? = some v → (ptCells ps)[i * 6 + j]? = some v := pt_get (pI_get (by omega))
   have hs2 := hsz _ (pI_mem (show i < ps.length by omega))
   refine cw_skip ?_
   refine fn_next ?_
   refine cw_seq ?_
   refine cw_block ?_
   refine cw_seq ?_
   refine cw_reg ?_
   refine ry (y_mov rfl rfl) rfl rfl ?_
   refine ry (y_mov rfl rfl) rfl rfl ?_
   refine ry (y_iar (i := i) ((hps.below H14.base)) rfl rfl rfl kflaw47c_5 (rfl) (by omega) (rfl) (pq 0 _ rfl)) rfl rfl ?_
   refine ry (y_far ((hps.below H14.base)) rfl rfl kflaw47c_6 rfl (pq 0 _ rfl)) rfl rfl ?_
   refine ry (y_ldr ((hps.below H14.base)) rfl rfl kflaw47c_7 (pq 4 _ rfl)) rfl rfl ?_
   refine ry (y_len rfl Try.underlying22 rfl) rfl rfl ?_
   refine ry (y_gtr rfl rfl rfl) rfl rfl ?_
   refine ry (y_mov rfl rfl) rfl rfl ?_
   refine rg_splitd (d := 48) rfl (fun h17 => ?_) (fun h17 => ?_)
   · exfalso; omega
   ·skip
    have c48 := h17
    refine rgy (y_mov rfl rfl) rfl rfl rfl rfl ?_
    refine rgy (y_mov rfl rfl) rfl rfl rfl rfl ?_
    refine rgy (y_iar (i := i) ((hps.below H14.base)) rfl rfl rfl kflaw47c_5 (rfl) (by omega) (rfl) (pq 0 _ rfl)) rfl rfl rfl rfl ?_
    refine rgy (y_far ((hps.below H14.base)) rfl rfl kflaw47c_8 rfl (pq 0 _ rfl)) rfl rfl rfl rfl ?_
    refine rgy (y_ldr ((hps.below H14.base)) rfl rfl kflaw47c_7 (pq 5 _ rfl)) rfl rfl rfl rfl ?_
    refine rgy (y_len rfl Try.underlying22 rfl) rfl rfl rfl rfl ?_
    refine rgy (y_gtr rfl rfl rfl) rfl rfl rfl rfl ?_
    refine ry (y_pick rfl rfl rfl) rfl rfl ?_
    refine reg_nil ?_
    refine fn_next ?_
    refine cw_condd rfl (fun h18 => ?_) (fun h18 => ?_)
    · exfalso; omega
    ·skip
     refine cw_skip ?_
     refine fn_block ?_
     refine fn_next ?_
     refine cw_reg ?_
     refine ry (y_mov rfl rfl) rfl rfl ?_
     refine ry (y_add rfl rfl rfl (wi (by omega))) rfl rfl ?_
     refine ry (y_asg rfl rfl) rfl rfl ?_
     refine reg_nil ?_
     refine fn_roundJ ⟨i + 1, rfl, H14, by omega, Lib.hid (fun j hj => (Nat.lt_or_eq_of_le (Nat.le_of_lt_succ hj)).elim (hp1.out j) (fun e => by subst e; exact ⟨by omega, by omega⟩)), rfl⟩ ⟨rfl, trivial⟩ (by omega) (by repeat (first | exact kp_refl | refine kp_app rfl rfl ?_ | refine kp_cons rfl ?_)) rfl
  ·skip
   refine cw_exit ?_
   refine fn_then_exit (fn_then_exit (fn_block_exit ?_))
   refine fn_next ?_
   refine cw_seq ?_
   refine cw_reg ?_
   refine ry (y_mov rfl rfl) rfl rfl ?_
   refine ry (y_mov rfl rfl) rfl rfl ?_
   refine ry (y_mov rfl rfl) rfl rfl ?_
   refine reg_op (op_call (made_ok a h L AL (a * h) cL _ s lL rfl bL (rL.below H14.base)) rfl kflaw47c_9 ⟨rfl, rfl, rfl, trivial⟩) rfl rfl ?_
   rintro _ w20 ⟨g22, bl23, rfl, k19⟩
   have H21 := H14.call k19
   refine ry (y_mov rfl rfl) rfl rfl ?_
   refine ry (y_ext rfl rfl rfl) rfl rfl ?_
   refine ry (y_ext rfl rfl rfl) rfl rfl ?_
   refine ry (y_asg rfl rfl) rfl rfl ?_
   refine ry (y_asg rfl rfl) rfl rfl ?_
   refine reg_nil ?_
   refine fn_next ?_
   refine cw_seq ?_
   refine cw_seq ?_
   refine cw_reg ?_
   refine ry (y_mov rfl rfl) rfl rfl ?_
   refine ry (y_not rfl rfl) rfl rfl ?_
   refine reg_nil ?_
   refine fn_next ?_
   refine cw_condf rfl ?_
   refine cw_skip ?_
   refine fn_next ?_
   refine cw_seq ?_
   refine cw_reg ?_
   refine ry (y_mov rfl rfl) rfl rfl ?_
   refine ry (y_mov rfl rfl) rfl rfl ?_
   refine reg_op (op_call (mgApply_ok g22 a h L ps B n c _ (H21.rdg (i := 0) rfl) (fun x hx => (hall x hx).below H21.base) hsz ((hps.below H21.base)) hln hn hz) rfl kflaw47c_10 ⟨rfl, rfl, trivial⟩) rfl rfl ?_
   rintro _ w25 ⟨g27, bl28, rfl, k24⟩
   have H26 := H21.call k24
   refine ry (y_mov rfl rfl) rfl rfl ?_
   refine ry (y_ext rfl rfl rfl) rfl rfl ?_
   refine ry (y_ext rfl rfl rfl) rfl rfl ?_
   refine ry (y_ext rfl rfl rfl) rfl rfl ?_
   refine ry (y_asg rfl rfl) rfl rfl ?_
   refine ry (y_asg rfl rfl) rfl rfl ?_
   refine ry (y_asg rfl rfl) rfl rfl ?_
   refine reg_nil ?_
   refine fn_next ?_
   refine cw_seq ?_
   refine cw_reg ?_
   refine ry (y_ldb (i := 2) (cs := [_, _, _]) H26 rfl rfl kflaw47c_11 rfl rfl) rfl rfl ?_
   refine ry (y_mov rfl rfl) rfl rfl ?_
   refine reg_op (op_call (rmApply_ok w [_, _, _] [] a h AL cL L ps B n c _ s lL (fun X HX => rL.below HX.base) H26 hall hsz hps hln hn hz) rfl kflaw47c_12 ⟨rfl, rfl, trivial⟩) rfl rfl ?_
   rintro _ w30 ⟨P31, Q32, lz33, rfl, hz34, H29⟩
   refine ry (y_mov rfl rfl) rfl rfl ?_
   refine ry (y_ext rfl rfl rfl) rfl rfl ?_
   refine ry (y_ext rfl rfl rfl) rfl rfl ?_
   refine ry (y_ext rfl rfl rfl) rfl rfl ?_
   refine reg_op (op_alloc H29 rfl kflaw47c_3) rfl rfl ?_
   rintro _ w36 ⟨b35, rfl, H37⟩
   refine reg_op (op_st (i := 0) (vs := [.int _ _, .int _ _, .slice _ _ _]) H37 rfl rfl rfl rfl rfl kflaw47c_4 rfl rfl rfl) rfl rfl ?_
   rintro _ w38 H39
   refine ry (y_asg rfl rfl) rfl rfl ?_
   refine ry (y_asg rfl rfl) rfl rfl ?_
   refine reg_nil ?_
   refine fn_next ?_
   refine cw_seq ?_
   refine cw_seq ?_
   refine cw_reg ?_
   refine ry (y_mov rfl rfl) rfl rfl ?_
   refine ry (y_mov rfl rfl) rfl rfl ?_
   refine ry (yv (congrArg Value.bool (decide_eq_false (fun q => q rfl))) (y_neq rfl rfl rfl)) rfl rfl ?_
   refine ry (y_mov rfl rfl) rfl rfl ?_
   refine rgy (y_mov rfl rfl) rfl rfl rfl rfl ?_
   refine rgy (y_mov rfl rfl) rfl rfl rfl rfl ?_
   refine rgy (y_neq rfl rfl rfl) rfl rfl rfl rfl ?_
   refine ry (y_pick rfl rfl rfl) rfl rfl ?_
   refine ry (y_mov rfl rfl) rfl rfl ?_
   refine rgy (y_mov rfl rfl) rfl rfl rfl rfl ?_
   refine rgy (y_ldb (i := 3) (cs := [_, _, _]) H39 rfl rfl kflaw47c_11 rfl rfl) rfl rfl rfl rfl ?_
   refine rg_on rfl rfl rfl (op_call (lIs g22 a h (L) _ _ _ (H39.rdg (i := 2) rfl) ((rL.below H39.base))) rfl kflaw47c_13 ⟨rfl, rfl, trivial⟩) rfl ?_
   rintro _ w41 ⟨rfl, e40⟩
   have H42 := H39.ext e40
   refine rgy (y_not rfl rfl) rfl rfl rfl rfl ?_
   refine ry (y_pick rfl rfl rfl) rfl rfl ?_
   refine reg_nil ?_
   refine fn_next ?_
   refine cw_condf rfl ?_
   refine cw_skip ?_
   refine fn_next ?_
   refine cw_seq ?_
   refine cw_seq ?_
   refine cw_reg ?_
   refine ry (y_mov rfl rfl) rfl rfl ?_
   refine ry (y_neq rfl rfl rfl) rfl rfl ?_
   refine reg_nil ?_
   refine fn_next ?_
   refine cw_condf rfl ?_
   refine cw_skip ?_
   refine fn_next ?_
   refine cw_seq ?_
   refine cw_reg ?_
   refine ry (y_mov rfl rfl) rfl rfl ?_
   refine ry (y_ldb (i := 0) (cs := [_, _, _]) H42 rfl rfl kflaw47c_11 rfl rfl) rfl rfl ?_
   refine reg_op (op_call (lIs g27 a h (apW a h L ps n) _ _ _ (H42.rdg (i := 1) rfl) (hz34 _ (H42.tail.tail.tail.tail))) rfl kflaw47c_13 ⟨rfl, rfl, trivial⟩) rfl rfl ?_
   rintro _ w44 ⟨rfl, e43⟩
   have H45 := H42.ext e43
   refine ry (y_asg rfl rfl) rfl rfl ?_
   refine reg_nil ?_
   refine fn_next ?_
   refine cw_ret ?_
   refine fn_ret1 rfl rfl ?_
   exact ⟨rfl, H45.base⟩

set_option maxRecDepth 100000 in
set_option maxHeartbeats 2000000 in
theorem mergeApply_bad (a h : Nat) (L : List Int) (AL : Option Addr) (cL : Nat) (ps : List Pt) (B : Option Addr) (n c : Nat) (k : Nat) (w : World) (h1 : 1 ≤ a) (h2 : a ≤ 1000) (h3 : 1 ≤ h) (h4 : h ≤ 1000) (h5 : a * h ≤ 1000) (rL : Rd w AL (vi .i64 L)) (lL : L.length = a * h) (bL : AllB L) (hps : Rd w B (ptCells ps)) (hln : ps.length = n) (hall : ∀ x ∈ ps, x.ok w) (hn : n ≤ 20) (hsz : ∀ x ∈ ps, x.o.n ≤ 1500 ∧ x.q.n ≤ 1500) (hk : k < n) (hz : ∀ j, j < k → apE a h L ps j = 0) (hbad : ¬ apE a h L ps k = 0) :
    Ret Try.prog 12 [.int .i64 (a : Int), .int .i64 (h : Int), .slice AL (a * h) cL, .slice B n c] w (fun z w' => z = .bool true ∧ Below w.heap.size w w') := by
 have s : SzG a h := ⟨h1, by omega, h3, by omega⟩
 have H0 : HS w w [] := HS.start w
 refine ret_enter Try.func12 rfl rfl rfl ?_
 refine cw_seq ?_
 refine cw_reg ?_
 refine ry (y_asg rfl rfl) rfl rfl ?_
 refine reg_nil ?_
 refine fn_next ?_
 refine cw_seq ?_
 refine cw_seq ?_
 refine cw_reg ?_
 refine reg_op (op_call (mergeAwake _) rfl kflaw47c_1 trivial) rfl rfl ?_
 rintro _ w2 ⟨rfl, e1⟩
 have H3 := H0.ext e1
 refine ry (y_not rfl rfl) rfl rfl ?_
 refine reg_nil ?_
 refine fn_next ?_
 refine cw_condf rfl ?_
 refine cw_skip ?_
 refine fn_next ?_
 refine cw_seq ?_
 refine cw_reg ?_
 refine ry (y_mov rfl rfl) rfl rfl ?_
 refine ry (y_mov rfl rfl) rfl rfl ?_
 refine ry (y_mov rfl rfl) rfl rfl ?_
 refine reg_op (op_call (land_ok a h 1000 L AL (a * h) cL _ h1 h2 h3 h4 h5 rfl lL bL (by decide) (rL.below H3.base)) rfl kflaw47c_2 ⟨rfl, rfl, rfl, rfl, trivial⟩) rfl rfl ?_
 rintro _ w5 ⟨rfl, e4⟩
 have H6 := H3.ext e4
 refine ry (y_mov rfl rfl) rfl rfl ?_
 refine ry (y_ext rfl rfl rfl) rfl rfl ?_
 refine ry (y_ext rfl rfl rfl) rfl rfl ?_
 refine reg_op (op_alloc H6 rfl kflaw47c_3) rfl rfl ?_
 rintro _ w8 ⟨b7, rfl, H9⟩
 refine reg_op (op_st (i := 0) (vs := [.int _ _, .int _ _, .slice _ _ _]) H9 rfl rfl rfl rfl rfl kflaw47c_4 rfl rfl rfl) rfl rfl ?_
 rintro _ w10 H11
 refine ry (y_asg rfl rfl) rfl rfl ?_
 refine reg_nil ?_
 refine fn_next ?_
 refine cw_seq ?_
 refine cw_seq ?_
 refine cw_reg ?_
 refine ry (y_mov rfl rfl) rfl rfl ?_
 refine ry (y_not rfl rfl) rfl rfl ?_
 refine ry (y_mov rfl rfl) rfl rfl ?_
 refine rgy (y_mov rfl rfl) rfl rfl rfl rfl ?_
 refine rgy (y_len rfl Try.underlying78 rfl) rfl rfl rfl rfl ?_
 refine rgy (y_gtr rfl rfl rfl) rfl rfl rfl rfl ?_
 refine ry (y_pick rfl rfl rfl) rfl rfl ?_
 refine reg_nil ?_
 refine fn_next ?_
 refine cw_condd rfl (fun h12 => ?_) (fun h12 => ?_)
 · exfalso; omega
 ·skip
  refine cw_skip ?_
  refine fn_next ?_
  refine cw_seq ?_
  refine cw_seq ?_
  refine cw_reg ?_
  refine ry (y_asg rfl rfl) rfl rfl ?_
  refine reg_nil ?_
  refine fn_next ?_
  refine cw_block ?_
  refine cw_loopJ [8, 11, 35, 36, 37, 38, 39, 40, 41, 42, 43, 44, 45, 46, 47, 48, 49, 50, 51, 52, 53, 54, 55, 56] (fun M wl ml => ∃ (i : Nat), M = [(11, .int .i64 (i : Int))] ∧ HS w wl (Ob.blk b7 [.int .i64 (a : Int), .int .i64 (h : Int), .slice AL (a * h) cL] 25 :: []) ∧ (i ≤ n) ∧ (Hid (∀ j, j < i → (pI ps j).o.n ≤ 1500 ∧ (pI ps j).q.n ≤ 1500)) ∧ ml = n - i) ⟨0, rfl, H11, Nat.zero_le _, Lib.hid (fun j hj => absurd hj (Nat.not_lt_zero _)), rfl⟩ ⟨rfl, trivial⟩ ?_
  rintro M w13 m15 ⟨i, rfl, H14, hp0, hp1, rfl⟩
  refine cw_seq ?_
  refine cw_seq ?_
  refine cw_reg ?_
  refine ry (y_mov rfl rfl) rfl rfl ?_
  refine ry (y_mov rfl rfl) rfl rfl ?_
  refine ry (y_len rfl Try.underlying78 rfl) rfl rfl ?_
  refine ry (y_lss rfl rfl rfl) rfl rfl ?_
  refine reg_nil ?_
  refine fn_next ?_
  refine cw_condd rfl (fun h16 => ?_) (fun h16 => ?_)
  ·skip
   have pq : ∀ (j : Nat) (v : Value), ([.int .i64 (pI ps i).x0, .int .i64 (pI ps i).y0, .int .i64 (pI ps i).x1, .int .i64 (pI ps i).y1, .slice (pI ps i).o.A (pI ps i).o.n (pI ps i).o.c, .slice (pI ps i).q.A (pI ps i).q.n (pI ps i).q.c] : List Value)[j]? = some v → (ptCells ps)[i * 6 + j]? = some v := pt_get (pI_get (by omega))
   have hs2 := hsz _ (pI_mem (show i < ps.length by omega))
   refine cw_skip ?_
   refine fn_next ?_
   refine cw_seq ?_
   refine cw_block ?_
   refine cw_seq ?_
   refine cw_reg ?_
   refine ry (y_mov rfl rfl) rfl rfl ?_
   refine ry (y_mov rfl rfl) rfl rfl ?_
   refine ry (y_iar (i := i) ((hps.below H14.base)) rfl rfl rfl kflaw47c_5 (rfl) (by omega) (rfl) (pq 0 _ rfl)) rfl rfl ?_
   refine ry (y_far ((hps.below H14.base)) rfl rfl kflaw47c_6 rfl (pq 0 _ rfl)) rfl rfl ?_
   refine ry (y_ldr ((hps.below H14.base)) rfl rfl kflaw47c_7 (pq 4 _ rfl)) rfl rfl ?_
   refine ry (y_len rfl Try.underlying22 rfl) rfl rfl ?_
   refine ry (y_gtr rfl rfl rfl) rfl rfl ?_
   refine ry (y_mov rfl rfl) rfl rfl ?_
   refine rg_splitd (d := 48) rfl (fun h17 => ?_) (fun h17 => ?_)
   · exfalso; omega
   ·skip
    have c48 := h17
    refine rgy (y_mov rfl rfl) rfl rfl rfl rfl ?_
    refine rgy (y_mov rfl rfl) rfl rfl rfl rfl ?_
    refine rgy (y_iar (i := i) ((hps.below H14.base)) rfl rfl rfl kflaw47c_5 (rfl) (by omega) (rfl) (pq 0 _ rfl)) rfl rfl rfl rfl ?_
    refine rgy (y_far ((hps.below H14.base)) rfl rfl kflaw47c_8 rfl (pq 0 _ rfl)) rfl rfl rfl rfl ?_
    refine rgy (y_ldr ((hps.below H14.base)) rfl rfl kflaw47c_7 (pq 5 _ rfl)) rfl rfl rfl rfl ?_
    refine rgy (y_len rfl Try.underlying22 rfl) rfl rfl rfl rfl ?_
    refine rgy (y_gtr rfl rfl rfl) rfl rfl rfl rfl ?_
    refine ry (y_pick rfl rfl rfl) rfl rfl ?_
    refine reg_nil ?_
    refine fn_next ?_
    refine cw_condd rfl (fun h18 => ?_) (fun h18 => ?_)
    · exfalso; omega
    ·skip
     refine cw_skip ?_
     refine fn_block ?_
     refine fn_next ?_
     refine cw_reg ?_
     refine ry (y_mov rfl rfl) rfl rfl ?_
     refine ry (y_add rfl rfl rfl (wi (by omega))) rfl rfl ?_
     refine ry (y_asg rfl rfl) rfl rfl ?_
     refine reg_nil ?_
     refine fn_roundJ ⟨i + 1, rfl, H14, by omega, Lib.hid (fun j hj => (Nat.lt_or_eq_of_le (Nat.le_of_lt_succ hj)).elim (hp1.out j) (fun e => by subst e; exact ⟨by omega, by omega⟩)), rfl⟩ ⟨rfl, trivial⟩ (by omega) (by repeat (first | exact kp_refl | refine kp_app rfl rfl ?_ | refine kp_cons rfl ?_)) rfl
  ·skip
   refine cw_exit ?_
   refine fn_then_exit (fn_then_exit (fn_block_exit ?_))
   refine fn_next ?_
   refine cw_seq ?_
   refine cw_reg ?_
   refine ry (y_mov rfl rfl) rfl rfl ?_
   refine ry (y_mov rfl rfl) rfl rfl ?_
   refine ry (y_mov rfl rfl) rfl rfl ?_
   refine reg_op (op_call (made_ok a h L AL (a * h) cL _ s lL rfl bL (rL.below H14.base)) rfl kflaw47c_9 ⟨rfl, rfl, rfl, trivial⟩) rfl rfl ?_
   rintro _ w20 ⟨g22, bl23, rfl, k19⟩
   have H21 := H14.call k19
   refine ry (y_mov rfl rfl) rfl rfl ?_
   refine ry (y_ext rfl rfl rfl) rfl rfl ?_
   refine ry (y_ext rfl rfl rfl) rfl rfl ?_
   refine ry (y_asg rfl rfl) rfl rfl ?_
   refine ry (y_asg rfl rfl) rfl rfl ?_
   refine reg_nil ?_
   refine fn_next ?_
   refine cw_seq ?_
   refine cw_seq ?_
   refine cw_reg ?_
   refine ry (y_mov rfl rfl) rfl rfl ?_
   refine ry (y_not rfl rfl) rfl rfl ?_
   refine reg_nil ?_
   refine fn_next ?_
   refine cw_condf rfl ?_
   refine cw_skip ?_
   refine fn_next ?_
   refine cw_seq ?_
   refine cw_reg ?_
   refine ry (y_mov rfl rfl) rfl rfl ?_
   refine ry (y_mov rfl rfl) rfl rfl ?_
   refine reg_op (op_call (mgApply_bad g22 a h L ps B n c k _ (H21.rdg (i := 0) rfl) (fun x hx => (hall x hx).below H21.base) hsz ((hps.below H21.base)) hln hn hk hz hbad) rfl kflaw47c_10 ⟨rfl, rfl, trivial⟩) rfl rfl ?_
   rintro _ w25 ⟨rfl, e24⟩
   have H26 := H21.ext e24
   refine ry (y_mov rfl rfl) rfl rfl ?_
   refine ry (y_ext rfl rfl rfl) rfl rfl ?_
   refine ry (y_ext rfl rfl rfl) rfl rfl ?_
   refine ry (y_ext rfl rfl rfl) rfl rfl ?_
   refine ry (y_asg rfl rfl) rfl rfl ?_
   refine ry (y_asg rfl rfl) rfl rfl ?_
   refine ry (y_asg rfl rfl) rfl rfl ?_
   refine reg_nil ?_
   refine fn_next ?_
   refine cw_seq ?_
   refine cw_reg ?_
   refine ry (y_ldb (i := 1) (cs := [_, _, _]) H26 rfl rfl kflaw47c_11 rfl rfl) rfl rfl ?_
   refine ry (y_mov rfl rfl) rfl rfl ?_
   refine reg_op (op_call (rmApply_bad w [_, _] [] a h AL cL L ps B n c k _ s lL (fun X HX => rL.below HX.base) H26 hall hsz hps hln hn hk hz hbad) rfl kflaw47c_12 ⟨rfl, rfl, trivial⟩) rfl rfl ?_
   rintro _ w28 ⟨P29, Q30, lz31, rfl, H27⟩
   refine ry (y_mov rfl rfl) rfl rfl ?_
   refine ry (y_ext rfl rfl rfl) rfl rfl ?_
   refine ry (y_ext rfl rfl rfl) rfl rfl ?_
   refine ry (y_ext rfl rfl rfl) rfl rfl ?_
   refine reg_op (op_alloc H27 rfl kflaw47c_3) rfl rfl ?_
   rintro _ w33 ⟨b32, rfl, H34⟩
   refine reg_op (op_st (i := 0) (vs := [.int _ _, .int _ _, .slice _ _ _]) H34 rfl rfl rfl rfl rfl kflaw47c_4 rfl rfl rfl) rfl rfl ?_
   rintro _ w35 H36
   refine ry (y_asg rfl rfl) rfl rfl ?_
   refine ry (y_asg rfl rfl) rfl rfl ?_
   refine reg_nil ?_
   refine fn_next ?_
   refine cw_seq ?_
   refine cw_seq ?_
   refine cw_reg ?_
   refine ry (y_mov rfl rfl) rfl rfl ?_
   refine ry (y_mov rfl rfl) rfl rfl ?_
   refine ry (yv (congrArg Value.bool (decide_eq_false (fun q => q rfl))) (y_neq rfl rfl rfl)) rfl rfl ?_
   refine ry (y_mov rfl rfl) rfl rfl ?_
   refine rgy (y_mov rfl rfl) rfl rfl rfl rfl ?_
   refine rgy (y_mov rfl rfl) rfl rfl rfl rfl ?_
   refine rgy (yv (congrArg Value.bool (decide_eq_false (fun q => q rfl))) (y_neq rfl rfl rfl)) rfl rfl rfl rfl ?_
   refine ry (y_pick rfl rfl rfl) rfl rfl ?_
   refine ry (y_mov rfl rfl) rfl rfl ?_
   refine rgy (y_mov rfl rfl) rfl rfl rfl rfl ?_
   refine rgy (y_ldb (i := 2) (cs := [_, _, _]) H36 rfl rfl kflaw47c_11 rfl rfl) rfl rfl rfl rfl ?_
   refine rg_on rfl rfl rfl (op_call (lIs g22 a h (L) _ _ _ (H36.rdg (i := 1) rfl) ((rL.below H36.base))) rfl kflaw47c_13 ⟨rfl, rfl, trivial⟩) rfl ?_
   rintro _ w38 ⟨rfl, e37⟩
   have H39 := H36.ext e37
   refine rgy (y_not rfl rfl) rfl rfl rfl rfl ?_
   refine ry (y_pick rfl rfl rfl) rfl rfl ?_
   refine reg_nil ?_
   refine fn_next ?_
   refine cw_condf rfl ?_
   refine cw_skip ?_
   refine fn_next ?_
   refine cw_seq ?_
   refine cw_seq ?_
   refine cw_reg ?_
   refine ry (y_mov rfl rfl) rfl rfl ?_
   refine ry (yv (congrArg Value.bool (decide_eq_true (hbad))) (y_neq rfl rfl rfl)) rfl rfl ?_
   refine reg_nil ?_
   refine fn_next ?_
   refine cw_condt rfl ?_
   refine cw_seq ?_
   refine cw_reg ?_
   refine ry (y_mov rfl rfl) rfl rfl ?_
   refine ry (y_peqlnil rfl Try.underlying28 rfl rfl) rfl rfl ?_
   refine ry (y_asg rfl rfl) rfl rfl ?_
   refine reg_nil ?_
   refine fn_next ?_
   refine cw_ret ?_
   refine fn_then_ret ?_
   refine fn_ret1 rfl rfl ?_
   exact ⟨rfl, H39.base⟩

theorem mergeApply_all (a h : Int) (L : List Int) (AL : Option Addr) (nL cL : Nat) (ps : List Pt) (B : Option Addr) (n c : Nat) (w : World) (ha : I6 a) (hh : I6 h) (rL : Rd w AL (vi .i64 L)) (lL : L.length = nL) (hps : Rd w B (ptCells ps)) (hln : ps.length = n) (hall : ∀ x ∈ ps, x.ok w) : Ret Try.prog 12 [.int .i64 a, .int .i64 h, .slice AL nL cL, .slice B n c] w (fun z w' => z = .bool true ∧ Below w.heap.size w w') := by
  by_cases hp : LandP a h (1000 : Nat) L ∧ n ≤ 20
  · obtain ⟨p1, hn⟩ := hp
    obtain ⟨a, h, rfl, rfl, h1, h2, h3, h4, h5, h6, bL⟩ := LandP.nat p1
    obtain rfl : nL = a * h := by omega
    by_cases hsz : ∀ x ∈ ps, x.o.n ≤ 1500 ∧ x.q.n ≤ 1500
    · obtain ⟨k, hk, hz, rfl | ⟨hk2, hbad⟩⟩ := first_bad (apE a h L ps) n
      · exact mergeApply_ok a h L AL cL ps B k c w h1 h2 h3 h4 h5 rL lL bL hps hln hall hn hsz hz
      · exact mergeApply_bad a h L AL cL ps B n c k w h1 h2 h3 h4 h5 rL lL bL hps hln hall hn hsz hk2 hz hbad
    · exact mergeApply_big a h L AL cL ps B n c w h1 h2 h3 h4 h5 rL lL bL hps hln hall hn hsz
  · exact mergeApply_no a h L AL nL cL ps B n c w ha hh rL lL hps hln hall hp

theorem mergeApply_law (a : Int) (h : Int) (ls : List Int) (A2 : Option Addr) (n2 c2 : Nat) (ps : List Pt) (A3 : Option Addr) (n3 c3 : Nat) (W : World) (ba : I6 a) (bh : I6 h) (hls : Ints .i64 W A2 n2 ls) (le2 : n2 ≤ c2) (mx2 : c2 ≤ maxLen) (wls : ∀ z ∈ ls, I6 z) (hps : Rd W A3 (ptCells ps)) (lps : ps.length = n3) (le3 : n3 ≤ c3) (mx3 : c3 ≤ maxLen) (wps : ∀ x ∈ ps, x.ok W) :
    Calls Try.prog 12 #[.int .i64 a, .int .i64 h, .slice A2 n2 c2, .slice A3 n3 c3] W fun e w' => e = .returned (.bool true) ∧ Below W.heap.size W w' := lawOf (mergeApply_all a h ls A2 n2 c2 ps A3 n3 c3 W ba bh (Rd.of_ints hls) hls.len hps lps wps)

end Go.Proofs.Ytbhmkpnihgjlnaa
