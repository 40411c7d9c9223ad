/- Layer 14: no grid has no file. -/
import Derived.Test.YtbnjbgcadkdljaaGreatDoorGr1
import Derived.Test.YtbnjbgcadkdljaaGreatDoorCrc1
import Derived.Test.YtbnjbgcadkdljaaGreatDoorDir2
set_option linter.unusedVariables false
set_option linter.unusedSimpArgs false
namespace Go.Proofs.YtbnjbgcadkdljaaGreatDoor
open Go Go.RowKit
theorem kffilen_1 : callB Tryz.prog 30 = true := by kernel_rfl
theorem kffilen_2 : elB Tryz.prog 27 1 = true := by kernel_rfl
theorem kffilen_3 : oneB Tryz.prog 3 = true := by kernel_rfl
theorem kffilen_4 : callB Tryz.prog 29 = true := by kernel_rfl
theorem kffilen_5 : callB Tryz.prog 71 = true := by kernel_rfl
theorem kffilen_6 : fldB Tryz.prog 54 2 2 = true := by kernel_rfl
theorem kffilen_7 : oneB Tryz.prog 2 = true := by kernel_rfl
theorem kffilen_8 : fldB Tryz.prog 54 0 0 = true := by kernel_rfl
theorem kffilen_9 : fldB Tryz.prog 54 3 3 = true := by kernel_rfl
theorem kffilen_10 : fldB Tryz.prog 54 1 1 = true := by kernel_rfl
theorem kffilen_11 : callB Tryz.prog 20 = true := by kernel_rfl
theorem kffilen_12 : callB Tryz.prog 28 = true := by kernel_rfl
theorem kffilen_13 : elB Tryz.prog 47 4 = true := by kernel_rfl
theorem kffilen_14 : aggB Tryz.prog 54 4 = true := by kernel_rfl
theorem kffilen_15 : (Tryz.prog.info? 54).bind (fun i => i.zero.map Value.cells) = some (List.toArray [(.int .i64 0), (.int .i64 0), (.int .i64 0), (.int .i64 0)]) := by kernel_rfl
theorem kffilen_16 : szB Tryz.prog 54 4 = true := by kernel_rfl
theorem kffilen_17 : callB Tryz.prog 25 = true := by kernel_rfl
theorem kffilen_18 : callB Tryz.prog 21 = true := by kernel_rfl
theorem kffilen_19 : callB Tryz.prog 31 = true := by kernel_rfl
theorem kffilen_20 : (Tryz.prog.info? 2).map (fun i => (i.size, i.zero.map Value.cells)) = some (1, some (List.toArray [(.int .i64 0)])) := by kernel_rfl
theorem kffilen_21 : (Tryz.prog.info? 2).map (fun i => (i.zero.map (·.cells.toList), i.size, i.bytes)) = some (some [(.int .i64 0)], 1, 8) := by kernel_rfl
theorem kffilen_22 : (Tryz.prog.info? 22).map (fun i => (i.size, i.zero.map Value.cells)) = some (1, some (List.toArray [(.slice none 0 0)])) := by kernel_rfl
theorem kffilen_23 : (Tryz.prog.info? 22).map (fun i => (i.zero.map (·.cells.toList), i.size, i.bytes)) = some (some [(.slice none 0 0)], 1, 24) := by kernel_rfl
theorem kffilen_24 : callB Tryz.prog 24 = true := by kernel_rfl
theorem kffilen_25 : callB Tryz.prog 32 = true := by kernel_rfl
theorem kffilen_26 : callB Tryz.prog 34 = true := by kernel_rfl
theorem kffilen_27 : callB Tryz.prog 33 = true := by kernel_rfl
theorem kffilen_28 : callB Tryz.prog 10 = true := by kernel_rfl
theorem kffilen_29 : (Tryz.prog.info? 3).map (fun i => (i.size, i.zero.map Value.cells)) = some (1, some (List.toArray [(.int .i64 0)])) := by kernel_rfl
theorem kffilen_30 : callB Tryz.prog 9 = true := by kernel_rfl
/-- may all be predictors? -/
def kAll (ks : List Int) : Bool := ks.all fun k => decide (kOk k)
theorem kAll_yes {ks : List Int} (h : ∀ j, j < ks.length → kOk (nth ks j)) : kAll ks = true := by
  unfold kAll
  rw [List.all_eq_true]
  intro k hk
  obtain ⟨j, hj, rfl⟩ := List.mem_iff_getElem.1 hk
  have := h j hj
  rw [nth_lt hj] at this
  exact decide_eq_true this
theorem kAll_no {ks : List Int} {j : Nat} (hj : j < ks.length) (h : ¬ kOk (nth ks j)) : kAll ks = false := by
  cases hk : kAll ks with
  | false => rfl
  | true =>
    unfold kAll at hk
    rw [List.all_eq_true] at hk
    exact absurd (of_decide_eq_true (hk _ (nth_mem hj))) h

set_option maxRecDepth 100000 in
theorem save1F (k : Int) (w : World) :
    Ret Tryz.prog 29 [.int .i64 k] w (fun v w' => v = .bool (decide (¬ kOk k)) ∧ Below w.heap.size w w') := by
 refine ret_enter Tryz.func29 rfl rfl rfl ?_
 have H0 := HS.start w
 refine cw_seq ?_
 refine cw_reg ?_
 refine ry (y_asg rfl rfl) rfl rfl ?_
 refine reg_nil ?_
 refine fn_next ?_
 refine cw_seq ?_
 refine cw_reg ?_
 refine ry (y_mov rfl rfl) rfl rfl ?_
 refine reg_op (op_call (predRight k 1 _ 0) rfl kffilen_1 ⟨rfl, rfl, rfl, trivial⟩) rfl rfl ?_
 rintro _ w2 ⟨rfl, e1⟩
 have H3 := H0.ext e1
 refine ry (y_notd rfl rfl) rfl rfl ?_
 refine ry (y_asg rfl rfl) rfl rfl ?_
 refine reg_nil ?_
 refine fn_next ?_
 refine cw_ret ?_
 refine fn_ret1 rfl rfl ?_
 exact ⟨congrArg Value.bool (decide_eq_decide.2 (not_congr right4_one)), H3.base⟩

set_option maxRecDepth 100000 in
set_option maxHeartbeats 1000000 in
theorem indexK (K : Option Addr) (n c : Nat) (ks : List Int) (w : World) (hr : Rd w K (vi .i64 ks)) (hl : ks.length = n) (hn : n ≤ 100000000) :
    Ret Tryz.prog 71 [.slice K n c, .func (.func 29) #[] #[]] w (fun v w' => ∃ i : Int, v = .int .i64 i ∧ ((i = -1 ∧ kAll ks = true) ∨ (0 ≤ i ∧ kAll ks = false)) ∧ Below w.heap.size w w') := by
 refine ret_enter Tryz.func71 rfl rfl rfl ?_
 have H0 := HS.start w
 refine cw_seq ?_
 refine cw_reg ?_
 refine ry (y_asg rfl rfl) rfl rfl ?_
 refine reg_nil ?_
 refine fn_next ?_
 refine cw_seq ?_
 refine cw_seq ?_
 refine cw_reg ?_
 refine ry (y_mov rfl rfl) rfl rfl ?_
 refine ry (y_len rfl Tryz.underlying27 rfl) rfl rfl ?_
 refine ry (y_mov rfl rfl) rfl rfl ?_
 refine reg_nil ?_
 refine fn_next ?_
 refine cw_block ?_
 refine cw_loopJ [4, 5, 8, 9, 10, 11, 12, 13, 14, 15, 16, 17, 18] (fun M wl ml => ∃ (i : Nat), M = [(8, .int .i64 (i : Int))] ∧ HS w wl [] ∧ (i ≤ n) ∧ (∀ j, j < i → kOk (nth ks j)) ∧ ml = n + 1 - i) ⟨0, rfl, H0, Nat.zero_le _, fun j h => absurd h (Nat.not_lt_zero _), rfl⟩ ⟨rfl, trivial⟩ ?_
 rintro M w1 m3 ⟨i, rfl, H2, hin, hall, rfl⟩
 refine cw_seq ?_
 refine cw_reg ?_
 refine ry (y_lss rfl rfl rfl) rfl rfl ?_
 refine reg_nil ?_
 refine fn_next ?_
 refine cw_seq ?_
 refine cw_condd rfl (fun h4 => ?_) (fun h4 => ?_)
 ·skip
  have gz := vi_get (k := .i64) (zs := ks) (i := i) (by omega)
  refine cw_skip ?_
  refine fn_next ?_
  refine cw_seq ?_
  refine cw_block ?_
  refine cw_seq ?_
  refine cw_reg ?_
  refine ry (y_mov rfl rfl) rfl rfl ?_
  refine ry (y_asg rfl rfl) rfl rfl ?_
  refine reg_nil ?_
  refine fn_next ?_
  refine cw_seq ?_
  refine cw_reg ?_
  refine ry (y_mov rfl rfl) rfl rfl ?_
  refine ry (y_mov rfl rfl) rfl rfl ?_
  refine ry (y_mov rfl rfl) rfl rfl ?_
  refine ry (y_iar (hr.below H2.base) rfl rfl rfl kffilen_2 (rfl) (by omega) (Nat.mul_one _) (gz)) rfl rfl ?_
  refine ry (y_ldr (hr.below H2.base) rfl rfl kffilen_3 (gz)) rfl rfl ?_
  refine reg_op (op_callv (fs := []) (vs := [_]) (cs := []) (save1F (nth ks i) _) rfl kffilen_4 rfl ⟨rfl, trivial⟩) rfl rfl ?_
  rintro _ w6 ⟨rfl, e5⟩
  have H7 := H2.ext e5
  refine reg_nil ?_
  refine fn_next ?_
  refine cw_condd rfl (fun hk => ?_) (fun hk => ?_)
  ·skip
   refine cw_seq ?_
   refine cw_reg ?_
   refine ry (y_mov rfl rfl) rfl rfl ?_
   refine ry (y_asg rfl rfl) rfl rfl ?_
   refine reg_nil ?_
   refine fn_next ?_
   refine cw_ret ?_
   refine fn_block_ret (fn_then_ret (fn_then_ret (fn_block_ret (fn_then_ret ?_))))
   refine fn_ret1 rfl rfl ?_
   exact ⟨i, rfl, .inr ⟨by omega, kAll_no (by omega) hk⟩, H7.base⟩
  ·skip
   refine cw_skip ?_
   refine fn_block ?_
   refine fn_next ?_
   refine cw_reg ?_
   refine ry (y_add rfl rfl rfl (wi (by omega))) rfl rfl ?_
   refine ry (y_mov rfl rfl) rfl rfl ?_
   refine reg_nil ?_
   refine fn_roundJ ⟨i + 1, rfl, H7, by omega, fun j hj => by rcases Nat.lt_succ_iff_lt_or_eq.1 hj with q | rfl; exact hall j q; exact Classical.not_not.1 hk, rfl⟩ ⟨rfl, trivial⟩ (by omega) (by repeat (first | exact kp_refl | refine kp_app rfl rfl ?_ | refine kp_cons rfl ?_)) rfl
 ·skip
  refine cw_exit ?_
  refine fn_then_exit (fn_then_exit (fn_block_exit ?_))
  refine fn_next ?_
  refine cw_seq ?_
  refine cw_reg ?_
  refine ry (y_asg rfl rfl) rfl rfl ?_
  refine reg_nil ?_
  refine fn_next ?_
  refine cw_ret ?_
  refine fn_ret1 rfl rfl ?_
  exact ⟨-1, rfl, .inl ⟨rfl, kAll_yes fun j hj => hall j (by omega)⟩, H2.base⟩

set_option maxRecDepth 100000 in
theorem containsK (K : Option Addr) (n c : Nat) (ks : List Int) (w : World) (hr : Rd w K (vi .i64 ks)) (hl : ks.length = n) (hn : n ≤ 100000000) :
    Ret Tryz.prog 28 [.slice K n c, .func (.func 29) #[] #[]] w (fun v w' => v = .bool (!kAll ks) ∧ Below w.heap.size w w') := by
 refine ret_enter Tryz.func28 rfl rfl rfl ?_
 have H0 := HS.start w
 refine cw_seq ?_
 refine cw_reg ?_
 refine ry (y_asg rfl rfl) rfl rfl ?_
 refine reg_nil ?_
 refine fn_next ?_
 refine cw_seq ?_
 refine cw_reg ?_
 refine ry (y_mov rfl rfl) rfl rfl ?_
 refine ry (y_mov rfl rfl) rfl rfl ?_
 refine reg_op (op_call (indexK K n c ks _ (hr.below H0.base) hl hn) rfl kffilen_5 ⟨rfl, rfl, trivial⟩) rfl rfl ?_
 rintro _ w2 ⟨i, rfl, hi, e1⟩
 have H3 := H0.ext e1
 refine ry (y_geq rfl rfl rfl) rfl rfl ?_
 refine ry (y_asg rfl rfl) rfl rfl ?_
 refine reg_nil ?_
 refine fn_next ?_
 refine cw_ret ?_
 refine fn_ret1 rfl rfl ?_
 rcases hi with ⟨rfl, hk⟩ | ⟨h0, hk⟩
 · exact ⟨by rw [hk]; rfl, H3.base⟩
 · exact ⟨by rw [hk, decide_eq_true h0]; rfl, H3.base⟩

set_option maxRecDepth 100000 in
theorem fsize1  (w : World) :
    Ret Tryz.prog 21 [.agg #[.int .i64 0, .int .i64 0, .int .i64 0, .int .i64 0]] w (fun v w' => v = .tuple #[.int .i64 1, .int .i64 1] ∧ Below w.heap.size w w') := by
 refine ret_enter Tryz.func21 rfl rfl rfl ?_
 have H0 := HS.start w
 refine cw_seq ?_
 refine cw_reg ?_
 refine reg_op (op_box (cs := [.int _ _, .int _ _, .int _ _, .int _ _]) H0 rfl rfl rfl) rfl rfl ?_
 rintro _ w2 ⟨b1, rfl, H3⟩
 refine ry (y_asg rfl rfl) rfl rfl ?_
 refine ry (y_asg rfl rfl) rfl rfl ?_
 refine reg_nil ?_
 refine fn_next ?_
 refine cw_seq ?_
 refine cw_draw H3 [0, 1, 2, 3, 4, 5, 6, 7, 8, 9, 10, 11, 12, 13] [] (fun X HX => HX) (by kernel_rfl) (by kernel_rfl) (by rfl) ?_
 simp only [pick, List.getElem?_cons_succ, List.getElem?_cons_zero]
 refine hk_y (fun Y HY => y_fa rfl rfl kffilen_6 rfl) rfl rfl ?_
 refine hk_y (fun Y HY => y_ld rfl rfl kffilen_7 (HY.cell (i := 0) rfl rfl)) rfl rfl ?_
 refine hk_y (fun Y HY => y_fa rfl rfl kffilen_8 rfl) rfl rfl ?_
 refine hk_y (fun Y HY => y_ld rfl rfl kffilen_7 (HY.cell (i := 0) rfl rfl)) rfl rfl ?_
 refine hk_y (fun Y HY => y_sub rfl rfl rfl (rfl)) rfl rfl ?_
 refine hk_y (fun Y HY => y_add rfl rfl rfl (rfl)) rfl rfl ?_
 refine hk_y (fun Y HY => y_fa rfl rfl kffilen_9 rfl) rfl rfl ?_
 refine hk_y (fun Y HY => y_ld rfl rfl kffilen_7 (HY.cell (i := 0) rfl rfl)) rfl rfl ?_
 refine hk_y (fun Y HY => y_fa rfl rfl kffilen_10 rfl) rfl rfl ?_
 refine hk_y (fun Y HY => y_ld rfl rfl kffilen_7 (HY.cell (i := 0) rfl rfl)) rfl rfl ?_
 refine hk_y (fun Y HY => y_sub rfl rfl rfl (rfl)) rfl rfl ?_
 refine hk_y (fun Y HY => y_add rfl rfl rfl (rfl)) rfl rfl ?_
 refine hk_y (fun Y HY => y_asg rfl rfl) rfl rfl ?_
 refine hk_y (fun Y HY => y_asg rfl rfl) rfl rfl ?_
 refine hk_nil ?_
 intro w4 H5
 refine tv_nil ?_
 refine fn_next ?_
 refine cw_ret ?_
 refine fn_retn (vs := [_, _]) rfl ⟨rfl, rfl, trivial⟩ rfl ?_
 exact ⟨rfl, H5.base⟩

theorem tp1 : tpF 0 [0] 1 1 = ([0, 0, 0], 0) := by decide +kernel
theorem dir1 : dirS 1 1 [3] = ([72, 65, 67, 72, 1, 0, 0, 0, 0, 1, 0, 0, 0, 21, 0, 0, 0, 3, 0, 0, 0], 0) := by decide +kernel
abbrev in1 : List Int := [72, 65, 67, 72, 1, 0, 0, 0, 0, 1, 0, 0, 0, 21, 0, 0, 0, 3, 0, 0, 0, 0, 0, 0]
theorem dput1 (A : Option Addr) (c : Nat) (w : World) (h : Rd w A (vi .i64 [3])) : Ret Tryz.prog 32 [.int .i64 1, .int .i64 1, .slice A 1 c] w (fun v w' => ∃ A' c', v = .tuple #[.slice A' 21 c', .int .i64 0] ∧ HS w w' [.row A' 21 c' (vi .u8 [72, 65, 67, 72, 1, 0, 0, 0, 0, 1, 0, 0, 0, 21, 0, 0, 0, 3, 0, 0, 0]) 5 1]) := by
  have h := dirPut_any 1 1 A 1 c [3] w h rfl (by omega) (by omega) (by omega)
  unfold DirPutR at h
  rw [dir1] at h
  exact h

set_option maxRecDepth 100000 in
set_option maxHeartbeats 1000000 in
theorem save1 (g : Nat) (B : Option Addr) (c s : Nat) (K : Option Addr) (ck : Nat) (w : World) (hg0 : Rd w (some ⟨0, 0, none⟩) (vi .u32 tblI)) (hg : Rd w (some ⟨g, 0, none⟩) [.int .i64 1, .int .i64 1, .int .i64 1, .slice B 1 c]) (hp : Rd w B [.pointer (some ⟨s, 0, none⟩)]) (hs : Rd w (some ⟨s, 0, none⟩) [.int .i64 1, .int .i64 1, .iface 117 (.int .i32 0)]) (hk : Rd w K (vi .i64 [0])) :
    Ret Tryz.prog 9 [pt (some ⟨g, 0, none⟩) 0, .slice K 1 ck] w (fun v w' => ∃ A c', v = .tuple #[.slice A 28 c', .int .i64 0] ∧ Below w.heap.size w w') := by
 refine ret_enter Tryz.func9 rfl rfl rfl ?_
 have H0 := HS.start w
 refine cw_seq ?_
 refine cw_reg ?_
 refine ry (y_asg rfl rfl) rfl rfl ?_
 refine ry (y_asg rfl rfl) rfl rfl ?_
 refine reg_nil ?_
 refine fn_next ?_
 refine cw_seq ?_
 refine cw_reg ?_
 refine ry (y_mov rfl rfl) rfl rfl ?_
 refine reg_op (op_call (tiles1 g B c _ (hg.below H0.base)) rfl kffilen_11 ⟨rfl, trivial⟩) rfl rfl ?_
 rintro _ w2 ⟨A4, c5, rfl, k1⟩
 have H3 := H0.call k1
 refine ry (y_asg rfl rfl) rfl rfl ?_
 refine reg_nil ?_
 refine fn_next ?_
 refine cw_seq ?_
 refine cw_block ?_
 refine cw_seq ?_
 refine cw_reg ?_
 refine ry (y_mov rfl rfl) rfl rfl ?_
 refine ry (y_peqlnil rfl Tryz.underlying30 rfl rfl) rfl rfl ?_
 refine ry (y_asg rfl rfl) rfl rfl ?_
 refine reg_nil ?_
 refine fn_next ?_
 refine cw_condf rfl ?_
 refine cw_seq ?_
 refine cw_reg ?_
 refine ry (y_mov rfl rfl) rfl rfl ?_
 refine ry (y_len rfl Tryz.underlying27 rfl) rfl rfl ?_
 refine ry (y_mov rfl rfl) rfl rfl ?_
 refine ry (y_len rfl Tryz.underlying47 rfl) rfl rfl ?_
 refine ry (y_neq rfl rfl rfl) rfl rfl ?_
 refine ry (y_asg rfl rfl) rfl rfl ?_
 refine reg_nil ?_
 refine fn_next ?_
 refine cw_condf rfl ?_
 refine cw_seq ?_
 refine cw_reg ?_
 refine ry (y_mov rfl rfl) rfl rfl ?_
 refine reg_op (op_call (containsK K 1 ck [0] _ (hk.below H3.base) rfl (by omega)) rfl kffilen_12 ⟨rfl, rfl, trivial⟩) rfl rfl ?_
 rintro _ w7 ⟨rfl, e6⟩
 have H8 := H3.ext e6
 refine ry (y_asg rfl rfl) rfl rfl ?_
 refine reg_nil ?_
 refine fn_next ?_
 refine cw_condf rfl ?_
 refine cw_skip ?_
 refine fn_block ?_
 refine fn_next ?_
 refine cw_seq ?_
 refine cw_reg ?_
 refine ry (y_asg rfl rfl) rfl rfl ?_
 refine reg_nil ?_
 refine fn_next ?_
 refine cw_seq ?_
 refine cw_reg ?_
 refine ry (y_asg rfl rfl) rfl rfl ?_
 refine reg_nil ?_
 refine fn_next ?_
 refine cw_seq ?_
 refine cw_seq ?_
 refine cw_reg ?_
 refine ry (y_mov rfl rfl) rfl rfl ?_
 refine ry (y_len rfl Tryz.underlying47 rfl) rfl rfl ?_
 refine ry (y_mov rfl rfl) rfl rfl ?_
 refine reg_nil ?_
 refine fn_next ?_
 refine cw_block ?_
 refine cw_loopR 2 ?_
 refine cw_seq ?_
 refine cw_reg ?_
 refine ry (y_lss rfl rfl rfl) rfl rfl ?_
 refine reg_nil ?_
 refine fn_next ?_
 refine cw_seq ?_
 refine cw_condt rfl ?_
 refine cw_skip ?_
 refine fn_next ?_
 refine cw_seq ?_
 refine cw_block ?_
 refine cw_seq ?_
 refine cw_reg ?_
 refine ry (y_mov rfl rfl) rfl rfl ?_
 refine ry (y_iar (i := 0) (H8.rd (i := 0) rfl) rfl rfl rfl kffilen_13 (rfl) (by decide) (rfl) (rfl)) rfl rfl ?_
 refine ry (y_ldra (cs := [_, _, _, _]) (H8.rd (i := 0) rfl) rfl rfl kffilen_14 rfl (by decide) (fun j v h => by rw [Nat.zero_mul, Nat.zero_add]; exact h)) rfl rfl ?_
 refine reg_op (op_alloc H8 rfl kffilen_15) rfl rfl ?_
 rintro _ w10 ⟨b9, rfl, H11⟩
 refine ry (y_asg rfl rfl) rfl rfl ?_
 refine reg_op (op_st (i := 0) (vs := [.int _ _, .int _ _, .int _ _, .int _ _]) H11 rfl rfl rfl rfl rfl kffilen_16 rfl rfl rfl) rfl rfl ?_
 rintro _ w12 H13
 refine reg_nil ?_
 refine fn_next ?_
 refine cw_seq ?_
 refine cw_reg ?_
 refine ry (y_mov rfl rfl) rfl rfl ?_
 refine ry (y_ldb (i := 0) (cs := [_, _, _, _]) H13 rfl rfl kffilen_14 rfl rfl) rfl rfl ?_
 refine reg_op (op_call (values1 g B c s _ (hg.below H13.base) (hp.below H13.base) (hs.below H13.base)) rfl kffilen_17 ⟨rfl, rfl, trivial⟩) rfl rfl ?_
 rintro _ w15 ⟨A17, c18, rfl, k14⟩
 have H16 := H13.call k14
 refine ry (y_mov rfl rfl) rfl rfl ?_
 refine ry (y_ext rfl rfl rfl) rfl rfl ?_
 refine ry (y_ext rfl rfl rfl) rfl rfl ?_
 refine ry (y_asg rfl rfl) rfl rfl ?_
 refine ry (y_asg rfl rfl) rfl rfl ?_
 refine reg_nil ?_
 refine fn_next ?_
 refine cw_seq ?_
 refine cw_reg ?_
 refine ry (y_ldb (i := 1) (cs := [_, _, _, _]) H16 rfl rfl kffilen_14 rfl rfl) rfl rfl ?_
 refine reg_op (op_call (fsize1 _) rfl kffilen_18 ⟨rfl, trivial⟩) rfl rfl ?_
 rintro _ w20 ⟨rfl, e19⟩
 have H21 := H16.ext e19
 refine ry (y_mov rfl rfl) rfl rfl ?_
 refine ry (y_ext rfl rfl rfl) rfl rfl ?_
 refine ry (y_ext rfl rfl rfl) rfl rfl ?_
 refine ry (y_asg rfl rfl) rfl rfl ?_
 refine ry (y_asg rfl rfl) rfl rfl ?_
 refine reg_nil ?_
 refine fn_next ?_
 refine cw_seq ?_
 refine cw_reg ?_
 refine ry (y_mov rfl rfl) rfl rfl ?_
 refine ry (y_mov rfl rfl) rfl rfl ?_
 refine ry (y_iar (i := 0) (hk.below H21.base) rfl rfl rfl kffilen_2 (rfl) (by decide) (Nat.mul_one _) (rfl)) rfl rfl ?_
 refine ry (y_ldr (hk.below H21.base) rfl rfl kffilen_3 (rfl)) rfl rfl ?_
 refine ry (y_mov rfl rfl) rfl rfl ?_
 refine ry (y_mov rfl rfl) rfl rfl ?_
 refine ry (y_mov rfl rfl) rfl rfl ?_
 refine reg_op (op_call (tilePut 0 1 1 [0] _ 1 _ _ (H21.rd (i := 0) rfl) rfl (H21.len (i := 0) rfl).2.1 (by omega)) rfl kffilen_19 ⟨rfl, rfl, rfl, rfl, trivial⟩) rfl rfl ?_
 rintro _ w23 ⟨A25, c26, bs, e, rfl, hT, k22⟩
 have H24 := H21.call k22
 obtain ⟨rfl, rfl⟩ := Prod.mk.inj (tp1.symm.trans hT)
 refine ry (y_mov rfl rfl) rfl rfl ?_
 refine ry (y_ext rfl rfl rfl) rfl rfl ?_
 refine ry (y_ext rfl rfl rfl) rfl rfl ?_
 refine ry (y_asg rfl rfl) rfl rfl ?_
 refine ry (y_asg rfl rfl) rfl rfl ?_
 refine reg_nil ?_
 refine fn_next ?_
 refine cw_seq ?_
 refine cw_reg ?_
 refine ry (y_mov rfl rfl) rfl rfl ?_
 refine ry (y_mov rfl rfl) rfl rfl ?_
 refine ry (y_len rfl Tryz.underlying22 rfl) rfl rfl ?_
 refine reg_op (op_lit (parts := [(0, _)]) (vs := [(0, _)]) (cs := [.int _ _]) H24 rfl Tryz.underlying24 kffilen_20 rfl ⟨rfl, trivial⟩ rfl rfl) rfl rfl ?_
 rintro _ w28 ⟨b27, rfl, H29⟩
 have H30 := H29.asrow (m := 1) (size := 1) rfl (by decide)
 have H31 := H30.nilrow 2 1
 refine reg_op (op_app (i := 0) (ys := [.int .i64 _]) H31 rfl rfl rfl rfl (H31.rd (i := 1) rfl) (rfl) (rfl) Tryz.underlying24 kffilen_21 rfl rfl (by unfold maxLen; omega) (by omega)) rfl rfl ?_
 rintro _ w34 ⟨A32, c33, rfl, H35⟩
 refine ry (y_asg rfl rfl) rfl rfl ?_
 refine reg_nil ?_
 refine fn_next ?_
 refine cw_reg ?_
 refine ry (y_mov rfl rfl) rfl rfl ?_
 refine ry (y_mov rfl rfl) rfl rfl ?_
 refine reg_op (op_lit (parts := [(0, _)]) (vs := [(0, _)]) (cs := [.slice _ _ _]) H35 rfl Tryz.underlying69 kffilen_22 rfl ⟨rfl, trivial⟩ rfl rfl) rfl rfl ?_
 rintro _ w37 ⟨b36, rfl, H38⟩
 have H39 := H38.asrow (m := 1) (size := 1) rfl (by decide)
 have H40 := H39.nilrow 22 1
 refine reg_op (op_app (i := 0) (ys := [.slice _ _ _]) H40 rfl rfl rfl rfl (H40.rd (i := 1) rfl) (rfl) (rfl) Tryz.underlying69 kffilen_23 rfl rfl (by unfold maxLen; omega) (by omega)) rfl rfl ?_
 rintro _ w43 ⟨A41, c42, rfl, H44⟩
 refine ry (y_asg rfl rfl) rfl rfl ?_
 refine reg_nil ?_
 refine fn_block ?_
 refine fn_next ?_
 refine cw_reg ?_
 refine ry (y_add rfl rfl rfl (wi (by omega))) rfl rfl ?_
 refine ry (y_mov rfl rfl) rfl rfl ?_
 refine reg_nil ?_
 refine fn_roundR ?_
 refine cw_seq ?_
 refine cw_reg ?_
 refine ry (y_lss rfl rfl rfl) rfl rfl ?_
 refine reg_nil ?_
 refine fn_next ?_
 refine cw_seq ?_
 refine cw_condf rfl ?_
 refine cw_exit ?_
 refine fn_then_exit (fn_then_exit (fn_block_exit ?_))
 refine fn_next ?_
 refine cw_seq ?_
 refine cw_reg ?_
 refine ry (y_mov rfl rfl) rfl rfl ?_
 refine reg_op (op_call (size1 g B c _ (hg.below H44.base)) rfl kffilen_24 ⟨rfl, trivial⟩) rfl rfl ?_
 rintro _ w46 ⟨rfl, e45⟩
 have H47 := H44.ext e45
 refine ry (y_mov rfl rfl) rfl rfl ?_
 refine ry (y_ext rfl rfl rfl) rfl rfl ?_
 refine ry (y_ext rfl rfl rfl) rfl rfl ?_
 refine ry (y_asg rfl rfl) rfl rfl ?_
 refine ry (y_asg rfl rfl) rfl rfl ?_
 refine reg_nil ?_
 refine fn_next ?_
 refine cw_seq ?_
 refine cw_reg ?_
 refine ry (y_mov rfl rfl) rfl rfl ?_
 refine ry (y_mov rfl rfl) rfl rfl ?_
 refine ry (y_mov rfl rfl) rfl rfl ?_
 refine reg_op (op_call (dput1 _ _ _ (H47.rd (i := 2) rfl)) rfl kffilen_25 ⟨rfl, rfl, rfl, trivial⟩) rfl rfl ?_
 rintro _ w49 ⟨A51, c52, rfl, k48⟩
 have H50 := H47.call k48
 refine ry (y_mov rfl rfl) rfl rfl ?_
 refine ry (y_ext rfl rfl rfl) rfl rfl ?_
 refine ry (y_ext rfl rfl rfl) rfl rfl ?_
 refine ry (y_asg rfl rfl) rfl rfl ?_
 refine ry (y_asg rfl rfl) rfl rfl ?_
 refine reg_nil ?_
 refine fn_next ?_
 refine cw_seq ?_
 refine cw_reg ?_
 refine ry (y_mov rfl rfl) rfl rfl ?_
 refine ry (y_mov rfl rfl) rfl rfl ?_
 refine reg_op (op_call (concatB _ 1 _ [⟨A25, c26, [0, 0, 0]⟩] _ (H50.rd (i := 1) rfl) rfl (fun p hp => by obtain rfl := List.mem_singleton.1 hp; exact H50.rd (i := 5) rfl) (by simp [flatP]) (by omega)) rfl kffilen_26 ⟨rfl, trivial⟩) rfl rfl ?_
 rintro _ w54 ⟨A56, c57, rfl, k53⟩
 have H55 := H50.call k53
 refine reg_op (op_lit (parts := [(0, _), (1, _)]) (vs := [(0, _), (1, _)]) (cs := [.slice _ _ _, .slice _ _ _]) H55 rfl Tryz.underlying69 kffilen_22 rfl ⟨rfl, rfl, trivial⟩ rfl rfl) rfl rfl ?_
 rintro _ w59 ⟨b58, rfl, H60⟩
 have H61 := H60.asrow (m := 2) (size := 1) rfl (by decide)
 refine reg_op (op_call (concatB _ 2 _ [⟨A51, c52, [72, 65, 67, 72, 1, 0, 0, 0, 0, 1, 0, 0, 0, 21, 0, 0, 0, 3, 0, 0, 0]⟩, ⟨A56, c57, [0, 0, 0]⟩] _ (H61.rd (i := 0) rfl) rfl (fun p hp => by rcases List.mem_cons.1 hp with rfl | hp; exact H61.rd (i := 2) rfl; obtain rfl := List.mem_singleton.1 hp; exact H61.rd (i := 1) rfl) (by simp [flatP]) (by omega)) rfl kffilen_26 ⟨rfl, trivial⟩) rfl rfl ?_
 rintro _ w63 ⟨A65, c66, rfl, k62⟩
 have H64 := H61.call k62
 refine reg_op (op_call (crcSeal _ _ in1 _ (hg0.below H64.base) (H64.rd (i := 0) rfl) (by unfold okB; decide) (by decide)) rfl kffilen_27 ⟨rfl, trivial⟩) rfl rfl ?_
 rintro _ w68 ⟨A70, c71, rfl, k67⟩
 have H69 := H64.call k67
 refine ry (y_asg rfl rfl) rfl rfl ?_
 refine ry (y_asg rfl rfl) rfl rfl ?_
 refine reg_nil ?_
 refine fn_next ?_
 refine cw_ret ?_
 refine fn_retn (vs := [_, _]) rfl ⟨rfl, rfl, trivial⟩ rfl ?_
 exact ⟨_, _, rfl, H69.base⟩

set_option maxRecDepth 100000 in
theorem awake14  (w : World) (hg0 : Rd w (some ⟨0, 0, none⟩) (vi .u32 tblI)) :
    Ret Tryz.prog 4 [] w (fun v w' => v = .bool true ∧ Below w.heap.size w w') := by
 refine ret_enter Tryz.func4 rfl rfl rfl ?_
 have H0 := HS.start w
 refine cw_seq ?_
 refine cw_reg ?_
 refine ry (y_asg rfl rfl) rfl rfl ?_
 refine reg_nil ?_
 refine fn_next ?_
 refine cw_seq ?_
 refine cw_reg ?_
 refine reg_op (op_call (grid1 _) rfl kffilen_28 ⟨rfl, rfl, rfl, trivial⟩) rfl rfl ?_
 rintro _ w2 ⟨g4, B5, c6, s7, rfl, k1⟩
 have H3 := H0.call k1
 refine ry (y_mov rfl rfl) rfl rfl ?_
 refine ry (y_ext rfl rfl rfl) rfl rfl ?_
 refine ry (y_ext rfl rfl rfl) rfl rfl ?_
 refine ry (y_asg rfl rfl) rfl rfl ?_
 refine ry (y_asg rfl rfl) rfl rfl ?_
 refine reg_nil ?_
 refine fn_next ?_
 refine cw_seq ?_
 refine cw_reg ?_
 refine ry (y_mov rfl rfl) rfl rfl ?_
 refine reg_op (op_lit (parts := [(0, _)]) (vs := [(0, _)]) (cs := [.int _ _]) H3 rfl Tryz.underlying27 kffilen_29 rfl ⟨rfl, trivial⟩ rfl rfl) rfl rfl ?_
 rintro _ w9 ⟨b8, rfl, H10⟩
 have H11 := H10.asrow (m := 1) (size := 1) rfl (by decide)
 refine reg_op (op_call (save1 g4 B5 c6 s7 _ _ _ (hg0.below H11.base) ((H11.at_ (i := 1) rfl).2.rd) (H11.rd (i := 2) rfl) ((H11.at_ (i := 3) rfl).2.rd) (H11.rd (i := 0) rfl)) rfl kffilen_30 ⟨rfl, rfl, trivial⟩) rfl rfl ?_
 rintro _ w13 ⟨A9, c9, rfl, e12⟩
 have H14 := H11.ext e12
 refine ry (y_mov rfl rfl) rfl rfl ?_
 refine ry (y_ext rfl rfl rfl) rfl rfl ?_
 refine ry (y_ext rfl rfl rfl) rfl rfl ?_
 refine ry (y_asg rfl rfl) rfl rfl ?_
 refine ry (y_asg rfl rfl) rfl rfl ?_
 refine reg_nil ?_
 refine fn_next ?_
 refine cw_seq ?_
 refine cw_reg ?_
 refine ry (y_mov rfl rfl) rfl rfl ?_
 refine ry (y_eql rfl rfl rfl) rfl rfl ?_
 refine ry (y_mov rfl rfl) rfl rfl ?_
 refine rgy (y_mov rfl rfl) rfl rfl rfl rfl ?_
 refine rgy (y_eql rfl rfl rfl) rfl rfl rfl rfl ?_
 refine ry (y_pick rfl rfl rfl) rfl rfl ?_
 refine ry (y_mov rfl rfl) rfl rfl ?_
 refine rgy (y_mov rfl rfl) rfl rfl rfl rfl ?_
 refine rgy (y_len rfl Tryz.underlying22 rfl) rfl rfl rfl rfl ?_
 refine rgy (y_eql rfl rfl rfl) rfl rfl rfl rfl ?_
 refine ry (y_pick rfl rfl rfl) rfl rfl ?_
 refine ry (y_asg rfl rfl) rfl rfl ?_
 refine reg_nil ?_
 refine fn_next ?_
 refine cw_ret ?_
 refine fn_ret1 rfl rfl ?_
 exact ⟨rfl, H14.base⟩

end Go.Proofs.YtbnjbgcadkdljaaGreatDoor
