/- Layer 14: the document's Load. -/
import Derived.Test.YtbnjbgcadkdljaaGreatDoorFile2
set_option linter.unusedVariables false
set_option linter.unusedSimpArgs false
namespace Go.Proofs.YtbnjbgcadkdljaaGreatDoor
open Go Go.RowKit
theorem kffile3_1 : (Tryz.prog.info? 26).bind (fun i => i.zero.map Value.cells) = some (List.toArray [(.int .i64 0), (.int .i64 0), (.slice none 0 0)]) := by kernel_rfl
theorem kffile3_2 : szB Tryz.prog 26 3 = true := by kernel_rfl
theorem kffile3_3 : callB Tryz.prog 11 = true := by kernel_rfl
theorem kffile3_4 : aggB Tryz.prog 26 3 = true := by kernel_rfl
theorem kffile3_5 : callB Tryz.prog 12 = true := by kernel_rfl
theorem kffile3_6 : callB Tryz.prog 13 = true := by kernel_rfl
theorem kffile3_7 : callB Tryz.prog 14 = true := by kernel_rfl
theorem kffile3_8 : (Tryz.prog.info? 3).map (fun i => (i.size, i.zero.map Value.cells)) = some (1, some (List.toArray [(.int .i64 0)])) := by kernel_rfl
theorem kffile3_9 : elB Tryz.prog 42 2 = true := by kernel_rfl
theorem kffile3_10 : fldB Tryz.prog 50 0 0 = true := by kernel_rfl
theorem kffile3_11 : oneB Tryz.prog 2 = true := by kernel_rfl
theorem kffile3_12 : fldB Tryz.prog 50 1 1 = true := by kernel_rfl
theorem kffile3_13 : elB Tryz.prog 47 4 = true := by kernel_rfl
theorem kffile3_14 : aggB Tryz.prog 54 4 = true := by kernel_rfl
theorem kffile3_15 : callB Tryz.prog 15 = true := by kernel_rfl
theorem kffile3_16 : elB Tryz.prog 22 1 = true := by kernel_rfl
theorem kffile3_17 : callB Tryz.prog 16 = true := by kernel_rfl
theorem kffile3_18 : callB Tryz.prog 17 = true := by kernel_rfl
theorem kffile3_19 : (Tryz.prog.info? 3).map (fun i => (i.zero.map (·.cells.toList), i.size, i.bytes)) = some (some [(.int .i64 0)], 1, 8) := by kernel_rfl
def eZ (Z : List Int) : Nat → Int
  | 0 => 0
  | i + 1 => (offZ Z (i + 1) : Int)
theorem eZ_pos {Z : List Int} {i : Nat} (h : 1 ≤ i) : eZ Z i = (offZ Z i : Int) := by
  cases i with
  | zero => omega
  | succ i => rfl
def MLoadR (Z : List Int) (a h N : Nat) (w : World) (v : Value) (w' : World) : Prop := (fileP Z ∧ ∃ A' c' K ck, v = .tuple #[.agg #[.int .i64 (a : Int), .int .i64 (h : Int), .slice A' (a * h) c'], .slice K N ck, .bool true] ∧ HS w w' [.row A' (a * h) c' (vi .i64 (vZ Z N)) 2 1, .row K N ck (vi .i64 (kZ Z N)) 3 1]) ∨ (¬ fileP Z ∧ v = .tuple #[.agg #[.int .i64 0, .int .i64 0, .slice none 0 0], .slice none 0 0, .bool false] ∧ Below w.heap.size w w')

set_option maxRecDepth 100000 in
theorem mLoad_un (A : Option Addr) (n c : Nat) (bs : List Int) (w : World) (hb : Rd w A (vi .u8 bs)) (hl : bs.length = n) (hcap : n ≤ c) (hB : okB bs) (hn : n ≤ 6000) (hs : ¬ seald bs) :
    Ret Tryz.prog 5 [.slice A n c] w (fun v w' => v = .tuple #[.agg #[.int .i64 0, .int .i64 0, .slice none 0 0], .slice none 0 0, .bool false] ∧ Below w.heap.size w w') := by
 refine ret_enter Tryz.func5 rfl rfl rfl ?_
 have H0 := HS.start w
 refine cw_seq ?_
 refine cw_reg ?_
 refine reg_op (op_alloc H0 rfl kffile3_1) rfl rfl ?_
 rintro _ w2 ⟨b1, rfl, H3⟩
 refine ry (y_asg rfl rfl) rfl rfl ?_
 refine ry (y_asg rfl rfl) rfl rfl ?_
 refine reg_nil ?_
 refine fn_next ?_
 refine cw_seq ?_
 refine cw_reg ?_
 refine ry (y_build (places := [(0, 1), (1, 1), (2, 1)]) (parts := []) (vs := []) (cs := [.int _ _, .int _ _, .slice _ _ _]) rfl Tryz.underlying26 (by kernel_rfl) kffile3_1 rfl trivial rfl) rfl rfl ?_
 refine reg_op (op_alloc H3 rfl kffile3_1) rfl rfl ?_
 rintro _ w5 ⟨b4, rfl, H6⟩
 refine reg_op (op_st (i := 0) (vs := [.int _ _, .int _ _, .slice _ _ _]) H6 rfl rfl rfl rfl rfl kffile3_2 rfl rfl rfl) rfl rfl ?_
 rintro _ w7 H8
 refine reg_nil ?_
 refine fn_next ?_
 refine cw_seq ?_
 refine cw_reg ?_
 refine ry (y_mov rfl rfl) rfl rfl ?_
 refine reg_op (op_call (refOpenBad A n c bs _ (hb.below H8.base) hl hcap hB (by omega) hs) rfl kffile3_3 ⟨rfl, trivial⟩) rfl rfl ?_
 rintro _ w10 ⟨e14, rfl, he, e9⟩
 have H11 := H8.ext e9
 refine ry (y_mov rfl rfl) rfl rfl ?_
 refine ry (y_ext rfl rfl rfl) rfl rfl ?_
 refine ry (y_ext rfl rfl rfl) rfl rfl ?_
 refine ry (y_asg rfl rfl) rfl rfl ?_
 refine ry (y_asg rfl rfl) rfl rfl ?_
 refine reg_nil ?_
 refine fn_next ?_
 refine cw_seq ?_
 refine cw_seq ?_
 refine cw_reg ?_
 refine ry (y_mov rfl rfl) rfl rfl ?_
 refine ry (y_neq rfl rfl rfl) rfl rfl ?_
 refine reg_nil ?_
 refine fn_next ?_
 refine cw_condd rfl (fun h12 => ?_) (fun h12 => ?_)
 ·skip
  refine cw_seq ?_
  refine cw_reg ?_
  refine ry (y_ldb (i := 0) (cs := [_, _, _]) H11 rfl rfl kffile3_4 rfl rfl) rfl rfl ?_
  refine reg_op (op_st (i := 1) (vs := [.int _ _, .int _ _, .slice _ _ _]) H11 rfl rfl rfl rfl rfl kffile3_2 rfl rfl rfl) rfl rfl ?_
  rintro _ w13 H14
  refine ry (y_asg rfl rfl) rfl rfl ?_
  refine ry (y_asg rfl rfl) rfl rfl ?_
  refine reg_nil ?_
  refine fn_next ?_
  refine cw_ret ?_
  refine fn_then_ret ?_
  refine fn_retn (vs := [_, _, _]) rfl ⟨⟨_, rfl, load_agg (cs := [_, _, _]) kffile3_4 rfl fun j v hv => by rw [Nat.zero_add]; exact H14.cell (i := 1) rfl hv⟩, rfl, rfl, trivial⟩ rfl ?_
  exact ⟨rfl, H14.base⟩
 · exact absurd (Classical.not_not.1 h12) he

set_option maxRecDepth 100000 in
theorem mLoad_dir (A : Option Addr) (n c : Nat) (bs : List Int) (w : World) (hb : Rd w A (vi .u8 bs)) (hl : bs.length = n) (hcap : n ≤ c) (hB : okB bs) (hn : n ≤ 6000) (hs : seald bs) (hc : ¬ (dgS (bs.take (n - 4))).2.2.2 = 0) :
    Ret Tryz.prog 5 [.slice A n c] w (fun v w' => v = .tuple #[.agg #[.int .i64 0, .int .i64 0, .slice none 0 0], .slice none 0 0, .bool false] ∧ Below w.heap.size w w') := by
 have h4 := hs.1
 have hBt := okB_take hB (n - 4)
 have hlt : (bs.take (n - 4)).length = n - 4 := by rw [List.length_take]; omega
 have hpre := rd_hi (c := c) (k := n - 4) hb (by omega)
 refine ret_enter Tryz.func5 rfl rfl rfl ?_
 have H0 := HS.start w
 refine cw_seq ?_
 refine cw_reg ?_
 refine reg_op (op_alloc H0 rfl kffile3_1) rfl rfl ?_
 rintro _ w2 ⟨b1, rfl, H3⟩
 refine ry (y_asg rfl rfl) rfl rfl ?_
 refine ry (y_asg rfl rfl) rfl rfl ?_
 refine reg_nil ?_
 refine fn_next ?_
 refine cw_seq ?_
 refine cw_reg ?_
 refine ry (y_build (places := [(0, 1), (1, 1), (2, 1)]) (parts := []) (vs := []) (cs := [.int _ _, .int _ _, .slice _ _ _]) rfl Tryz.underlying26 (by kernel_rfl) kffile3_1 rfl trivial rfl) rfl rfl ?_
 refine reg_op (op_alloc H3 rfl kffile3_1) rfl rfl ?_
 rintro _ w5 ⟨b4, rfl, H6⟩
 refine reg_op (op_st (i := 0) (vs := [.int _ _, .int _ _, .slice _ _ _]) H6 rfl rfl rfl rfl rfl kffile3_2 rfl rfl rfl) rfl rfl ?_
 rintro _ w7 H8
 refine reg_nil ?_
 refine fn_next ?_
 refine cw_seq ?_
 refine cw_reg ?_
 refine ry (y_mov rfl rfl) rfl rfl ?_
 refine reg_op (op_call (refOpenOk A n c bs _ (hb.below H8.base) hl hcap hB (by omega) hs) rfl kffile3_3 ⟨rfl, trivial⟩) rfl rfl ?_
 rintro _ w10 ⟨rfl, e9⟩
 have H11 := H8.ext e9
 refine ry (y_mov rfl rfl) rfl rfl ?_
 refine ry (y_ext rfl rfl rfl) rfl rfl ?_
 refine ry (y_ext rfl rfl rfl) rfl rfl ?_
 refine ry (y_asg rfl rfl) rfl rfl ?_
 refine ry (y_asg rfl rfl) rfl rfl ?_
 refine reg_nil ?_
 refine fn_next ?_
 refine cw_seq ?_
 refine cw_seq ?_
 refine cw_reg ?_
 refine ry (y_mov rfl rfl) rfl rfl ?_
 refine ry (y_neq rfl rfl rfl) rfl rfl ?_
 refine reg_nil ?_
 refine fn_next ?_
 refine cw_condf rfl ?_
 refine cw_skip ?_
 refine fn_next ?_
 refine cw_seq ?_
 refine cw_reg ?_
 refine ry (y_mov rfl rfl) rfl rfl ?_
 refine reg_op (op_call (refDirGetZBad (bs.take (n - 4)) _ (n - 4) _ _ (hpre.below H11.base) hlt (by omega) (by omega) hBt hc) rfl kffile3_5 ⟨rfl, trivial⟩) rfl rfl ?_
 rintro _ w13 ⟨x14, y14, A14, n14, c14, e14, rfl, he, e12⟩
 have H14 := H11.ext e12
 refine ry (y_mov rfl rfl) rfl rfl ?_
 refine ry (y_ext rfl rfl rfl) rfl rfl ?_
 refine ry (y_ext rfl rfl rfl) rfl rfl ?_
 refine ry (y_ext rfl rfl rfl) rfl rfl ?_
 refine ry (y_ext rfl rfl rfl) rfl rfl ?_
 refine ry (y_asg rfl rfl) rfl rfl ?_
 refine ry (y_asg rfl rfl) rfl rfl ?_
 refine ry (y_asg rfl rfl) rfl rfl ?_
 refine ry (y_asg rfl rfl) rfl rfl ?_
 refine reg_nil ?_
 refine fn_next ?_
 refine cw_seq ?_
 refine cw_seq ?_
 refine cw_reg ?_
 refine ry (y_mov rfl rfl) rfl rfl ?_
 refine ry (y_neq rfl rfl rfl) rfl rfl ?_
 refine reg_nil ?_
 refine fn_next ?_
 refine cw_condd rfl (fun h15 => ?_) (fun h15 => ?_)
 ·skip
  refine cw_seq ?_
  refine cw_reg ?_
  refine ry (y_ldb (i := 0) (cs := [_, _, _]) H14 rfl rfl kffile3_4 rfl rfl) rfl rfl ?_
  refine reg_op (op_st (i := 1) (vs := [.int _ _, .int _ _, .slice _ _ _]) H14 rfl rfl rfl rfl rfl kffile3_2 rfl rfl rfl) rfl rfl ?_
  rintro _ w16 H17
  refine ry (y_asg rfl rfl) rfl rfl ?_
  refine ry (y_asg rfl rfl) rfl rfl ?_
  refine reg_nil ?_
  refine fn_next ?_
  refine cw_ret ?_
  refine fn_then_ret ?_
  refine fn_retn (vs := [_, _, _]) rfl ⟨⟨_, rfl, load_agg (cs := [_, _, _]) kffile3_4 rfl fun j v hv => by rw [Nat.zero_add]; exact H17.cell (i := 1) rfl hv⟩, rfl, rfl, trivial⟩ rfl ?_
  exact ⟨rfl, H17.base⟩
 · exact absurd (Classical.not_not.1 h15) he

set_option maxRecDepth 100000 in
set_option maxHeartbeats 2000000 in
theorem mLoad_D (A : Option Addr) (n c : Nat) (bs : List Int) (a h N : Nat) (w : World) (hb : Rd w A (vi .u8 bs)) (hl : bs.length = n) (hcap : n ≤ c) (hB : okB bs) (hn : n ≤ 6000) (hs : seald bs) (D : DirOk (bs.take (n - 4)) a h N) :
    Ret Tryz.prog 5 [.slice A n c] w (MLoadR (bs.take (n - 4)) a h N w) := by
 have h4 := hs.1
 have hBt := okB_take hB (n - 4)
 have hlt : (bs.take (n - 4)).length = n - 4 := by rw [List.length_take]; omega
 have hpre := rd_hi (c := c) (k := n - 4) hb (by omega)
 have hN1 := n_pos D
 have hbN := D.bd
 refine ret_enter Tryz.func5 rfl rfl rfl ?_
 have H0 := HS.start w
 refine cw_seq ?_
 refine cw_reg ?_
 refine reg_op (op_alloc H0 rfl kffile3_1) rfl rfl ?_
 rintro _ w2 ⟨b1, rfl, H3⟩
 refine ry (y_asg rfl rfl) rfl rfl ?_
 refine ry (y_asg rfl rfl) rfl rfl ?_
 refine reg_nil ?_
 refine fn_next ?_
 refine cw_seq ?_
 refine cw_reg ?_
 refine ry (y_build (places := [(0, 1), (1, 1), (2, 1)]) (parts := []) (vs := []) (cs := [.int _ _, .int _ _, .slice _ _ _]) rfl Tryz.underlying26 (by kernel_rfl) kffile3_1 rfl trivial rfl) rfl rfl ?_
 refine reg_op (op_alloc H3 rfl kffile3_1) rfl rfl ?_
 rintro _ w5 ⟨b4, rfl, H6⟩
 refine reg_op (op_st (i := 0) (vs := [.int _ _, .int _ _, .slice _ _ _]) H6 rfl rfl rfl rfl rfl kffile3_2 rfl rfl rfl) rfl rfl ?_
 rintro _ w7 H8
 refine reg_nil ?_
 refine fn_next ?_
 refine cw_seq ?_
 refine cw_reg ?_
 refine ry (y_mov rfl rfl) rfl rfl ?_
 refine reg_op (op_call (refOpenOk A n c bs _ (hb.below H8.base) hl hcap hB (by omega) hs) rfl kffile3_3 ⟨rfl, trivial⟩) rfl rfl ?_
 rintro _ w10 ⟨rfl, e9⟩
 have H11 := H8.ext e9
 refine ry (y_mov rfl rfl) rfl rfl ?_
 refine ry (y_ext rfl rfl rfl) rfl rfl ?_
 refine ry (y_ext rfl rfl rfl) rfl rfl ?_
 refine ry (y_asg rfl rfl) rfl rfl ?_
 refine ry (y_asg rfl rfl) rfl rfl ?_
 refine reg_nil ?_
 refine fn_next ?_
 refine cw_seq ?_
 refine cw_seq ?_
 refine cw_reg ?_
 refine ry (y_mov rfl rfl) rfl rfl ?_
 refine ry (y_neq rfl rfl rfl) rfl rfl ?_
 refine reg_nil ?_
 refine fn_next ?_
 refine cw_condf rfl ?_
 refine cw_skip ?_
 refine fn_next ?_
 refine cw_seq ?_
 refine cw_reg ?_
 refine ry (y_mov rfl rfl) rfl rfl ?_
 refine reg_op (op_call (refDirGetZ (bs.take (n - 4)) a h N D _ (n - 4) _ _ (hpre.below H11.base) hlt (by omega) (by omega) hBt) rfl kffile3_5 ⟨rfl, trivial⟩) rfl rfl ?_
 rintro _ w13 ⟨A15, c16, rfl, k12⟩
 have H14 := H11.call k12
 refine ry (y_mov rfl rfl) rfl rfl ?_
 refine ry (y_ext rfl rfl rfl) rfl rfl ?_
 refine ry (y_ext rfl rfl rfl) rfl rfl ?_
 refine ry (y_ext rfl rfl rfl) rfl rfl ?_
 refine ry (y_ext rfl rfl rfl) rfl rfl ?_
 refine ry (y_asg rfl rfl) rfl rfl ?_
 refine ry (y_asg rfl rfl) rfl rfl ?_
 refine ry (y_asg rfl rfl) rfl rfl ?_
 refine ry (y_asg rfl rfl) rfl rfl ?_
 refine reg_nil ?_
 refine fn_next ?_
 refine cw_seq ?_
 refine cw_seq ?_
 refine cw_reg ?_
 refine ry (y_mov rfl rfl) rfl rfl ?_
 refine ry (y_neq rfl rfl rfl) rfl rfl ?_
 refine reg_nil ?_
 refine fn_next ?_
 refine cw_condf rfl ?_
 refine cw_skip ?_
 refine fn_next ?_
 refine cw_seq ?_
 refine cw_reg ?_
 refine ry (y_mov rfl rfl) rfl rfl ?_
 refine ry (y_mov rfl rfl) rfl rfl ?_
 refine reg_op (op_call (rNew_ok a h 0 _ D.sz (by decide)) rfl kffile3_6 ⟨rfl, rfl, rfl, trivial⟩) rfl rfl ?_
 rintro _ w18 ⟨A20, c21, rfl, k17⟩
 have H19 := H14.call k17
 refine ry (y_mov rfl rfl) rfl rfl ?_
 refine ry (y_ext rfl rfl rfl) rfl rfl ?_
 refine ry (y_ext rfl rfl rfl) rfl rfl ?_
 refine reg_op (op_alloc H19 rfl kffile3_1) rfl rfl ?_
 rintro _ w23 ⟨b22, rfl, H24⟩
 refine reg_op (op_st (i := 0) (vs := [.int _ _, .int _ _, .slice _ _ _]) H24 rfl rfl rfl rfl rfl kffile3_2 rfl rfl rfl) rfl rfl ?_
 rintro _ w25 H26
 refine ry (y_asg rfl rfl) rfl rfl ?_
 refine reg_nil ?_
 refine fn_next ?_
 refine cw_seq ?_
 refine cw_reg ?_
 refine ry (y_ldb (i := 0) (cs := [_, _, _]) H26 rfl rfl kffile3_4 rfl rfl) rfl rfl ?_
 refine reg_op (op_call (rTilesZ (bs.take (n - 4)) a h N D _ _ _) rfl kffile3_7 ⟨rfl, trivial⟩) rfl rfl ?_
 rintro _ w28 ⟨A30, c31, rfl, k27⟩
 have H29 := H26.call k27
 refine ry (y_asg rfl rfl) rfl rfl ?_
 refine reg_nil ?_
 refine fn_next ?_
 refine cw_seq ?_
 refine cw_reg ?_
 refine reg_op (op_lit (parts := []) (vs := []) (cs := []) H29 rfl Tryz.underlying27 kffile3_8 rfl trivial rfl rfl) rfl rfl ?_
 rintro _ w33 ⟨b32, rfl, H34⟩
 have H35 := H34.asrow (m := 0) (size := 1) rfl (by decide)
 refine ry (y_asg rfl rfl) rfl rfl ?_
 refine reg_nil ?_
 refine fn_next ?_
 refine cw_seq ?_
 refine cw_reg ?_
 refine ry (y_asg rfl rfl) rfl rfl ?_
 refine reg_nil ?_
 refine fn_next ?_
 refine cw_seq ?_
 refine cw_seq ?_
 refine cw_reg ?_
 refine ry (y_asg rfl rfl) rfl rfl ?_
 refine reg_nil ?_
 refine fn_next ?_
 refine cw_block ?_
 rw [← vZ_zero D] at H35
 refine cw_loopJ [3, 4, 15, 16, 17, 18, 19, 20, 21, 22, 51, 52, 53, 54, 55, 56, 57, 58, 59, 60, 61, 62, 63, 64, 65, 66, 67, 68, 69, 70, 71, 72, 73, 74, 75, 76, 77, 78, 79, 80, 81, 82, 83, 84, 85, 86, 87, 88, 89, 90, 91, 92, 93, 94, 95, 96, 97, 98, 99, 100, 101, 102, 103, 104, 105, 106, 107, 108, 109, 110, 111, 112, 113, 114, 115, 116, 117, 118, 119, 120, 121, 122, 123, 124, 125, 126, 127, 128, 129, 130, 131, 132] (fun M wl ml => ∃ (i : Nat) (A1 : Option Addr) (c1 : Nat) (A2 : Option Addr) (c2 : Nat), M = [(17, .int .i64 (i : Int)), (15, .slice A1 i c1), (16, .int .i64 (eZ (bs.take (n - 4)) i))] ∧ HS w wl [Ob.row A1 i c1 (vi .i64 (kZ (bs.take (n - 4)) i)) 3 1, Ob.row A2 (a * h) c2 (vi .i64 (vZ (bs.take (n - 4)) i)) 2 1, Ob.blk b22 [.int .i64 (a : Int), .int .i64 (h : Int), .slice A2 (a * h) c2] 26, Ob.blk b1 [.int .i64 0, .int .i64 0, .slice none 0 0] 26, Ob.blk b4 [.int .i64 0, .int .i64 0, .slice none 0 0] 26, Ob.row A30 N c31 (rcells (tilesZ (bs.take (n - 4)))) 54 4, Ob.row A15 N c16 (vi .i64 (entF (baseOf (bs.take (n - 4))) (lensZ (bs.take (n - 4))))) 50 2] ∧ (i ≤ N) ∧ (∀ j, j < i → (tgZ (bs.take (n - 4)) j).2.2 = 0) ∧ ml = N + 1 - i) ⟨0, _, _, _, _, rfl, (H35.pick (m := [_, _, _, _, _, _, _]) [0, 3, 2, 6, 5, 1, 4] rfl (by decide)), Nat.zero_le _, fun j hj => absurd hj (Nat.not_lt_zero _), rfl⟩ ⟨rfl, rfl, rfl, trivial⟩ ?_
 rintro M w36 m38 ⟨i, A1, c1, A2, c2, rfl, H37, hin, hall, rfl⟩
 refine cw_seq ?_
 refine cw_seq ?_
 refine cw_reg ?_
 refine ry (y_mov rfl rfl) rfl rfl ?_
 refine ry (y_mov rfl rfl) rfl rfl ?_
 refine ry (y_len rfl Tryz.underlying47 rfl) rfl rfl ?_
 refine ry (y_lss rfl rfl rfl) rfl rfl ?_
 refine reg_nil ?_
 refine fn_next ?_
 refine cw_condd rfl (fun h39 => ?_) (fun h39 => ?_)
 ·skip
  have hi : i < N := by omega
  have htp := tile_part D hi
  have hen2 := ent_cells D hi
  have hos2 := off_succ D hi
  have hom := off_mono D (i := i + 1) N (by omega) (Nat.le_refl _)
  have hob := off_bd D (Nat.le_refl N)
  have hTi := (tile_ok D hi).1
  obtain ⟨d1, d2, d3, d4, d5, d6, d7, d8⟩ := hTi
  obtain ⟨z1, z2, z3, z4⟩ := id D.sz
  have hsz : (0 ≤ (tileZ (bs.take (n - 4)) i).x0 ∧ (tileZ (bs.take (n - 4)) i).x0 ≤ (tileZ (bs.take (n - 4)) i).x1 ∧ (tileZ (bs.take (n - 4)) i).x1 ≤ 1024) ∧ 0 ≤ (tileZ (bs.take (n - 4)) i).y0 ∧ (tileZ (bs.take (n - 4)) i).y0 ≤ (tileZ (bs.take (n - 4)) i).y1 ∧ (tileZ (bs.take (n - 4)) i).y1 ≤ 1024 := by omega
  refine cw_skip ?_
  refine fn_next ?_
  refine cw_seq ?_
  refine cw_block ?_
  refine cw_seq ?_
  refine cw_seq ?_
  refine cw_draw H37 [0, 1, 2, 3, 4, 5, 6, 7, 8, 9, 10, 11, 12, 13] [] (fun X HX => HX) (by kernel_rfl) (by kernel_rfl) (by rfl) ?_
  simp only [pick, List.getElem?_cons_succ, List.getElem?_cons_zero]
  refine hk_y (fun Y HY => y_mov rfl rfl) rfl rfl ?_
  refine hk_y (fun Y HY => y_mov rfl rfl) rfl rfl ?_
  refine hk_y (fun Y HY => y_iar (i := i) (HY.rd (i := 6) rfl) rfl rfl rfl kffile3_9 (rfl) (by omega) (rfl) (hen2 0 _ rfl)) rfl rfl ?_
  refine hk_y (fun Y HY => y_far (HY.rd (i := 6) rfl) rfl rfl kffile3_10 rfl (hen2 0 _ rfl)) rfl rfl ?_
  refine hk_y (fun Y HY => y_ldr (HY.rd (i := 6) rfl) rfl rfl kffile3_11 (hen2 0 _ rfl)) rfl rfl ?_
  refine hk_y (fun Y HY => y_mov rfl rfl) rfl rfl ?_
  refine hk_y (fun Y HY => y_mov rfl rfl) rfl rfl ?_
  refine hk_y (fun Y HY => y_iar (i := i) (HY.rd (i := 6) rfl) rfl rfl rfl kffile3_9 (rfl) (by omega) (rfl) (hen2 0 _ rfl)) rfl rfl ?_
  refine hk_y (fun Y HY => y_far (HY.rd (i := 6) rfl) rfl rfl kffile3_12 rfl (hen2 0 _ rfl)) rfl rfl ?_
  refine hk_y (fun Y HY => y_ldr (HY.rd (i := 6) rfl) rfl rfl kffile3_11 (hen2 1 _ rfl)) rfl rfl ?_
  refine hk_y (fun Y HY => y_add rfl rfl rfl (wi (by omega))) rfl rfl ?_
  refine hk_y (fun Y HY => y_mov rfl rfl) rfl rfl ?_
  refine hk_y (fun Y HY => y_len rfl Tryz.underlying22 rfl) rfl rfl ?_
  refine hk_y (fun Y HY => y_gtr rfl rfl rfl) rfl rfl ?_
  refine hk_nil ?_
  intro w40 H41
  refine tv_nil ?_
  refine fn_next ?_
  refine cw_condd rfl (fun hne => ?_) (fun hne => ?_)
  ·skip
   refine cw_seq ?_
   refine cw_reg ?_
   refine ry (y_ldb (i := 4) (cs := [_, _, _]) H41 rfl rfl kffile3_4 rfl rfl) rfl rfl ?_
   refine reg_op (op_st (i := 3) (vs := [.int _ _, .int _ _, .slice _ _ _]) H41 rfl rfl rfl rfl rfl kffile3_2 rfl rfl rfl) rfl rfl ?_
   rintro _ w43 H44
   refine ry (y_asg rfl rfl) rfl rfl ?_
   refine ry (y_asg rfl rfl) rfl rfl ?_
   refine reg_nil ?_
   refine fn_next ?_
   refine cw_ret ?_
   refine fn_then_ret (fn_block_ret (fn_then_ret (fn_then_ret (fn_block_ret (fn_then_ret ?_)))))
   refine fn_retn (vs := [_, _, _]) rfl ⟨⟨_, rfl, load_agg (cs := [_, _, _]) kffile3_4 rfl fun j v hv => by rw [Nat.zero_add]; exact H44.cell (i := 3) rfl hv⟩, rfl, rfl, trivial⟩ rfl ?_
   exact .inr ⟨fun hf => by have := fileP_end D hf; omega, rfl, H44.base⟩
  ·skip
   have hml : (tbZ (bs.take (n - 4)) i).length = offZ (bs.take (n - 4)) i + lenZ (bs.take (n - 4)) i - offZ (bs.take (n - 4)) i := by rw [tbz_len D hi (by rw [hlt]; omega)]; omega
   refine cw_skip ?_
   refine fn_next ?_
   refine cw_seq ?_
   refine cw_reg ?_
   refine ry (y_mov rfl rfl) rfl rfl ?_
   refine ry (y_mov rfl rfl) rfl rfl ?_
   refine ry (y_iar (i := i) (H41.rd (i := 5) rfl) rfl rfl rfl kffile3_13 (rfl) (by omega) (rfl) (htp 0 _ rfl)) rfl rfl ?_
   refine ry (y_ldra (cs := [_, _, _, _]) (H41.rd (i := 5) rfl) rfl rfl kffile3_14 rfl (by decide) (htp)) rfl rfl ?_
   refine reg_op (op_call (mSize14 _ _ _ _ _ hsz) rfl kffile3_15 ⟨rfl, trivial⟩) rfl rfl ?_
   rintro _ w46 ⟨rfl, e45⟩
   have H47 := H41.ext e45
   refine ry (y_mov rfl rfl) rfl rfl ?_
   refine ry (y_ext rfl rfl rfl) rfl rfl ?_
   refine ry (y_ext rfl rfl rfl) rfl rfl ?_
   refine ry (y_asg rfl rfl) rfl rfl ?_
   refine ry (y_asg rfl rfl) rfl rfl ?_
   refine reg_nil ?_
   refine fn_next ?_
   refine cw_seq ?_
   refine cw_drawT H47 [0, 1, 2, 3, 4, 5, 6, 7, 8, 9, 10, 11, 12, 13, 14, 15, 16, 17, 18, 19] (.step 20 (.step 21 (.alt (.step 22 (.alt (.step 23 (.alt (.step 24 (.step 25 (.step 26 (.step 27 (.leaf))))) (.step 25 (.alt (.step 24 (.step 26 (.step 27 (.leaf)))) (.step 26 (.step 24 (.step 27 (.leaf)))))))) (.alt (.step 24 (.alt (.step 23 (.step 25 (.step 26 (.step 27 (.leaf))))) (.step 25 (.step 23 (.step 26 (.step 27 (.leaf))))))) (.step 25 (.alt (.step 23 (.alt (.step 24 (.step 26 (.step 27 (.leaf)))) (.step 26 (.step 24 (.step 27 (.leaf)))))) (.step 24 (.step 23 (.step 26 (.step 27 (.leaf)))))))))) (.alt (.step 23 (.alt (.step 22 (.alt (.step 24 (.step 25 (.step 26 (.step 27 (.leaf))))) (.step 25 (.alt (.step 24 (.step 26 (.step 27 (.leaf)))) (.step 26 (.step 24 (.step 27 (.leaf)))))))) (.step 24 (.step 22 (.step 25 (.step 26 (.step 27 (.leaf)))))))) (.step 24 (.alt (.step 22 (.alt (.step 23 (.step 25 (.step 26 (.step 27 (.leaf))))) (.step 25 (.step 23 (.step 26 (.step 27 (.leaf))))))) (.step 23 (.step 22 (.step 25 (.step 26 (.step 27 (.leaf)))))))))))) (fun X HX => HX) (by kernel_rfl) (by kernel_rfl) (by rfl) ?_
   simp only [pick, List.getElem?_cons_succ, List.getElem?_cons_zero]
   refine hk_y (fun Y HY => y_mov rfl rfl) rfl rfl ?_
   refine hk_y (fun Y HY => y_mov rfl rfl) rfl rfl ?_
   refine hk_y (fun Y HY => y_mov rfl rfl) rfl rfl ?_
   refine hk_y (fun Y HY => y_iar (i := i) (HY.rd (i := 6) rfl) rfl rfl rfl kffile3_9 (rfl) (by omega) (rfl) (hen2 0 _ rfl)) rfl rfl ?_
   refine hk_y (fun Y HY => y_far (HY.rd (i := 6) rfl) rfl rfl kffile3_10 rfl (hen2 0 _ rfl)) rfl rfl ?_
   refine hk_y (fun Y HY => y_ldr (HY.rd (i := 6) rfl) rfl rfl kffile3_11 (hen2 0 _ rfl)) rfl rfl ?_
   refine hk_y (fun Y HY => y_mov rfl rfl) rfl rfl ?_
   refine hk_y (fun Y HY => y_mov rfl rfl) rfl rfl ?_
   refine hk_y (fun Y HY => y_iar (i := i) (HY.rd (i := 6) rfl) rfl rfl rfl kffile3_9 (rfl) (by omega) (rfl) (hen2 0 _ rfl)) rfl rfl ?_
   refine hk_y (fun Y HY => y_far (HY.rd (i := 6) rfl) rfl rfl kffile3_10 rfl (hen2 0 _ rfl)) rfl rfl ?_
   refine hk_y (fun Y HY => y_ldr (HY.rd (i := 6) rfl) rfl rfl kffile3_11 (hen2 0 _ rfl)) rfl rfl ?_
   refine hk_y (fun Y HY => y_mov rfl rfl) rfl rfl ?_
   refine hk_y (fun Y HY => y_mov rfl rfl) rfl rfl ?_
   refine hk_y (fun Y HY => y_iar (i := i) (HY.rd (i := 6) rfl) rfl rfl rfl kffile3_9 (rfl) (by omega) (rfl) (hen2 0 _ rfl)) rfl rfl ?_
   refine hk_y (fun Y HY => y_far (HY.rd (i := 6) rfl) rfl rfl kffile3_12 rfl (hen2 0 _ rfl)) rfl rfl ?_
   refine hk_y (fun Y HY => y_ldr (HY.rd (i := 6) rfl) rfl rfl kffile3_11 (hen2 1 _ rfl)) rfl rfl ?_
   refine hk_y (fun Y HY => y_add rfl rfl rfl (show _ = ((offZ (bs.take (n - 4)) i + lenZ (bs.take (n - 4)) i : Nat) : Int) from (wi (by omega)).trans (by omega))) rfl rfl ?_
   refine hk_y (fun Y HY => y_slh rfl rfl rfl rfl kffile3_16 (rfl) (rfl) (by omega) (by omega)) rfl rfl ?_
   refine hk_y (fun Y HY => y_mov rfl rfl) rfl rfl ?_
   refine hk_y (fun Y HY => y_mov rfl rfl) rfl rfl ?_
   refine hkt_nil [20, 21, 22, 80, 101, 102, 103, 104] (fun M wl => ∃ (A8 : Option Addr) (c8 : Nat), M = [(20, .slice A8 (tgZ (bs.take (n - 4)) i).1.length c8), (21, .int .i64 (tgZ (bs.take (n - 4)) i).2.1), (22, .int .i64 (tgZ (bs.take (n - 4)) i).2.2)] ∧ HS w wl [Ob.row A8 (tgZ (bs.take (n - 4)) i).1.length c8 (vi .i64 (tgZ (bs.take (n - 4)) i).1) 2 1, Ob.row A1 i c1 (vi .i64 (kZ (bs.take (n - 4)) i)) 3 1, Ob.row A2 (a * h) c2 (vi .i64 (vZ (bs.take (n - 4)) i)) 2 1, Ob.blk b22 [.int .i64 (a : Int), .int .i64 (h : Int), .slice A2 (a * h) c2] 26, Ob.blk b1 [.int .i64 0, .int .i64 0, .slice none 0 0] 26, Ob.blk b4 [.int .i64 0, .int .i64 0, .slice none 0 0] 26, Ob.row A30 N c31 (rcells (tilesZ (bs.take (n - 4)))) 54 4, Ob.row A15 N c16 (vi .i64 (entF (baseOf (bs.take (n - 4))) (lensZ (bs.take (n - 4))))) 50 2]) (fun wX HX => ?_) ?_
   ·skip
    refine tt_op rfl (op_call (refTGetZ (bs.take (n - 4)) i _ _ _ (offZ (bs.take (n - 4)) i + lenZ (bs.take (n - 4)) i - offZ (bs.take (n - 4)) i) _ _ rfl rfl (rd_tb (hpre.below HX.base) (by omega)) hml (by omega) hBt (by omega)) rfl kffile3_17 ⟨rfl, rfl, rfl, trivial⟩) rfl rfl ?_
    rintro _ w49 ⟨A51, c52, rfl, k48⟩
    have H50 := HX.call k48
    refine ⟨(H50.pick (m := [_, _, _, _, _, _, _]) [1, 2, 3, 4, 5, 6, 7] rfl (by decide)), fun w53 e55 => ?_⟩
    have H54 := H50.ext e55
    refine tt_op rfl (Yd.op (y_mov rfl rfl)) rfl rfl ?_
    rintro _ _ ⟨rfl, rfl⟩
    refine ⟨(H54.pick (m := [_, _, _, _, _, _, _]) [1, 2, 3, 4, 5, 6, 7] rfl (by decide)), fun w56 e58 => ?_⟩
    have H57 := H54.ext e58
    refine tt_alt ?_ ?_
    ·skip
     refine tt_op rfl (Yd.op (y_ext rfl rfl rfl)) rfl rfl ?_
     rintro _ _ ⟨rfl, rfl⟩
     refine ⟨(H57.pick (m := [_, _, _, _, _, _, _]) [1, 2, 3, 4, 5, 6, 7] rfl (by decide)), fun w59 e61 => ?_⟩
     have H60 := H57.ext e61
     refine tt_alt ?_ ?_
     ·skip
      refine tt_op rfl (Yd.op (y_ext rfl rfl rfl)) rfl rfl ?_
      rintro _ _ ⟨rfl, rfl⟩
      refine ⟨(H60.pick (m := [_, _, _, _, _, _, _]) [1, 2, 3, 4, 5, 6, 7] rfl (by decide)), fun w62 e64 => ?_⟩
      have H63 := H60.ext e64
      refine tt_alt ?_ ?_
      ·skip
       refine tt_op rfl (Yd.op (y_ext rfl rfl rfl)) rfl rfl ?_
       rintro _ _ ⟨rfl, rfl⟩
       refine ⟨(H63.pick (m := [_, _, _, _, _, _, _]) [1, 2, 3, 4, 5, 6, 7] rfl (by decide)), fun w65 e67 => ?_⟩
       have H66 := H63.ext e67
       refine tt_op rfl (Yd.op (y_asg rfl rfl)) rfl rfl ?_
       rintro _ _ ⟨rfl, rfl⟩
       refine ⟨(H66.pick (m := [_, _, _, _, _, _, _]) [1, 2, 3, 4, 5, 6, 7] rfl (by decide)), fun w68 e70 => ?_⟩
       have H69 := H66.ext e70
       refine tt_op rfl (Yd.op (y_asg rfl rfl)) rfl rfl ?_
       rintro _ _ ⟨rfl, rfl⟩
       refine ⟨(H69.pick (m := [_, _, _, _, _, _, _]) [1, 2, 3, 4, 5, 6, 7] rfl (by decide)), fun w71 e73 => ?_⟩
       have H72 := H69.ext e73
       refine tt_op rfl (Yd.op (y_asg rfl rfl)) rfl rfl ?_
       rintro _ _ ⟨rfl, rfl⟩
       refine ⟨(H72.pick (m := [_, _, _, _, _, _, _]) [1, 2, 3, 4, 5, 6, 7] rfl (by decide)), fun w74 e76 => ?_⟩
       have H75 := H72.ext e76
       exact tt_leaf ⟨A51, c52, rfl, H75⟩ ⟨rfl, rfl, rfl, trivial⟩ (by repeat (first | exact kp_refl | refine kp_app rfl rfl ?_ | refine kp_cons rfl ?_))
      refine tt_op rfl (Yd.op (y_asg rfl rfl)) rfl rfl ?_
      rintro _ _ ⟨rfl, rfl⟩
      refine ⟨(H63.pick (m := [_, _, _, _, _, _, _]) [1, 2, 3, 4, 5, 6, 7] rfl (by decide)), fun w77 e79 => ?_⟩
      have H78 := H63.ext e79
      refine tt_alt ?_ ?_
      ·skip
       refine tt_op rfl (Yd.op (y_ext rfl rfl rfl)) rfl rfl ?_
       rintro _ _ ⟨rfl, rfl⟩
       refine ⟨(H78.pick (m := [_, _, _, _, _, _, _]) [1, 2, 3, 4, 5, 6, 7] rfl (by decide)), fun w80 e82 => ?_⟩
       have H81 := H78.ext e82
       refine tt_op rfl (Yd.op (y_asg rfl rfl)) rfl rfl ?_
       rintro _ _ ⟨rfl, rfl⟩
       refine ⟨(H81.pick (m := [_, _, _, _, _, _, _]) [1, 2, 3, 4, 5, 6, 7] rfl (by decide)), fun w83 e85 => ?_⟩
       have H84 := H81.ext e85
       refine tt_op rfl (Yd.op (y_asg rfl rfl)) rfl rfl ?_
       rintro _ _ ⟨rfl, rfl⟩
       refine ⟨(H84.pick (m := [_, _, _, _, _, _, _]) [1, 2, 3, 4, 5, 6, 7] rfl (by decide)), fun w86 e88 => ?_⟩
       have H87 := H84.ext e88
       exact tt_leaf ⟨A51, c52, rfl, H87⟩ ⟨rfl, rfl, rfl, trivial⟩ (by repeat (first | exact kp_refl | refine kp_app rfl rfl ?_ | refine kp_cons rfl ?_))
      refine tt_op rfl (Yd.op (y_asg rfl rfl)) rfl rfl ?_
      rintro _ _ ⟨rfl, rfl⟩
      refine ⟨(H78.pick (m := [_, _, _, _, _, _, _]) [1, 2, 3, 4, 5, 6, 7] rfl (by decide)), fun w89 e91 => ?_⟩
      have H90 := H78.ext e91
      refine tt_op rfl (Yd.op (y_ext rfl rfl rfl)) rfl rfl ?_
      rintro _ _ ⟨rfl, rfl⟩
      refine ⟨(H90.pick (m := [_, _, _, _, _, _, _]) [1, 2, 3, 4, 5, 6, 7] rfl (by decide)), fun w92 e94 => ?_⟩
      have H93 := H90.ext e94
      refine tt_op rfl (Yd.op (y_asg rfl rfl)) rfl rfl ?_
      rintro _ _ ⟨rfl, rfl⟩
      refine ⟨(H93.pick (m := [_, _, _, _, _, _, _]) [1, 2, 3, 4, 5, 6, 7] rfl (by decide)), fun w95 e97 => ?_⟩
      have H96 := H93.ext e97
      exact tt_leaf ⟨A51, c52, rfl, H96⟩ ⟨rfl, rfl, rfl, trivial⟩ (by repeat (first | exact kp_refl | refine kp_app rfl rfl ?_ | refine kp_cons rfl ?_))
     refine tt_alt ?_ ?_
     ·skip
      refine tt_op rfl (Yd.op (y_ext rfl rfl rfl)) rfl rfl ?_
      rintro _ _ ⟨rfl, rfl⟩
      refine ⟨(H60.pick (m := [_, _, _, _, _, _, _]) [1, 2, 3, 4, 5, 6, 7] rfl (by decide)), fun w98 e100 => ?_⟩
      have H99 := H60.ext e100
      refine tt_alt ?_ ?_
      ·skip
       refine tt_op rfl (Yd.op (y_ext rfl rfl rfl)) rfl rfl ?_
       rintro _ _ ⟨rfl, rfl⟩
       refine ⟨(H99.pick (m := [_, _, _, _, _, _, _]) [1, 2, 3, 4, 5, 6, 7] rfl (by decide)), fun w101 e103 => ?_⟩
       have H102 := H99.ext e103
       refine tt_op rfl (Yd.op (y_asg rfl rfl)) rfl rfl ?_
       rintro _ _ ⟨rfl, rfl⟩
       refine ⟨(H102.pick (m := [_, _, _, _, _, _, _]) [1, 2, 3, 4, 5, 6, 7] rfl (by decide)), fun w104 e106 => ?_⟩
       have H105 := H102.ext e106
       refine tt_op rfl (Yd.op (y_asg rfl rfl)) rfl rfl ?_
       rintro _ _ ⟨rfl, rfl⟩
       refine ⟨(H105.pick (m := [_, _, _, _, _, _, _]) [1, 2, 3, 4, 5, 6, 7] rfl (by decide)), fun w107 e109 => ?_⟩
       have H108 := H105.ext e109
       refine tt_op rfl (Yd.op (y_asg rfl rfl)) rfl rfl ?_
       rintro _ _ ⟨rfl, rfl⟩
       refine ⟨(H108.pick (m := [_, _, _, _, _, _, _]) [1, 2, 3, 4, 5, 6, 7] rfl (by decide)), fun w110 e112 => ?_⟩
       have H111 := H108.ext e112
       exact tt_leaf ⟨A51, c52, rfl, H111⟩ ⟨rfl, rfl, rfl, trivial⟩ (by repeat (first | exact kp_refl | refine kp_app rfl rfl ?_ | refine kp_cons rfl ?_))
      refine tt_op rfl (Yd.op (y_asg rfl rfl)) rfl rfl ?_
      rintro _ _ ⟨rfl, rfl⟩
      refine ⟨(H99.pick (m := [_, _, _, _, _, _, _]) [1, 2, 3, 4, 5, 6, 7] rfl (by decide)), fun w113 e115 => ?_⟩
      have H114 := H99.ext e115
      refine tt_op rfl (Yd.op (y_ext rfl rfl rfl)) rfl rfl ?_
      rintro _ _ ⟨rfl, rfl⟩
      refine ⟨(H114.pick (m := [_, _, _, _, _, _, _]) [1, 2, 3, 4, 5, 6, 7] rfl (by decide)), fun w116 e118 => ?_⟩
      have H117 := H114.ext e118
      refine tt_op rfl (Yd.op (y_asg rfl rfl)) rfl rfl ?_
      rintro _ _ ⟨rfl, rfl⟩
      refine ⟨(H117.pick (m := [_, _, _, _, _, _, _]) [1, 2, 3, 4, 5, 6, 7] rfl (by decide)), fun w119 e121 => ?_⟩
      have H120 := H117.ext e121
      refine tt_op rfl (Yd.op (y_asg rfl rfl)) rfl rfl ?_
      rintro _ _ ⟨rfl, rfl⟩
      refine ⟨(H120.pick (m := [_, _, _, _, _, _, _]) [1, 2, 3, 4, 5, 6, 7] rfl (by decide)), fun w122 e124 => ?_⟩
      have H123 := H120.ext e124
      exact tt_leaf ⟨A51, c52, rfl, H123⟩ ⟨rfl, rfl, rfl, trivial⟩ (by repeat (first | exact kp_refl | refine kp_app rfl rfl ?_ | refine kp_cons rfl ?_))
     refine tt_op rfl (Yd.op (y_asg rfl rfl)) rfl rfl ?_
     rintro _ _ ⟨rfl, rfl⟩
     refine ⟨(H60.pick (m := [_, _, _, _, _, _, _]) [1, 2, 3, 4, 5, 6, 7] rfl (by decide)), fun w125 e127 => ?_⟩
     have H126 := H60.ext e127
     refine tt_alt ?_ ?_
     ·skip
      refine tt_op rfl (Yd.op (y_ext rfl rfl rfl)) rfl rfl ?_
      rintro _ _ ⟨rfl, rfl⟩
      refine ⟨(H126.pick (m := [_, _, _, _, _, _, _]) [1, 2, 3, 4, 5, 6, 7] rfl (by decide)), fun w128 e130 => ?_⟩
      have H129 := H126.ext e130
      refine tt_alt ?_ ?_
      ·skip
       refine tt_op rfl (Yd.op (y_ext rfl rfl rfl)) rfl rfl ?_
       rintro _ _ ⟨rfl, rfl⟩
       refine ⟨(H129.pick (m := [_, _, _, _, _, _, _]) [1, 2, 3, 4, 5, 6, 7] rfl (by decide)), fun w131 e133 => ?_⟩
       have H132 := H129.ext e133
       refine tt_op rfl (Yd.op (y_asg rfl rfl)) rfl rfl ?_
       rintro _ _ ⟨rfl, rfl⟩
       refine ⟨(H132.pick (m := [_, _, _, _, _, _, _]) [1, 2, 3, 4, 5, 6, 7] rfl (by decide)), fun w134 e136 => ?_⟩
       have H135 := H132.ext e136
       refine tt_op rfl (Yd.op (y_asg rfl rfl)) rfl rfl ?_
       rintro _ _ ⟨rfl, rfl⟩
       refine ⟨(H135.pick (m := [_, _, _, _, _, _, _]) [1, 2, 3, 4, 5, 6, 7] rfl (by decide)), fun w137 e139 => ?_⟩
       have H138 := H135.ext e139
       exact tt_leaf ⟨A51, c52, rfl, H138⟩ ⟨rfl, rfl, rfl, trivial⟩ (by repeat (first | exact kp_refl | refine kp_app rfl rfl ?_ | refine kp_cons rfl ?_))
      refine tt_op rfl (Yd.op (y_asg rfl rfl)) rfl rfl ?_
      rintro _ _ ⟨rfl, rfl⟩
      refine ⟨(H129.pick (m := [_, _, _, _, _, _, _]) [1, 2, 3, 4, 5, 6, 7] rfl (by decide)), fun w140 e142 => ?_⟩
      have H141 := H129.ext e142
      refine tt_op rfl (Yd.op (y_ext rfl rfl rfl)) rfl rfl ?_
      rintro _ _ ⟨rfl, rfl⟩
      refine ⟨(H141.pick (m := [_, _, _, _, _, _, _]) [1, 2, 3, 4, 5, 6, 7] rfl (by decide)), fun w143 e145 => ?_⟩
      have H144 := H141.ext e145
      refine tt_op rfl (Yd.op (y_asg rfl rfl)) rfl rfl ?_
      rintro _ _ ⟨rfl, rfl⟩
      refine ⟨(H144.pick (m := [_, _, _, _, _, _, _]) [1, 2, 3, 4, 5, 6, 7] rfl (by decide)), fun w146 e148 => ?_⟩
      have H147 := H144.ext e148
      exact tt_leaf ⟨A51, c52, rfl, H147⟩ ⟨rfl, rfl, rfl, trivial⟩ (by repeat (first | exact kp_refl | refine kp_app rfl rfl ?_ | refine kp_cons rfl ?_))
     refine tt_op rfl (Yd.op (y_ext rfl rfl rfl)) rfl rfl ?_
     rintro _ _ ⟨rfl, rfl⟩
     refine ⟨(H126.pick (m := [_, _, _, _, _, _, _]) [1, 2, 3, 4, 5, 6, 7] rfl (by decide)), fun w149 e151 => ?_⟩
     have H150 := H126.ext e151
     refine tt_op rfl (Yd.op (y_ext rfl rfl rfl)) rfl rfl ?_
     rintro _ _ ⟨rfl, rfl⟩
     refine ⟨(H150.pick (m := [_, _, _, _, _, _, _]) [1, 2, 3, 4, 5, 6, 7] rfl (by decide)), fun w152 e154 => ?_⟩
     have H153 := H150.ext e154
     refine tt_op rfl (Yd.op (y_asg rfl rfl)) rfl rfl ?_
     rintro _ _ ⟨rfl, rfl⟩
     refine ⟨(H153.pick (m := [_, _, _, _, _, _, _]) [1, 2, 3, 4, 5, 6, 7] rfl (by decide)), fun w155 e157 => ?_⟩
     have H156 := H153.ext e157
     refine tt_op rfl (Yd.op (y_asg rfl rfl)) rfl rfl ?_
     rintro _ _ ⟨rfl, rfl⟩
     refine ⟨(H156.pick (m := [_, _, _, _, _, _, _]) [1, 2, 3, 4, 5, 6, 7] rfl (by decide)), fun w158 e160 => ?_⟩
     have H159 := H156.ext e160
     exact tt_leaf ⟨A51, c52, rfl, H159⟩ ⟨rfl, rfl, rfl, trivial⟩ (by repeat (first | exact kp_refl | refine kp_app rfl rfl ?_ | refine kp_cons rfl ?_))
    refine tt_alt ?_ ?_
    ·skip
     refine tt_op rfl (Yd.op (y_ext rfl rfl rfl)) rfl rfl ?_
     rintro _ _ ⟨rfl, rfl⟩
     refine ⟨(H57.pick (m := [_, _, _, _, _, _, _]) [1, 2, 3, 4, 5, 6, 7] rfl (by decide)), fun w161 e163 => ?_⟩
     have H162 := H57.ext e163
     refine tt_alt ?_ ?_
     ·skip
      refine tt_op rfl (Yd.op (y_ext rfl rfl rfl)) rfl rfl ?_
      rintro _ _ ⟨rfl, rfl⟩
      refine ⟨(H162.pick (m := [_, _, _, _, _, _, _]) [1, 2, 3, 4, 5, 6, 7] rfl (by decide)), fun w164 e166 => ?_⟩
      have H165 := H162.ext e166
      refine tt_alt ?_ ?_
      ·skip
       refine tt_op rfl (Yd.op (y_ext rfl rfl rfl)) rfl rfl ?_
       rintro _ _ ⟨rfl, rfl⟩
       refine ⟨(H165.pick (m := [_, _, _, _, _, _, _]) [1, 2, 3, 4, 5, 6, 7] rfl (by decide)), fun w167 e169 => ?_⟩
       have H168 := H165.ext e169
       refine tt_op rfl (Yd.op (y_asg rfl rfl)) rfl rfl ?_
       rintro _ _ ⟨rfl, rfl⟩
       refine ⟨(H168.pick (m := [_, _, _, _, _, _, _]) [1, 2, 3, 4, 5, 6, 7] rfl (by decide)), fun w170 e172 => ?_⟩
       have H171 := H168.ext e172
       refine tt_op rfl (Yd.op (y_asg rfl rfl)) rfl rfl ?_
       rintro _ _ ⟨rfl, rfl⟩
       refine ⟨(H171.pick (m := [_, _, _, _, _, _, _]) [1, 2, 3, 4, 5, 6, 7] rfl (by decide)), fun w173 e175 => ?_⟩
       have H174 := H171.ext e175
       refine tt_op rfl (Yd.op (y_asg rfl rfl)) rfl rfl ?_
       rintro _ _ ⟨rfl, rfl⟩
       refine ⟨(H174.pick (m := [_, _, _, _, _, _, _]) [1, 2, 3, 4, 5, 6, 7] rfl (by decide)), fun w176 e178 => ?_⟩
       have H177 := H174.ext e178
       exact tt_leaf ⟨A51, c52, rfl, H177⟩ ⟨rfl, rfl, rfl, trivial⟩ (by repeat (first | exact kp_refl | refine kp_app rfl rfl ?_ | refine kp_cons rfl ?_))
      refine tt_op rfl (Yd.op (y_asg rfl rfl)) rfl rfl ?_
      rintro _ _ ⟨rfl, rfl⟩
      refine ⟨(H165.pick (m := [_, _, _, _, _, _, _]) [1, 2, 3, 4, 5, 6, 7] rfl (by decide)), fun w179 e181 => ?_⟩
      have H180 := H165.ext e181
      refine tt_alt ?_ ?_
      ·skip
       refine tt_op rfl (Yd.op (y_ext rfl rfl rfl)) rfl rfl ?_
       rintro _ _ ⟨rfl, rfl⟩
       refine ⟨(H180.pick (m := [_, _, _, _, _, _, _]) [1, 2, 3, 4, 5, 6, 7] rfl (by decide)), fun w182 e184 => ?_⟩
       have H183 := H180.ext e184
       refine tt_op rfl (Yd.op (y_asg rfl rfl)) rfl rfl ?_
       rintro _ _ ⟨rfl, rfl⟩
       refine ⟨(H183.pick (m := [_, _, _, _, _, _, _]) [1, 2, 3, 4, 5, 6, 7] rfl (by decide)), fun w185 e187 => ?_⟩
       have H186 := H183.ext e187
       refine tt_op rfl (Yd.op (y_asg rfl rfl)) rfl rfl ?_
       rintro _ _ ⟨rfl, rfl⟩
       refine ⟨(H186.pick (m := [_, _, _, _, _, _, _]) [1, 2, 3, 4, 5, 6, 7] rfl (by decide)), fun w188 e190 => ?_⟩
       have H189 := H186.ext e190
       exact tt_leaf ⟨A51, c52, rfl, H189⟩ ⟨rfl, rfl, rfl, trivial⟩ (by repeat (first | exact kp_refl | refine kp_app rfl rfl ?_ | refine kp_cons rfl ?_))
      refine tt_op rfl (Yd.op (y_asg rfl rfl)) rfl rfl ?_
      rintro _ _ ⟨rfl, rfl⟩
      refine ⟨(H180.pick (m := [_, _, _, _, _, _, _]) [1, 2, 3, 4, 5, 6, 7] rfl (by decide)), fun w191 e193 => ?_⟩
      have H192 := H180.ext e193
      refine tt_op rfl (Yd.op (y_ext rfl rfl rfl)) rfl rfl ?_
      rintro _ _ ⟨rfl, rfl⟩
      refine ⟨(H192.pick (m := [_, _, _, _, _, _, _]) [1, 2, 3, 4, 5, 6, 7] rfl (by decide)), fun w194 e196 => ?_⟩
      have H195 := H192.ext e196
      refine tt_op rfl (Yd.op (y_asg rfl rfl)) rfl rfl ?_
      rintro _ _ ⟨rfl, rfl⟩
      refine ⟨(H195.pick (m := [_, _, _, _, _, _, _]) [1, 2, 3, 4, 5, 6, 7] rfl (by decide)), fun w197 e199 => ?_⟩
      have H198 := H195.ext e199
      exact tt_leaf ⟨A51, c52, rfl, H198⟩ ⟨rfl, rfl, rfl, trivial⟩ (by repeat (first | exact kp_refl | refine kp_app rfl rfl ?_ | refine kp_cons rfl ?_))
     refine tt_op rfl (Yd.op (y_ext rfl rfl rfl)) rfl rfl ?_
     rintro _ _ ⟨rfl, rfl⟩
     refine ⟨(H162.pick (m := [_, _, _, _, _, _, _]) [1, 2, 3, 4, 5, 6, 7] rfl (by decide)), fun w200 e202 => ?_⟩
     have H201 := H162.ext e202
     refine tt_op rfl (Yd.op (y_ext rfl rfl rfl)) rfl rfl ?_
     rintro _ _ ⟨rfl, rfl⟩
     refine ⟨(H201.pick (m := [_, _, _, _, _, _, _]) [1, 2, 3, 4, 5, 6, 7] rfl (by decide)), fun w203 e205 => ?_⟩
     have H204 := H201.ext e205
     refine tt_op rfl (Yd.op (y_asg rfl rfl)) rfl rfl ?_
     rintro _ _ ⟨rfl, rfl⟩
     refine ⟨(H204.pick (m := [_, _, _, _, _, _, _]) [1, 2, 3, 4, 5, 6, 7] rfl (by decide)), fun w206 e208 => ?_⟩
     have H207 := H204.ext e208
     refine tt_op rfl (Yd.op (y_asg rfl rfl)) rfl rfl ?_
     rintro _ _ ⟨rfl, rfl⟩
     refine ⟨(H207.pick (m := [_, _, _, _, _, _, _]) [1, 2, 3, 4, 5, 6, 7] rfl (by decide)), fun w209 e211 => ?_⟩
     have H210 := H207.ext e211
     refine tt_op rfl (Yd.op (y_asg rfl rfl)) rfl rfl ?_
     rintro _ _ ⟨rfl, rfl⟩
     refine ⟨(H210.pick (m := [_, _, _, _, _, _, _]) [1, 2, 3, 4, 5, 6, 7] rfl (by decide)), fun w212 e214 => ?_⟩
     have H213 := H210.ext e214
     exact tt_leaf ⟨A51, c52, rfl, H213⟩ ⟨rfl, rfl, rfl, trivial⟩ (by repeat (first | exact kp_refl | refine kp_app rfl rfl ?_ | refine kp_cons rfl ?_))
    refine tt_op rfl (Yd.op (y_ext rfl rfl rfl)) rfl rfl ?_
    rintro _ _ ⟨rfl, rfl⟩
    refine ⟨(H57.pick (m := [_, _, _, _, _, _, _]) [1, 2, 3, 4, 5, 6, 7] rfl (by decide)), fun w215 e217 => ?_⟩
    have H216 := H57.ext e217
    refine tt_alt ?_ ?_
    ·skip
     refine tt_op rfl (Yd.op (y_ext rfl rfl rfl)) rfl rfl ?_
     rintro _ _ ⟨rfl, rfl⟩
     refine ⟨(H216.pick (m := [_, _, _, _, _, _, _]) [1, 2, 3, 4, 5, 6, 7] rfl (by decide)), fun w218 e220 => ?_⟩
     have H219 := H216.ext e220
     refine tt_alt ?_ ?_
     ·skip
      refine tt_op rfl (Yd.op (y_ext rfl rfl rfl)) rfl rfl ?_
      rintro _ _ ⟨rfl, rfl⟩
      refine ⟨(H219.pick (m := [_, _, _, _, _, _, _]) [1, 2, 3, 4, 5, 6, 7] rfl (by decide)), fun w221 e223 => ?_⟩
      have H222 := H219.ext e223
      refine tt_op rfl (Yd.op (y_asg rfl rfl)) rfl rfl ?_
      rintro _ _ ⟨rfl, rfl⟩
      refine ⟨(H222.pick (m := [_, _, _, _, _, _, _]) [1, 2, 3, 4, 5, 6, 7] rfl (by decide)), fun w224 e226 => ?_⟩
      have H225 := H222.ext e226
      refine tt_op rfl (Yd.op (y_asg rfl rfl)) rfl rfl ?_
      rintro _ _ ⟨rfl, rfl⟩
      refine ⟨(H225.pick (m := [_, _, _, _, _, _, _]) [1, 2, 3, 4, 5, 6, 7] rfl (by decide)), fun w227 e229 => ?_⟩
      have H228 := H225.ext e229
      refine tt_op rfl (Yd.op (y_asg rfl rfl)) rfl rfl ?_
      rintro _ _ ⟨rfl, rfl⟩
      refine ⟨(H228.pick (m := [_, _, _, _, _, _, _]) [1, 2, 3, 4, 5, 6, 7] rfl (by decide)), fun w230 e232 => ?_⟩
      have H231 := H228.ext e232
      exact tt_leaf ⟨A51, c52, rfl, H231⟩ ⟨rfl, rfl, rfl, trivial⟩ (by repeat (first | exact kp_refl | refine kp_app rfl rfl ?_ | refine kp_cons rfl ?_))
     refine tt_op rfl (Yd.op (y_asg rfl rfl)) rfl rfl ?_
     rintro _ _ ⟨rfl, rfl⟩
     refine ⟨(H219.pick (m := [_, _, _, _, _, _, _]) [1, 2, 3, 4, 5, 6, 7] rfl (by decide)), fun w233 e235 => ?_⟩
     have H234 := H219.ext e235
     refine tt_op rfl (Yd.op (y_ext rfl rfl rfl)) rfl rfl ?_
     rintro _ _ ⟨rfl, rfl⟩
     refine ⟨(H234.pick (m := [_, _, _, _, _, _, _]) [1, 2, 3, 4, 5, 6, 7] rfl (by decide)), fun w236 e238 => ?_⟩
     have H237 := H234.ext e238
     refine tt_op rfl (Yd.op (y_asg rfl rfl)) rfl rfl ?_
     rintro _ _ ⟨rfl, rfl⟩
     refine ⟨(H237.pick (m := [_, _, _, _, _, _, _]) [1, 2, 3, 4, 5, 6, 7] rfl (by decide)), fun w239 e241 => ?_⟩
     have H240 := H237.ext e241
     refine tt_op rfl (Yd.op (y_asg rfl rfl)) rfl rfl ?_
     rintro _ _ ⟨rfl, rfl⟩
     refine ⟨(H240.pick (m := [_, _, _, _, _, _, _]) [1, 2, 3, 4, 5, 6, 7] rfl (by decide)), fun w242 e244 => ?_⟩
     have H243 := H240.ext e244
     exact tt_leaf ⟨A51, c52, rfl, H243⟩ ⟨rfl, rfl, rfl, trivial⟩ (by repeat (first | exact kp_refl | refine kp_app rfl rfl ?_ | refine kp_cons rfl ?_))
    refine tt_op rfl (Yd.op (y_ext rfl rfl rfl)) rfl rfl ?_
    rintro _ _ ⟨rfl, rfl⟩
    refine ⟨(H216.pick (m := [_, _, _, _, _, _, _]) [1, 2, 3, 4, 5, 6, 7] rfl (by decide)), fun w245 e247 => ?_⟩
    have H246 := H216.ext e247
    refine tt_op rfl (Yd.op (y_ext rfl rfl rfl)) rfl rfl ?_
    rintro _ _ ⟨rfl, rfl⟩
    refine ⟨(H246.pick (m := [_, _, _, _, _, _, _]) [1, 2, 3, 4, 5, 6, 7] rfl (by decide)), fun w248 e250 => ?_⟩
    have H249 := H246.ext e250
    refine tt_op rfl (Yd.op (y_asg rfl rfl)) rfl rfl ?_
    rintro _ _ ⟨rfl, rfl⟩
    refine ⟨(H249.pick (m := [_, _, _, _, _, _, _]) [1, 2, 3, 4, 5, 6, 7] rfl (by decide)), fun w251 e253 => ?_⟩
    have H252 := H249.ext e253
    refine tt_op rfl (Yd.op (y_asg rfl rfl)) rfl rfl ?_
    rintro _ _ ⟨rfl, rfl⟩
    refine ⟨(H252.pick (m := [_, _, _, _, _, _, _]) [1, 2, 3, 4, 5, 6, 7] rfl (by decide)), fun w254 e256 => ?_⟩
    have H255 := H252.ext e256
    refine tt_op rfl (Yd.op (y_asg rfl rfl)) rfl rfl ?_
    rintro _ _ ⟨rfl, rfl⟩
    refine ⟨(H255.pick (m := [_, _, _, _, _, _, _]) [1, 2, 3, 4, 5, 6, 7] rfl (by decide)), fun w257 e259 => ?_⟩
    have H258 := H255.ext e259
    exact tt_leaf ⟨A51, c52, rfl, H258⟩ ⟨rfl, rfl, rfl, trivial⟩ (by repeat (first | exact kp_refl | refine kp_app rfl rfl ?_ | refine kp_cons rfl ?_))
   ·skip
    rintro M w261 ⟨A8, c8, rfl, H260⟩
    refine fn_next ?_
    refine cw_seq ?_
    refine cw_seq ?_
    refine cw_reg ?_
    refine ry (y_mov rfl rfl) rfl rfl ?_
    refine ry (y_neq rfl rfl rfl) rfl rfl ?_
    refine reg_nil ?_
    refine fn_next ?_
    refine cw_condd rfl (fun hcd => ?_) (fun hcd => ?_)
    ·skip
     refine cw_seq ?_
     refine cw_reg ?_
     refine ry (y_ldb (i := 5) (cs := [_, _, _]) H260 rfl rfl kffile3_4 rfl rfl) rfl rfl ?_
     refine reg_op (op_st (i := 4) (vs := [.int _ _, .int _ _, .slice _ _ _]) H260 rfl rfl rfl rfl rfl kffile3_2 rfl rfl rfl) rfl rfl ?_
     rintro _ w263 H264
     refine ry (y_asg rfl rfl) rfl rfl ?_
     refine ry (y_asg rfl rfl) rfl rfl ?_
     refine reg_nil ?_
     refine fn_next ?_
     refine cw_ret ?_
     refine fn_then_ret (fn_block_ret (fn_then_ret (fn_then_ret (fn_block_ret (fn_then_ret ?_)))))
     refine fn_retn (vs := [_, _, _]) rfl ⟨⟨_, rfl, load_agg (cs := [_, _, _]) kffile3_4 rfl fun j v hv => by rw [Nat.zero_add]; exact H264.cell (i := 4) rfl hv⟩, rfl, rfl, trivial⟩ rfl ?_
     exact .inr ⟨fun hf => hcd (fileP_all D hf hi), rfl, H264.base⟩
    ·skip
     have hcode := Classical.not_not.1 hcd
     have T := tg_ok D hBt hi hcode
     refine cw_skip ?_
     refine fn_next ?_
     refine cw_seq ?_
     refine cw_drawT H260 [1, 2, 3, 4, 5] (.step 0 (.step 6 (.step 7 (.alt (.step 8 (.alt (.step 9 (.step 10 (.leaf))) (.step 10 (.step 9 (.leaf))))) (.step 9 (.step 8 (.step 10 (.leaf)))))))) (fun X HX => (HX.pick (m := [_, _, _, _, _, _]) [0, 1, 4, 5, 6, 7] rfl (by decide))) (by kernel_rfl) (by kernel_rfl) (by rfl) ?_
     simp only [pick, List.getElem?_cons_succ, List.getElem?_cons_zero]
     refine hk_y (fun Y HY => y_mov rfl rfl) rfl rfl ?_
     refine hk_y (fun Y HY => y_mov rfl rfl) rfl rfl ?_
     refine hk_y (fun Y HY => y_iar (i := i) (HY.rd (i := 4) rfl) rfl rfl rfl kffile3_13 (rfl) (by omega) (rfl) (htp 0 _ rfl)) rfl rfl ?_
     refine hk_y (fun Y HY => y_ldra (cs := [_, _, _, _]) (HY.rd (i := 4) rfl) rfl rfl kffile3_14 rfl (by decide) (htp)) rfl rfl ?_
     refine hk_y (fun Y HY => y_mov rfl rfl) rfl rfl ?_
     refine hkt_nil [108, 109, 115, 116, 117] (fun M wl => ∃ (A9 : Option Addr) (c9 : Nat), M = [] ∧ HS w wl [Ob.row A1 i c1 (vi .i64 (kZ (bs.take (n - 4)) i)) 3 1, Ob.row A9 (a * h) c9 (vi .i64 (vZ (bs.take (n - 4)) (i + 1))) 2 1, Ob.blk b22 [.int .i64 (a : Int), .int .i64 (h : Int), .slice A9 (a * h) c9] 26, Ob.blk b1 [.int .i64 0, .int .i64 0, .slice none 0 0] 26, Ob.blk b4 [.int .i64 0, .int .i64 0, .slice none 0 0] 26, Ob.row A30 N c31 (rcells (tilesZ (bs.take (n - 4)))) 54 4, Ob.row A15 N c16 (vi .i64 (entF (baseOf (bs.take (n - 4))) (lensZ (bs.take (n - 4))))) 50 2]) (fun wX HX => ?_) ?_
     ·skip
      refine tt_op rfl (Yd.op (y_ldb (i := 3) (cs := [_, _, _]) HX rfl rfl kffile3_4 rfl rfl)) rfl rfl ?_
      rintro _ _ ⟨rfl, rfl⟩
      refine ⟨(HX.pick (m := [_, _, _, _, _, _]) [0, 1, 4, 5, 6, 7] rfl (by decide)), fun w265 e267 => ?_⟩
      have H266 := HX.ext e267
      refine tt_op rfl (op_call (mPasteZ w _ a h N (bs.take (n - 4)) D i T _ _ _ _ _ (fun X hX => hX.rd (i := 0) rfl) (H266.pick (m := [_, _, _, _, _, _, _, _]) [2, 0, 1, 3, 4, 5, 6, 7] rfl (by decide))) rfl kffile3_18 ⟨rfl, rfl, rfl, trivial⟩) rfl rfl ?_
      rintro _ w269 ⟨A270, c271, rfl, H268⟩
      refine ⟨(H268.pick (m := [_, _, _, _, _, _]) [1, 2, 4, 5, 6, 7] rfl (by decide)), fun w272 e274 => ?_⟩
      have H273 := H268.ext e274
      refine tt_op rfl (Yd.op (y_mov rfl rfl)) rfl rfl ?_
      rintro _ _ ⟨rfl, rfl⟩
      refine ⟨(H273.pick (m := [_, _, _, _, _, _]) [1, 2, 4, 5, 6, 7] rfl (by decide)), fun w275 e277 => ?_⟩
      have H276 := H273.ext e277
      refine tt_alt ?_ ?_
      ·skip
       refine tt_op rfl (Yd.op (y_ext rfl rfl rfl)) rfl rfl ?_
       rintro _ _ ⟨rfl, rfl⟩
       refine ⟨(H276.pick (m := [_, _, _, _, _, _]) [1, 2, 4, 5, 6, 7] rfl (by decide)), fun w278 e280 => ?_⟩
       have H279 := H276.ext e280
       refine tt_alt ?_ ?_
       ·skip
        refine tt_op rfl (Yd.op (y_ext rfl rfl rfl)) rfl rfl ?_
        rintro _ _ ⟨rfl, rfl⟩
        refine ⟨(H279.pick (m := [_, _, _, _, _, _]) [1, 2, 4, 5, 6, 7] rfl (by decide)), fun w281 e283 => ?_⟩
        have H282 := H279.ext e283
        refine tt_op rfl (op_st (i := 3) (vs := [.int _ _, .int _ _, .slice _ _ _]) H282 rfl rfl rfl rfl rfl kffile3_2 rfl rfl rfl) rfl rfl ?_
        rintro _ w284 H285
        refine ⟨(H285.pick (m := [_, _, _, _, _, _]) [1, 2, 4, 5, 6, 7] rfl (by decide)), fun w286 e288 => ?_⟩
        have H287 := H285.ext e288
        exact tt_leaf ⟨A270, c271, rfl, (H287.pick (m := [_, _, _, _, _, _, _]) [2, 0, 3, 4, 5, 6, 7] rfl (by decide))⟩ trivial (by repeat (first | exact kp_refl | refine kp_app rfl rfl ?_ | refine kp_cons rfl ?_))
       refine tt_op rfl (op_st (i := 3) (vs := [.int _ _, .int _ _, .slice _ _ _]) H279 rfl rfl rfl rfl rfl kffile3_2 rfl rfl rfl) rfl rfl ?_
       rintro _ w289 H290
       refine ⟨(H290.pick (m := [_, _, _, _, _, _]) [1, 2, 4, 5, 6, 7] rfl (by decide)), fun w291 e293 => ?_⟩
       have H292 := H290.ext e293
       refine tt_op rfl (Yd.op (y_ext rfl rfl rfl)) rfl rfl ?_
       rintro _ _ ⟨rfl, rfl⟩
       refine ⟨(H292.pick (m := [_, _, _, _, _, _]) [1, 2, 4, 5, 6, 7] rfl (by decide)), fun w294 e296 => ?_⟩
       have H295 := H292.ext e296
       exact tt_leaf ⟨A270, c271, rfl, (H295.pick (m := [_, _, _, _, _, _, _]) [2, 0, 3, 4, 5, 6, 7] rfl (by decide))⟩ trivial (by repeat (first | exact kp_refl | refine kp_app rfl rfl ?_ | refine kp_cons rfl ?_))
      refine tt_op rfl (Yd.op (y_ext rfl rfl rfl)) rfl rfl ?_
      rintro _ _ ⟨rfl, rfl⟩
      refine ⟨(H276.pick (m := [_, _, _, _, _, _]) [1, 2, 4, 5, 6, 7] rfl (by decide)), fun w297 e299 => ?_⟩
      have H298 := H276.ext e299
      refine tt_op rfl (Yd.op (y_ext rfl rfl rfl)) rfl rfl ?_
      rintro _ _ ⟨rfl, rfl⟩
      refine ⟨(H298.pick (m := [_, _, _, _, _, _]) [1, 2, 4, 5, 6, 7] rfl (by decide)), fun w300 e302 => ?_⟩
      have H301 := H298.ext e302
      refine tt_op rfl (op_st (i := 3) (vs := [.int _ _, .int _ _, .slice _ _ _]) H301 rfl rfl rfl rfl rfl kffile3_2 rfl rfl rfl) rfl rfl ?_
      rintro _ w303 H304
      refine ⟨(H304.pick (m := [_, _, _, _, _, _]) [1, 2, 4, 5, 6, 7] rfl (by decide)), fun w305 e307 => ?_⟩
      have H306 := H304.ext e307
      exact tt_leaf ⟨A270, c271, rfl, (H306.pick (m := [_, _, _, _, _, _, _]) [2, 0, 3, 4, 5, 6, 7] rfl (by decide))⟩ trivial (by repeat (first | exact kp_refl | refine kp_app rfl rfl ?_ | refine kp_cons rfl ?_))
     ·skip
      rintro M w309 ⟨A9, c9, rfl, H308⟩
      refine fn_next ?_
      refine cw_seq ?_
      refine cw_reg ?_
      refine ry (y_mov rfl rfl) rfl rfl ?_
      refine ry (y_mov rfl rfl) rfl rfl ?_
      refine reg_op (op_lit (parts := [(0, _)]) (vs := [(0, _)]) (cs := [.int _ _]) H308 rfl Tryz.underlying27 kffile3_8 rfl ⟨rfl, trivial⟩ rfl rfl) rfl rfl ?_
      rintro _ w311 ⟨b310, rfl, H312⟩
      have H313 := H312.asrow (m := 1) (size := 1) rfl (by decide)
      refine reg_op (op_app (i := 1) H313 rfl rfl rfl rfl (H313.rd (i := 0) rfl) (rfl) (rfl) Tryz.underlying27 kffile3_19 rfl rfl (by unfold maxLen; omega) (by omega)) rfl rfl ?_
      rintro _ w316 ⟨A314, c315, rfl, H317⟩
      refine ry (y_asg rfl rfl) rfl rfl ?_
      refine reg_nil ?_
      refine fn_next ?_
      refine cw_draw H317 [0, 1, 2, 3, 4, 5, 6, 7, 8, 9, 10, 11] [] (fun X HX => HX) (by kernel_rfl) (by kernel_rfl) (by rfl) ?_
      simp only [pick, List.getElem?_cons_succ, List.getElem?_cons_zero]
      refine hk_y (fun Y HY => y_mov rfl rfl) rfl rfl ?_
      refine hk_y (fun Y HY => y_mov rfl rfl) rfl rfl ?_
      refine hk_y (fun Y HY => y_iar (i := i) (HY.rd (i := 7) rfl) rfl rfl rfl kffile3_9 (rfl) (by omega) (rfl) (hen2 0 _ rfl)) rfl rfl ?_
      refine hk_y (fun Y HY => y_far (HY.rd (i := 7) rfl) rfl rfl kffile3_10 rfl (hen2 0 _ rfl)) rfl rfl ?_
      refine hk_y (fun Y HY => y_ldr (HY.rd (i := 7) rfl) rfl rfl kffile3_11 (hen2 0 _ rfl)) rfl rfl ?_
      refine hk_y (fun Y HY => y_mov rfl rfl) rfl rfl ?_
      refine hk_y (fun Y HY => y_mov rfl rfl) rfl rfl ?_
      refine hk_y (fun Y HY => y_iar (i := i) (HY.rd (i := 7) rfl) rfl rfl rfl kffile3_9 (rfl) (by omega) (rfl) (hen2 0 _ rfl)) rfl rfl ?_
      refine hk_y (fun Y HY => y_far (HY.rd (i := 7) rfl) rfl rfl kffile3_12 rfl (hen2 0 _ rfl)) rfl rfl ?_
      refine hk_y (fun Y HY => y_ldr (HY.rd (i := 7) rfl) rfl rfl kffile3_11 (hen2 1 _ rfl)) rfl rfl ?_
      refine hk_y (fun Y HY => y_add rfl rfl rfl (show _ = ((offZ (bs.take (n - 4)) (i + 1) : Nat) : Int) from (wi (by omega)).trans (by omega))) rfl rfl ?_
      refine hk_y (fun Y HY => y_asg rfl rfl) rfl rfl ?_
      refine hk_nil ?_
      intro w318 H319
      refine tv_nil ?_
      refine fn_block ?_
      refine fn_next ?_
      refine cw_reg ?_
      refine ry (y_mov rfl rfl) rfl rfl ?_
      refine ry (y_add rfl rfl rfl (wi (by omega))) rfl rfl ?_
      refine ry (y_asg rfl rfl) rfl rfl ?_
      refine reg_nil ?_
      rw [vi_snoc, ← kZ_succ] at H319
      refine fn_roundJ ⟨i + 1, _, _, _, _, rfl, (H319.pick (m := [_, _, _, _, _, _, _]) [1, 2, 3, 4, 5, 6, 7] rfl (by decide)), by omega, fun j hj => by rcases Nat.lt_succ_iff_lt_or_eq.1 hj with q | rfl; exact hall j q; exact hcode, rfl⟩ ⟨rfl, rfl, rfl, trivial⟩ (by omega) (by repeat (first | exact kp_refl | refine kp_app rfl rfl ?_ | refine kp_cons rfl ?_)) rfl
 ·skip
  obtain rfl : i = N := by omega
  have hez := eZ_pos (Z := (bs.take (n - 4))) hN1
  refine cw_exit ?_
  refine fn_then_exit (fn_then_exit (fn_block_exit ?_))
  refine fn_next ?_
  refine cw_seq ?_
  refine cw_seq ?_
  refine cw_reg ?_
  refine ry (y_mov rfl rfl) rfl rfl ?_
  refine ry (y_mov rfl rfl) rfl rfl ?_
  refine ry (y_len rfl Tryz.underlying22 rfl) rfl rfl ?_
  refine ry (y_neq rfl rfl rfl) rfl rfl ?_
  refine reg_nil ?_
  refine fn_next ?_
  refine cw_condd rfl (fun hend => ?_) (fun hend => ?_)
  ·skip
   refine cw_seq ?_
   refine cw_reg ?_
   refine ry (y_ldb (i := 4) (cs := [_, _, _]) H37 rfl rfl kffile3_4 rfl rfl) rfl rfl ?_
   refine reg_op (op_st (i := 3) (vs := [.int _ _, .int _ _, .slice _ _ _]) H37 rfl rfl rfl rfl rfl kffile3_2 rfl rfl rfl) rfl rfl ?_
   rintro _ w321 H322
   refine ry (y_asg rfl rfl) rfl rfl ?_
   refine ry (y_asg rfl rfl) rfl rfl ?_
   refine reg_nil ?_
   refine fn_next ?_
   refine cw_ret ?_
   refine fn_then_ret ?_
   refine fn_retn (vs := [_, _, _]) rfl ⟨⟨_, rfl, load_agg (cs := [_, _, _]) kffile3_4 rfl fun j v hv => by rw [Nat.zero_add]; exact H322.cell (i := 3) rfl hv⟩, rfl, rfl, trivial⟩ rfl ?_
   exact .inr ⟨fun hf => hend (by have := fileP_end D hf; omega), rfl, H322.base⟩
  ·skip
   refine cw_skip ?_
   refine fn_next ?_
   refine cw_seq ?_
   refine cw_reg ?_
   refine ry (y_ldb (i := 2) (cs := [_, _, _]) H37 rfl rfl kffile3_4 rfl rfl) rfl rfl ?_
   refine ry (y_mov rfl rfl) rfl rfl ?_
   refine reg_op (op_st (i := 3) (vs := [.int _ _, .int _ _, .slice _ _ _]) H37 rfl rfl rfl rfl rfl kffile3_2 rfl rfl rfl) rfl rfl ?_
   rintro _ w323 H324
   refine ry (y_asg rfl rfl) rfl rfl ?_
   refine ry (y_asg rfl rfl) rfl rfl ?_
   refine reg_nil ?_
   refine fn_next ?_
   refine cw_ret ?_
   refine fn_retn (vs := [_, _, _]) rfl ⟨⟨_, rfl, load_agg (cs := [_, _, _]) kffile3_4 rfl fun j v hv => by rw [Nat.zero_add]; exact H324.cell (i := 3) rfl hv⟩, rfl, rfl, trivial⟩ rfl ?_
   exact .inl ⟨fileP_of D (by have := Classical.not_not.1 hend; omega) hall, _, _, _, _, rfl, (H324.pick (m := [_, _]) [1, 0] rfl (by decide))⟩

end Go.Proofs.YtbnjbgcadkdljaaGreatDoor
