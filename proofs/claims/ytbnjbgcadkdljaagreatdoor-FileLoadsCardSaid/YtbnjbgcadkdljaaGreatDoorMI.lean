/- Texts as one: Ref9, Ref9b. -/
import Derived.Test.YtbnjbgcadkdljaaGreatDoorGrid2
import Derived.Test.YtbnjbgcadkdljaaGreatDoorMG
set_option linter.unusedVariables false
set_option linter.unusedSimpArgs false
namespace Go.Proofs.YtbnjbgcadkdljaaGreatDoor
open Go Go.RowKit
theorem kfref9_1 : (Tryz.prog.info? 26).bind (fun i => i.zero.map Value.cells) = some (List.toArray [(.int .i64 0), (.int .i64 0), (.slice none 0 0)]) := by kernel_rfl
theorem kfref9_2 : szB Tryz.prog 26 3 = true := by kernel_rfl
theorem kfref9_3 : aggB Tryz.prog 26 3 = true := by kernel_rfl
theorem kfref9_4 : callB Tryz.prog 50 = true := by kernel_rfl
theorem kfref9_5 : fldB Tryz.prog 26 2 2 = true := by kernel_rfl
theorem kfref9_6 : oneB Tryz.prog 24 = true := by kernel_rfl
theorem kfref9_7 : (Tryz.prog.info? 2).map (fun i => (i.size, i.zero.map Value.cells)) = some (1, some (List.toArray [(.int .i64 0)])) := by kernel_rfl
theorem kfref9_8 : (Tryz.prog.info? 2).map (fun i => (i.zero.map (·.cells.toList), i.size, i.bytes)) = some (some [(.int .i64 0)], 1, 8) := by kernel_rfl
theorem kfref9_9 : szB Tryz.prog 24 1 = true := by kernel_rfl
theorem kfref9_10 : callB Tryz.prog 42 = true := by kernel_rfl
theorem kfref9_12 : oneB Tryz.prog 2 = true := by kernel_rfl
theorem kfref9_13 : fldB Tryz.prog 26 0 0 = true := by kernel_rfl
theorem kfref9_15 : fldB Tryz.prog 26 1 1 = true := by kernel_rfl
theorem kfref9_17 : (Tryz.prog.info? 54).bind (fun i => i.zero.map Value.cells) = some (List.toArray [(.int .i64 0), (.int .i64 0), (.int .i64 0), (.int .i64 0)]) := by kernel_rfl
theorem kfref9_18 : szB Tryz.prog 54 4 = true := by kernel_rfl
theorem kfref9_19 : aggB Tryz.prog 54 4 = true := by kernel_rfl
theorem kfref9_25 : callB Tryz.prog 44 = true := by kernel_rfl
theorem kfref9_26 : callB Tryz.prog 43 = true := by kernel_rfl
theorem SzG.mul {a h : Nat} (s : SzG a h) : 1 ≤ a * h ∧ a * h ≤ 1048576 := by
  obtain ⟨h1, h2, h3, h4⟩ := s
  exact ⟨Nat.mul_le_mul h1 h3, Nat.mul_le_mul h2 h4⟩
theorem within_natG {a h : Nat} {x0 y0 x1 y1 : Int} (s : SzG a h) (hw : withinC x0 y0 x1 y1 a h = 0) : ∃ p0 q0 p1 q1 : Nat, x0 = p0 ∧ y0 = q0 ∧ x1 = p1 ∧ y1 = q1 ∧ p0 ≤ p1 ∧ p1 < a ∧ q0 ≤ q1 ∧ q1 < h := by
  obtain ⟨h1, h2, h3, h4⟩ := s
  have := within_zero (by omega) (by omega) (by omega) (by omega) hw
  exact ⟨x0.toNat, y0.toNat, x1.toNat, y1.toNat, by omega, by omega, by omega, by omega, by omega, by omega, by omega, by omega⟩
theorem row_bdG {a h x y : Nat} (s : SzG a h) (hx : x < a) (hy : y < h) : (y : Int) * (a : Int) = ((y * a : Nat) : Int) ∧ y * a + x < a * h ∧ a * h ≤ 1048576 := ⟨by rw [Int.natCast_mul], cell_lt hx hy, s.mul.2⟩

set_option maxRecDepth 100000 in
theorem mNew_ok (a h : Nat) (v : Int) (w : World) (p : SzG a h) (hv : B32 v) :
    Ret Tryz.prog 42 [.int .i64 (a : Int), .int .i64 (h : Int), .int .i64 v, .int .i64 1024] w (fun z w' => ∃ A cap, z = .tuple #[.agg #[.int .i64 (a : Int), .int .i64 (h : Int), .slice A (a * h) cap], .int .i64 0] ∧ HS w w' [.row A (a * h) cap (vi .i64 (List.replicate (a * h) v)) 2 1]) := by
  have hm := p.mul
  obtain ⟨s1, s2, s3, s4⟩ := id p
  refine ret_enter Tryz.func42 rfl rfl rfl ?_
  have H0 := HS.start w
  refine cw_seq ?_
  refine cw_reg ?_
  refine reg_op (op_alloc H0 rfl kfref9_1) rfl rfl ?_
  rintro _ w2 ⟨b1, rfl, H3⟩
  refine ry (y_asg rfl rfl) rfl rfl ?_
  refine reg_nil ?_
  refine fn_next ?_
  refine cw_seq ?_
  refine cw_seq ?_
  refine cw_reg ?_
  refine ry (y_mov rfl rfl) rfl rfl ?_
  refine ry (y_lss rfl rfl rfl) rfl rfl ?_
  refine ry (y_mov rfl rfl) rfl rfl ?_
  refine rg_splitd (d := 14) rfl (fun h4 => ?_) (fun h4 => ?_)
  · exfalso; omega
  · skip
    refine rgy (y_mov rfl rfl) rfl rfl rfl rfl ?_
    refine rgy (y_mov rfl rfl) rfl rfl rfl rfl ?_
    refine rgy (y_gtr rfl rfl rfl) rfl rfl rfl rfl ?_
    refine ry (y_pick rfl rfl rfl) rfl rfl ?_
    refine ry (y_mov rfl rfl) rfl rfl ?_
    refine rg_splitd (d := 19) rfl (fun h5 => ?_) (fun h5 => ?_)
    · exfalso; omega
    · skip
      refine rgy (y_mov rfl rfl) rfl rfl rfl rfl ?_
      refine rgy (y_lss rfl rfl rfl) rfl rfl rfl rfl ?_
      refine ry (y_pick rfl rfl rfl) rfl rfl ?_
      refine ry (y_mov rfl rfl) rfl rfl ?_
      refine rg_splitd (d := 23) rfl (fun h6 => ?_) (fun h6 => ?_)
      · exfalso; omega
      · skip
        refine rgy (y_mov rfl rfl) rfl rfl rfl rfl ?_
        refine rgy (y_mov rfl rfl) rfl rfl rfl rfl ?_
        refine rgy (y_gtr rfl rfl rfl) rfl rfl rfl rfl ?_
        refine ry (y_pick rfl rfl rfl) rfl rfl ?_
        refine reg_nil ?_
        refine fn_next ?_
        refine cw_condd rfl (fun h7 => ?_) (fun h7 => ?_)
        · exfalso; omega
        · skip
          refine cw_skip ?_
          refine fn_next ?_
          refine cw_seq ?_
          refine cw_seq ?_
          refine cw_reg ?_
          refine ry (y_mov rfl rfl) rfl rfl ?_
          refine reg_op (op_call (refMay_any v _) rfl kfref9_4 ⟨rfl, trivial⟩) rfl rfl ?_
          rintro _ w9 ⟨rfl, e8⟩
          have H10 := H3.ext e8
          refine ry (y_notd rfl rfl) rfl rfl ?_
          refine reg_nil ?_
          refine fn_next ?_
          refine cw_condd rfl (fun h11 => ?_) (fun h11 => ?_)
          · exact absurd hv h11
          · skip
            refine cw_skip ?_
            refine fn_next ?_
            refine cw_seq ?_
            refine cw_reg ?_
            refine ry (y_mov rfl rfl) rfl rfl ?_
            refine ry (y_mov rfl rfl) rfl rfl ?_
            refine ry (y_build (places := [(0, 1), (1, 1), (2, 1)]) (parts := [(0, _), (1, _)]) (vs := [(0, _), (1, _)]) (cs := [.int _ _, .int _ _, .slice _ _ _]) rfl Tryz.underlying26 (by kernel_rfl) kfref9_1 rfl ⟨rfl, rfl, trivial⟩ rfl) rfl rfl ?_
            refine reg_op (op_alloc H10 rfl kfref9_1) rfl rfl ?_
            rintro _ w13 ⟨b12, rfl, H14⟩
            refine reg_op (op_st (i := 0) (vs := [.int _ _, .int _ _, .slice _ _ _]) H14 rfl rfl rfl rfl rfl kfref9_2 rfl rfl rfl) rfl rfl ?_
            rintro _ w15 H16
            refine reg_nil ?_
            refine fn_next ?_
            refine cw_seq ?_
            refine cw_seq ?_
            refine cw_reg ?_
            refine ry (y_asg rfl rfl) rfl rfl ?_
            refine reg_nil ?_
            refine fn_next ?_
            refine cw_block ?_
            have Hn := H16.nilrow 2 1
            refine cw_loopJ [11, 36, 37, 38, 39, 40, 41, 42, 43, 44, 45, 46, 47, 48] (fun M wl ml => ∃ (i : Nat) (A : Option Addr) (cap : Nat), M = [(11, .int .i64 (i : Int))] ∧ HS w wl [Ob.row A i cap (vi .i64 (List.replicate i v)) 2 1, Ob.blk b12 [.int .i64 (a : Int), .int .i64 (h : Int), .slice A i cap] 26, Ob.blk b1 [.int .i64 0, .int .i64 0, .slice none 0 0] 26] ∧ (i ≤ a * h) ∧ ml = a * h - i) ⟨0, _, _, rfl, Hn, Nat.zero_le _, rfl⟩ ⟨rfl, trivial⟩ ?_
            rintro M w17 m19 ⟨i, A, cap, rfl, H18, hp0, rfl⟩
            refine cw_seq ?_
            refine cw_seq ?_
            refine cw_reg ?_
            refine ry (y_mov rfl rfl) rfl rfl ?_
            refine ry (y_mov rfl rfl) rfl rfl ?_
            refine ry (y_mov rfl rfl) rfl rfl ?_
            refine ry (y_mul rfl rfl rfl (show _ = ((a * h : Nat) : Int) from by rw [← Int.natCast_mul]; exact wi (by omega))) rfl rfl ?_
            refine ry (y_lss rfl rfl rfl) rfl rfl ?_
            refine reg_nil ?_
            refine fn_next ?_
            refine cw_condd rfl (fun h20 => ?_) (fun h20 => ?_)
            · skip
              refine cw_skip ?_
              refine fn_next ?_
              refine cw_seq ?_
              refine cw_block ?_
              refine cw_reg ?_
              refine ry (y_fa rfl rfl kfref9_5 rfl) rfl rfl ?_
              refine ry (y_ld rfl rfl kfref9_6 (H18.cell (i := 1) rfl rfl)) rfl rfl ?_
              refine ry (y_mov rfl rfl) rfl rfl ?_
              refine reg_op (op_lit (parts := [(0, _)]) (vs := [(0, _)]) (cs := [.int _ _]) H18 rfl Tryz.underlying24 kfref9_7 rfl ⟨rfl, trivial⟩ rfl rfl) rfl rfl ?_
              rintro _ w22 ⟨b21, rfl, H23⟩
              have H24 := H23.asrow (m := 1) (size := 1) rfl (by decide)
              refine reg_op (op_app (i := 1) H24 rfl rfl rfl rfl (H24.rd (i := 0) rfl) (rfl) (rfl) Tryz.underlying24 kfref9_8 rfl rfl (by unfold maxLen; omega) (by omega)) rfl rfl ?_
              rintro _ w27 ⟨A25, c26, rfl, H28⟩
              refine ry (y_fa rfl rfl kfref9_5 rfl) rfl rfl ?_
              refine reg_op (op_st (i := 2) (vs := [.slice _ _ _]) H28 rfl rfl rfl rfl rfl kfref9_9 rfl rfl rfl) rfl rfl ?_
              rintro _ w29 H30
              refine reg_nil ?_
              refine fn_block ?_
              refine fn_next ?_
              refine cw_reg ?_
              refine ry (y_mov rfl rfl) rfl rfl ?_
              refine ry (y_add rfl rfl rfl (wi (by omega))) rfl rfl ?_
              refine ry (y_asg rfl rfl) rfl rfl ?_
              refine reg_nil ?_
              rw [rep_push] at H30
              refine fn_roundJ ⟨i + 1, _, _, rfl, (H30.pick (m := [_, _, _]) [1, 2, 3] rfl (by decide)), by omega, rfl⟩ ⟨rfl, trivial⟩ (by omega) (by repeat (first | exact kp_refl | refine kp_app rfl rfl ?_ | refine kp_cons rfl ?_)) rfl
            · skip
              have hie : i = a * h := by omega
              subst hie
              refine cw_exit ?_
              refine fn_then_exit (fn_then_exit (fn_block_exit ?_))
              refine fn_next ?_
              refine cw_seq ?_
              refine cw_reg ?_
              refine ry (y_ldb (i := 1) (cs := [_, _, _]) H18 rfl rfl kfref9_3 rfl rfl) rfl rfl ?_
              refine reg_op (op_st (i := 2) (vs := [.int _ _, .int _ _, .slice _ _ _]) H18 rfl rfl rfl rfl rfl kfref9_2 rfl rfl rfl) rfl rfl ?_
              rintro _ w31 H32
              refine ry (y_asg rfl rfl) rfl rfl ?_
              refine reg_nil ?_
              refine fn_next ?_
              refine cw_ret ?_
              refine fn_retn (vs := [_, _]) rfl ⟨⟨_, rfl, load_agg (cs := [_, _, _]) kfref9_3 rfl fun j v hv => by rw [Nat.zero_add]; exact H32.cell (i := 2) rfl hv⟩, rfl, trivial⟩ rfl ?_
              exact ⟨_, _, rfl, (H32.pick (m := [_]) [0] rfl (by decide))⟩

set_option maxRecDepth 100000 in
theorem rNew_ok (a h : Nat) (v : Int) (w : World) (p : SzG a h) (hv : B32 v) :
    Ret Tryz.prog 13 [.int .i64 (a : Int), .int .i64 (h : Int), .int .i64 v] w (fun z w' => ∃ A cap, z = .tuple #[.agg #[.int .i64 (a : Int), .int .i64 (h : Int), .slice A (a * h) cap], .int .i64 0] ∧ HS w w' [.row A (a * h) cap (vi .i64 (List.replicate (a * h) v)) 2 1]) := by
  refine ret_enter Tryz.func13 rfl rfl rfl ?_
  have H0 := HS.start w
  refine cw_seq ?_
  refine cw_reg ?_
  refine reg_op (op_alloc H0 rfl kfref9_1) rfl rfl ?_
  rintro _ w2 ⟨b1, rfl, H3⟩
  refine ry (y_asg rfl rfl) rfl rfl ?_
  refine reg_nil ?_
  refine fn_next ?_
  refine cw_seq ?_
  refine cw_reg ?_
  refine ry (y_mov rfl rfl) rfl rfl ?_
  refine ry (y_mov rfl rfl) rfl rfl ?_
  refine ry (y_mov rfl rfl) rfl rfl ?_
  refine reg_op (op_call (mNew_ok a h v _ p hv) rfl kfref9_10 ⟨rfl, rfl, rfl, rfl, trivial⟩) rfl rfl ?_
  rintro _ w5 ⟨A7, c8, rfl, k4⟩
  have H6 := H3.call k4
  refine ry (y_ext rfl rfl rfl) rfl rfl ?_
  refine ry (y_ext rfl rfl rfl) rfl rfl ?_
  refine reg_op (op_st (i := 1) (vs := [.int _ _, .int _ _, .slice _ _ _]) H6 rfl rfl rfl rfl rfl kfref9_2 rfl rfl rfl) rfl rfl ?_
  rintro _ w9 H10
  refine ry (y_asg rfl rfl) rfl rfl ?_
  refine reg_nil ?_
  refine fn_next ?_
  refine cw_ret ?_
  refine fn_retn (vs := [_, _]) rfl ⟨⟨_, rfl, load_agg (cs := [_, _, _]) kfref9_3 rfl fun j v hv => by rw [Nat.zero_add]; exact H10.cell (i := 1) rfl hv⟩, rfl, trivial⟩ rfl ?_
  exact ⟨_, _, rfl, (H10.pick (m := [_]) [0] rfl (by decide))⟩

set_option maxRecDepth 100000 in
theorem rAll (a h : Nat) (A : Option Addr) (cap : Nat) (w : World) (p : SzG a h) :
    Ret Tryz.prog 44 [.agg #[.int .i64 (a : Int), .int .i64 (h : Int), .slice A (a * h) cap]] w (fun v w' => v = .agg #[.int .i64 0, .int .i64 0, .int .i64 ((a : Int) - 1), .int .i64 ((h : Int) - 1)] ∧ Below w.heap.size w w') := by
  obtain ⟨s1, s2, s3, s4⟩ := p
  refine ret_enter Tryz.func44 rfl rfl rfl ?_
  have H0 := HS.start w
  refine cw_seq ?_
  refine cw_reg ?_
  refine reg_op (op_box (cs := [.int _ _, .int _ _, .slice _ _ _]) H0 rfl rfl rfl) rfl rfl ?_
  rintro _ w2 ⟨b1, rfl, H3⟩
  refine reg_op (op_alloc H3 rfl kfref9_17) rfl rfl ?_
  rintro _ w5 ⟨b4, rfl, H6⟩
  refine reg_nil ?_
  refine fn_next ?_
  refine cw_seq ?_
  refine cw_reg ?_
  refine ry (y_fa rfl rfl kfref9_13 rfl) rfl rfl ?_
  refine ry (y_ld rfl rfl kfref9_12 (H6.cell (i := 1) rfl rfl)) rfl rfl ?_
  refine ry (y_sub rfl rfl rfl (wi (by omega))) rfl rfl ?_
  refine ry (y_fa rfl rfl kfref9_15 rfl) rfl rfl ?_
  refine ry (y_ld rfl rfl kfref9_12 (H6.cell (i := 1) rfl rfl)) rfl rfl ?_
  refine ry (y_sub rfl rfl rfl (wi (by omega))) rfl rfl ?_
  refine ry (y_build (places := [(0, 1), (1, 1), (2, 1), (3, 1)]) (parts := [(2, _), (3, _)]) (vs := [(2, _), (3, _)]) (cs := [.int _ _, .int _ _, .int _ _, .int _ _]) rfl Tryz.underlying54 (by kernel_rfl) kfref9_17 rfl ⟨rfl, rfl, trivial⟩ rfl) rfl rfl ?_
  refine reg_op (op_st (i := 0) (vs := [.int _ _, .int _ _, .int _ _, .int _ _]) H6 rfl rfl rfl rfl rfl kfref9_18 rfl rfl rfl) rfl rfl ?_
  rintro _ w7 H8
  refine reg_nil ?_
  refine fn_next ?_
  refine cw_ret ?_
  refine fn_ret1 rfl (⟨_, rfl, load_agg (cs := [_, _, _, _]) kfref9_19 rfl fun j v hv => by rw [Nat.zero_add]; exact H8.cell (i := 0) rfl hv⟩) ?_
  exact ⟨rfl, H8.base⟩

set_option maxRecDepth 100000 in
theorem rTiles (a h : Nat) (A : Option Addr) (cap : Nat) (w : World) (p : SzG a h) :
    Ret Tryz.prog 14 [.agg #[.int .i64 (a : Int), .int .i64 (h : Int), .slice A (a * h) cap]] w (fun z w' => ∃ A cap, z = .slice A (piecesL ⟨0, 0, (a : Int) - 1, (h : Int) - 1⟩).length cap ∧ HS w w' [.row A (piecesL ⟨0, 0, (a : Int) - 1, (h : Int) - 1⟩).length cap (rcells (piecesL ⟨0, 0, (a : Int) - 1, (h : Int) - 1⟩)) 54 4]) := by
  refine ret_enter Tryz.func14 rfl rfl rfl ?_
  have H0 := HS.start w
  refine cw_seq ?_
  refine cw_reg ?_
  refine reg_op (op_box (cs := [.int _ _, .int _ _, .slice _ _ _]) H0 rfl rfl rfl) rfl rfl ?_
  rintro _ w2 ⟨b1, rfl, H3⟩
  refine ry (y_asg rfl rfl) rfl rfl ?_
  refine reg_nil ?_
  refine fn_next ?_
  refine cw_seq ?_
  refine cw_reg ?_
  refine ry (y_ldb (i := 0) (cs := [_, _, _]) H3 rfl rfl kfref9_3 rfl rfl) rfl rfl ?_
  refine reg_op (op_call (rAll a h _ _ _ p) rfl kfref9_25 ⟨rfl, trivial⟩) rfl rfl ?_
  rintro _ w5 ⟨rfl, e4⟩
  have H6 := H3.ext e4
  refine reg_op (op_call (refPieces_any 0 0 ((a : Int) - 1) ((h : Int) - 1) _) rfl kfref9_26 ⟨rfl, trivial⟩) rfl rfl ?_
  rintro _ w8 ⟨A10, c11, rfl, k7⟩
  have H9 := H6.call k7
  refine ry (y_asg rfl rfl) rfl rfl ?_
  refine reg_nil ?_
  refine fn_next ?_
  refine cw_ret ?_
  refine fn_ret1 rfl rfl ?_
  exact ⟨_, _, rfl, (H9.pick (m := [_]) [0] rfl (by decide))⟩

theorem cast_pred {a : Nat} (h : 1 ≤ a) : (a : Int) - 1 = ((a - 1 : Nat) : Int) := by omega
theorem tl_len {a h : Nat} (s : SzG a h) : (piecesL ⟨0, 0, (a : Int) - 1, (h : Int) - 1⟩).length = across h * across a := by
  rw [cast_pred s.1, cast_pred s.2.2.1]; exact pall_len s
end Go.Proofs.YtbnjbgcadkdljaaGreatDoor

namespace Go.Proofs.YtbnjbgcadkdljaaGreatDoor
open Go Go.RowKit
end Go.Proofs.YtbnjbgcadkdljaaGreatDoor
