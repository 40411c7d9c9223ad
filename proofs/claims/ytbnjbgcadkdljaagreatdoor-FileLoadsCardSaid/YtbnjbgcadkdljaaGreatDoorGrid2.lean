/- Layer 9: Set, Values, Tiles, Copy, Same. -/
import Derived.Test.YtbnjbgcadkdljaaGreatDoorGrid1
import Derived.Test.YtbnjbgcadkdljaaGreatDoorMC
set_option linter.unusedVariables false
set_option linter.unusedSimpArgs false
namespace Go.Proofs.YtbnjbgcadkdljaaGreatDoor
open Go Go.RowKit
theorem kfgrid2_4 : oneB Tryz.prog 2 = true := by kernel_rfl
theorem kfgrid2_8 : aggB Tryz.prog 54 4 = true := by kernel_rfl
theorem kfgrid2_9 : callB Tryz.prog 67 = true := by kernel_rfl
theorem kfgrid2_10 : callB Tryz.prog 62 = true := by kernel_rfl
theorem kfgrid2_11 : (Tryz.prog.info? 2).map (fun i => (i.zero.map (·.cells.toList), i.size, i.bytes)) = some (some [(.int .i64 0)], 1, 8) := by kernel_rfl
theorem kfgrid2_12 : fldB Tryz.prog 54 1 1 = true := by kernel_rfl
theorem kfgrid2_13 : fldB Tryz.prog 54 3 3 = true := by kernel_rfl
theorem kfgrid2_14 : fldB Tryz.prog 54 0 0 = true := by kernel_rfl
theorem kfgrid2_15 : fldB Tryz.prog 54 2 2 = true := by kernel_rfl
theorem kfgrid2_16 : callB Tryz.prog 68 = true := by kernel_rfl
theorem kfgrid2_17 : callB Tryz.prog 70 = true := by kernel_rfl
theorem kfgrid2_18 : callB Tryz.prog 69 = true := by kernel_rfl
theorem kfgrid2_19 : (Tryz.prog.info? 2).map (fun i => (i.size, i.zero.map Value.cells)) = some (1, some (List.toArray [(.int .i64 0)])) := by kernel_rfl
theorem kfgrid2_20 : callB Tryz.prog 26 = true := by kernel_rfl
theorem kfgrid2_21 : callB Tryz.prog 36 = true := by kernel_rfl
/-- the values of a rectangle -/
def gvalV (V : List Int) (a h : Nat) (x0 y0 x1 y1 : Int) : List Int := if withinC x0 y0 x1 y1 a h = 0 then rvAll V a x0.toNat y0.toNat (x1 - x0 + 1).toNat (y1 - y0 + 1).toNat else []
theorem gvalV_no {V : List Int} {a h : Nat} {x0 y0 x1 y1 : Int} (hw : ¬ withinC x0 y0 x1 y1 a h = 0) : gvalV V a h x0 y0 x1 y1 = [] := if_neg hw
theorem gvalV_ok {V : List Int} {a h : Nat} {p0 q0 p1 q1 : Nat} (hw : withinC p0 q0 p1 q1 a h = 0) (h1 : p0 ≤ p1) (h2 : q0 ≤ q1) : gvalV V a h p0 q0 p1 q1 = rvAll V a p0 q0 (p1 + 1 - p0) (q1 + 1 - q0) := by
  unfold gvalV
  rw [if_pos hw, show ((p1 : Int) - p0 + 1).toNat = p1 + 1 - p0 by omega, show ((q1 : Int) - q0 + 1).toNat = q1 + 1 - q0 by omega]; rfl
theorem areaI_nat {p0 q0 p1 q1 : Nat} (h1 : p0 ≤ p1) (h2 : p1 < 1024) (h3 : q0 ≤ q1) (h4 : q1 < 1024) : areaI p0 q0 p1 q1 = (((q1 + 1 - q0) * (p1 + 1 - p0) : Nat) : Int) := by
  unfold areaI
  rw [if_pos ⟨by omega, by omega, by omega, by omega, by omega, by omega⟩, show (p1 : Int) - p0 + 1 = ((p1 + 1 - p0 : Nat) : Int) by omega, show (q1 : Int) - q0 + 1 = ((q1 + 1 - q0 : Nat) : Int) by omega, ← Int.natCast_mul, Nat.mul_comm]
theorem slabAtG (a h : Nat) (xs : List Sb) (x y : Nat) (w : World) (G : GI a h xs) (hx : x < a) (hy : y < h) (hs : ∀ t, t < xs.length → Rd w (some ⟨(gs xs t).b, 0, none⟩) (gs xs t).cells ∧ (gs xs t).L.rd w) :
    Ret Tryz.prog 69 [pt (some ⟨(gs xs (tno a x y)).b, 0, none⟩) 0, .agg #[.int .i64 ((x % 16 : Nat) : Int), .int .i64 ((y % 16 : Nat) : Int)]] w (fun v w' => v = .tuple #[.int .i64 (nth (gV xs a h) (y * a + x)), .int .i64 0] ∧ Below w.heap.size w w') := by
  obtain ⟨ht, _, _⟩ := G.tile hx hy
  obtain ⟨z1, z2⟩ := at_tile G hx hy
  have := slabAt_any (gs xs (tno a x y)).b (gs xs (tno a x y)).w (gs xs (tno a x y)).h (gs xs (tno a x y)).L ((x % 16 : Nat) : Int) ((y % 16 : Nat) : Int) w (G.size ht) (G.ok _ ht) (hs _ ht).2 (hs _ ht).1
  rw [gV_at hx hy, ← z2]
  simp only [Sb.lst] at z1 ⊢
  rw [z1] at this
  exact this
theorem vi_snoc {k : IntKind} {zs : List Int} {v : Int} : vi k zs ++ [.int k v] = vi k (zs ++ [v]) := by simp [vi]

set_option maxRecDepth 100000 in
theorem gridValues_no (g a h : Nat) (A : Option Addr) (cap : Nat) (xs : List Sb) (x0 y0 x1 y1 : Int) (w : World) (G : GI a h xs) (R : GR w g a h A cap xs) (hw : ¬ withinC x0 y0 x1 y1 a h = 0) :
    Ret Tryz.prog 25 [pt (some ⟨g, 0, none⟩) 0, .agg #[.int .i64 x0, .int .i64 y0, .int .i64 x1, .int .i64 y1]] w (fun z w' => ∃ A cap, z = .tuple #[.slice A (gvalV (gV xs a h) a h x0 y0 x1 y1).length cap, .int .i64 (withinC x0 y0 x1 y1 a h)] ∧ HS w w' [.row A (gvalV (gV xs a h) a h x0 y0 x1 y1).length cap (vi .i64 (gvalV (gV xs a h) a h x0 y0 x1 y1)) 2 1]) := by
  have ha1 := G.a1; have ha2 := G.a2; have hh1 := G.h1; have hh2 := G.h2
  refine ret_enter Tryz.func25 rfl rfl rfl ?_
  have H0 := HS.start w
  refine cw_seq ?_
  refine cw_reg ?_
  refine reg_op (op_box (cs := [.int _ _, .int _ _, .int _ _, .int _ _]) H0 rfl rfl rfl) rfl rfl ?_
  rintro _ w2 ⟨b1, rfl, H3⟩
  refine ry (y_asg rfl rfl) rfl rfl ?_
  refine ry (y_asg rfl rfl) rfl rfl ?_
  refine reg_nil ?_
  refine fn_next ?_
  refine cw_seq ?_
  refine cw_seq ?_
  refine cw_reg ?_
  refine ry (y_mov rfl rfl) rfl rfl ?_
  refine ry (y_ldb (i := 0) (cs := [_, _, _, _]) H3 rfl rfl kfgrid2_8 rfl rfl) rfl rfl ?_
  refine reg_op (op_call (gridCheck_any g a h A cap xs x0 y0 x1 y1 _ G (R.below H3.base)) rfl kfgrid2_9 ⟨rfl, rfl, trivial⟩) rfl rfl ?_
  rintro _ w5 ⟨rfl, e4⟩
  have H6 := H3.ext e4
  refine ry (y_asg rfl rfl) rfl rfl ?_
  refine reg_nil ?_
  refine fn_next ?_
  refine cw_seq ?_
  refine cw_reg ?_
  refine ry (y_mov rfl rfl) rfl rfl ?_
  refine ry (y_neq rfl rfl rfl) rfl rfl ?_
  refine reg_nil ?_
  refine fn_next ?_
  refine cw_condd rfl (fun h7 => ?_) (fun h7 => ?_)
  · skip
    refine cw_seq ?_
    refine cw_reg ?_
    refine ry (y_mov rfl rfl) rfl rfl ?_
    refine ry (y_asg rfl rfl) rfl rfl ?_
    refine ry (y_asg rfl rfl) rfl rfl ?_
    refine reg_nil ?_
    refine fn_next ?_
    refine cw_ret ?_
    refine fn_then_ret ?_
    refine fn_retn (vs := [_, _]) rfl ⟨rfl, rfl, trivial⟩ rfl ?_
    rw [gvalV_no hw]
    exact ⟨none, 0, rfl, (HS.start _ |>.ext H6.base).nilrow _ _⟩
  · exact absurd (Classical.not_not.1 h7) hw

set_option maxRecDepth 100000 in
theorem gridValues_ok (g a h : Nat) (A : Option Addr) (cap : Nat) (xs : List Sb) (p0 q0 p1 q1 : Nat) (w : World) (G : GI a h xs) (R : GR w g a h A cap xs) (h1 : p0 ≤ p1) (h2 : p1 < a) (h3 : q0 ≤ q1) (h4 : q1 < h) (hw : withinC p0 q0 p1 q1 a h = 0) :
    Ret Tryz.prog 25 [pt (some ⟨g, 0, none⟩) 0, .agg #[.int .i64 (p0 : Int), .int .i64 (q0 : Int), .int .i64 (p1 : Int), .int .i64 (q1 : Int)]] w (fun z w' => ∃ A cap, z = .tuple #[.slice A (gvalV (gV xs a h) a h p0 q0 p1 q1).length cap, .int .i64 (withinC p0 q0 p1 q1 a h)] ∧ HS w w' [.row A (gvalV (gV xs a h) a h p0 q0 p1 q1).length cap (vi .i64 (gvalV (gV xs a h) a h p0 q0 p1 q1)) 2 1]) := by
  have ha1 := G.a1; have ha2 := G.a2; have hh1 := G.h1; have hh2 := G.h2
  have hnm : (q1 + 1 - q0) * (p1 + 1 - p0) ≤ 1024 * 1024 := Nat.mul_le_mul (by omega) (by omega)
  refine ret_enter Tryz.func25 rfl rfl rfl ?_
  have H0 := HS.start w
  refine cw_seq ?_
  refine cw_reg ?_
  refine reg_op (op_box (cs := [.int _ _, .int _ _, .int _ _, .int _ _]) H0 rfl rfl rfl) rfl rfl ?_
  rintro _ w2 ⟨b1, rfl, H3⟩
  refine ry (y_asg rfl rfl) rfl rfl ?_
  refine ry (y_asg rfl rfl) rfl rfl ?_
  refine reg_nil ?_
  refine fn_next ?_
  refine cw_seq ?_
  refine cw_seq ?_
  refine cw_reg ?_
  refine ry (y_mov rfl rfl) rfl rfl ?_
  refine ry (y_ldb (i := 0) (cs := [_, _, _, _]) H3 rfl rfl kfgrid2_8 rfl rfl) rfl rfl ?_
  refine reg_op (op_call (gridCheck_any g a h A cap xs p0 q0 p1 q1 _ G (R.below H3.base)) rfl kfgrid2_9 ⟨rfl, rfl, trivial⟩) rfl rfl ?_
  rintro _ w5 ⟨rfl, e4⟩
  have H6 := H3.ext e4
  refine ry (y_asg rfl rfl) rfl rfl ?_
  refine reg_nil ?_
  refine fn_next ?_
  refine cw_seq ?_
  refine cw_reg ?_
  refine ry (y_mov rfl rfl) rfl rfl ?_
  refine ry (y_neq rfl rfl rfl) rfl rfl ?_
  refine reg_nil ?_
  refine fn_next ?_
  refine cw_condd rfl (fun h7 => ?_) (fun h7 => ?_)
  · exact absurd hw h7
  · skip
    refine cw_skip ?_
    refine fn_next ?_
    refine cw_seq ?_
    refine cw_reg ?_
    refine ry (y_ldb (i := 0) (cs := [_, _, _, _]) H6 rfl rfl kfgrid2_8 rfl rfl) rfl rfl ?_
    refine reg_op (op_call (ret_elder (area_any p0 q0 p1 q1 _)) rfl kfgrid2_10 ⟨rfl, trivial⟩) rfl rfl ?_
    rintro _ w9 ⟨rfl, e8⟩
    have H10 := H6.ext e8
    refine reg_op (op_mk0 (m := ((q1 + 1 - q0) * (p1 + 1 - p0))) H10 rfl rfl rfl rfl (areaI_nat h1 (by omega) h3 (by omega)) Tryz.underlying24 kfgrid2_11 (by omega) (by unfold maxLen; omega)) rfl rfl ?_
    rintro _ w12 ⟨b11, rfl, H13⟩
    refine ry (y_asg rfl rfl) rfl rfl ?_
    refine reg_nil ?_
    refine fn_next ?_
    refine cw_seq ?_
    refine cw_seq ?_
    refine cw_reg ?_
    refine ry (y_fa rfl rfl kfgrid2_12 rfl) rfl rfl ?_
    refine ry (y_ld rfl rfl kfgrid2_4 (H13.cell (i := 1) rfl rfl)) rfl rfl ?_
    refine ry (y_asg rfl rfl) rfl rfl ?_
    refine reg_nil ?_
    refine fn_next ?_
    refine cw_block ?_
    have hE : HS w w12 [Ob.row (some ⟨b11, 0, none⟩) (0 * (p1 + 1 - p0)) ((q1 + 1 - q0) * (p1 + 1 - p0)) (vi .i64 (rvAll (gV xs a h) a p0 q0 (p1 + 1 - p0) 0)) 2 1, Ob.blk b1 [.int .i64 (p0 : Int), .int .i64 (q0 : Int), .int .i64 (p1 : Int), .int .i64 (q1 : Int)] 54] := by rw [Nat.zero_mul]; exact (H13.pick (m := [_, _]) [0, 1] rfl (by decide))
    refine cw_loopJ [7, 8, 9, 10, 11, 23, 24, 25, 26, 27, 28, 29, 30, 31, 32, 33, 34, 35, 36, 37, 38, 39, 40, 41, 42, 43, 44, 45, 46, 47, 48, 49, 50, 51] (fun M wl ml => ∃ (k : Nat) (A' : Option Addr) (cap' : Nat), M = [(8, .int .i64 ((q0 + k : Nat) : Int)), (7, .slice A' (k * (p1 + 1 - p0)) cap')] ∧ HS w wl [Ob.row A' (k * (p1 + 1 - p0)) cap' (vi .i64 (rvAll (gV xs a h) a p0 q0 (p1 + 1 - p0) k)) 2 1, Ob.blk b1 [.int .i64 (p0 : Int), .int .i64 (q0 : Int), .int .i64 (p1 : Int), .int .i64 (q1 : Int)] 54] ∧ (k ≤ (q1 + 1 - q0)) ∧ ml = q1 + 2 - (q0 + k)) ⟨0, _, _, rfl, hE, Nat.zero_le _, rfl⟩ ⟨rfl, by rw [Nat.zero_mul]; rfl, trivial⟩ ?_
    rintro M w14 m16 ⟨k, A', cap', rfl, H15, hp0, rfl⟩
    refine cw_seq ?_
    refine cw_seq ?_
    refine cw_reg ?_
    refine ry (y_mov rfl rfl) rfl rfl ?_
    refine ry (y_fa rfl rfl kfgrid2_13 rfl) rfl rfl ?_
    refine ry (y_ld rfl rfl kfgrid2_4 (H15.cell (i := 1) rfl rfl)) rfl rfl ?_
    refine ry (y_leq rfl rfl rfl) rfl rfl ?_
    refine reg_nil ?_
    refine fn_next ?_
    refine cw_condd rfl (fun h17 => ?_) (fun h17 => ?_)
    · skip
      refine cw_skip ?_
      refine fn_next ?_
      refine cw_seq ?_
      refine cw_block ?_
      refine cw_seq ?_
      refine cw_reg ?_
      refine ry (y_fa rfl rfl kfgrid2_14 rfl) rfl rfl ?_
      refine ry (y_ld rfl rfl kfgrid2_4 (H15.cell (i := 1) rfl rfl)) rfl rfl ?_
      refine ry (y_asg rfl rfl) rfl rfl ?_
      refine reg_nil ?_
      refine fn_next ?_
      refine cw_block ?_
      have hz2 : rvAll (gV xs a h) a p0 q0 (p1 + 1 - p0) k ++ rvRow (gV xs a h) a p0 0 (q0 + k) = rvAll (gV xs a h) a p0 q0 (p1 + 1 - p0) k := List.append_nil _
      rw [← hz2] at H15
      refine cw_loopJ [7, 9, 10, 11, 31, 32, 33, 34, 35, 36, 37, 38, 39, 40, 41, 42, 43, 44, 45, 46, 47, 48, 49, 50, 51] (fun M wl ml => ∃ (j : Nat) (A2 : Option Addr) (cap2 : Nat), M = [(9, .int .i64 ((p0 + j : Nat) : Int)), (7, .slice A2 (k * (p1 + 1 - p0) + j) cap2)] ∧ HS w wl [Ob.row A2 (k * (p1 + 1 - p0) + j) cap2 (vi .i64 (rvAll (gV xs a h) a p0 q0 (p1 + 1 - p0) k ++ rvRow (gV xs a h) a p0 j (q0 + k))) 2 1, Ob.blk b1 [.int .i64 (p0 : Int), .int .i64 (q0 : Int), .int .i64 (p1 : Int), .int .i64 (q1 : Int)] 54] ∧ (j ≤ (p1 + 1 - p0)) ∧ ml = p1 + 2 - (p0 + j)) ⟨0, _, _, rfl, H15, Nat.zero_le _, rfl⟩ ⟨rfl, rfl, trivial⟩ ?_
      rintro M w18 m20 ⟨j, A2, cap2, rfl, H19, hp0, rfl⟩
      refine cw_seq ?_
      refine cw_seq ?_
      refine cw_reg ?_
      refine ry (y_mov rfl rfl) rfl rfl ?_
      refine ry (y_fa rfl rfl kfgrid2_15 rfl) rfl rfl ?_
      refine ry (y_ld rfl rfl kfgrid2_4 (H19.cell (i := 1) rfl rfl)) rfl rfl ?_
      refine ry (y_leq rfl rfl rfl) rfl rfl ?_
      refine reg_nil ?_
      refine fn_next ?_
      refine cw_condd rfl (fun h21 => ?_) (fun h21 => ?_)
      · skip
        have hkn : k * (p1 + 1 - p0) ≤ 1024 * 1024 := Nat.le_trans (Nat.mul_le_mul_right _ (by omega)) hnm
        refine cw_skip ?_
        refine fn_next ?_
        refine cw_seq ?_
        refine cw_block ?_
        refine cw_seq ?_
        refine cw_reg ?_
        refine ry (y_mov rfl rfl) rfl rfl ?_
        refine ry (y_mov rfl rfl) rfl rfl ?_
        refine ry (y_mov rfl rfl) rfl rfl ?_
        refine reg_op (op_call (gridSlab_any g a h A cap xs (p0 + j) (q0 + k) _ G (R.below H19.base).blk (R.below H19.base).row (by omega) (by omega)) rfl kfgrid2_16 ⟨rfl, rfl, rfl, trivial⟩) rfl rfl ?_
        rintro _ w23 ⟨rfl, e22⟩
        have H24 := H19.ext e22
        refine ry (y_mov rfl rfl) rfl rfl ?_
        refine ry (y_mov rfl rfl) rfl rfl ?_
        refine reg_op (op_call (gridInner_any (p0 + j) (q0 + k) _) rfl kfgrid2_17 ⟨rfl, rfl, trivial⟩) rfl rfl ?_
        rintro _ w26 ⟨rfl, e25⟩
        have H27 := H24.ext e25
        refine reg_op (op_call (slabAtG a h xs (p0 + j) (q0 + k) _ G (by omega) (by omega) (R.below H27.base).sl) rfl kfgrid2_18 ⟨rfl, rfl, trivial⟩) rfl rfl ?_
        rintro _ w29 ⟨rfl, e28⟩
        have H30 := H27.ext e28
        refine ry (y_mov rfl rfl) rfl rfl ?_
        refine ry (y_ext rfl rfl rfl) rfl rfl ?_
        refine ry (y_ext rfl rfl rfl) rfl rfl ?_
        refine ry (y_asg rfl rfl) rfl rfl ?_
        refine ry (y_asg rfl rfl) rfl rfl ?_
        refine reg_nil ?_
        refine fn_next ?_
        refine cw_reg ?_
        refine ry (y_mov rfl rfl) rfl rfl ?_
        refine ry (y_mov rfl rfl) rfl rfl ?_
        refine reg_op (op_lit (parts := [(0, _)]) (vs := [(0, _)]) (cs := [.int _ _]) H30 rfl Tryz.underlying24 kfgrid2_19 rfl ⟨rfl, trivial⟩ rfl rfl) rfl rfl ?_
        rintro _ w32 ⟨b31, rfl, H33⟩
        have H34 := H33.asrow (m := 1) (size := 1) rfl (by decide)
        refine reg_op (op_app (i := 1) H34 rfl rfl rfl rfl (H34.rd (i := 0) rfl) (rfl) (rfl) Tryz.underlying24 kfgrid2_11 rfl rfl (by unfold maxLen; omega) (by omega)) rfl rfl ?_
        rintro _ w37 ⟨A35, c36, rfl, H38⟩
        refine ry (y_asg rfl rfl) rfl rfl ?_
        refine reg_nil ?_
        refine fn_block ?_
        refine fn_next ?_
        refine cw_reg ?_
        refine ry (y_mov rfl rfl) rfl rfl ?_
        refine ry (y_add rfl rfl rfl (wi (by omega))) rfl rfl ?_
        refine ry (y_asg rfl rfl) rfl rfl ?_
        refine reg_nil ?_
        rw [vi_snoc, List.append_assoc, ← rvRow_succ] at H38
        refine fn_roundJ ⟨j + 1, _, _, rfl, (H38.pick (m := [_, _]) [1, 2] rfl (by decide)), by omega, rfl⟩ ⟨rfl, rfl, trivial⟩ (by omega) (by repeat (first | exact kp_refl | refine kp_app rfl rfl ?_ | refine kp_cons rfl ?_)) rfl
      · skip
        obtain rfl : j = (p1 + 1 - p0) := by omega
        refine cw_exit ?_
        refine fn_then_exit (fn_then_exit (fn_block_exit ?_))
        refine fn_block ?_
        refine fn_next ?_
        refine cw_reg ?_
        refine ry (y_mov rfl rfl) rfl rfl ?_
        refine ry (y_add rfl rfl rfl (wi (by omega))) rfl rfl ?_
        refine ry (y_asg rfl rfl) rfl rfl ?_
        refine reg_nil ?_
        have hrs : rvAll (gV xs a h) a p0 q0 (p1 + 1 - p0) (k + 1) = rvAll (gV xs a h) a p0 q0 (p1 + 1 - p0) k ++ rvRow (gV xs a h) a p0 (p1 + 1 - p0) (q0 + k) := rfl
        rw [← hrs, ← Nat.succ_mul] at H19
        refine fn_roundJ ⟨k + 1, _, _, rfl, H19, by omega, rfl⟩ ⟨rfl, by rw [Nat.succ_mul]; rfl, trivial⟩ (by omega) (by repeat (first | exact kp_refl | refine kp_app rfl rfl ?_ | refine kp_cons rfl ?_)) rfl
    · skip
      obtain rfl : k = (q1 + 1 - q0) := by omega
      refine cw_exit ?_
      refine fn_then_exit (fn_then_exit (fn_block_exit ?_))
      refine fn_next ?_
      refine cw_seq ?_
      refine cw_reg ?_
      refine ry (y_mov rfl rfl) rfl rfl ?_
      refine ry (y_asg rfl rfl) rfl rfl ?_
      refine ry (y_asg rfl rfl) rfl rfl ?_
      refine reg_nil ?_
      refine fn_next ?_
      refine cw_ret ?_
      refine fn_retn (vs := [_, _]) rfl ⟨rfl, rfl, trivial⟩ rfl ?_
      rw [hw, gvalV_ok hw h1 h3]
      have hrl := rvAll_len (V := gV xs a h) (a := a) (x0 := p0) (y0 := q0) (n := (p1 + 1 - p0)) (q1 + 1 - q0)
      rw [hrl]
      exact ⟨_, _, rfl, (H15.pick (m := [_]) [0] rfl (by decide))⟩

theorem gValues (g a h : Nat) (V : List Int) (x0 y0 x1 y1 : Int) (w : World) (R : GRd w g a h V) : Ret Tryz.prog 25 [pt (some ⟨g, 0, none⟩) 0, .agg #[.int .i64 x0, .int .i64 y0, .int .i64 x1, .int .i64 y1]] w (fun z w' => ∃ A cap, z = .tuple #[.slice A (gvalV V a h x0 y0 x1 y1).length cap, .int .i64 (withinC x0 y0 x1 y1 a h)] ∧ HS w w' [.row A (gvalV V a h x0 y0 x1 y1).length cap (vi .i64 (gvalV V a h x0 y0 x1 y1)) 2 1]) := by
  obtain ⟨A, cap, xs, G, rfl, R⟩ := R
  by_cases hw : withinC x0 y0 x1 y1 a h = 0
  · obtain ⟨p0, q0, p1, q1, rfl, rfl, rfl, rfl, h1, h2, h3, h4⟩ := gat_nat G hw
    exact gridValues_ok g a h A cap xs p0 q0 p1 q1 w G R h1 h2 h3 h4 hw
  · exact gridValues_no g a h A cap xs x0 y0 x1 y1 w G R hw
theorem within_all {a h : Nat} (s : SzG a h) : withinC 0 0 ((a : Int) - 1) ((h : Int) - 1) a h = 0 := by
  obtain ⟨s1, s2, s3, s4⟩ := s
  unfold withinC; simp only [insideB_not]
  rw [if_neg (by unfold wrap64; omega), if_neg (by omega), if_neg (by omega)]
theorem gvalV_all {V : List Int} {a h : Nat} (G : GV a h V) : gvalV V a h 0 0 ((a : Int) - 1) ((h : Int) - 1) = V := by
  have h1 := G.a1; have h2 := G.h1
  unfold gvalV
  rw [if_pos (within_all G.sz), show ((a : Int) - 1 - 0 + 1).toNat = a by omega, show ((h : Int) - 1 - 0 + 1).toNat = h by omega]
  refine nth_ext (by rw [rvAll_len, G.len, Nat.mul_comm]) fun i hi => ?_
  rw [rvAll_len] at hi
  have hx : i % a < a := Nat.mod_lt _ (by omega)
  have hy : i / a < h := Nat.div_lt_of_lt_mul (by rw [Nat.mul_comm]; exact hi)
  have ei := of_div (rfl : i / a = _) (rfl : i % a = _)
  have := rvAll_at (V := V) (a := a) (x0 := 0) (y0 := 0) (n := a) h (i / a) (i % a) hy hx
  rw [← ei, Nat.zero_add, Nat.zero_add, ← ei] at this
  exact this
theorem gValuesAll (g a h : Nat) (V : List Int) (w : World) (R : GRd w g a h V) : Ret Tryz.prog 25 [pt (some ⟨g, 0, none⟩) 0, .agg #[.int .i64 0, .int .i64 0, .int .i64 ((a : Int) - 1), .int .i64 ((h : Int) - 1)]] w (fun z w' => ∃ A cap, z = .tuple #[.slice A (a * h) cap, .int .i64 0] ∧ HS w w' [.row A (a * h) cap (vi .i64 V) 2 1]) := by
  have h1 := gValues g a h V 0 0 ((a : Int) - 1) ((h : Int) - 1) w R
  rw [gvalV_all R.gv, within_all R.gv.sz, R.gv.len] at h1
  exact h1

set_option maxRecDepth 100000 in
theorem gTiles (g a h : Nat) (V : List Int) (w : World) (R : GRd w g a h V) :
    Ret Tryz.prog 20 [.pointer (some ⟨g, 0, none⟩)] w (fun z w' => ∃ A cap, z = .slice A (piecesL ⟨0, 0, (a : Int) - 1, (h : Int) - 1⟩).length cap ∧ HS w w' [.row A (piecesL ⟨0, 0, (a : Int) - 1, (h : Int) - 1⟩).length cap (rcells (piecesL ⟨0, 0, (a : Int) - 1, (h : Int) - 1⟩)) 54 4]) := by
  refine ret_enter Tryz.func20 rfl rfl rfl ?_
  have H0 := HS.start w
  refine cw_seq ?_
  refine cw_reg ?_
  refine ry (y_asg rfl rfl) rfl rfl ?_
  refine reg_nil ?_
  refine fn_next ?_
  refine cw_seq ?_
  refine cw_seq ?_
  refine cw_reg ?_
  refine ry (y_mov rfl rfl) rfl rfl ?_
  refine ry (y_peqlnil rfl Tryz.underlying30 rfl rfl) rfl rfl ?_
  refine reg_nil ?_
  refine fn_next ?_
  refine cw_condf rfl ?_
  refine cw_skip ?_
  refine fn_next ?_
  refine cw_seq ?_
  refine cw_reg ?_
  refine ry (y_mov rfl rfl) rfl rfl ?_
  refine reg_op (op_call (gAll g a h V _ (R.below H0.base)) rfl kfgrid2_20 ⟨rfl, trivial⟩) rfl rfl ?_
  rintro _ w2 ⟨rfl, e1⟩
  have H3 := H0.ext e1
  refine reg_op (op_call (pieces_ret 0 0 ((a : Int) - 1) ((h : Int) - 1) _) rfl kfgrid2_21 ⟨rfl, trivial⟩) rfl rfl ?_
  rintro _ w5 ⟨A7, c8, rfl, k4⟩
  have H6 := H3.call k4
  refine ry (y_asg rfl rfl) rfl rfl ?_
  refine reg_nil ?_
  refine fn_next ?_
  refine cw_ret ?_
  refine fn_ret1 rfl rfl ?_
  exact ⟨_, _, rfl, H6⟩

/-- the first i slabs are copied -/
structure CI (xs zs : List Sb) (i : Nat) : Prop where
  len : zs.length = i
  all : ∀ j, j < i → (gs zs j).w = (gs xs j).w ∧ (gs zs j).h = (gs xs j).h ∧ (gs zs j).L.ok ((gs xs j).w * (gs xs j).h) ∧ (gs zs j).L.lst ((gs xs j).w * (gs xs j).h) = (gs xs j).lst
theorem CI.nil {xs : List Sb} : CI xs [] 0 := ⟨rfl, fun j hj => absurd hj (Nat.not_lt_zero _)⟩
theorem CI.snoc {xs zs : List Sb} {i c : Nat} {L : Ld} (H : CI xs zs i) (h1 : L.ok ((gs xs i).w * (gs xs i).h)) (h2 : L.lst ((gs xs i).w * (gs xs i).h) = (gs xs i).lst) : CI xs (zs ++ [⟨c, (gs xs i).w, (gs xs i).h, L⟩]) (i + 1) :=
  ⟨by rw [List.length_append, H.len]; rfl, fun j hj => by
    by_cases e : j < i
    · rw [gs_app_lt (by rw [H.len]; exact e)]; exact H.all j e
    · have : j = zs.length := by rw [H.len]; omega
      subst this
      rw [gs_app_eq]
      have e := H.len
      subst e
      exact ⟨rfl, rfl, h1, h2⟩⟩
theorem CI.gi {a h : Nat} {xs zs : List Sb} (H : CI xs zs xs.length) (G : GI a h xs) : GI a h zs :=
  ⟨G.a1, G.a2, G.h1, G.h2, by rw [H.len, G.len], fun t ht => by
    rw [H.len] at ht
    obtain ⟨e1, e2, _, _⟩ := H.all t ht
    rw [e1, e2]; exact G.wid t ht, fun t ht => by
    rw [H.len] at ht
    obtain ⟨e1, e2, e3, _⟩ := H.all t ht
    rw [e1, e2]; exact e3⟩
theorem CI.gV {a h : Nat} {xs zs : List Sb} (H : CI xs zs xs.length) (G : GI a h xs) : gV zs a h = gV xs a h := by
  unfold Go.Proofs.YtbnjbgcadkdljaaGreatDoor.gV
  refine List.map_congr_left fun i hi => ?_
  have hi' := List.mem_range.1 hi
  have ha := G.a1
  obtain ⟨ht, _, _⟩ := G.tile (x := i % a) (y := i / a) (Nat.mod_lt _ (by omega)) (Nat.div_lt_of_lt_mul hi')
  obtain ⟨e1, e2, _, e4⟩ := H.all _ ht
  unfold gval
  have : (gs zs (tno a (i % a) (i / a))).lst = (gs xs (tno a (i % a) (i / a))).lst := by
    unfold Sb.lst at *
    rw [e1, e2]; exact e4
  rw [this, e1]
end Go.Proofs.YtbnjbgcadkdljaaGreatDoor
