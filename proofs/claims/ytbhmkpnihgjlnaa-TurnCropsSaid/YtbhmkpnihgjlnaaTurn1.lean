/- Layer 42: quarters, mirrors, swaps. -/
import Derived.Test.YtbhmkpnihgjlnaaPlain42
import Derived.Test.YtbhmkpnihgjlnaaLand
set_option linter.unusedVariables false
set_option linter.unusedSimpArgs false
namespace Go.Proofs.Ytbhmkpnihgjlnaa
open Go Go.RowKit
theorem kfturn1_1 : (Try.prog.info? 2).map (fun i => (i.zero.map (·.cells.toList), i.size, i.bytes)) = some (some [(.int .i64 0)], 1, 8) := by kernel_rfl
theorem kfturn1_2 : callB Try.prog 64 = true := by kernel_rfl
theorem kfturn1_3 : (Try.prog.info? 2).map (fun i => (i.size, i.zero.map Value.cells)) = some (1, some (List.toArray [(.int .i64 0)])) := by kernel_rfl
theorem kfturn1_4 : callB Try.prog 52 = true := by kernel_rfl
theorem kfturn1_5 : (Try.prog.info? 46).bind (fun i => i.zero.map Value.cells) = some (List.toArray [(.int .i64 0), (.int .i64 0)]) := by kernel_rfl
theorem kfturn1_6 : oneB Try.prog 2 = true := by kernel_rfl
theorem kfturn1_7 : szB Try.prog 46 2 = true := by kernel_rfl
theorem kfturn1_8 : aggB Try.prog 46 2 = true := by kernel_rfl
theorem kfturn1_9 : callB Try.prog 62 = true := by kernel_rfl
theorem kfturn1_10 : (Try.prog.info? 2).bind (fun i => i.zero.map Value.cells) = some (List.toArray [(.int .i64 0)]) := by kernel_rfl
theorem kfturn1_11 : szB Try.prog 2 1 = true := by kernel_rfl
theorem kfturn1_12 : callB Try.prog 79 = true := by kernel_rfl
theorem kfturn1_13 : callB Try.prog 76 = true := by kernel_rfl
theorem kfturn1_14 : callB Try.prog 67 = true := by kernel_rfl
theorem kfturn1_15 : callB Try.prog 77 = true := by kernel_rfl
theorem kfturn1_16 : callB Try.prog 78 = true := by kernel_rfl
theorem kfturn1_17 : callB Try.prog 80 = true := by kernel_rfl
theorem kfturn1_18 : callB Try.prog 81 = true := by kernel_rfl
theorem and3 (n : Int) : IntKind.i64.wrap ((BitVec.ofInt IntKind.i64.bits n &&& BitVec.ofInt IntKind.i64.bits 3).toNat : Int) = n % 4 := by
  have h1 : (BitVec.ofInt IntKind.i64.bits n &&& BitVec.ofInt IntKind.i64.bits 3).toNat = (n % 4).toNat := by
    rw [BitVec.toNat_and, BitVec.toNat_ofInt, BitVec.toNat_ofInt]
    show (n % 18446744073709551616).toNat &&& (3 % 18446744073709551616 : Int).toNat = _
    rw [show (3 % 18446744073709551616 : Int).toNat = 2 ^ 2 - 1 from rfl, Nat.and_two_pow_sub_one_eq_mod]
    omega
  rw [h1]
  exact (wi (by omega)).trans (by omega)
/-- what a place of the new grid comes from -/
def FromF (P : Program) (w : World) (F : FuncId) (cs : List Value) (p q : Nat) (gx gy : Nat → Nat → Nat) : Prop := ∀ (x y : Nat) (W : World), x < p → y < q → Below w.heap.size w W → Ret P F (.int .i64 (x : Int) :: .int .i64 (y : Int) :: cs) W (fun v w' => v = .agg #[.int .i64 ((gx x y : Nat) : Int), .int .i64 ((gy x y : Nat) : Int)] ∧ Below W.heap.size W w')

set_option maxRecDepth 100000 in
theorem made_any (g a h : Nat) (V : List Int) (p q : Nat) (F : FuncId) (cs : List Value) (gx gy : Nat → Nat → Nat) (w : World) (R : GRd w g a h V) (hF : callB Try.prog F = true) (hf : FromF Try.prog w F cs p q gx gy) (s : SzG p q) (hg : Inn p q a h gx gy) :
    Ret Try.prog 67 [.pointer (some ⟨g, 0, none⟩), .int .i64 (p : Int), .int .i64 (q : Int), .func (.func F) #[] cs.toArray] w (fun z w' => ∃ g' bl, z = .tuple #[.pointer (some ⟨g', 0, none⟩), .int .i64 0] ∧ HS w w' [gOb g' p q (mN V a p gx gy (p * q)) bl]) := by
  obtain ⟨s1, s2, s3, s4⟩ := id s
  have hpq := s.mul
  have hqp : q * p ≤ 1048576 := by rw [Nat.mul_comm]; exact hpq.2
  have hgv := R.gv
  refine ret_enter Try.func67 rfl rfl rfl ?_
  have H0 := HS.start w
  refine cw_seq ?_
  refine cw_reg ?_
  refine ry (y_asg rfl rfl) rfl rfl ?_
  refine ry (y_asg rfl rfl) rfl rfl ?_
  refine reg_nil ?_
  refine fn_next ?_
  refine cw_seq ?_
  refine cw_reg ?_
  refine ry (y_mov rfl rfl) rfl rfl ?_
  refine ry (y_mov rfl rfl) rfl rfl ?_
  refine ry (y_mul rfl rfl rfl (mulN (by omega))) rfl rfl ?_
  refine reg_op (op_mk0 (m := p * q) H0 rfl rfl rfl rfl (rfl) Try.underlying22 kfturn1_1 (by omega) (by unfold maxLen; omega)) rfl rfl ?_
  rintro _ w2 ⟨b1, rfl, H3⟩
  refine ry (y_asg rfl rfl) rfl rfl ?_
  refine reg_nil ?_
  refine fn_next ?_
  refine cw_seq ?_
  refine cw_seq ?_
  refine cw_reg ?_
  refine ry (y_mov rfl rfl) rfl rfl ?_
  refine ry (y_mov rfl rfl) rfl rfl ?_
  refine reg_nil ?_
  refine fn_next ?_
  refine cw_block ?_
  have hE : HS w w2 [Ob.row (some ⟨b1, 0, none⟩) (0 * p) (p * q) (vi .i64 (mN V a p gx gy (0 * p))) 2 1] := by rw [Nat.zero_mul]; exact H3
  refine cw_loopJ [10, 11, 12, 13, 14, 20, 21, 22, 23, 24, 25, 26, 27, 28, 29, 30, 31, 32, 33, 34, 35, 36, 37, 38, 39, 40, 41] (fun M wl ml => ∃ (y : Nat) (A' : Option Addr) (cap' : Nat), M = [(20, .int .i64 (y : Int)), (10, .slice A' (y * p) cap')] ∧ HS w wl [Ob.row A' (y * p) cap' (vi .i64 (mN V a p gx gy (y * p))) 2 1] ∧ (y ≤ q) ∧ ml = q - y) ⟨0, _, _, rfl, hE, Nat.zero_le _, rfl⟩ ⟨rfl, by rw [Nat.zero_mul]; rfl, trivial⟩ ?_
  rintro M w4 m6 ⟨y, A', cap', rfl, H5, hp0, rfl⟩
  refine cw_seq ?_
  refine cw_reg ?_
  refine ry (y_lss rfl rfl rfl) rfl rfl ?_
  refine reg_nil ?_
  refine fn_next ?_
  refine cw_seq ?_
  refine cw_condd rfl (fun h7 => ?_) (fun h7 => ?_)
  · skip
    have hy : y < q := by omega
    refine cw_skip ?_
    refine fn_next ?_
    refine cw_seq ?_
    refine cw_block ?_
    refine cw_seq ?_
    refine cw_reg ?_
    refine ry (y_mov rfl rfl) rfl rfl ?_
    refine ry (y_asg rfl rfl) rfl rfl ?_
    refine reg_nil ?_
    refine fn_next ?_
    refine cw_seq ?_
    refine cw_reg ?_
    refine ry (y_mov rfl rfl) rfl rfl ?_
    refine ry (y_mov rfl rfl) rfl rfl ?_
    refine reg_nil ?_
    refine fn_next ?_
    refine cw_block ?_
    refine cw_loopJ [10, 12, 13, 14, 24, 25, 26, 27, 28, 29, 30, 31, 32, 33, 34, 35, 36, 37, 38, 39, 40] (fun M wl ml => ∃ (x : Nat) (A2 : Option Addr) (cap2 : Nat), M = [(24, .int .i64 (x : Int)), (10, .slice A2 (y * p + x) cap2)] ∧ HS w wl [Ob.row A2 (y * p + x) cap2 (vi .i64 (mN V a p gx gy (y * p + x))) 2 1] ∧ (x ≤ p) ∧ ml = p - x) ⟨0, _, _, rfl, H5, Nat.zero_le _, rfl⟩ ⟨rfl, rfl, trivial⟩ ?_
    rintro M w8 m10 ⟨x, A2, cap2, rfl, H9, hp0, rfl⟩
    refine cw_seq ?_
    refine cw_reg ?_
    refine ry (y_lss rfl rfl rfl) rfl rfl ?_
    refine reg_nil ?_
    refine fn_next ?_
    refine cw_seq ?_
    refine cw_condd rfl (fun h11 => ?_) (fun h11 => ?_)
    · skip
      have hx : x < p := by omega
      obtain ⟨g1, g2⟩ := hg x y hx hy
      have hw := within_inG (x := ((gx x y : Nat) : Int)) (y := ((gy x y : Nat) : Int)) hgv.sz (by omega)
      have hcl := cell_lt' hx hy
      refine cw_skip ?_
      refine fn_next ?_
      refine cw_seq ?_
      refine cw_block ?_
      refine cw_seq ?_
      refine cw_reg ?_
      refine ry (y_mov rfl rfl) rfl rfl ?_
      refine ry (y_asg rfl rfl) rfl rfl ?_
      refine reg_nil ?_
      refine fn_next ?_
      refine cw_seq ?_
      refine cw_reg ?_
      refine ry (y_mov rfl rfl) rfl rfl ?_
      refine ry (y_mov rfl rfl) rfl rfl ?_
      refine ry (y_mov rfl rfl) rfl rfl ?_
      refine ry (y_mov rfl rfl) rfl rfl ?_
      refine reg_op (op_callv (fs := []) (vs := [_, _]) (cs := cs) (hf x y _ hx hy H9.base) rfl hF rfl ⟨rfl, rfl, trivial⟩) rfl rfl ?_
      rintro _ w13 ⟨rfl, e12⟩
      have H14 := H9.ext e12
      refine reg_op (op_call (ret_v (v := .tuple #[.int .i64 (nth V (gy x y * a + gx x y)), .int .i64 0]) (gAt g a h V ((gx x y : Nat) : Int) ((gy x y : Nat) : Int) _ (R.below H14.base)) (by rw [gatV_ok hw, hw])) rfl kfturn1_2 ⟨rfl, rfl, trivial⟩) rfl rfl ?_
      rintro _ w16 ⟨rfl, e15⟩
      have H17 := H14.ext e15
      refine ry (y_mov rfl rfl) rfl rfl ?_
      refine ry (y_ext rfl rfl rfl) rfl rfl ?_
      refine ry (y_ext rfl rfl rfl) rfl rfl ?_
      refine ry (y_asg rfl rfl) rfl rfl ?_
      refine ry (y_asg rfl rfl) rfl rfl ?_
      refine reg_nil ?_
      refine fn_next ?_
      refine cw_reg ?_
      refine ry (y_mov rfl rfl) rfl rfl ?_
      refine ry (y_mov rfl rfl) rfl rfl ?_
      refine reg_op (op_lit (parts := [(0, _)]) (vs := [(0, _)]) (cs := [.int _ _]) H17 rfl Try.underlying22 kfturn1_3 rfl ⟨rfl, trivial⟩ rfl rfl) rfl rfl ?_
      rintro _ w19 ⟨b18, rfl, H20⟩
      have H21 := H20.asrow (m := 1) (size := 1) rfl (by decide)
      refine reg_op (op_app (i := 1) H21 rfl rfl rfl rfl (H21.rd (i := 0) rfl) (rfl) (rfl) Try.underlying22 kfturn1_1 rfl rfl (by unfold maxLen; omega) (by omega)) rfl rfl ?_
      rintro _ w24 ⟨A22, c23, rfl, H25⟩
      refine ry (y_asg rfl rfl) rfl rfl ?_
      refine reg_nil ?_
      refine fn_block ?_
      refine fn_next ?_
      refine cw_reg ?_
      refine ry (y_add rfl rfl rfl (wi (by omega))) rfl rfl ?_
      refine ry (y_mov rfl rfl) rfl rfl ?_
      refine reg_nil ?_
      rw [vi_snoc, mN_succ hx] at H25
      refine fn_roundJ ⟨x + 1, _, _, rfl, (H25.pick (m := [_]) [1] rfl (by decide)), by omega, rfl⟩ ⟨rfl, rfl, trivial⟩ (by omega) (by repeat (first | exact kp_refl | refine kp_app rfl rfl ?_ | refine kp_cons rfl ?_)) rfl
    · skip
      obtain rfl : p = x := by omega
      refine cw_exit ?_
      refine fn_then_exit (fn_then_exit (fn_block_exit ?_))
      refine fn_block ?_
      refine fn_next ?_
      refine cw_reg ?_
      refine ry (y_add rfl rfl rfl (wi (by omega))) rfl rfl ?_
      refine ry (y_mov rfl rfl) rfl rfl ?_
      refine reg_nil ?_
      rw [← Nat.succ_mul] at H9
      refine fn_roundJ ⟨y + 1, _, _, rfl, H9, by omega, rfl⟩ ⟨rfl, by rw [Nat.succ_mul]; rfl, trivial⟩ (by omega) (by repeat (first | exact kp_refl | refine kp_app rfl rfl ?_ | refine kp_cons rfl ?_)) rfl
  · skip
    obtain rfl : q = y := by omega
    refine cw_exit ?_
    refine fn_then_exit (fn_then_exit (fn_block_exit ?_))
    refine fn_next ?_
    refine cw_seq ?_
    refine cw_reg ?_
    refine ry (y_mov rfl rfl) rfl rfl ?_
    refine ry (y_mov rfl rfl) rfl rfl ?_
    refine ry (y_mov rfl rfl) rfl rfl ?_
    refine reg_op (op_call (gFrom_ok p q (mN V a p gx gy (q * p)) _ (q * p) _ _ (H5.rd (i := 0) rfl) mN_len (by omega) s (fromC_ok s (by rw [mN_len, Nat.mul_comm]) (by rw [Nat.mul_comm]; exact mN_b32 hgv hg))) rfl kfturn1_4 ⟨rfl, rfl, rfl, trivial⟩) rfl rfl ?_
    rintro _ w27 ⟨g29, bl30, rfl, k26⟩
    have H28 := H5.call k26
    refine ry (y_ext rfl rfl rfl) rfl rfl ?_
    refine ry (y_ext rfl rfl rfl) rfl rfl ?_
    refine ry (y_asg rfl rfl) rfl rfl ?_
    refine ry (y_asg rfl rfl) rfl rfl ?_
    refine reg_nil ?_
    refine fn_next ?_
    refine cw_ret ?_
    refine fn_retn (vs := [_, _]) rfl ⟨rfl, rfl, trivial⟩ rfl ?_
    have Hz := (H28.pick (m := [_]) [0] rfl (by decide))
    rw [Nat.mul_comm q p] at Hz
    exact ⟨_, _, rfl, Hz⟩

set_option maxRecDepth 100000 in
theorem q1At (x y : Nat) (h b0 : Nat) (w : World) (hx : x < h) (hh : h ≤ 1024) (R0 : Rd w (some ⟨b0, 0, none⟩) [.int .i64 (h : Int)]) :
    Ret Try.prog 76 [.int .i64 (x : Int), .int .i64 (y : Int), .pointer (some ⟨b0, 0, none⟩)] w (fun v w' => v = .agg #[.int .i64 ((y : Nat) : Int), .int .i64 ((h - 1 - x : Nat) : Int)] ∧ Below w.heap.size w w') := by
  refine ret_enter Try.func76 rfl rfl rfl ?_
  have H0 := HS.start w
  refine cw_seq ?_
  refine cw_reg ?_
  refine reg_op (op_alloc H0 rfl kfturn1_5) rfl rfl ?_
  rintro _ w2 ⟨b1, rfl, H3⟩
  refine reg_nil ?_
  refine fn_next ?_
  refine cw_seq ?_
  refine cw_reg ?_
  refine ry (y_mov rfl rfl) rfl rfl ?_
  refine ry (y_ldr (k := 0) ((R0.below H3.base)) rfl rfl kfturn1_6 (rfl)) rfl rfl ?_
  refine ry (y_sub rfl rfl rfl (wi (by omega))) rfl rfl ?_
  refine ry (y_mov rfl rfl) rfl rfl ?_
  refine ry (y_sub rfl rfl rfl (show _ = ((h - 1 - x : Nat) : Int) from (wi (by omega)).trans (by omega))) rfl rfl ?_
  refine ry (y_build (places := [(0, 1), (1, 1)]) (parts := [(0, _), (1, _)]) (vs := [(0, _), (1, _)]) (cs := [.int _ _, .int _ _]) rfl Try.underlying46 (by kernel_rfl) kfturn1_5 rfl ⟨rfl, rfl, trivial⟩ rfl) rfl rfl ?_
  refine reg_op (op_st (i := 0) (vs := [.int _ _, .int _ _]) H3 rfl rfl rfl rfl rfl kfturn1_7 rfl rfl rfl) rfl rfl ?_
  rintro _ w4 H5
  refine reg_nil ?_
  refine fn_next ?_
  refine cw_ret ?_
  refine fn_ret1 rfl (⟨_, rfl, load_agg (cs := [_, _]) kfturn1_8 rfl fun j v hv => by rw [Nat.zero_add]; exact H5.cell (i := 0) rfl hv⟩) ?_
  exact ⟨rfl, H5.base⟩

set_option maxRecDepth 100000 in
theorem q2At (x y : Nat) (a b0 : Nat) (h b1 : Nat) (w : World) (hx : x < a) (hh : a ≤ 1024) (hy : y < h) (hk : h ≤ 1024) (R0 : Rd w (some ⟨b0, 0, none⟩) [.int .i64 (a : Int)]) (R1 : Rd w (some ⟨b1, 0, none⟩) [.int .i64 (h : Int)]) :
    Ret Try.prog 77 [.int .i64 (x : Int), .int .i64 (y : Int), .pointer (some ⟨b0, 0, none⟩), .pointer (some ⟨b1, 0, none⟩)] w (fun v w' => v = .agg #[.int .i64 ((a - 1 - x : Nat) : Int), .int .i64 ((h - 1 - y : Nat) : Int)] ∧ Below w.heap.size w w') := by
  refine ret_enter Try.func77 rfl rfl rfl ?_
  have H0 := HS.start w
  refine cw_seq ?_
  refine cw_reg ?_
  refine reg_op (op_alloc H0 rfl kfturn1_5) rfl rfl ?_
  rintro _ w2 ⟨b1, rfl, H3⟩
  refine reg_nil ?_
  refine fn_next ?_
  refine cw_seq ?_
  refine cw_reg ?_
  refine ry (y_ldr (k := 0) ((R0.below H3.base)) rfl rfl kfturn1_6 (rfl)) rfl rfl ?_
  refine ry (y_sub rfl rfl rfl (wi (by omega))) rfl rfl ?_
  refine ry (y_mov rfl rfl) rfl rfl ?_
  refine ry (y_sub rfl rfl rfl (show _ = ((a - 1 - x : Nat) : Int) from (wi (by omega)).trans (by omega))) rfl rfl ?_
  refine ry (y_ldr (k := 0) ((R1.below H3.base)) rfl rfl kfturn1_6 (rfl)) rfl rfl ?_
  refine ry (y_sub rfl rfl rfl (wi (by omega))) rfl rfl ?_
  refine ry (y_mov rfl rfl) rfl rfl ?_
  refine ry (y_sub rfl rfl rfl (show _ = ((h - 1 - y : Nat) : Int) from (wi (by omega)).trans (by omega))) rfl rfl ?_
  refine ry (y_build (places := [(0, 1), (1, 1)]) (parts := [(0, _), (1, _)]) (vs := [(0, _), (1, _)]) (cs := [.int _ _, .int _ _]) rfl Try.underlying46 (by kernel_rfl) kfturn1_5 rfl ⟨rfl, rfl, trivial⟩ rfl) rfl rfl ?_
  refine reg_op (op_st (i := 0) (vs := [.int _ _, .int _ _]) H3 rfl rfl rfl rfl rfl kfturn1_7 rfl rfl rfl) rfl rfl ?_
  rintro _ w4 H5
  refine reg_nil ?_
  refine fn_next ?_
  refine cw_ret ?_
  refine fn_ret1 rfl (⟨_, rfl, load_agg (cs := [_, _]) kfturn1_8 rfl fun j v hv => by rw [Nat.zero_add]; exact H5.cell (i := 0) rfl hv⟩) ?_
  exact ⟨rfl, H5.base⟩

set_option maxRecDepth 100000 in
theorem q3At (x y : Nat) (a b0 : Nat) (w : World) (hy : y < a) (ha : a ≤ 1024) (R0 : Rd w (some ⟨b0, 0, none⟩) [.int .i64 (a : Int)]) :
    Ret Try.prog 78 [.int .i64 (x : Int), .int .i64 (y : Int), .pointer (some ⟨b0, 0, none⟩)] w (fun v w' => v = .agg #[.int .i64 ((a - 1 - y : Nat) : Int), .int .i64 ((x : Nat) : Int)] ∧ Below w.heap.size w w') := by
  refine ret_enter Try.func78 rfl rfl rfl ?_
  have H0 := HS.start w
  refine cw_seq ?_
  refine cw_reg ?_
  refine reg_op (op_alloc H0 rfl kfturn1_5) rfl rfl ?_
  rintro _ w2 ⟨b1, rfl, H3⟩
  refine reg_nil ?_
  refine fn_next ?_
  refine cw_seq ?_
  refine cw_reg ?_
  refine ry (y_ldr (k := 0) ((R0.below H3.base)) rfl rfl kfturn1_6 (rfl)) rfl rfl ?_
  refine ry (y_sub rfl rfl rfl (wi (by omega))) rfl rfl ?_
  refine ry (y_mov rfl rfl) rfl rfl ?_
  refine ry (y_sub rfl rfl rfl (show _ = ((a - 1 - y : Nat) : Int) from (wi (by omega)).trans (by omega))) rfl rfl ?_
  refine ry (y_mov rfl rfl) rfl rfl ?_
  refine ry (y_build (places := [(0, 1), (1, 1)]) (parts := [(0, _), (1, _)]) (vs := [(0, _), (1, _)]) (cs := [.int _ _, .int _ _]) rfl Try.underlying46 (by kernel_rfl) kfturn1_5 rfl ⟨rfl, rfl, trivial⟩ rfl) rfl rfl ?_
  refine reg_op (op_st (i := 0) (vs := [.int _ _, .int _ _]) H3 rfl rfl rfl rfl rfl kfturn1_7 rfl rfl rfl) rfl rfl ?_
  rintro _ w4 H5
  refine reg_nil ?_
  refine fn_next ?_
  refine cw_ret ?_
  refine fn_ret1 rfl (⟨_, rfl, load_agg (cs := [_, _]) kfturn1_8 rfl fun j v hv => by rw [Nat.zero_add]; exact H5.cell (i := 0) rfl hv⟩) ?_
  exact ⟨rfl, H5.base⟩

set_option maxRecDepth 100000 in
theorem miAt (x y : Nat) (a b0 : Nat) (w : World) (hx : x < a) (ha : a ≤ 1024) (R0 : Rd w (some ⟨b0, 0, none⟩) [.int .i64 (a : Int)]) :
    Ret Try.prog 80 [.int .i64 (x : Int), .int .i64 (y : Int), .pointer (some ⟨b0, 0, none⟩)] w (fun v w' => v = .agg #[.int .i64 ((a - 1 - x : Nat) : Int), .int .i64 ((y : Nat) : Int)] ∧ Below w.heap.size w w') := by
  refine ret_enter Try.func80 rfl rfl rfl ?_
  have H0 := HS.start w
  refine cw_seq ?_
  refine cw_reg ?_
  refine reg_op (op_alloc H0 rfl kfturn1_5) rfl rfl ?_
  rintro _ w2 ⟨b1, rfl, H3⟩
  refine reg_nil ?_
  refine fn_next ?_
  refine cw_seq ?_
  refine cw_reg ?_
  refine ry (y_ldr (k := 0) ((R0.below H3.base)) rfl rfl kfturn1_6 (rfl)) rfl rfl ?_
  refine ry (y_sub rfl rfl rfl (wi (by omega))) rfl rfl ?_
  refine ry (y_mov rfl rfl) rfl rfl ?_
  refine ry (y_sub rfl rfl rfl (show _ = ((a - 1 - x : Nat) : Int) from (wi (by omega)).trans (by omega))) rfl rfl ?_
  refine ry (y_mov rfl rfl) rfl rfl ?_
  refine ry (y_build (places := [(0, 1), (1, 1)]) (parts := [(0, _), (1, _)]) (vs := [(0, _), (1, _)]) (cs := [.int _ _, .int _ _]) rfl Try.underlying46 (by kernel_rfl) kfturn1_5 rfl ⟨rfl, rfl, trivial⟩ rfl) rfl rfl ?_
  refine reg_op (op_st (i := 0) (vs := [.int _ _, .int _ _]) H3 rfl rfl rfl rfl rfl kfturn1_7 rfl rfl rfl) rfl rfl ?_
  rintro _ w4 H5
  refine reg_nil ?_
  refine fn_next ?_
  refine cw_ret ?_
  refine fn_ret1 rfl (⟨_, rfl, load_agg (cs := [_, _]) kfturn1_8 rfl fun j v hv => by rw [Nat.zero_add]; exact H5.cell (i := 0) rfl hv⟩) ?_
  exact ⟨rfl, H5.base⟩

set_option maxRecDepth 100000 in
theorem swAt (x y : Nat)  (w : World)   :
    Ret Try.prog 81 [.int .i64 (x : Int), .int .i64 (y : Int)] w (fun v w' => v = .agg #[.int .i64 ((y : Nat) : Int), .int .i64 ((x : Nat) : Int)] ∧ Below w.heap.size w w') := by
  refine ret_enter Try.func81 rfl rfl rfl ?_
  have H0 := HS.start w
  refine cw_seq ?_
  refine cw_reg ?_
  refine reg_op (op_alloc H0 rfl kfturn1_5) rfl rfl ?_
  rintro _ w2 ⟨b1, rfl, H3⟩
  refine reg_nil ?_
  refine fn_next ?_
  refine cw_seq ?_
  refine cw_reg ?_
  refine ry (y_mov rfl rfl) rfl rfl ?_
  refine ry (y_mov rfl rfl) rfl rfl ?_
  refine ry (y_build (places := [(0, 1), (1, 1)]) (parts := [(0, _), (1, _)]) (vs := [(0, _), (1, _)]) (cs := [.int _ _, .int _ _]) rfl Try.underlying46 (by kernel_rfl) kfturn1_5 rfl ⟨rfl, rfl, trivial⟩ rfl) rfl rfl ?_
  refine reg_op (op_st (i := 0) (vs := [.int _ _, .int _ _]) H3 rfl rfl rfl rfl rfl kfturn1_7 rfl rfl rfl) rfl rfl ?_
  rintro _ w4 H5
  refine reg_nil ?_
  refine fn_next ?_
  refine cw_ret ?_
  refine fn_ret1 rfl (⟨_, rfl, load_agg (cs := [_, _]) kfturn1_8 rfl fun j v hv => by rw [Nat.zero_add]; exact H5.cell (i := 0) rfl hv⟩) ?_
  exact ⟨rfl, H5.base⟩

set_option maxRecDepth 100000 in
theorem gQuarter0 (g a h : Nat) (V : List Int) (n : Int) (w : World) (R : GRd w g a h V) (hn : n % 4 = 0) :
    Ret Try.prog 39 [.pointer (some ⟨g, 0, none⟩), .int .i64 n] w (fun z w' => ∃ g' bl, z = .tuple #[.pointer (some ⟨g', 0, none⟩), .int .i64 0] ∧ HS w w' [gOb g' a h (V) bl]) := by
  have hgv := R.gv
  have z1 := hgv.a1; have z2 := hgv.a2; have z3 := hgv.h1; have z4 := hgv.h2
  refine ret_enter Try.func39 rfl rfl rfl ?_
  have H0 := HS.start w
  refine cw_seq ?_
  refine cw_reg ?_
  refine ry (y_asg rfl rfl) rfl rfl ?_
  refine ry (y_asg rfl rfl) rfl rfl ?_
  refine reg_nil ?_
  refine fn_next ?_
  refine cw_seq ?_
  refine cw_seq ?_
  refine cw_reg ?_
  refine ry (y_mov rfl rfl) rfl rfl ?_
  refine ry (y_peqlnil rfl Try.underlying28 rfl rfl) rfl rfl ?_
  refine reg_nil ?_
  refine fn_next ?_
  refine cw_condf rfl ?_
  refine cw_skip ?_
  refine fn_next ?_
  refine cw_seq ?_
  refine cw_reg ?_
  refine ry (y_mov rfl rfl) rfl rfl ?_
  refine reg_op (op_call (gSize g a h (V)  _ (R.below H0.base)) rfl kfturn1_9 ⟨rfl, trivial⟩) rfl rfl ?_
  rintro _ w2 ⟨rfl, e1⟩
  have H3 := H0.ext e1
  refine ry (y_mov rfl rfl) rfl rfl ?_
  refine ry (y_ext rfl rfl rfl) rfl rfl ?_
  refine ry (y_ext rfl rfl rfl) rfl rfl ?_
  refine reg_op (op_alloc H3 rfl kfturn1_10) rfl rfl ?_
  rintro _ w5 ⟨b4, rfl, H6⟩
  refine reg_op (op_alloc H6 rfl kfturn1_10) rfl rfl ?_
  rintro _ w8 ⟨b7, rfl, H9⟩
  refine reg_op (op_st (i := 1) (vs := [.int _ _]) H9 rfl rfl rfl rfl rfl kfturn1_11 rfl rfl rfl) rfl rfl ?_
  rintro _ w10 H11
  refine reg_op (op_st (i := 0) (vs := [.int _ _]) H11 rfl rfl rfl rfl rfl kfturn1_11 rfl rfl rfl) rfl rfl ?_
  rintro _ w12 H13
  refine reg_nil ?_
  refine fn_next ?_
  refine cw_seq ?_
  refine cw_seq ?_
  refine cw_reg ?_
  refine ry (y_mov rfl rfl) rfl rfl ?_
  refine ry (y_and rfl rfl rfl (and3 n)) rfl rfl ?_
  refine reg_nil ?_
  refine fn_next ?_
  refine cw_block ?_
  refine cw_seq ?_
  refine cw_reg ?_
  refine ry (y_eql rfl rfl rfl) rfl rfl ?_
  refine ry (y_asg rfl rfl) rfl rfl ?_
  refine reg_nil ?_
  refine fn_next ?_
  refine cw_condd rfl (fun h14 => ?_) (fun h14 => ?_)
  · exfalso; omega
  · skip
    refine cw_seq ?_
    refine cw_reg ?_
    refine ry (y_eql rfl rfl rfl) rfl rfl ?_
    refine ry (y_asg rfl rfl) rfl rfl ?_
    refine reg_nil ?_
    refine fn_next ?_
    refine cw_condd rfl (fun h15 => ?_) (fun h15 => ?_)
    · exfalso; omega
    · skip
      refine cw_seq ?_
      refine cw_reg ?_
      refine ry (y_eql rfl rfl rfl) rfl rfl ?_
      refine ry (y_asg rfl rfl) rfl rfl ?_
      refine reg_nil ?_
      refine fn_next ?_
      refine cw_condd rfl (fun h16 => ?_) (fun h16 => ?_)
      · exfalso; omega
      · skip
        refine cw_skip ?_
        refine fn_block ?_
        refine fn_next ?_
        refine cw_seq ?_
        refine cw_reg ?_
        refine ry (y_mov rfl rfl) rfl rfl ?_
        refine reg_op (op_call (gCopy g a h (V) _ (R.below H13.base)) rfl kfturn1_12 ⟨rfl, trivial⟩) rfl rfl ?_
        rintro _ w18 ⟨g20, bl21, rfl, k17⟩
        have H19 := H13.call k17
        refine ry (y_asg rfl rfl) rfl rfl ?_
        refine ry (y_asg rfl rfl) rfl rfl ?_
        refine reg_nil ?_
        refine fn_next ?_
        refine cw_ret ?_
        refine fn_retn (vs := [_, _]) rfl ⟨rfl, rfl, trivial⟩ rfl ?_
        exact ⟨_, _, rfl, (H19.pick (m := [_]) [0] rfl (by decide))⟩

set_option maxRecDepth 100000 in
theorem gQuarter1 (g a h : Nat) (V : List Int) (n : Int) (w : World) (R : GRd w g a h V) (hn : n % 4 = 1) :
    Ret Try.prog 39 [.pointer (some ⟨g, 0, none⟩), .int .i64 n] w (fun z w' => ∃ g' bl, z = .tuple #[.pointer (some ⟨g', 0, none⟩), .int .i64 0] ∧ HS w w' [gOb g' h a (q1V V a h) bl]) := by
  have hgv := R.gv
  have z1 := hgv.a1; have z2 := hgv.a2; have z3 := hgv.h1; have z4 := hgv.h2
  refine ret_enter Try.func39 rfl rfl rfl ?_
  have H0 := HS.start w
  refine cw_seq ?_
  refine cw_reg ?_
  refine ry (y_asg rfl rfl) rfl rfl ?_
  refine ry (y_asg rfl rfl) rfl rfl ?_
  refine reg_nil ?_
  refine fn_next ?_
  refine cw_seq ?_
  refine cw_seq ?_
  refine cw_reg ?_
  refine ry (y_mov rfl rfl) rfl rfl ?_
  refine ry (y_peqlnil rfl Try.underlying28 rfl rfl) rfl rfl ?_
  refine reg_nil ?_
  refine fn_next ?_
  refine cw_condf rfl ?_
  refine cw_skip ?_
  refine fn_next ?_
  refine cw_seq ?_
  refine cw_reg ?_
  refine ry (y_mov rfl rfl) rfl rfl ?_
  refine reg_op (op_call (gSize g a h (V)  _ (R.below H0.base)) rfl kfturn1_9 ⟨rfl, trivial⟩) rfl rfl ?_
  rintro _ w2 ⟨rfl, e1⟩
  have H3 := H0.ext e1
  refine ry (y_mov rfl rfl) rfl rfl ?_
  refine ry (y_ext rfl rfl rfl) rfl rfl ?_
  refine ry (y_ext rfl rfl rfl) rfl rfl ?_
  refine reg_op (op_alloc H3 rfl kfturn1_10) rfl rfl ?_
  rintro _ w5 ⟨b4, rfl, H6⟩
  refine reg_op (op_alloc H6 rfl kfturn1_10) rfl rfl ?_
  rintro _ w8 ⟨b7, rfl, H9⟩
  refine reg_op (op_st (i := 1) (vs := [.int _ _]) H9 rfl rfl rfl rfl rfl kfturn1_11 rfl rfl rfl) rfl rfl ?_
  rintro _ w10 H11
  refine reg_op (op_st (i := 0) (vs := [.int _ _]) H11 rfl rfl rfl rfl rfl kfturn1_11 rfl rfl rfl) rfl rfl ?_
  rintro _ w12 H13
  refine reg_nil ?_
  refine fn_next ?_
  refine cw_seq ?_
  refine cw_seq ?_
  refine cw_reg ?_
  refine ry (y_mov rfl rfl) rfl rfl ?_
  refine ry (y_and rfl rfl rfl (and3 n)) rfl rfl ?_
  refine reg_nil ?_
  refine fn_next ?_
  refine cw_block ?_
  refine cw_seq ?_
  refine cw_reg ?_
  refine ry (y_eql rfl rfl rfl) rfl rfl ?_
  refine ry (y_asg rfl rfl) rfl rfl ?_
  refine reg_nil ?_
  refine fn_next ?_
  refine cw_condd rfl (fun h14 => ?_) (fun h14 => ?_)
  · skip
    refine cw_seq ?_
    refine cw_reg ?_
    refine ry (y_mov rfl rfl) rfl rfl ?_
    refine ry (y_ld rfl rfl kfturn1_6 (H13.cell (i := 0) rfl rfl)) rfl rfl ?_
    refine ry (y_ld rfl rfl kfturn1_6 (H13.cell (i := 1) rfl rfl)) rfl rfl ?_
    refine ry (y_mkf (first := []) (caps := [_]) (fs := []) (cs := [_]) rfl trivial ⟨rfl, trivial⟩) rfl rfl ?_
    refine reg_op (op_call (made_any g a h (V) h a 76 [.pointer (some ⟨b7, 0, none⟩)] (fun _ y => y) (fun x _ => h - 1 - x) _ (R.below H13.base) kfturn1_13 (fun x y Z hx hy hZ => q1At x y h b7 Z hx z4 ((H13.rdb (i := 0) rfl).below hZ)) (by first | exact R.gv.sz | exact ⟨z3, z4, z1, z2⟩ | assumption) inn_q1) rfl kfturn1_14 ⟨rfl, rfl, rfl, rfl, trivial⟩) rfl rfl ?_
    rintro _ w16 ⟨g18, bl19, rfl, k15⟩
    have H17 := H13.call k15
    refine ry (y_ext rfl rfl rfl) rfl rfl ?_
    refine ry (y_ext rfl rfl rfl) rfl rfl ?_
    refine ry (y_asg rfl rfl) rfl rfl ?_
    refine ry (y_asg rfl rfl) rfl rfl ?_
    refine reg_nil ?_
    refine fn_next ?_
    refine cw_ret ?_
    refine fn_block_ret (fn_then_ret ?_)
    refine fn_retn (vs := [_, _]) rfl ⟨rfl, rfl, trivial⟩ rfl ?_
    exact ⟨_, _, rfl, (H17.pick (m := [_]) [0] rfl (by decide))⟩
  · exfalso; omega

set_option maxRecDepth 100000 in
theorem gQuarter2 (g a h : Nat) (V : List Int) (n : Int) (w : World) (R : GRd w g a h V) (hn : n % 4 = 2) :
    Ret Try.prog 39 [.pointer (some ⟨g, 0, none⟩), .int .i64 n] w (fun z w' => ∃ g' bl, z = .tuple #[.pointer (some ⟨g', 0, none⟩), .int .i64 0] ∧ HS w w' [gOb g' a h (q2V V a h) bl]) := by
  have hgv := R.gv
  have z1 := hgv.a1; have z2 := hgv.a2; have z3 := hgv.h1; have z4 := hgv.h2
  refine ret_enter Try.func39 rfl rfl rfl ?_
  have H0 := HS.start w
  refine cw_seq ?_
  refine cw_reg ?_
  refine ry (y_asg rfl rfl) rfl rfl ?_
  refine ry (y_asg rfl rfl) rfl rfl ?_
  refine reg_nil ?_
  refine fn_next ?_
  refine cw_seq ?_
  refine cw_seq ?_
  refine cw_reg ?_
  refine ry (y_mov rfl rfl) rfl rfl ?_
  refine ry (y_peqlnil rfl Try.underlying28 rfl rfl) rfl rfl ?_
  refine reg_nil ?_
  refine fn_next ?_
  refine cw_condf rfl ?_
  refine cw_skip ?_
  refine fn_next ?_
  refine cw_seq ?_
  refine cw_reg ?_
  refine ry (y_mov rfl rfl) rfl rfl ?_
  refine reg_op (op_call (gSize g a h (V)  _ (R.below H0.base)) rfl kfturn1_9 ⟨rfl, trivial⟩) rfl rfl ?_
  rintro _ w2 ⟨rfl, e1⟩
  have H3 := H0.ext e1
  refine ry (y_mov rfl rfl) rfl rfl ?_
  refine ry (y_ext rfl rfl rfl) rfl rfl ?_
  refine ry (y_ext rfl rfl rfl) rfl rfl ?_
  refine reg_op (op_alloc H3 rfl kfturn1_10) rfl rfl ?_
  rintro _ w5 ⟨b4, rfl, H6⟩
  refine reg_op (op_alloc H6 rfl kfturn1_10) rfl rfl ?_
  rintro _ w8 ⟨b7, rfl, H9⟩
  refine reg_op (op_st (i := 1) (vs := [.int _ _]) H9 rfl rfl rfl rfl rfl kfturn1_11 rfl rfl rfl) rfl rfl ?_
  rintro _ w10 H11
  refine reg_op (op_st (i := 0) (vs := [.int _ _]) H11 rfl rfl rfl rfl rfl kfturn1_11 rfl rfl rfl) rfl rfl ?_
  rintro _ w12 H13
  refine reg_nil ?_
  refine fn_next ?_
  refine cw_seq ?_
  refine cw_seq ?_
  refine cw_reg ?_
  refine ry (y_mov rfl rfl) rfl rfl ?_
  refine ry (y_and rfl rfl rfl (and3 n)) rfl rfl ?_
  refine reg_nil ?_
  refine fn_next ?_
  refine cw_block ?_
  refine cw_seq ?_
  refine cw_reg ?_
  refine ry (y_eql rfl rfl rfl) rfl rfl ?_
  refine ry (y_asg rfl rfl) rfl rfl ?_
  refine reg_nil ?_
  refine fn_next ?_
  refine cw_condd rfl (fun h14 => ?_) (fun h14 => ?_)
  · exfalso; omega
  · skip
    refine cw_seq ?_
    refine cw_reg ?_
    refine ry (y_eql rfl rfl rfl) rfl rfl ?_
    refine ry (y_asg rfl rfl) rfl rfl ?_
    refine reg_nil ?_
    refine fn_next ?_
    refine cw_condd rfl (fun h15 => ?_) (fun h15 => ?_)
    · skip
      refine cw_seq ?_
      refine cw_reg ?_
      refine ry (y_mov rfl rfl) rfl rfl ?_
      refine ry (y_ld rfl rfl kfturn1_6 (H13.cell (i := 1) rfl rfl)) rfl rfl ?_
      refine ry (y_ld rfl rfl kfturn1_6 (H13.cell (i := 0) rfl rfl)) rfl rfl ?_
      refine ry (y_mkf (first := []) (caps := [_, _]) (fs := []) (cs := [_, _]) rfl trivial ⟨rfl, rfl, trivial⟩) rfl rfl ?_
      refine reg_op (op_call (made_any g a h (V) a h 77 [.pointer (some ⟨b4, 0, none⟩), .pointer (some ⟨b7, 0, none⟩)] (fun x _ => a - 1 - x) (fun _ y => h - 1 - y) _ (R.below H13.base) kfturn1_15 (fun x y Z hx hy hZ => q2At x y a b4 h b7 Z hx z2 hy z4 ((H13.rdb (i := 1) rfl).below hZ) ((H13.rdb (i := 0) rfl).below hZ)) (by first | exact R.gv.sz | exact ⟨z3, z4, z1, z2⟩ | assumption) inn_q2) rfl kfturn1_14 ⟨rfl, rfl, rfl, rfl, trivial⟩) rfl rfl ?_
      rintro _ w17 ⟨g19, bl20, rfl, k16⟩
      have H18 := H13.call k16
      refine ry (y_ext rfl rfl rfl) rfl rfl ?_
      refine ry (y_ext rfl rfl rfl) rfl rfl ?_
      refine ry (y_asg rfl rfl) rfl rfl ?_
      refine ry (y_asg rfl rfl) rfl rfl ?_
      refine reg_nil ?_
      refine fn_next ?_
      refine cw_ret ?_
      refine fn_block_ret (fn_then_ret ?_)
      refine fn_retn (vs := [_, _]) rfl ⟨rfl, rfl, trivial⟩ rfl ?_
      exact ⟨_, _, rfl, (H18.pick (m := [_]) [0] rfl (by decide))⟩
    · exfalso; omega

set_option maxRecDepth 100000 in
theorem gQuarter3 (g a h : Nat) (V : List Int) (n : Int) (w : World) (R : GRd w g a h V) (hn : n % 4 = 3) :
    Ret Try.prog 39 [.pointer (some ⟨g, 0, none⟩), .int .i64 n] w (fun z w' => ∃ g' bl, z = .tuple #[.pointer (some ⟨g', 0, none⟩), .int .i64 0] ∧ HS w w' [gOb g' h a (q3V V a h) bl]) := by
  have hgv := R.gv
  have z1 := hgv.a1; have z2 := hgv.a2; have z3 := hgv.h1; have z4 := hgv.h2
  refine ret_enter Try.func39 rfl rfl rfl ?_
  have H0 := HS.start w
  refine cw_seq ?_
  refine cw_reg ?_
  refine ry (y_asg rfl rfl) rfl rfl ?_
  refine ry (y_asg rfl rfl) rfl rfl ?_
  refine reg_nil ?_
  refine fn_next ?_
  refine cw_seq ?_
  refine cw_seq ?_
  refine cw_reg ?_
  refine ry (y_mov rfl rfl) rfl rfl ?_
  refine ry (y_peqlnil rfl Try.underlying28 rfl rfl) rfl rfl ?_
  refine reg_nil ?_
  refine fn_next ?_
  refine cw_condf rfl ?_
  refine cw_skip ?_
  refine fn_next ?_
  refine cw_seq ?_
  refine cw_reg ?_
  refine ry (y_mov rfl rfl) rfl rfl ?_
  refine reg_op (op_call (gSize g a h (V)  _ (R.below H0.base)) rfl kfturn1_9 ⟨rfl, trivial⟩) rfl rfl ?_
  rintro _ w2 ⟨rfl, e1⟩
  have H3 := H0.ext e1
  refine ry (y_mov rfl rfl) rfl rfl ?_
  refine ry (y_ext rfl rfl rfl) rfl rfl ?_
  refine ry (y_ext rfl rfl rfl) rfl rfl ?_
  refine reg_op (op_alloc H3 rfl kfturn1_10) rfl rfl ?_
  rintro _ w5 ⟨b4, rfl, H6⟩
  refine reg_op (op_alloc H6 rfl kfturn1_10) rfl rfl ?_
  rintro _ w8 ⟨b7, rfl, H9⟩
  refine reg_op (op_st (i := 1) (vs := [.int _ _]) H9 rfl rfl rfl rfl rfl kfturn1_11 rfl rfl rfl) rfl rfl ?_
  rintro _ w10 H11
  refine reg_op (op_st (i := 0) (vs := [.int _ _]) H11 rfl rfl rfl rfl rfl kfturn1_11 rfl rfl rfl) rfl rfl ?_
  rintro _ w12 H13
  refine reg_nil ?_
  refine fn_next ?_
  refine cw_seq ?_
  refine cw_seq ?_
  refine cw_reg ?_
  refine ry (y_mov rfl rfl) rfl rfl ?_
  refine ry (y_and rfl rfl rfl (and3 n)) rfl rfl ?_
  refine reg_nil ?_
  refine fn_next ?_
  refine cw_block ?_
  refine cw_seq ?_
  refine cw_reg ?_
  refine ry (y_eql rfl rfl rfl) rfl rfl ?_
  refine ry (y_asg rfl rfl) rfl rfl ?_
  refine reg_nil ?_
  refine fn_next ?_
  refine cw_condd rfl (fun h14 => ?_) (fun h14 => ?_)
  · exfalso; omega
  · skip
    refine cw_seq ?_
    refine cw_reg ?_
    refine ry (y_eql rfl rfl rfl) rfl rfl ?_
    refine ry (y_asg rfl rfl) rfl rfl ?_
    refine reg_nil ?_
    refine fn_next ?_
    refine cw_condd rfl (fun h15 => ?_) (fun h15 => ?_)
    · exfalso; omega
    · skip
      refine cw_seq ?_
      refine cw_reg ?_
      refine ry (y_eql rfl rfl rfl) rfl rfl ?_
      refine ry (y_asg rfl rfl) rfl rfl ?_
      refine reg_nil ?_
      refine fn_next ?_
      refine cw_condd rfl (fun h16 => ?_) (fun h16 => ?_)
      · skip
        refine cw_seq ?_
        refine cw_reg ?_
        refine ry (y_mov rfl rfl) rfl rfl ?_
        refine ry (y_ld rfl rfl kfturn1_6 (H13.cell (i := 0) rfl rfl)) rfl rfl ?_
        refine ry (y_ld rfl rfl kfturn1_6 (H13.cell (i := 1) rfl rfl)) rfl rfl ?_
        refine ry (y_mkf (first := []) (caps := [_]) (fs := []) (cs := [_]) rfl trivial ⟨rfl, trivial⟩) rfl rfl ?_
        refine reg_op (op_call (made_any g a h (V) h a 78 [.pointer (some ⟨b4, 0, none⟩)] (fun _ y => a - 1 - y) (fun x _ => x) _ (R.below H13.base) kfturn1_16 (fun x y Z hx hy hZ => q3At x y a b4 Z hy z2 ((H13.rdb (i := 1) rfl).below hZ)) (by first | exact R.gv.sz | exact ⟨z3, z4, z1, z2⟩ | assumption) inn_q3) rfl kfturn1_14 ⟨rfl, rfl, rfl, rfl, trivial⟩) rfl rfl ?_
        rintro _ w18 ⟨g20, bl21, rfl, k17⟩
        have H19 := H13.call k17
        refine ry (y_ext rfl rfl rfl) rfl rfl ?_
        refine ry (y_ext rfl rfl rfl) rfl rfl ?_
        refine ry (y_asg rfl rfl) rfl rfl ?_
        refine ry (y_asg rfl rfl) rfl rfl ?_
        refine reg_nil ?_
        refine fn_next ?_
        refine cw_ret ?_
        refine fn_block_ret (fn_then_ret ?_)
        refine fn_retn (vs := [_, _]) rfl ⟨rfl, rfl, trivial⟩ rfl ?_
        exact ⟨_, _, rfl, (H19.pick (m := [_]) [0] rfl (by decide))⟩
      · exfalso; omega

set_option maxRecDepth 100000 in
theorem gMirror (g a h : Nat) (V : List Int) (w : World) (R : GRd w g a h V) :
    Ret Try.prog 40 [.pointer (some ⟨g, 0, none⟩)] w (fun z w' => ∃ g' bl, z = .tuple #[.pointer (some ⟨g', 0, none⟩), .int .i64 0] ∧ HS w w' [gOb g' a h (miV V a h) bl]) := by
  have hgv := R.gv
  have z1 := hgv.a1; have z2 := hgv.a2; have z3 := hgv.h1; have z4 := hgv.h2
  refine ret_enter Try.func40 rfl rfl rfl ?_
  have H0 := HS.start w
  refine cw_seq ?_
  refine cw_reg ?_
  refine ry (y_asg rfl rfl) rfl rfl ?_
  refine ry (y_asg rfl rfl) rfl rfl ?_
  refine reg_nil ?_
  refine fn_next ?_
  refine cw_seq ?_
  refine cw_seq ?_
  refine cw_reg ?_
  refine ry (y_mov rfl rfl) rfl rfl ?_
  refine ry (y_peqlnil rfl Try.underlying28 rfl rfl) rfl rfl ?_
  refine reg_nil ?_
  refine fn_next ?_
  refine cw_condf rfl ?_
  refine cw_skip ?_
  refine fn_next ?_
  refine cw_seq ?_
  refine cw_reg ?_
  refine ry (y_mov rfl rfl) rfl rfl ?_
  refine reg_op (op_call (gSize g a h (V)  _ (R.below H0.base)) rfl kfturn1_9 ⟨rfl, trivial⟩) rfl rfl ?_
  rintro _ w2 ⟨rfl, e1⟩
  have H3 := H0.ext e1
  refine ry (y_mov rfl rfl) rfl rfl ?_
  refine ry (y_ext rfl rfl rfl) rfl rfl ?_
  refine ry (y_ext rfl rfl rfl) rfl rfl ?_
  refine reg_op (op_alloc H3 rfl kfturn1_10) rfl rfl ?_
  rintro _ w5 ⟨b4, rfl, H6⟩
  refine reg_op (op_st (i := 0) (vs := [.int _ _]) H6 rfl rfl rfl rfl rfl kfturn1_11 rfl rfl rfl) rfl rfl ?_
  rintro _ w7 H8
  refine ry (y_asg rfl rfl) rfl rfl ?_
  refine reg_nil ?_
  refine fn_next ?_
  refine cw_seq ?_
  refine cw_reg ?_
  refine ry (y_mov rfl rfl) rfl rfl ?_
  refine ry (y_ld rfl rfl kfturn1_6 (H8.cell (i := 0) rfl rfl)) rfl rfl ?_
  refine ry (y_mov rfl rfl) rfl rfl ?_
  refine ry (y_mkf (first := []) (caps := [_]) (fs := []) (cs := [_]) rfl trivial ⟨rfl, trivial⟩) rfl rfl ?_
  refine reg_op (op_call (made_any g a h (V) a h 80 [.pointer (some ⟨b4, 0, none⟩)] (fun x _ => a - 1 - x) (fun _ y => y) _ (R.below H8.base) kfturn1_17 (fun x y Z hx hy hZ => miAt x y a b4 Z hx z2 ((H8.rdb (i := 0) rfl).below hZ)) (by first | exact R.gv.sz | exact ⟨z3, z4, z1, z2⟩ | assumption) inn_mi) rfl kfturn1_14 ⟨rfl, rfl, rfl, rfl, trivial⟩) rfl rfl ?_
  rintro _ w10 ⟨g12, bl13, rfl, k9⟩
  have H11 := H8.call k9
  refine ry (y_ext rfl rfl rfl) rfl rfl ?_
  refine ry (y_ext rfl rfl rfl) rfl rfl ?_
  refine ry (y_asg rfl rfl) rfl rfl ?_
  refine ry (y_asg rfl rfl) rfl rfl ?_
  refine reg_nil ?_
  refine fn_next ?_
  refine cw_ret ?_
  refine fn_retn (vs := [_, _]) rfl ⟨rfl, rfl, trivial⟩ rfl ?_
  exact ⟨_, _, rfl, (H11.pick (m := [_]) [0] rfl (by decide))⟩

set_option maxRecDepth 100000 in
theorem gSwap (g a h : Nat) (V : List Int) (w : World) (R : GRd w g a h V) :
    Ret Try.prog 41 [.pointer (some ⟨g, 0, none⟩)] w (fun z w' => ∃ g' bl, z = .tuple #[.pointer (some ⟨g', 0, none⟩), .int .i64 0] ∧ HS w w' [gOb g' h a (swV V a h) bl]) := by
  have hgv := R.gv
  have z1 := hgv.a1; have z2 := hgv.a2; have z3 := hgv.h1; have z4 := hgv.h2
  refine ret_enter Try.func41 rfl rfl rfl ?_
  have H0 := HS.start w
  refine cw_seq ?_
  refine cw_reg ?_
  refine ry (y_asg rfl rfl) rfl rfl ?_
  refine ry (y_asg rfl rfl) rfl rfl ?_
  refine reg_nil ?_
  refine fn_next ?_
  refine cw_seq ?_
  refine cw_seq ?_
  refine cw_reg ?_
  refine ry (y_mov rfl rfl) rfl rfl ?_
  refine ry (y_peqlnil rfl Try.underlying28 rfl rfl) rfl rfl ?_
  refine reg_nil ?_
  refine fn_next ?_
  refine cw_condf rfl ?_
  refine cw_skip ?_
  refine fn_next ?_
  refine cw_seq ?_
  refine cw_reg ?_
  refine ry (y_mov rfl rfl) rfl rfl ?_
  refine reg_op (op_call (gSize g a h (V)  _ (R.below H0.base)) rfl kfturn1_9 ⟨rfl, trivial⟩) rfl rfl ?_
  rintro _ w2 ⟨rfl, e1⟩
  have H3 := H0.ext e1
  refine ry (y_mov rfl rfl) rfl rfl ?_
  refine ry (y_ext rfl rfl rfl) rfl rfl ?_
  refine ry (y_ext rfl rfl rfl) rfl rfl ?_
  refine ry (y_asg rfl rfl) rfl rfl ?_
  refine ry (y_asg rfl rfl) rfl rfl ?_
  refine reg_nil ?_
  refine fn_next ?_
  refine cw_seq ?_
  refine cw_reg ?_
  refine ry (y_mov rfl rfl) rfl rfl ?_
  refine ry (y_mov rfl rfl) rfl rfl ?_
  refine ry (y_mov rfl rfl) rfl rfl ?_
  refine reg_op (op_call (made_any g a h (V) h a 81 [] (fun _ y => y) (fun x _ => x) _ (R.below H3.base) kfturn1_18 (fun x y Z hx hy hZ => swAt x y Z) (by first | exact R.gv.sz | exact ⟨z3, z4, z1, z2⟩ | assumption) inn_sw) rfl kfturn1_14 ⟨rfl, rfl, rfl, rfl, trivial⟩) rfl rfl ?_
  rintro _ w5 ⟨g7, bl8, rfl, k4⟩
  have H6 := H3.call k4
  refine ry (y_ext rfl rfl rfl) rfl rfl ?_
  refine ry (y_ext rfl rfl rfl) rfl rfl ?_
  refine ry (y_asg rfl rfl) rfl rfl ?_
  refine ry (y_asg rfl rfl) rfl rfl ?_
  refine reg_nil ?_
  refine fn_next ?_
  refine cw_ret ?_
  refine fn_retn (vs := [_, _]) rfl ⟨rfl, rfl, trivial⟩ rfl ?_
  exact ⟨_, _, rfl, (H6.pick (m := [_]) [0] rfl (by decide))⟩

end Go.Proofs.Ytbhmkpnihgjlnaa
