/- Texts as one: Leb0, Runs0, RunsP, Plain5. -/
import Derived.Test.YtbnjbgcadkdljaaGreatDoorML
set_option linter.unusedVariables false
set_option linter.unusedSimpArgs false
namespace Go.Proofs.YtbnjbgcadkdljaaGreatDoor
open Go Go.RowKit
theorem kfleb0_1 : (Tryz.prog.info? 5).map (fun i => (i.size, i.zero.map Value.cells)) = some (1, some (List.toArray [(.int .u8 0)])) := by kernel_rfl
theorem kfleb0_2 : (Tryz.prog.info? 5).map (fun i => (i.zero.map (·.cells.toList), i.size, i.bytes)) = some (some [(.int .u8 0)], 1, 1) := by kernel_rfl
theorem kfleb0_3 : elB Tryz.prog 22 1 = true := by kernel_rfl
theorem kfleb0_4 : callB Tryz.prog 54 = true := by kernel_rfl
theorem kfleb0_5 : callB Tryz.prog 112 = true := by kernel_rfl
/-- a number's bytes, seven bits in each -/
def lebL : Nat → Int → List Int
  | 0, u => [u]
  | k + 1, u => if u < 128 then [u] else (u % 128 + 128) :: lebL k (u / 128)
def lebD (u : Int) : List Int := lebL 9 u
theorem lebL_end {f : Nat} {v : Int} (h : v < 128) : lebL f v = [v] := by cases f with | zero => rfl | succ f => rw [lebL, if_pos h]
theorem lebL_more {f : Nat} {v : Int} (h : ¬ v < 128) : lebL (f + 1) v = (v % 128 + 128) :: lebL f (v / 128) := by rw [lebL, if_neg h]
theorem lebL_len : ∀ (f : Nat) (v : Int), 1 ≤ (lebL f v).length ∧ (lebL f v).length ≤ f + 1
  | 0, _ => ⟨Nat.le_refl _, Nat.le_refl _⟩
  | f + 1, v => by
    rw [lebL]
    split
    · exact ⟨Nat.le_refl _, by simp⟩
    · have := lebL_len f (v / 128); simp only [List.length_cons]; omega
theorem or128' : ∀ n : _root_.Fin 256, IntKind.u8.wrap (BitVec.ofInt IntKind.u8.bits (n.1 : Int) ||| BitVec.ofInt IntKind.u8.bits 128).toNat = ((n.1 % 128 + 128 : Nat) : Int) := by decide +kernel
theorem or128 {v : Int} (h : 0 ≤ v) : IntKind.u8.wrap (BitVec.ofInt IntKind.u8.bits (v % 256) ||| BitVec.ofInt IntKind.u8.bits 128).toNat = v % 128 + 128 := by
  have := or128' ⟨(v % 256).toNat, by omega⟩
  simp only at this
  rw [show (((v % 256).toNat : Nat) : Int) = v % 256 by omega] at this
  rw [this]; omega
theorem fuel_pos {f : Nat} {v : Int} (h : v < 2 * 128 ^ f) (hv : ¬ v < 128) : ∃ g, f = g + 1 ∧ v / 128 < 2 * 128 ^ g := by
  cases f with
  | zero => simp at h; omega
  | succ g => exact ⟨g, rfl, by rw [Int.pow_succ] at h; omega⟩

set_option maxRecDepth 100000 in
theorem CloneB (A : Option Addr) (n cap : Nat) (xs : List Value) (w : World) (h : Rd w A xs) (hl : xs.length = n * 1) (h1 : xs.all Value.oneCell' = true) (hn : n ≤ 70000000000000) :
    Ret Tryz.prog 54 [.slice A n cap] w (fun v w' => ∃ A' cap', v = .slice A' n cap' ∧ HS w w' [.row A' n cap' xs 5 1]) := by
 refine ret_enter Tryz.func54 rfl rfl rfl ?_
 have H0 := HS.start w
 refine cw_seq ?_
 refine cw_reg ?_
 refine ry (y_asg rfl rfl) rfl rfl ?_
 refine reg_nil ?_
 refine fn_next ?_
 refine cw_seq ?_
 refine cw_seq ?_
 refine cw_reg ?_
 refine ry (y_mov rfl rfl) rfl rfl ?_
 refine ry (y_eqlnil rfl Tryz.underlying22 rfl rfl) rfl rfl ?_
 refine reg_nil ?_
 refine fn_next ?_
 refine cw_cond rfl (fun hA => ?_) (fun hA => ?_)
 ·skip
  obtain rfl := Option.isNone_iff_eq_none.1 hA
  obtain ⟨hz, hn⟩ := rd_zero h hl (by decide) rfl
  subst hz; subst hn
  refine cw_seq ?_
  refine cw_reg ?_
  refine ry (y_asg rfl rfl) rfl rfl ?_
  refine reg_nil ?_
  refine fn_next ?_
  refine cw_ret ?_
  refine fn_then_ret ?_
  refine fn_ret1 rfl rfl ?_
  exact ⟨none, 0, rfl, H0.nilrow _ _⟩
 ·skip
  refine cw_skip ?_
  refine fn_next ?_
  refine cw_seq ?_
  refine cw_reg ?_
  refine reg_op (op_lit (parts := []) (vs := []) (cs := []) H0 rfl Tryz.underlying22 kfleb0_1 rfl trivial rfl rfl) rfl rfl ?_
  rintro _ w3 ⟨b2, rfl, H4⟩
  have H5 := H4.asrow (m := 0) (size := 1) rfl (by decide)
  refine ry (y_mov rfl rfl) rfl rfl ?_
  refine reg_op (op_app (i := 0) (k := 0) (m := n) (ys := xs) (size := 1) H5 rfl rfl rfl rfl (h.below H5.base) (hl) (h1) Tryz.underlying22 kfleb0_2 rfl rfl (by unfold maxLen; omega) (by omega)) rfl rfl ?_
  rintro _ w8 ⟨A6, c7, rfl, H9⟩
  refine ry (y_asg rfl rfl) rfl rfl ?_
  refine reg_nil ?_
  refine fn_next ?_
  refine cw_ret ?_
  refine fn_ret1 rfl rfl ?_
  simp only [Nat.zero_add, List.nil_append] at *
  exact ⟨_, _, rfl, H9⟩

set_option maxRecDepth 100000 in
theorem ClipB (A : Option Addr) (n cap : Nat) (w : World) (h : n ≤ cap) :
    Ret Tryz.prog 112 [.slice A n cap] w (fun v w' => v = .slice A n n ∧ Below w.heap.size w w') := by
 refine ret_enter Tryz.func112 rfl rfl rfl ?_
 have H0 := HS.start w
 refine cw_seq ?_
 refine cw_reg ?_
 refine ry (y_asg rfl rfl) rfl rfl ?_
 refine reg_nil ?_
 refine fn_next ?_
 refine cw_seq ?_
 refine cw_reg ?_
 refine ry (y_mov rfl rfl) rfl rfl ?_
 refine ry (y_mov rfl rfl) rfl rfl ?_
 refine ry (y_len rfl Tryz.underlying22 rfl) rfl rfl ?_
 refine ry (y_mov rfl rfl) rfl rfl ?_
 refine ry (y_len rfl Tryz.underlying22 rfl) rfl rfl ?_
 refine ry (y_shm rfl rfl rfl rfl kfleb0_3 (rfl) (rfl) (by omega) (by omega)) rfl rfl ?_
 refine ry (y_asg rfl rfl) rfl rfl ?_
 refine reg_nil ?_
 refine fn_next ?_
 refine cw_ret ?_
 refine fn_ret1 rfl rfl ?_
 rw [subA_zero]
 exact ⟨rfl, H0.base⟩

set_option maxRecDepth 100000 in
theorem lebPut (A : Option Addr) (m cap : Nat) (zs : List Int) (u : Int) (w : World) (h : Rd w A (vi .u8 zs)) (hl : zs.length = m) (hm : m ≤ 1000000) (hu : 0 ≤ u ∧ u < 2 * 128 ^ 9) :
    Ret Tryz.prog 110 [.slice A m cap, .int .u64 u] w (fun z w' => ∃ A c, z = .slice A (m + (lebD u).length) c ∧ HS w w' [.row A (m + (lebD u).length) c (vi .u8 (zs ++ lebD u)) 5 1]) := by
 refine ret_enter Tryz.func110 rfl rfl rfl ?_
 have H0 := HS.start w
 refine cw_seq ?_
 refine cw_reg ?_
 refine ry (y_asg rfl rfl) rfl rfl ?_
 refine reg_nil ?_
 refine fn_next ?_
 refine cw_seq ?_
 refine cw_reg ?_
 refine ry (y_mov rfl rfl) rfl rfl ?_
 refine reg_op (op_call (CloneB _ _ _ (vi .u8 zs) _ (h.below H0.base) (by rw [vi_len]; omega) vi_one (by omega)) rfl kfleb0_4 ⟨rfl, trivial⟩) rfl rfl ?_
 rintro _ w2 ⟨A4, c5, rfl, k1⟩
 have H3 := H0.call k1
 refine reg_op (op_call (ClipB _ _ _ _ (H3.len (i := 0) rfl).2.1) rfl kfleb0_5 ⟨rfl, trivial⟩) rfl rfl ?_
 rintro _ w7 ⟨rfl, e6⟩
 have H8 := H3.ext e6
 have H9 := H8.cap (i := 0) (cap' := m) rfl (Nat.le_refl _) (H8.len (i := 0) rfl).2.1 rfl
 refine ry (y_asg rfl rfl) rfl rfl ?_
 refine reg_nil ?_
 refine fn_next ?_
 refine cw_seq ?_
 refine cw_block ?_
 rw [show zs = zs ++ [] from (List.append_nil zs).symm] at H9
 refine cw_loopJ [0, 1, 8, 9, 10, 11, 12, 13, 14, 15, 16, 17] (fun M wl ml => ∃ (f : Nat) (v : Int) (pre : List Int) (A : Option Addr) (cap : Nat), M = [(1, .int .u64 v), (0, .slice A (m + pre.length) cap)] ∧ HS w wl [Ob.row A (m + pre.length) cap (vi .u8 (zs ++ pre)) 5 1] ∧ (f ≤ 9) ∧ (0 ≤ v ∧ v < 2 * 128 ^ f) ∧ (pre ++ lebL f v = lebL 9 u) ∧ (pre.length + f ≤ 9) ∧ ml = f + 1) ⟨9, u, [], _, _, rfl, H9, Nat.le_refl _, hu, rfl, Nat.le_refl _, rfl⟩ ⟨rfl, rfl, trivial⟩ ?_
 rintro M w10 m12 ⟨f, v, pre, A, cap, rfl, H11, hp0, hp1, hp2, hp3, rfl⟩
 refine cw_seq ?_
 refine cw_seq ?_
 refine cw_reg ?_
 refine ry (y_mov rfl rfl) rfl rfl ?_
 refine ry (y_geq rfl rfl rfl) rfl rfl ?_
 refine reg_nil ?_
 refine fn_next ?_
 refine cw_condd rfl (fun h13 => ?_) (fun h13 => ?_)
 ·skip
  have hv : ¬ v < 128 := by omega
  obtain ⟨g, rfl, hg2⟩ := fuel_pos hp1.2 hv
  refine cw_skip ?_
  refine fn_next ?_
  refine cw_block ?_
  refine cw_seq ?_
  refine cw_reg ?_
  refine ry (y_mov rfl rfl) rfl rfl ?_
  refine ry (y_mov rfl rfl) rfl rfl ?_
  refine ry (y_conv rfl Tryz.underlying123 Tryz.underlying5 rfl (wrap8 _)) rfl rfl ?_
  refine ry (y_or rfl rfl rfl (or128 hp1.1)) rfl rfl ?_
  refine reg_op (op_lit (parts := [(0, _)]) (vs := [(0, _)]) (cs := [.int _ _]) H11 rfl Tryz.underlying22 kfleb0_1 rfl ⟨rfl, trivial⟩ rfl rfl) rfl rfl ?_
  rintro _ w15 ⟨b14, rfl, H16⟩
  have H17 := H16.asrow (m := 1) (size := 1) rfl (by decide)
  refine reg_op (op_app (i := 1) (ys := [.int .u8 (v % 128 + 128)]) H17 rfl rfl rfl rfl (H17.rd (i := 0) rfl) (rfl) (rfl) Tryz.underlying22 kfleb0_2 rfl rfl (by unfold maxLen; omega) (by omega)) rfl rfl ?_
  rintro _ w20 ⟨A18, c19, rfl, H21⟩
  refine ry (y_asg rfl rfl) rfl rfl ?_
  refine reg_nil ?_
  refine fn_next ?_
  refine cw_reg ?_
  refine ry (y_mov rfl rfl) rfl rfl ?_
  refine ry (y_shr rfl rfl rfl (by omega) (show _ = v / 128 from Int.fdiv_eq_ediv_of_nonneg _ (by decide))) rfl rfl ?_
  refine ry (y_asg rfl rfl) rfl rfl ?_
  refine reg_nil ?_
  refine fn_block ?_
  have hpl : m + pre.length + 1 = m + (pre ++ [v % 128 + 128]).length := by rw [List.length_append]; rfl
  rw [vi_push, List.append_assoc, hpl] at H21
  refine fn_roundJ ⟨g, _, pre ++ [v % 128 + 128], _, _, rfl, (H21.pick (m := [_]) [1] rfl (by decide)), by omega, ⟨by omega, hg2⟩, by rw [List.append_assoc, ← hp2, lebL_more hv]; rfl, by rw [List.length_append]; show pre.length + 1 + g ≤ 9; omega, rfl⟩ ⟨rfl, by rw [← hpl]; rfl, trivial⟩ (by omega) (by repeat (first | exact kp_refl | refine kp_app rfl rfl ?_ | refine kp_cons rfl ?_)) rfl
 ·skip
  have hv : v < 128 := by omega
  refine cw_exit ?_
  refine fn_then_exit (fn_then_exit (fn_block_exit ?_))
  refine fn_next ?_
  refine cw_seq ?_
  refine cw_reg ?_
  refine ry (y_mov rfl rfl) rfl rfl ?_
  refine ry (y_mov rfl rfl) rfl rfl ?_
  refine ry (y_conv rfl Tryz.underlying123 Tryz.underlying5 rfl ((wrap8 _).trans (by omega : _ = v))) rfl rfl ?_
  refine reg_op (op_lit (parts := [(0, _)]) (vs := [(0, _)]) (cs := [.int _ _]) H11 rfl Tryz.underlying22 kfleb0_1 rfl ⟨rfl, trivial⟩ rfl rfl) rfl rfl ?_
  rintro _ w23 ⟨b22, rfl, H24⟩
  have H25 := H24.asrow (m := 1) (size := 1) rfl (by decide)
  refine reg_op (op_app (i := 1) (ys := [.int .u8 v]) H25 rfl rfl rfl rfl (H25.rd (i := 0) rfl) (rfl) (rfl) Tryz.underlying22 kfleb0_2 rfl rfl (by unfold maxLen; omega) (by omega)) rfl rfl ?_
  rintro _ w28 ⟨A26, c27, rfl, H29⟩
  refine ry (y_asg rfl rfl) rfl rfl ?_
  refine reg_nil ?_
  refine fn_next ?_
  refine cw_ret ?_
  refine fn_ret1 rfl rfl ?_
  rw [vi_push, List.append_assoc, ← lebL_end (f := f) hv, hp2] at H29
  have hln : m + pre.length + 1 = m + (lebL 9 u).length := by rw [← hp2, lebL_end hv, List.length_append]; rfl
  rw [hln] at H29
  unfold lebD
  exact ⟨_, _, by rw [← hln], (H29.pick (m := [_]) [1] rfl (by decide))⟩

end Go.Proofs.YtbnjbgcadkdljaaGreatDoor

namespace Go.Proofs.YtbnjbgcadkdljaaGreatDoor
open Go Go.RowKit
theorem kfruns0_1 : fldB Tryz.prog 141 0 0 = true := by kernel_rfl
theorem kfruns0_2 : oneB Tryz.prog 3 = true := by kernel_rfl
theorem kfruns0_3 : (Tryz.prog.info? 5).map (fun i => (i.size, i.zero.map Value.cells)) = some (1, some (List.toArray [(.int .u8 0)])) := by kernel_rfl
theorem kfruns0_4 : callB Tryz.prog 110 = true := by kernel_rfl
theorem kfruns0_5 : fldB Tryz.prog 141 1 1 = true := by kernel_rfl
theorem kfruns0_6 : oneB Tryz.prog 2 = true := by kernel_rfl
theorem kfruns0_7 : callB Tryz.prog 111 = true := by kernel_rfl
theorem rd_none {w : World} {A : Option Addr} : Rd w A (vi .u8 []) := fun j u h => by simp [vi] at h
theorem u64_in {x : Int} (h : 0 ≤ x ∧ x < 18446744073709551616) : IntKind.u64.wrap x = x := by unfold IntKind.wrap; show x % 18446744073709551616 = x; omega
/-- a number with its sign, folded -/
def foldU (n : Int) : Int := if n < 0 then -2 * n - 1 else 2 * n
theorem fold_bits : ∀ n : Int, -9223372036854775808 ≤ n → n ≤ 9223372036854775807 →
    IntKind.u64.wrap (BitVec.ofInt IntKind.u64.bits (IntKind.u64.wrap (IntKind.u64.wrap n * 2 ^ (min (1 : Int).toNat IntKind.u64.bits))) ^^^ BitVec.ofInt IntKind.u64.bits (IntKind.u64.wrap (n.fdiv (2 ^ (min (63 : Int).toNat IntKind.i64.bits))))).toNat = foldU n := by
  intro n h0 h1
  have w64 : ∀ x : Int, IntKind.u64.wrap x = x % 18446744073709551616 := fun x => by unfold IntKind.wrap; rfl
  have e1 : (2 : Int) ^ (min (1 : Int).toNat IntKind.u64.bits) = 2 := by decide
  have e2 : (2 : Int) ^ (min (63 : Int).toNat IntKind.i64.bits) = 9223372036854775808 := by decide
  have hb : IntKind.u64.bits = 64 := rfl
  rw [e1, e2, w64, w64, w64, w64, hb, Int.fdiv_eq_ediv_of_nonneg _ (by decide)]
  have tn : ∀ x : Int, ((BitVec.ofInt 64 x).toNat : Int) = x % 18446744073709551616 := fun x => by
    rw [BitVec.toNat_ofInt]; show (((x % 18446744073709551616).toNat : Nat) : Int) = _; omega
  unfold foldU
  by_cases hn : n < 0
  · rw [if_pos hn, show n / 9223372036854775808 = -1 by omega]
    rw [show BitVec.ofInt 64 ((-1 : Int) % 18446744073709551616) = BitVec.allOnes 64 from by decide, BitVec.xor_allOnes, BitVec.toNat_not]
    have := tn (n % 18446744073709551616 * 2 % 18446744073709551616)
    omega
  · rw [if_neg hn, show n / 9223372036854775808 = 0 by omega]
    rw [show BitVec.ofInt 64 ((0 : Int) % 18446744073709551616) = 0#64 from by decide, BitVec.xor_zero, tn]
    omega
/-- a run's bytes -/
def runB (k : Nat) (z : Int) : List Int := if 0 < k then 0 :: lebD ((k : Int) - 1) else lebD (foldU z)

set_option maxRecDepth 100000 in
theorem lebFold (z : Int) (w : World) (hz : I6 z) :
    Ret Tryz.prog 111 [.int .i64 z] w (fun v w' => v = .int .u64 (foldU z) ∧ Below w.heap.size w w') := by
 refine ret_enter Tryz.func111 rfl rfl rfl ?_
 have H0 := HS.start w
 refine cw_seq ?_
 refine cw_reg ?_
 refine ry (y_asg rfl rfl) rfl rfl ?_
 refine reg_nil ?_
 refine fn_next ?_
 refine cw_seq ?_
 refine cw_reg ?_
 refine ry (y_mov rfl rfl) rfl rfl ?_
 refine ry (y_conv rfl Tryz.underlying2 Tryz.underlying123 rfl (rfl)) rfl rfl ?_
 refine ry (y_shl rfl rfl rfl (by decide) (rfl)) rfl rfl ?_
 refine ry (y_mov rfl rfl) rfl rfl ?_
 refine ry (y_shr rfl rfl rfl (by decide) (rfl)) rfl rfl ?_
 refine ry (y_conv rfl Tryz.underlying2 Tryz.underlying123 rfl (rfl)) rfl rfl ?_
 refine ry (y_xor rfl rfl rfl (rfl)) rfl rfl ?_
 refine ry (y_asg rfl rfl) rfl rfl ?_
 refine reg_nil ?_
 refine fn_next ?_
 refine cw_ret ?_
 refine fn_ret1 rfl rfl ?_
 rw [fold_bits z hz.1 hz.2]
 exact ⟨rfl, H0.base⟩

set_option maxRecDepth 100000 in
theorem runBytes (k : Nat) (z : Int) (w : World) (hk : k ≤ 2000000) (hz : -9223372036854775808 ≤ z ∧ z ≤ 9223372036854775807) :
    Ret Tryz.prog 104 [.agg #[.int .i64 (k : Int), .int .i64 z]] w (fun v w' => ∃ A c, v = .slice A (runB k z).length c ∧ HS w w' [.row A (runB k z).length c (vi .u8 (runB k z)) 5 1]) := by
 refine ret_enter Tryz.func104 rfl rfl rfl ?_
 have H0 := HS.start w
 refine cw_seq ?_
 refine cw_reg ?_
 refine reg_op (op_box (cs := [.int _ _, .int _ _]) H0 rfl rfl rfl) rfl rfl ?_
 rintro _ w2 ⟨b1, rfl, H3⟩
 refine ry (y_asg rfl rfl) rfl rfl ?_
 refine reg_nil ?_
 refine fn_next ?_
 refine cw_seq ?_
 refine cw_seq ?_
 refine cw_reg ?_
 refine ry (y_fa rfl rfl kfruns0_1 rfl) rfl rfl ?_
 refine ry (y_ld rfl rfl kfruns0_2 (H3.cell (i := 0) rfl rfl)) rfl rfl ?_
 refine ry (y_gtr rfl rfl rfl) rfl rfl ?_
 refine reg_nil ?_
 refine fn_next ?_
 refine cw_condd rfl (fun h4 => ?_) (fun h4 => ?_)
 ·skip
  refine cw_seq ?_
  refine cw_reg ?_
  refine reg_op (op_lit (parts := [(0, _)]) (vs := [(0, _)]) (cs := [.int _ _]) H3 rfl Tryz.underlying22 kfruns0_3 rfl ⟨rfl, trivial⟩ rfl rfl) rfl rfl ?_
  rintro _ w6 ⟨b5, rfl, H7⟩
  have H8 := H7.asrow (m := 1) (size := 1) rfl (by decide)
  refine ry (y_fa rfl rfl kfruns0_1 rfl) rfl rfl ?_
  refine ry (y_ld rfl rfl kfruns0_2 (H8.cell (i := 1) rfl rfl)) rfl rfl ?_
  refine ry (y_sub rfl rfl rfl (wi (by omega))) rfl rfl ?_
  refine ry (y_conv rfl Tryz.underlying3 Tryz.underlying123 rfl (u64_in ⟨by omega, by omega⟩)) rfl rfl ?_
  refine reg_op (op_call (lebPut _ 1 _ [0] ((k : Int) - 1) _ (H8.rd (i := 0) rfl) rfl (by omega) (⟨by omega, by omega⟩)) rfl kfruns0_4 ⟨rfl, rfl, trivial⟩) rfl rfl ?_
  rintro _ w10 ⟨A12, c13, rfl, k9⟩
  have H11 := H8.call k9
  refine ry (y_asg rfl rfl) rfl rfl ?_
  refine reg_nil ?_
  refine fn_next ?_
  refine cw_ret ?_
  refine fn_then_ret ?_
  refine fn_ret1 rfl rfl ?_
  have hrb : runB k z = [0] ++ lebD ((k : Int) - 1) := if_pos (by omega)
  have hrl : (runB k z).length = 1 + (lebD ((k : Int) - 1)).length := by rw [hrb, List.length_append]; rfl
  rw [← hrb, ← hrl] at H11
  exact ⟨_, _, by rw [← hrl], (H11.pick (m := [_]) [0] rfl (by decide))⟩
 ·skip
  refine cw_skip ?_
  refine fn_next ?_
  refine cw_seq ?_
  refine cw_reg ?_
  refine ry (y_fa rfl rfl kfruns0_5 rfl) rfl rfl ?_
  refine ry (y_ld rfl rfl kfruns0_6 (H3.cell (i := 0) rfl rfl)) rfl rfl ?_
  refine reg_op (op_call (lebFold z _ hz) rfl kfruns0_7 ⟨rfl, trivial⟩) rfl rfl ?_
  rintro _ w15 ⟨rfl, e14⟩
  have H16 := H3.ext e14
  refine reg_op (op_call (lebPut none 0 _ [] (foldU z) _ (rd_none) rfl (by omega) (by unfold foldU; split <;> omega)) rfl kfruns0_4 ⟨rfl, rfl, trivial⟩) rfl rfl ?_
  rintro _ w18 ⟨A20, c21, rfl, k17⟩
  have H19 := H16.call k17
  refine ry (y_asg rfl rfl) rfl rfl ?_
  refine reg_nil ?_
  refine fn_next ?_
  refine cw_ret ?_
  refine fn_ret1 rfl rfl ?_
  have hrb : runB k z = [] ++ lebD (foldU z) := if_neg (by omega)
  have hrl : (runB k z).length = 0 + (lebD (foldU z)).length := by rw [hrb, List.length_append]; rfl
  rw [← hrb, ← hrl] at H19
  exact ⟨_, _, by rw [← hrl], (H19.pick (m := [_]) [0] rfl (by decide))⟩

end Go.Proofs.YtbnjbgcadkdljaaGreatDoor

namespace Go.Proofs.YtbnjbgcadkdljaaGreatDoor
open Go Go.RowKit
/-- the runs of rests; k noughts lie ahead -/
def rnl : List Int → Nat → List (Nat × Int)
  | [], 0 => []
  | [], k + 1 => [(k + 1, 0)]
  | z :: t, 0 => if z = 0 then rnl t 1 else (0, z) :: rnl t 0
  | z :: t, k + 1 => if z = 0 then rnl t (k + 2) else (k + 1, 0) :: (0, z) :: rnl t 0
theorem rn_zero (t : List Int) (k : Nat) : rnl (0 :: t) k = rnl t (k + 1) := by cases k <;> simp [rnl]
theorem rn_rest {z : Int} (h : z ≠ 0) (t : List Int) : rnl (z :: t) 0 = (0, z) :: rnl t 0 := by simp [rnl, h]
theorem rn_flush {t : List Int} {k : Nat} (h : ∀ z r, t = z :: r → z ≠ 0) : rnl t (k + 1) = (k + 1, 0) :: rnl t 0 := by
  cases t with
  | nil => rfl
  | cons z r => simp [rnl, h z r rfl]
theorem rn_noughts : ∀ (k j : Nat) (t : List Int), rnl (List.replicate k 0 ++ t) j = rnl t (j + k)
  | 0, j, t => rfl
  | k + 1, j, t => by
    rw [List.replicate_succ, List.cons_append, rn_zero, rn_noughts k (j + 1) t]
    congr 1; omega
/-- all bytes -/
def runsB (l : List (Nat × Int)) : List Int := l.flatMap fun r => runB r.1 r.2
theorem runsB_snoc (l : List (Nat × Int)) (r : Nat × Int) : runsB (l ++ [r]) = runsB l ++ runB r.1 r.2 := by unfold runsB; simp
/-- a run by places: from i on, j noughts -/
theorem rn_drop_rest {zs : List Int} {i : Nat} (hi : i < zs.length) (h : nth zs i ≠ 0) : rnl (zs.drop i) 0 = (0, nth zs i) :: rnl (zs.drop (i + 1)) 0 := by
  rw [List.drop_eq_getElem_cons hi, ← nth_lt hi, rn_rest h]
theorem rn_drop_zero {zs : List Int} {i k : Nat} (hi : i < zs.length) (h : nth zs i = 0) : rnl (zs.drop i) k = rnl (zs.drop (i + 1)) (k + 1) := by
  rw [List.drop_eq_getElem_cons hi, ← nth_lt hi, h, rn_zero]
theorem rn_drop_flush {zs : List Int} {i k : Nat} (h : ¬ (i < zs.length ∧ nth zs i = 0)) : rnl (zs.drop i) (k + 1) = (k + 1, 0) :: rnl (zs.drop i) 0 :=
  rn_flush fun z r e => by
    rcases Nat.lt_or_ge i zs.length with q | q
    · rw [List.drop_eq_getElem_cons q, ← nth_lt q] at e
      cases e
      exact fun e => h ⟨q, e⟩
    · rw [List.drop_of_length_le q] at e; cases e
end Go.Proofs.YtbnjbgcadkdljaaGreatDoor

namespace Go.Proofs.YtbnjbgcadkdljaaGreatDoor
open Go Go.RowKit
/-- a number of bytes: k bytes are read, u is what they make -/
def lacc : Nat → Int → List Int → Except Int (Int × Nat)
  | _, _, [] => .error 14
  | k, u, c :: r => if (k = 9 ∧ 1 < c) ∨ (0 < k ∧ c = 0) then .error 13 else if c < 128 then .ok (u + c * 128 ^ k, k + 1) else lacc (k + 1) (u + (c - 128) * 128 ^ k) r
def okB (l : List Int) : Prop := ∀ c ∈ l, 0 ≤ c ∧ c ≤ 255
theorem okB_drop {l : List Int} (h : okB l) (n : Nat) : okB (l.drop n) := fun c hc => h c (List.mem_of_mem_drop hc)
theorem pow128 : ∀ n : Nat, (1 : Int) ≤ 128 ^ n
  | 0 => by decide
  | n + 1 => by have := pow128 n; rw [Int.pow_succ]; omega
theorem lacc_get : ∀ (bs : List Int) (k : Nat) (u x : Int) (m : Nat), okB bs → k ≤ 9 → lacc k u bs = .ok (x, m) →
    ∃ v, x = u + v * 128 ^ k ∧ 0 ≤ v ∧ v < 2 * 128 ^ (9 - k) ∧ (0 < k → 0 < v) ∧ k < m ∧ m ≤ 10 ∧ m - k ≤ bs.length ∧ bs.take (m - k) = lebL (9 - k) v
  | [], k, u, x, m, _, _, h => by simp [lacc] at h
  | c :: r, k, u, x, m, hb, hk, h => by
    have hc := hb c List.mem_cons_self
    rw [lacc] at h
    split at h
    · cases h
    · rename_i hn
      split at h
      · rename_i h128
        simp only [Except.ok.injEq, Prod.mk.injEq] at h
        obtain ⟨rfl, rfl⟩ := h
        refine ⟨c, rfl, hc.1, ?_, by omega, by omega, by omega, by simp only [List.length_cons]; omega, ?_⟩
        · by_cases h9 : k = 9
          · subst h9; simp; omega
          · obtain ⟨j, hj⟩ : ∃ j, 9 - k = j + 1 := ⟨8 - k, by omega⟩
            have := pow128 j
            rw [hj, Int.pow_succ]; omega
        · rw [show k + 1 - k = 0 + 1 by omega, List.take_succ_cons, List.take_zero, lebL_end h128]
      · rename_i h128
        have hk9 : k + 1 ≤ 9 := by omega
        obtain ⟨v, e1, e2, e3, e4, e5, e6, e7, e8⟩ := lacc_get r (k + 1) _ x m (fun c h => hb c (List.mem_cons_of_mem _ h)) hk9 h
        have hv := e4 (by omega)
        have hj : 9 - k = (9 - (k + 1)) + 1 := by omega
        have hd : (c - 128 + 128 * v) / 128 = v := by omega
        have hm : (c - 128 + 128 * v) % 128 = c - 128 := by omega
        refine ⟨c - 128 + 128 * v, ?_, by omega, ?_, by omega, by omega, e6, ?_, ?_⟩
        · rw [e1, Int.pow_succ, Int.add_mul, Int.add_assoc]
          congr 2
          rw [Int.mul_comm (128 ^ k) 128, ← Int.mul_assoc, Int.mul_comm v 128]
        · rw [hj, Int.pow_succ]; omega
        · simp only [List.length_cons]; omega
        · rw [hj, lebL_more (by omega), hd, hm, show m - k = (m - (k + 1)) + 1 by omega, List.take_succ_cons, e8]
          congr 1; omega
theorem lacc_of {bs : List Int} {u : Int} {m : Nat} (hb : okB bs) (h : lacc 0 0 bs = .ok (u, m)) : (0 ≤ u ∧ u < 2 * 128 ^ 9) ∧ 0 < m ∧ m ≤ 10 ∧ m ≤ bs.length ∧ bs.take m = lebD u := by
  obtain ⟨v, e1, e2, e3, e4, e5, e6, e7, e8⟩ := lacc_get bs 0 0 u m hb (by omega) h
  have : u = v := by rw [e1]; simp
  subst this
  exact ⟨⟨e2, e3⟩, e5, e6, e7, e8⟩
def unfoldU (u : Int) : Int := if u % 2 = 0 then u / 2 else -(u / 2) - 1
theorem fold_unfold {u : Int} (h : 0 ≤ u) : foldU (unfoldU u) = u := by unfold unfoldU foldU; split <;> split <;> omega
theorem unfold_rng {u : Int} (h : 0 ≤ u ∧ u < 2 * 128 ^ 9) : -9223372036854775808 ≤ unfoldU u ∧ unfoldU u ≤ 9223372036854775807 := by unfold unfoldU; split <;> omega
theorem unfold_zero {u : Int} (h : 0 ≤ u) : unfoldU u = 0 ↔ u = 0 := by unfold unfoldU; split <;> omega
/-- rests of bytes -/
def rget (b : List Int) (n : Nat) : Nat → List Int → Nat → Bool → Except Int (List Int × Nat)
  | 0, _, _, _ => .error 99
  | f + 1, out, at_, last => if n ≤ out.length then .ok (out, at_) else
    match lacc 0 0 (b.drop at_) with
    | .error e => .error e
    | .ok (u, m) => if u ≠ 0 then rget b n f (out ++ [unfoldU u]) (at_ + m) false else if last = true then .error 13 else
      match lacc 0 0 (b.drop (at_ + m)) with
      | .error e => .error e
      | .ok (k, m') => if (n : Int) - out.length ≤ k then .error 13 else rget b n f (out ++ List.replicate (k.toNat + 1) 0) (at_ + m + m') true
def no0 (t : List Int) : Prop := ∀ z r, t = z :: r → z ≠ 0
theorem runsB_cons (r : Nat × Int) (l : List (Nat × Int)) : runsB (r :: l) = runB r.1 r.2 ++ runsB l := rfl
theorem runB_rest (z : Int) : runB 0 z = lebD (foldU z) := rfl
theorem runB_zeros (k : Nat) (z : Int) : runB (k + 1) z = 0 :: lebD (k : Int) := by
  unfold runB; rw [if_pos (by omega)]; congr 2; omega
theorem rn_zeros (k : Nat) {r : List Int} (h : no0 r) : rnl (List.replicate (k + 1) 0 ++ r) 0 = (k + 1, 0) :: rnl r 0 := by
  rw [rn_noughts, Nat.zero_add, rn_flush h]
def allI (t : List Int) : Prop := ∀ z ∈ t, -9223372036854775808 ≤ z ∧ z ≤ 9223372036854775807
/-- what is got is put as it was -/
theorem rget_got (b : List Int) (n : Nat) (hB : okB b) (hn : n ≤ 1000000000000) : ∀ (f : Nat) (out : List Int) (at_ : Nat) (last : Bool) (zs : List Int) (e : Nat), at_ ≤ b.length → out.length ≤ n → rget b n f out at_ last = .ok (zs, e) →
    ∃ t, zs = out ++ t ∧ zs.length = n ∧ at_ ≤ e ∧ e ≤ b.length ∧ (b.drop at_).take (e - at_) = runsB (rnl t 0) ∧ (last = true → no0 t) ∧ allI t
  | 0, _, _, _, _, _, _, _, h => by simp [rget] at h
  | f + 1, out, at_, last, zs, e, ha, ho, h => by
    rw [rget] at h
    split at h
    · rename_i hle
      simp only [Except.ok.injEq, Prod.mk.injEq] at h
      obtain ⟨rfl, rfl⟩ := h
      exact ⟨[], by simp, by omega, Nat.le_refl _, ha, by simp [rnl, runsB], (fun _ z r h => by cases h), (fun z h => by cases h)⟩
    · rename_i hlt
      cases hl : lacc 0 0 (b.drop at_) with
      | error e => rw [hl] at h; cases h
      | ok q =>
        obtain ⟨u, m⟩ := q
        rw [hl] at h
        obtain ⟨hu, hm0, hm1, hm2, hm3⟩ := lacc_of (okB_drop hB _) hl
        rw [List.length_drop] at hm2
        simp only at h
        split at h
        · rename_i hu0
          have hz0 : unfoldU u ≠ 0 := fun q => hu0 ((unfold_zero hu.1).1 q)
          obtain ⟨t, e1, e2, e3, e4, e5, e6, e7⟩ := rget_got b n hB hn f _ _ _ zs e (by omega) (by simp; omega) h
          refine ⟨unfoldU u :: t, by rw [e1]; simp, e2, by omega, e4, ?_, fun _ z r q => by cases q; exact hz0, fun z hz => ?_⟩
          · rw [rn_rest hz0, runsB_cons, runB_rest, fold_unfold hu.1, show e - at_ = m + (e - (at_ + m)) by omega, List.take_add, hm3, List.drop_drop, e5]
          · rcases List.mem_cons.1 hz with rfl | hz
            · exact unfold_rng hu
            · exact e7 z hz
        · rename_i hu0
          have hu0' : u = 0 := by simpa using hu0
          subst hu0'
          split at h
          · cases h
          · rename_i hla
            cases hl2 : lacc 0 0 (b.drop (at_ + m)) with
            | error e => rw [hl2] at h; cases h
            | ok q =>
              obtain ⟨k, m'⟩ := q
              rw [hl2] at h
              obtain ⟨hk, hn0, hn1, hn2, hn3⟩ := lacc_of (okB_drop hB _) hl2
              rw [List.length_drop] at hn2
              simp only at h
              split at h
              · cases h
              · rename_i hkn
                obtain ⟨t, e1, e2, e3, e4, e5, e6, e7⟩ := rget_got b n hB hn f _ _ _ zs e (by omega) (by simp; omega) h
                have hr := e6 rfl
                refine ⟨List.replicate (k.toNat + 1) 0 ++ t, by rw [e1]; simp, e2, by omega, e4, ?_, fun q => absurd q hla, fun z hz => ?_⟩
                · have hm3' : m = 1 := by
                    have := congrArg List.length hm3
                    rw [List.length_take, List.length_drop] at this
                    simp [lebD, lebL] at this; omega
                  subst hm3'
                  rw [rn_zeros _ hr, runsB_cons, runB_zeros, show e - at_ = 1 + (m' + (e - (at_ + 1 + m'))) by omega, List.take_add, hm3, List.drop_drop, List.take_add, hn3, List.drop_drop, e5, show ((k.toNat : Nat) : Int) = k by omega]
                  simp [lebD, lebL]
                · rcases List.mem_append.1 hz with hz | hz
                  · obtain ⟨_, rfl⟩ := List.mem_replicate.1 hz; omega
                  · exact e7 z hz
theorem runB_len {k : Nat} {z : Int} : 1 ≤ (runB k z).length ∧ (runB k z).length ≤ 11 := by
  unfold runB
  split
  · have := lebL_len 9 ((k : Int) - 1); simp only [List.length_cons, lebD]; omega
  · have := lebL_len 9 (foldU z); simp only [lebD]; omega
theorem runsB_len : ∀ l : List (Nat × Int), (runsB l).length ≤ 11 * l.length
  | [] => Nat.le_refl _
  | r :: l => by
    have := runsB_len l
    have := (runB_len (k := r.1) (z := r.2)).2
    rw [runsB_cons, List.length_append, List.length_cons]; omega
theorem rn_len : ∀ (t : List Int) (k : Nat), (rnl t k).length ≤ t.length + 1 ∧ (k = 0 → (rnl t k).length ≤ t.length)
  | [], 0 => by simp [rnl]
  | [], k + 1 => by simp [rnl]
  | z :: t, 0 => by
    rw [rnl]
    split
    · have := rn_len t 1; simp only [List.length_cons]; omega
    · have := rn_len t 0; simp only [List.length_cons]; omega
  | z :: t, k + 1 => by
    rw [rnl]
    split
    · have := rn_len t (k + 2); simp only [List.length_cons]; omega
    · have := rn_len t 0; simp only [List.length_cons]; omega
end Go.Proofs.YtbnjbgcadkdljaaGreatDoor
