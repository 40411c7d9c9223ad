/- Layer 2: bytes of a number. -/
import Derived.Test.YtbnjbgcadkdljaaDoorIn3
set_option linter.unusedVariables false
set_option linter.unusedSimpArgs false
namespace Go.Proofs.YtbnjbgcadkdljaaDoor
open Go Go.RowKit
theorem kfleb0_1 : (Tryd.prog.info? 5).map (fun i => (i.size, i.zero.map Value.cells)) = some (1, some (List.toArray [(.int .u8 0)])) := by kernel_rfl
theorem kfleb0_2 : (Tryd.prog.info? 5).map (fun i => (i.zero.map (·.cells.toList), i.size, i.bytes)) = some (some [(.int .u8 0)], 1, 1) := by kernel_rfl
theorem kfleb0_3 : elB Tryd.prog 24 1 = true := by kernel_rfl
theorem kfleb0_4 : callB Tryd.prog 51 = true := by kernel_rfl
theorem kfleb0_5 : callB Tryd.prog 61 = true := by kernel_rfl
theorem nil_vi {k : IntKind} : (vi k []) = [] := rfl
/-- a number's bytes, seven bits in each -/
def lebL : Nat → Int → List Int
  | 0, u => [u]
  | k + 1, u => if u < 128 then [u] else (u % 128 + 128) :: lebL k (u / 128)
def lebD (u : Int) : List Int := lebL 9 u
theorem lebL_end {f : Nat} {v : Int} (h : v < 128) : lebL f v = [v] := by cases f with | zero => rfl | succ f => rw [lebL, if_pos h]
theorem lebL_more {f : Nat} {v : Int} (h : ¬ v < 128) : lebL (f + 1) v = (v % 128 + 128) :: lebL f (v / 128) := by rw [lebL, if_neg h]
theorem lebL_len : ∀ (f : Nat) (v : Int), 1 ≤ (lebL f v).length ∧ (lebL f v).length ≤ f + 1
  | 0, _ => ⟨Nat.le_refl _, Nat.le_refl _⟩
  | f + 1, v => by
    rw [lebL]
    split
    · exact ⟨Nat.le_refl _, by simp⟩
    · have := lebL_len f (v / 128); simp only [List.length_cons]; omega
theorem or128' : ∀ n : _root_.Fin 256, IntKind.u8.wrap (BitVec.ofInt IntKind.u8.bits (n.1 : Int) ||| BitVec.ofInt IntKind.u8.bits 128).toNat = ((n.1 % 128 + 128 : Nat) : Int) := by decide +kernel
theorem or128 {v : Int} (h : 0 ≤ v) : IntKind.u8.wrap (BitVec.ofInt IntKind.u8.bits (v % 256) ||| BitVec.ofInt IntKind.u8.bits 128).toNat = v % 128 + 128 := by
  have := or128' ⟨(v % 256).toNat, by omega⟩
  simp only at this
  rw [show (((v % 256).toNat : Nat) : Int) = v % 256 by omega] at this
  rw [this]; omega
theorem fuel_pos {f : Nat} {v : Int} (h : v < 2 * 128 ^ f) (hv : ¬ v < 128) : ∃ g, f = g + 1 ∧ v / 128 < 2 * 128 ^ g := by
  cases f with
  | zero => simp at h; omega
  | succ g => exact ⟨g, rfl, by rw [Int.pow_succ] at h; omega⟩

set_option maxRecDepth 100000 in
theorem CloneB (A : Option Addr) (n cap : Nat) (xs : List Value) (w : World) (h : Rd w A xs) (hl : xs.length = n * 1) (h1 : xs.all Value.oneCell' = true) (hn : n ≤ 70000000000000) :
    Ret Tryd.prog 51 [.slice A n cap] w (fun v w' => ∃ A' cap', v = .slice A' n cap' ∧ HS w w' [.row A' n cap' xs 5 1]) := by
 refine ret_enter Tryd.func51 rfl rfl rfl ?_
 have H0 := HS.start w
 refine cw_seq ?_
 refine cw_reg ?_
 refine ry (y_asg rfl rfl) rfl rfl ?_
 refine reg_nil ?_
 refine fn_next ?_
 refine cw_seq ?_
 refine cw_seq ?_
 refine cw_reg ?_
 refine ry (y_mov rfl rfl) rfl rfl ?_
 refine ry (y_eqlnil rfl Tryd.underlying24 rfl rfl) rfl rfl ?_
 refine reg_nil ?_
 refine fn_next ?_
 refine cw_cond rfl (fun hA => ?_) (fun hA => ?_)
 ·skip
  obtain rfl := Option.isNone_iff_eq_none.1 hA
  obtain ⟨hz, hn⟩ := rd_zero h hl (by decide) rfl
  subst hz; subst hn
  refine cw_seq ?_
  refine cw_reg ?_
  refine ry (y_asg rfl rfl) rfl rfl ?_
  refine reg_nil ?_
  refine fn_next ?_
  refine cw_ret ?_
  refine fn_then_ret ?_
  refine fn_ret1 rfl rfl ?_
  exact ⟨none, 0, rfl, H0.nilrow _ _⟩
 ·skip
  refine cw_skip ?_
  refine fn_next ?_
  refine cw_seq ?_
  refine cw_reg ?_
  refine reg_op (op_lit (parts := []) (vs := []) (cs := []) H0 rfl Tryd.underlying24 kfleb0_1 rfl trivial rfl rfl) rfl rfl ?_
  rintro _ w3 ⟨b2, rfl, H4⟩
  have H5 := H4.asrow (m := 0) (size := 1) rfl (by decide)
  refine ry (y_mov rfl rfl) rfl rfl ?_
  refine reg_op (op_app (i := 0) (k := 0) (m := n) (ys := xs) (size := 1) H5 rfl rfl rfl rfl (h.below H5.base) (hl) (h1) Tryd.underlying24 kfleb0_2 rfl rfl (by unfold maxLen; omega) (by omega)) rfl rfl ?_
  rintro _ w8 ⟨A6, c7, rfl, H9⟩
  refine ry (y_asg rfl rfl) rfl rfl ?_
  refine reg_nil ?_
  refine fn_next ?_
  refine cw_ret ?_
  refine fn_ret1 rfl rfl ?_
  simp only [Nat.zero_add, List.nil_append] at *
  exact ⟨_, _, rfl, H9⟩

set_option maxRecDepth 100000 in
theorem ClipB (A : Option Addr) (n cap : Nat) (w : World) (h : n ≤ cap) :
    Ret Tryd.prog 61 [.slice A n cap] w (fun v w' => v = .slice A n n ∧ Below w.heap.size w w') := by
 refine ret_enter Tryd.func61 rfl rfl rfl ?_
 have H0 := HS.start w
 refine cw_seq ?_
 refine cw_reg ?_
 refine ry (y_asg rfl rfl) rfl rfl ?_
 refine reg_nil ?_
 refine fn_next ?_
 refine cw_seq ?_
 refine cw_reg ?_
 refine ry (y_mov rfl rfl) rfl rfl ?_
 refine ry (y_mov rfl rfl) rfl rfl ?_
 refine ry (y_len rfl Tryd.underlying24 rfl) rfl rfl ?_
 refine ry (y_mov rfl rfl) rfl rfl ?_
 refine ry (y_len rfl Tryd.underlying24 rfl) rfl rfl ?_
 refine ry (y_shm rfl rfl rfl rfl kfleb0_3 (rfl) (rfl) (by omega) (by omega)) rfl rfl ?_
 refine ry (y_asg rfl rfl) rfl rfl ?_
 refine reg_nil ?_
 refine fn_next ?_
 refine cw_ret ?_
 refine fn_ret1 rfl rfl ?_
 rw [subA_zero]
 exact ⟨rfl, H0.base⟩

set_option maxRecDepth 100000 in
theorem lebPut (A : Option Addr) (m cap : Nat) (zs : List Int) (u : Int) (w : World) (h : Rd w A (vi .u8 zs)) (hl : zs.length = m) (hm : m ≤ 1000000) (hu : 0 ≤ u ∧ u < 2 * 128 ^ 9) :
    Ret Tryd.prog 59 [.slice A m cap, .int .u64 u] w (fun z w' => ∃ A c, z = .slice A (m + (lebD u).length) c ∧ HS w w' [.row A (m + (lebD u).length) c (vi .u8 (zs ++ lebD u)) 5 1]) := by
 refine ret_enter Tryd.func59 rfl rfl rfl ?_
 have H0 := HS.start w
 refine cw_seq ?_
 refine cw_reg ?_
 refine ry (y_asg rfl rfl) rfl rfl ?_
 refine reg_nil ?_
 refine fn_next ?_
 refine cw_seq ?_
 refine cw_reg ?_
 refine ry (y_mov rfl rfl) rfl rfl ?_
 refine reg_op (op_call (CloneB _ _ _ (vi .u8 zs) _ (h.below H0.base) (by rw [vi_len]; omega) vi_one (by omega)) rfl kfleb0_4 ⟨rfl, trivial⟩) rfl rfl ?_
 rintro _ w2 ⟨A4, c5, rfl, k1⟩
 have H3 := H0.call k1
 refine reg_op (op_call (ClipB _ _ _ _ (H3.len (i := 0) rfl).2.1) rfl kfleb0_5 ⟨rfl, trivial⟩) rfl rfl ?_
 rintro _ w7 ⟨rfl, e6⟩
 have H8 := H3.ext e6
 have H9 := H8.cap (i := 0) (cap' := m) rfl (Nat.le_refl _) (H8.len (i := 0) rfl).2.1 rfl
 refine ry (y_asg rfl rfl) rfl rfl ?_
 refine reg_nil ?_
 refine fn_next ?_
 refine cw_seq ?_
 refine cw_block ?_
 rw [show zs = zs ++ [] from (List.append_nil zs).symm] at H9
 refine cw_loopJ [0, 1, 8, 9, 10, 11, 12, 13, 14, 15, 16, 17] (fun M wl ml => ∃ (f : Nat) (v : Int) (pre : List Int) (A : Option Addr) (cap : Nat), M = [(1, .int .u64 v), (0, .slice A (m + pre.length) cap)] ∧ HS w wl [Ob.row A (m + pre.length) cap (vi .u8 (zs ++ pre)) 5 1] ∧ (f ≤ 9) ∧ (0 ≤ v ∧ v < 2 * 128 ^ f) ∧ (pre ++ lebL f v = lebL 9 u) ∧ (pre.length + f ≤ 9) ∧ ml = f + 1) ⟨9, u, [], _, _, rfl, H9, Nat.le_refl _, hu, rfl, Nat.le_refl _, rfl⟩ ⟨rfl, rfl, trivial⟩ ?_
 rintro M w10 m12 ⟨f, v, pre, A, cap, rfl, H11, hp0, hp1, hp2, hp3, rfl⟩
 refine cw_seq ?_
 refine cw_seq ?_
 refine cw_reg ?_
 refine ry (y_mov rfl rfl) rfl rfl ?_
 refine ry (y_geq rfl rfl rfl) rfl rfl ?_
 refine reg_nil ?_
 refine fn_next ?_
 refine cw_condd rfl (fun h13 => ?_) (fun h13 => ?_)
 ·skip
  have hv : ¬ v < 128 := by omega
  obtain ⟨g, rfl, hg2⟩ := fuel_pos hp1.2 hv
  refine cw_skip ?_
  refine fn_next ?_
  refine cw_block ?_
  refine cw_seq ?_
  refine cw_reg ?_
  refine ry (y_mov rfl rfl) rfl rfl ?_
  refine ry (y_mov rfl rfl) rfl rfl ?_
  refine ry (y_conv rfl Tryd.underlying107 Tryd.underlying5 rfl (wrap8 _)) rfl rfl ?_
  refine ry (y_or rfl rfl rfl (or128 hp1.1)) rfl rfl ?_
  refine reg_op (op_lit (parts := [(0, _)]) (vs := [(0, _)]) (cs := [.int _ _]) H11 rfl Tryd.underlying24 kfleb0_1 rfl ⟨rfl, trivial⟩ rfl rfl) rfl rfl ?_
  rintro _ w15 ⟨b14, rfl, H16⟩
  have H17 := H16.asrow (m := 1) (size := 1) rfl (by decide)
  refine reg_op (op_app (i := 1) (ys := [.int .u8 (v % 128 + 128)]) H17 rfl rfl rfl rfl (H17.rd (i := 0) rfl) (rfl) (rfl) Tryd.underlying24 kfleb0_2 rfl rfl (by unfold maxLen; omega) (by omega)) rfl rfl ?_
  rintro _ w20 ⟨A18, c19, rfl, H21⟩
  refine ry (y_asg rfl rfl) rfl rfl ?_
  refine reg_nil ?_
  refine fn_next ?_
  refine cw_reg ?_
  refine ry (y_mov rfl rfl) rfl rfl ?_
  refine ry (y_shr rfl rfl rfl (by omega) (show _ = v / 128 from Int.fdiv_eq_ediv_of_nonneg _ (by decide))) rfl rfl ?_
  refine ry (y_asg rfl rfl) rfl rfl ?_
  refine reg_nil ?_
  refine fn_block ?_
  have hpl : m + pre.length + 1 = m + (pre ++ [v % 128 + 128]).length := by rw [List.length_append]; rfl
  rw [vi_push, List.append_assoc, hpl] at H21
  refine fn_roundJ ⟨g, _, pre ++ [v % 128 + 128], _, _, rfl, (H21.pick (m := [_]) [1] rfl (by decide)), by omega, ⟨by omega, hg2⟩, by rw [List.append_assoc, ← hp2, lebL_more hv]; rfl, by rw [List.length_append]; show pre.length + 1 + g ≤ 9; omega, rfl⟩ ⟨rfl, by rw [← hpl]; rfl, trivial⟩ (by omega) (by repeat (first | exact kp_refl | refine kp_app rfl rfl ?_ | refine kp_cons rfl ?_)) rfl
 ·skip
  have hv : v < 128 := by omega
  refine cw_exit ?_
  refine fn_then_exit (fn_then_exit (fn_block_exit ?_))
  refine fn_next ?_
  refine cw_seq ?_
  refine cw_reg ?_
  refine ry (y_mov rfl rfl) rfl rfl ?_
  refine ry (y_mov rfl rfl) rfl rfl ?_
  refine ry (y_conv rfl Tryd.underlying107 Tryd.underlying5 rfl ((wrap8 _).trans (by omega : _ = v))) rfl rfl ?_
  refine reg_op (op_lit (parts := [(0, _)]) (vs := [(0, _)]) (cs := [.int _ _]) H11 rfl Tryd.underlying24 kfleb0_1 rfl ⟨rfl, trivial⟩ rfl rfl) rfl rfl ?_
  rintro _ w23 ⟨b22, rfl, H24⟩
  have H25 := H24.asrow (m := 1) (size := 1) rfl (by decide)
  refine reg_op (op_app (i := 1) (ys := [.int .u8 v]) H25 rfl rfl rfl rfl (H25.rd (i := 0) rfl) (rfl) (rfl) Tryd.underlying24 kfleb0_2 rfl rfl (by unfold maxLen; omega) (by omega)) rfl rfl ?_
  rintro _ w28 ⟨A26, c27, rfl, H29⟩
  refine ry (y_asg rfl rfl) rfl rfl ?_
  refine reg_nil ?_
  refine fn_next ?_
  refine cw_ret ?_
  refine fn_ret1 rfl rfl ?_
  rw [vi_push, List.append_assoc, ← lebL_end (f := f) hv, hp2] at H29
  have hln : m + pre.length + 1 = m + (lebL 9 u).length := by rw [← hp2, lebL_end hv, List.length_append]; rfl
  rw [hln] at H29
  unfold lebD
  exact ⟨_, _, by rw [← hln], (H29.pick (m := [_]) [1] rfl (by decide))⟩

end Go.Proofs.YtbnjbgcadkdljaaDoor
