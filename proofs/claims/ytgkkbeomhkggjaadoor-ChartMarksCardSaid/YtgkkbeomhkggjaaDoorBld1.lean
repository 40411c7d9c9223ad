/- A strings.Builder: its signs, its text. -/
import Derived.Test.YtgkkbeomhkggjaaDoorK19
set_option linter.unusedVariables false
set_option linter.unusedSimpArgs false
namespace Go.Proofs.YtgkkbeomhkggjaaDoor
open Go Go.RowKit
theorem kfbld1_1 : fldB Tryd.prog 128 0 0 = true := by kernel_rfl
theorem kfbld1_2 : oneB Tryd.prog 126 = true := by kernel_rfl
theorem kfbld1_3 : (Tryd.prog.info? 128).map (·.size) = some 2 := by kernel_rfl
theorem kfbld1_4 : noescB Tryd.prog 112 = true := by kernel_rfl
theorem kfbld1_5 : (Tryd.prog.funcs[112]?).bind Extern.find = some Extern.AbiNoEscape.same := by kernel_rfl
theorem kfbld1_6 : liesAt Tryd.prog Tryd.prog.depth 128 (2 / Tryd.prog.cellsOf 128) 0 128 1 = true := by kernel_rfl
theorem kfbld1_7 : szB Tryd.prog 126 1 = true := by kernel_rfl
theorem kfbld1_8 : (Tryd.prog.info? 5).map (fun i => (i.size, i.zero.map Value.cells)) = some (1, some (List.toArray [(.int .u8 0)])) := by kernel_rfl
theorem kfbld1_9 : (Tryd.prog.info? 5).map (fun i => (i.zero.map (·.cells.toList), i.size, i.bytes)) = some (some [(.int .u8 0)], 1, 1) := by kernel_rfl
theorem kfbld1_10 : callB Tryd.prog 113 = true := by kernel_rfl
theorem kfbld1_11 : callB Tryd.prog 96 = true := by kernel_rfl
theorem kfbld1_12 : fldB Tryd.prog 128 1 1 = true := by kernel_rfl
theorem kfbld1_13 : oneB Tryd.prog 62 = true := by kernel_rfl
theorem kfbld1_14 : callB Tryd.prog 97 = true := by kernel_rfl
theorem kfbld1_15 : szB Tryd.prog 62 1 = true := by kernel_rfl
theorem kfbld1_16 : Tryd.prog.cellsOf 5 = 1 := by kernel_rfl
theorem or192 {x : Int} (h : 0 ≤ x ∧ x < 32) : IntKind.u8.wrap (BitVec.ofInt IntKind.u8.bits 192 ||| BitVec.ofInt IntKind.u8.bits x).toNat = 192 + x := by
  have : ∀ i : _root_.Fin 32, IntKind.u8.wrap (BitVec.ofInt IntKind.u8.bits 192 ||| BitVec.ofInt IntKind.u8.bits (i.val : Int)).toNat = 192 + (i.val : Int) := by decide
  have h1 := this ⟨x.toNat, by omega⟩
  have h2 : ((x.toNat : Nat) : Int) = x := by omega
  rwa [show ((⟨x.toNat, by omega⟩ : _root_.Fin 32).val : Int) = x from h2] at h1
theorem or224 {x : Int} (h : 0 ≤ x ∧ x < 16) : IntKind.u8.wrap (BitVec.ofInt IntKind.u8.bits 224 ||| BitVec.ofInt IntKind.u8.bits x).toNat = 224 + x := by
  have : ∀ i : _root_.Fin 16, IntKind.u8.wrap (BitVec.ofInt IntKind.u8.bits 224 ||| BitVec.ofInt IntKind.u8.bits (i.val : Int)).toNat = 224 + (i.val : Int) := by decide
  have h1 := this ⟨x.toNat, by omega⟩
  have h2 : ((x.toNat : Nat) : Int) = x := by omega
  rwa [show ((⟨x.toNat, by omega⟩ : _root_.Fin 16).val : Int) = x from h2] at h1
theorem or128 {x : Int} (h : 0 ≤ x ∧ x < 64) : IntKind.u8.wrap (BitVec.ofInt IntKind.u8.bits 128 ||| BitVec.ofInt IntKind.u8.bits x).toNat = 128 + x := by
  have : ∀ i : _root_.Fin 64, IntKind.u8.wrap (BitVec.ofInt IntKind.u8.bits 128 ||| BitVec.ofInt IntKind.u8.bits (i.val : Int)).toNat = 128 + (i.val : Int) := by decide
  have h1 := this ⟨x.toNat, by omega⟩
  have h2 : ((x.toNat : Nat) : Int) = x := by omega
  rwa [show ((⟨x.toNat, by omega⟩ : _root_.Fin 64).val : Int) = x from h2] at h1
theorem and63 {x : Int} (h : 0 ≤ x ∧ x < 256) : IntKind.u8.wrap (BitVec.ofInt IntKind.u8.bits x &&& BitVec.ofInt IntKind.u8.bits 63).toNat = x % 64 := by
  have : ∀ i : _root_.Fin 256, IntKind.u8.wrap (BitVec.ofInt IntKind.u8.bits (i.val : Int) &&& BitVec.ofInt IntKind.u8.bits 63).toNat = (i.val : Int) % 64 := by decide +kernel
  have h1 := this ⟨x.toNat, by omega⟩
  have h2 : ((x.toNat : Nat) : Int) = x := by omega
  rwa [show ((⟨x.toNat, by omega⟩ : _root_.Fin 256).val : Int) = x from h2] at h1
theorem fd6 {r : Int} : r.fdiv (2 ^ (min (6 : Int).toNat IntKind.i32.bits)) = r / 64 := by rw [Int.fdiv_eq_ediv_of_nonneg _ (by decide)]; rfl
theorem fd12 {r : Int} : r.fdiv (2 ^ (min (12 : Int).toNat IntKind.i32.bits)) = r / 4096 := by rw [Int.fdiv_eq_ediv_of_nonneg _ (by decide)]; rfl
theorem cv8 {r : Int} : IntKind.u8.wrap r = r % 256 := rfl

set_option maxRecDepth 100000 in
theorem bldCheckN (w0 : World) (l : List Ob) (b : Nat) (s : Value) (w : World) (H0 : HS w0 w (.blk b [.pointer none, s] 128 :: l)) :
    Ret Tryd.prog 96 [.pointer (some ⟨b, 0, none⟩)] w (fun v w' => HS w0 w' (.blk b [.pointer (some ⟨b, 0, none⟩), s] 128 :: l)) := by
 refine ret_enter Tryd.func96 rfl rfl rfl ?_
 refine cw_seq ?_
 refine cw_reg ?_
 refine ry (y_mov rfl rfl) rfl rfl ?_
 refine ry (y_nilck rfl rfl) rfl rfl ?_
 refine ry (y_fa rfl rfl kfbld1_1 rfl) rfl rfl ?_
 refine ry (y_ld rfl rfl kfbld1_2 (H0.cell (i := 0) rfl rfl)) rfl rfl ?_
 refine ry (y_peqlnil rfl Tryd.underlying126 rfl rfl) rfl rfl ?_
 refine reg_nil ?_
 refine fn_next ?_
 refine cw_condt rfl ?_
 refine cw_reg ?_
 refine ry (y_mov rfl rfl) rfl rfl ?_
 refine ry (y_mov rfl rfl) rfl rfl ?_
 refine ry (y_cvu (i := 0) H0 rfl rfl rfl Tryd.underlying126 Tryd.underlying188 kfbld1_3 (by simp)) rfl rfl ?_
 refine ry (y_noesc rfl kfbld1_4 kfbld1_5 rfl) rfl rfl ?_
 refine ry (y_cvp (i := 0) H0 rfl rfl rfl Tryd.underlying188 Tryd.underlying126 kfbld1_3 kfbld1_6) rfl rfl ?_
 refine ry (y_nilck rfl rfl) rfl rfl ?_
 refine ry (y_fa rfl rfl kfbld1_1 rfl) rfl rfl ?_
 refine reg_op (op_st (i := 0) (vs := [.pointer _]) H0 rfl rfl rfl rfl rfl kfbld1_7 rfl rfl rfl) rfl rfl ?_
 rintro _ w1 H2
 refine reg_nil ?_
 refine fn_normal ?_
 refine fn_retn (vs := []) rfl trivial rfl ?_
 exact H2

set_option maxRecDepth 100000 in
theorem bldCheckU (w0 : World) (l : List Ob) (b : Nat) (s : Value) (w : World) (H0 : HS w0 w (.blk b [.pointer (some ⟨b, 0, none⟩), s] 128 :: l)) :
    Ret Tryd.prog 96 [.pointer (some ⟨b, 0, none⟩)] w (fun v w' => HS w0 w' (.blk b [.pointer (some ⟨b, 0, none⟩), s] 128 :: l)) := by
 refine ret_enter Tryd.func96 rfl rfl rfl ?_
 refine cw_seq ?_
 refine cw_reg ?_
 refine ry (y_mov rfl rfl) rfl rfl ?_
 refine ry (y_nilck rfl rfl) rfl rfl ?_
 refine ry (y_fa rfl rfl kfbld1_1 rfl) rfl rfl ?_
 refine ry (y_ld rfl rfl kfbld1_2 (H0.cell (i := 0) rfl rfl)) rfl rfl ?_
 refine ry (y_peqlnil rfl Tryd.underlying126 rfl rfl) rfl rfl ?_
 refine reg_nil ?_
 refine fn_next ?_
 refine cw_condf rfl ?_
 refine cw_seq ?_
 refine cw_reg ?_
 refine ry (y_mov rfl rfl) rfl rfl ?_
 refine ry (y_nilck rfl rfl) rfl rfl ?_
 refine ry (y_fa rfl rfl kfbld1_1 rfl) rfl rfl ?_
 refine ry (y_ld rfl rfl kfbld1_2 (H0.cell (i := 0) rfl rfl)) rfl rfl ?_
 refine ry (y_mov rfl rfl) rfl rfl ?_
 refine ry (y_pnes rfl rfl rfl Tryd.underlying126 kfbld1_3) rfl rfl ?_
 refine reg_nil ?_
 refine fn_next ?_
 refine cw_condf rfl ?_
 refine cw_skip ?_
 refine fn_normal ?_
 refine fn_retn (vs := []) rfl trivial rfl ?_
 exact H0

set_option maxRecDepth 100000 in
set_option maxHeartbeats 1000000 in
theorem appRuneNA (w0 : World) (l : List Ob) (A : Option Addr) (n c : Nat) (zs : List Int) (r : Int) (w : World) (hs : SgnP r) (hn : n + 4 ≤ 1000000000) (h128 : 128 ≤ r) (H0 : HS w0 w (.row A n c (vi .u8 (zs)) 5 1 :: l)) :
    Ret Tryd.prog 113 [.slice A n c, .int .i32 r] w (fun v w' => ∃ A2 c2, v = .slice A2 (n + (encB r).length) c2 ∧ HS w0 w' (.row A2 (n + (encB r).length) c2 (vi .u8 (zs ++ encB r)) 5 1 :: l)) := by
 have hr : 33 ≤ r ∧ r ≤ 65532 := by unfold SgnP at hs; omega
 refine ret_enter Tryd.func113 rfl rfl rfl ?_
 refine cw_seq ?_
 refine cw_reg ?_
 refine ry (y_asg rfl rfl) rfl rfl ?_
 refine reg_nil ?_
 refine fn_next ?_
 refine cw_seq ?_
 refine cw_reg ?_
 refine ry (y_mov rfl rfl) rfl rfl ?_
 refine ry (y_conv rfl Tryd.underlying21 Tryd.underlying190 rfl (wu32 (by omega))) rfl rfl ?_
 refine ry (y_asg rfl rfl) rfl rfl ?_
 refine reg_nil ?_
 refine fn_next ?_
 refine cw_block ?_
 refine cw_seq ?_
 refine cw_reg ?_
 refine ry (y_mov rfl rfl) rfl rfl ?_
 refine ry (y_leq rfl rfl rfl) rfl rfl ?_
 refine ry (y_asg rfl rfl) rfl rfl ?_
 refine reg_nil ?_
 refine fn_next ?_
 refine cw_condd rfl (fun h1 => ?_) (fun h1 => ?_)
 ·skip
  refine cw_seq ?_
  refine cw_reg ?_
  refine ry (y_mov rfl rfl) rfl rfl ?_
  refine ry (y_mov rfl rfl) rfl rfl ?_
  refine ry (y_shr rfl rfl rfl (by omega) (show _ = r / 64 from fd6)) rfl rfl ?_
  refine ry (y_conv rfl Tryd.underlying21 Tryd.underlying5 rfl (wu8 (by omega))) rfl rfl ?_
  refine ry (y_or rfl rfl rfl (or192 (x := r / 64) (by omega))) rfl rfl ?_
  refine ry (y_mov rfl rfl) rfl rfl ?_
  refine ry (y_conv rfl Tryd.underlying21 Tryd.underlying5 rfl (show _ = r % 256 from rfl)) rfl rfl ?_
  refine ry (y_and rfl rfl rfl (and63 (by omega))) rfl rfl ?_
  refine ry (y_or rfl rfl rfl (or128 (x := r % 256 % 64) (by omega))) rfl rfl ?_
  refine reg_op (op_lit (parts := [(0, _), (1, _)]) (vs := [(0, _), (1, _)]) (cs := [.int _ _, .int _ _]) H0 rfl Tryd.underlying62 kfbld1_8 rfl ⟨rfl, rfl, trivial⟩ rfl rfl) rfl rfl ?_
  rintro _ w3 ⟨b2, rfl, H4⟩
  have H5 := H4.asrow (m := 2) (size := 1) rfl (by decide)
  refine reg_op (op_app (i := 1) H5 rfl rfl rfl rfl (H5.rd (i := 0) rfl) (rfl) (rfl) Tryd.underlying62 kfbld1_9 rfl rfl (by unfold maxLen; omega) (by omega)) rfl rfl ?_
  rintro _ w8 ⟨A6, c7, rfl, H9⟩
  refine ry (y_asg rfl rfl) rfl rfl ?_
  refine reg_nil ?_
  refine fn_next ?_
  refine cw_ret ?_
  refine fn_block_ret ?_
  refine fn_ret1 rfl rfl ?_
  have he : encB r = [192 + r / 64, 128 + r % 256 % 64] := by unfold encB; rw [if_neg (by omega), if_pos (by omega)]; congr 2; omega
  rw [he]
  exact ⟨_, _, rfl, by rw [vi_app]; exact (H9.pickT (p := [_, _]) (m := [_]) [1] rfl (by decide))⟩
 ·skip
  refine cw_seq ?_
  refine cw_seq ?_
  refine cw_reg ?_
  refine ry (y_mov rfl rfl) rfl rfl ?_
  refine ry (y_lss rfl rfl rfl) rfl rfl ?_
  refine ry (y_asg rfl rfl) rfl rfl ?_
  refine reg_nil ?_
  refine fn_next ?_
  refine cw_condd rfl (fun h10 => ?_) (fun h10 => ?_)
  ·skip
   refine cw_skip ?_
   refine fn_next ?_
   refine cw_cond rfl (fun h11 => ?_) (fun h11 => ?_)
   ·skip
    refine cw_seq ?_
    refine cw_reg ?_
    refine ry (y_mov rfl rfl) rfl rfl ?_
    refine ry (y_mov rfl rfl) rfl rfl ?_
    refine ry (y_shr rfl rfl rfl (by omega) (show _ = r / 4096 from fd12)) rfl rfl ?_
    refine ry (y_conv rfl Tryd.underlying21 Tryd.underlying5 rfl (wu8 (by omega))) rfl rfl ?_
    refine ry (y_or rfl rfl rfl (or224 (x := r / 4096) (by omega))) rfl rfl ?_
    refine ry (y_mov rfl rfl) rfl rfl ?_
    refine ry (y_shr rfl rfl rfl (by omega) (show _ = r / 64 from fd6)) rfl rfl ?_
    refine ry (y_conv rfl Tryd.underlying21 Tryd.underlying5 rfl (show _ = r / 64 % 256 from rfl)) rfl rfl ?_
    refine ry (y_and rfl rfl rfl (and63 (by omega))) rfl rfl ?_
    refine ry (y_or rfl rfl rfl (or128 (x := r / 64 % 256 % 64) (by omega))) rfl rfl ?_
    refine ry (y_mov rfl rfl) rfl rfl ?_
    refine ry (y_conv rfl Tryd.underlying21 Tryd.underlying5 rfl (show _ = r % 256 from rfl)) rfl rfl ?_
    refine ry (y_and rfl rfl rfl (and63 (by omega))) rfl rfl ?_
    refine ry (y_or rfl rfl rfl (or128 (x := r % 256 % 64) (by omega))) rfl rfl ?_
    refine reg_op (op_lit (parts := [(0, _), (1, _), (2, _)]) (vs := [(0, _), (1, _), (2, _)]) (cs := [.int _ _, .int _ _, .int _ _]) H0 rfl Tryd.underlying62 kfbld1_8 rfl ⟨rfl, rfl, rfl, trivial⟩ rfl rfl) rfl rfl ?_
    rintro _ w13 ⟨b12, rfl, H14⟩
    have H15 := H14.asrow (m := 3) (size := 1) rfl (by decide)
    refine reg_op (op_app (i := 1) H15 rfl rfl rfl rfl (H15.rd (i := 0) rfl) (rfl) (rfl) Tryd.underlying62 kfbld1_9 rfl rfl (by unfold maxLen; omega) (by omega)) rfl rfl ?_
    rintro _ w18 ⟨A16, c17, rfl, H19⟩
    refine ry (y_asg rfl rfl) rfl rfl ?_
    refine reg_nil ?_
    refine fn_next ?_
    refine cw_ret ?_
    refine fn_block_ret ?_
    refine fn_ret1 rfl rfl ?_
    have he : encB r = [224 + r / 4096, 128 + r / 64 % 256 % 64, 128 + r % 256 % 64] := by unfold encB; rw [if_neg (by omega), if_neg (by omega), show r / 64 % 256 % 64 = r / 64 % 64 by omega, show r % 256 % 64 = r % 64 by omega]
    rw [he]
    exact ⟨_, _, rfl, by rw [vi_app]; exact (H19.pickT (p := [_, _]) (m := [_]) [1] rfl (by decide))⟩
   ·skip
    refine cw_seq ?_
    refine cw_reg ?_
    refine ry (y_mov rfl rfl) rfl rfl ?_
    refine ry (y_gtr rfl rfl rfl) rfl rfl ?_
    refine ry (y_mov rfl rfl) rfl rfl ?_
    refine rg_splitd (d := 53) rfl (fun h20 => ?_) (fun h20 => ?_)
    ·skip
     refine rgy (y_mov rfl rfl) rfl rfl rfl rfl ?_
     refine rgy (y_leq rfl rfl rfl) rfl rfl rfl rfl ?_
     refine ry (y_pick rfl rfl rfl) rfl rfl ?_
     refine ry (y_asg rfl rfl) rfl rfl ?_
     refine reg_nil ?_
     refine fn_next ?_
     refine cw_condd rfl (fun h21 => ?_) (fun h21 => ?_)
     ·skip
      refine cw_seq ?_
      refine cw_reg ?_
      refine ry (y_mov rfl rfl) rfl rfl ?_
      refine ry (y_mov rfl rfl) rfl rfl ?_
      refine ry (y_shr rfl rfl rfl (by omega) (rfl)) rfl rfl ?_
      refine ry (y_conv rfl Tryd.underlying21 Tryd.underlying5 rfl (wu8 (by omega))) rfl rfl ?_
      refine ry (y_or rfl rfl rfl (rfl)) rfl rfl ?_
      refine ry (y_mov rfl rfl) rfl rfl ?_
      refine ry (y_shr rfl rfl rfl (by omega) (rfl)) rfl rfl ?_
      refine ry (y_conv rfl Tryd.underlying21 Tryd.underlying5 rfl (wu8 (by omega))) rfl rfl ?_
      refine ry (y_and rfl rfl rfl (rfl)) rfl rfl ?_
      refine ry (y_or rfl rfl rfl (rfl)) rfl rfl ?_
      refine ry (y_mov rfl rfl) rfl rfl ?_
      refine ry (y_shr rfl rfl rfl (by omega) (rfl)) rfl rfl ?_
      refine ry (y_conv rfl Tryd.underlying21 Tryd.underlying5 rfl (wu8 (by omega))) rfl rfl ?_
      refine ry (y_and rfl rfl rfl (rfl)) rfl rfl ?_
      refine ry (y_or rfl rfl rfl (rfl)) rfl rfl ?_
      refine ry (y_mov rfl rfl) rfl rfl ?_
      refine ry (y_conv rfl Tryd.underlying21 Tryd.underlying5 rfl (wu8 (by omega))) rfl rfl ?_
      refine ry (y_and rfl rfl rfl (rfl)) rfl rfl ?_
      refine ry (y_or rfl rfl rfl (rfl)) rfl rfl ?_
      refine reg_op (op_lit (parts := [(0, _), (1, _), (2, _), (3, _)]) (vs := [(0, _), (1, _), (2, _), (3, _)]) (cs := [.int _ _, .int _ _, .int _ _, .int _ _]) H0 rfl Tryd.underlying62 kfbld1_8 rfl ⟨rfl, rfl, rfl, rfl, trivial⟩ rfl rfl) rfl rfl ?_
      rintro _ w23 ⟨b22, rfl, H24⟩
      have H25 := H24.asrow (m := 4) (size := 1) rfl (by decide)
      refine reg_op (op_app (i := 1) H25 rfl rfl rfl rfl (H25.rd (i := 0) rfl) (rfl) (rfl) Tryd.underlying62 kfbld1_9 rfl rfl (by unfold maxLen; omega) (by omega)) rfl rfl ?_
      rintro _ w28 ⟨A26, c27, rfl, H29⟩
      refine ry (y_asg rfl rfl) rfl rfl ?_
      refine reg_nil ?_
      refine fn_next ?_
      refine cw_ret ?_
      refine fn_block_ret ?_
      refine fn_ret1 rfl rfl ?_
      exfalso; unfold SgnP at hs; first | omega | exact absurd (by assumption : r < 55296) (of_decide_eq_false (by assumption))
     ·skip
      refine cw_seq ?_
      refine cw_reg ?_
      refine ry (y_mov rfl rfl) rfl rfl ?_
      refine reg_op (op_lit (parts := [(0, _), (1, _), (2, _)]) (vs := [(0, _), (1, _), (2, _)]) (cs := [.int _ _, .int _ _, .int _ _]) H0 rfl Tryd.underlying62 kfbld1_8 rfl ⟨rfl, rfl, rfl, trivial⟩ rfl rfl) rfl rfl ?_
      rintro _ w31 ⟨b30, rfl, H32⟩
      have H33 := H32.asrow (m := 3) (size := 1) rfl (by decide)
      refine reg_op (op_app (i := 1) H33 rfl rfl rfl rfl (H33.rd (i := 0) rfl) (rfl) (rfl) Tryd.underlying62 kfbld1_9 rfl rfl (by unfold maxLen; omega) (by omega)) rfl rfl ?_
      rintro _ w36 ⟨A34, c35, rfl, H37⟩
      refine ry (y_asg rfl rfl) rfl rfl ?_
      refine reg_nil ?_
      refine fn_next ?_
      refine cw_ret ?_
      refine fn_block_ret ?_
      refine fn_ret1 rfl rfl ?_
      exfalso; unfold SgnP at hs; first | omega | exact absurd (by assumption : r < 55296) (of_decide_eq_false (by assumption))
    ·skip
     refine rg_off rfl rfl rfl rfl rfl ?_
     refine rg_off rfl rfl rfl rfl rfl ?_
     refine ry (y_pick rfl rfl rfl) rfl rfl ?_
     refine ry (y_asg rfl rfl) rfl rfl ?_
     refine reg_nil ?_
     refine fn_next ?_
     refine cw_condf rfl ?_
     refine cw_seq ?_
     refine cw_reg ?_
     refine ry (y_mov rfl rfl) rfl rfl ?_
     refine reg_op (op_lit (parts := [(0, _), (1, _), (2, _)]) (vs := [(0, _), (1, _), (2, _)]) (cs := [.int _ _, .int _ _, .int _ _]) H0 rfl Tryd.underlying62 kfbld1_8 rfl ⟨rfl, rfl, rfl, trivial⟩ rfl rfl) rfl rfl ?_
     rintro _ w39 ⟨b38, rfl, H40⟩
     have H41 := H40.asrow (m := 3) (size := 1) rfl (by decide)
     refine reg_op (op_app (i := 1) H41 rfl rfl rfl rfl (H41.rd (i := 0) rfl) (rfl) (rfl) Tryd.underlying62 kfbld1_9 rfl rfl (by unfold maxLen; omega) (by omega)) rfl rfl ?_
     rintro _ w44 ⟨A42, c43, rfl, H45⟩
     refine ry (y_asg rfl rfl) rfl rfl ?_
     refine reg_nil ?_
     refine fn_next ?_
     refine cw_ret ?_
     refine fn_block_ret ?_
     refine fn_ret1 rfl rfl ?_
     exfalso; unfold SgnP at hs; first | omega | exact absurd (by assumption : r < 55296) (of_decide_eq_false (by assumption))
  ·skip
   refine cw_reg ?_
   refine ry (y_mov rfl rfl) rfl rfl ?_
   refine ry (y_lss rfl rfl rfl) rfl rfl ?_
   refine ry (y_mov rfl rfl) rfl rfl ?_
   refine rg_splitd (d := 30) rfl (fun h46 => ?_) (fun h46 => ?_)
   ·skip
    refine rgy (y_mov rfl rfl) rfl rfl rfl rfl ?_
    refine rgy (y_leq rfl rfl rfl) rfl rfl rfl rfl ?_
    refine ry (y_pick rfl rfl rfl) rfl rfl ?_
    refine ry (y_asg rfl rfl) rfl rfl ?_
    refine reg_nil ?_
    refine fn_next ?_
    refine cw_condd rfl (fun h47 => ?_) (fun h47 => ?_)
    ·skip
     refine cw_seq ?_
     refine cw_reg ?_
     refine ry (y_mov rfl rfl) rfl rfl ?_
     refine ry (y_mov rfl rfl) rfl rfl ?_
     refine ry (y_shr rfl rfl rfl (by omega) (show _ = r / 4096 from fd12)) rfl rfl ?_
     refine ry (y_conv rfl Tryd.underlying21 Tryd.underlying5 rfl (wu8 (by omega))) rfl rfl ?_
     refine ry (y_or rfl rfl rfl (or224 (x := r / 4096) (by omega))) rfl rfl ?_
     refine ry (y_mov rfl rfl) rfl rfl ?_
     refine ry (y_shr rfl rfl rfl (by omega) (show _ = r / 64 from fd6)) rfl rfl ?_
     refine ry (y_conv rfl Tryd.underlying21 Tryd.underlying5 rfl (show _ = r / 64 % 256 from rfl)) rfl rfl ?_
     refine ry (y_and rfl rfl rfl (and63 (by omega))) rfl rfl ?_
     refine ry (y_or rfl rfl rfl (or128 (x := r / 64 % 256 % 64) (by omega))) rfl rfl ?_
     refine ry (y_mov rfl rfl) rfl rfl ?_
     refine ry (y_conv rfl Tryd.underlying21 Tryd.underlying5 rfl (show _ = r % 256 from rfl)) rfl rfl ?_
     refine ry (y_and rfl rfl rfl (and63 (by omega))) rfl rfl ?_
     refine ry (y_or rfl rfl rfl (or128 (x := r % 256 % 64) (by omega))) rfl rfl ?_
     refine reg_op (op_lit (parts := [(0, _), (1, _), (2, _)]) (vs := [(0, _), (1, _), (2, _)]) (cs := [.int _ _, .int _ _, .int _ _]) H0 rfl Tryd.underlying62 kfbld1_8 rfl ⟨rfl, rfl, rfl, trivial⟩ rfl rfl) rfl rfl ?_
     rintro _ w49 ⟨b48, rfl, H50⟩
     have H51 := H50.asrow (m := 3) (size := 1) rfl (by decide)
     refine reg_op (op_app (i := 1) H51 rfl rfl rfl rfl (H51.rd (i := 0) rfl) (rfl) (rfl) Tryd.underlying62 kfbld1_9 rfl rfl (by unfold maxLen; omega) (by omega)) rfl rfl ?_
     rintro _ w54 ⟨A52, c53, rfl, H55⟩
     refine ry (y_asg rfl rfl) rfl rfl ?_
     refine reg_nil ?_
     refine fn_next ?_
     refine cw_ret ?_
     refine fn_block_ret ?_
     refine fn_ret1 rfl rfl ?_
     have he : encB r = [224 + r / 4096, 128 + r / 64 % 256 % 64, 128 + r % 256 % 64] := by unfold encB; rw [if_neg (by omega), if_neg (by omega), show r / 64 % 256 % 64 = r / 64 % 64 by omega, show r % 256 % 64 = r % 64 by omega]
     rw [he]
     exact ⟨_, _, rfl, by rw [vi_app]; exact (H55.pickT (p := [_, _]) (m := [_]) [1] rfl (by decide))⟩
    ·skip
     refine cw_seq ?_
     refine cw_reg ?_
     refine ry (y_mov rfl rfl) rfl rfl ?_
     refine ry (y_gtr rfl rfl rfl) rfl rfl ?_
     refine ry (y_mov rfl rfl) rfl rfl ?_
     refine rg_splitd (d := 53) rfl (fun h56 => ?_) (fun h56 => ?_)
     ·skip
      refine rgy (y_mov rfl rfl) rfl rfl rfl rfl ?_
      refine rgy (y_leq rfl rfl rfl) rfl rfl rfl rfl ?_
      refine ry (y_pick rfl rfl rfl) rfl rfl ?_
      refine ry (y_asg rfl rfl) rfl rfl ?_
      refine reg_nil ?_
      refine fn_next ?_
      refine cw_condd rfl (fun h57 => ?_) (fun h57 => ?_)
      ·skip
       refine cw_seq ?_
       refine cw_reg ?_
       refine ry (y_mov rfl rfl) rfl rfl ?_
       refine ry (y_mov rfl rfl) rfl rfl ?_
       refine ry (y_shr rfl rfl rfl (by omega) (rfl)) rfl rfl ?_
       refine ry (y_conv rfl Tryd.underlying21 Tryd.underlying5 rfl (wu8 (by omega))) rfl rfl ?_
       refine ry (y_or rfl rfl rfl (rfl)) rfl rfl ?_
       refine ry (y_mov rfl rfl) rfl rfl ?_
       refine ry (y_shr rfl rfl rfl (by omega) (rfl)) rfl rfl ?_
       refine ry (y_conv rfl Tryd.underlying21 Tryd.underlying5 rfl (wu8 (by omega))) rfl rfl ?_
       refine ry (y_and rfl rfl rfl (rfl)) rfl rfl ?_
       refine ry (y_or rfl rfl rfl (rfl)) rfl rfl ?_
       refine ry (y_mov rfl rfl) rfl rfl ?_
       refine ry (y_shr rfl rfl rfl (by omega) (rfl)) rfl rfl ?_
       refine ry (y_conv rfl Tryd.underlying21 Tryd.underlying5 rfl (wu8 (by omega))) rfl rfl ?_
       refine ry (y_and rfl rfl rfl (rfl)) rfl rfl ?_
       refine ry (y_or rfl rfl rfl (rfl)) rfl rfl ?_
       refine ry (y_mov rfl rfl) rfl rfl ?_
       refine ry (y_conv rfl Tryd.underlying21 Tryd.underlying5 rfl (wu8 (by omega))) rfl rfl ?_
       refine ry (y_and rfl rfl rfl (rfl)) rfl rfl ?_
       refine ry (y_or rfl rfl rfl (rfl)) rfl rfl ?_
       refine reg_op (op_lit (parts := [(0, _), (1, _), (2, _), (3, _)]) (vs := [(0, _), (1, _), (2, _), (3, _)]) (cs := [.int _ _, .int _ _, .int _ _, .int _ _]) H0 rfl Tryd.underlying62 kfbld1_8 rfl ⟨rfl, rfl, rfl, rfl, trivial⟩ rfl rfl) rfl rfl ?_
       rintro _ w59 ⟨b58, rfl, H60⟩
       have H61 := H60.asrow (m := 4) (size := 1) rfl (by decide)
       refine reg_op (op_app (i := 1) H61 rfl rfl rfl rfl (H61.rd (i := 0) rfl) (rfl) (rfl) Tryd.underlying62 kfbld1_9 rfl rfl (by unfold maxLen; omega) (by omega)) rfl rfl ?_
       rintro _ w64 ⟨A62, c63, rfl, H65⟩
       refine ry (y_asg rfl rfl) rfl rfl ?_
       refine reg_nil ?_
       refine fn_next ?_
       refine cw_ret ?_
       refine fn_block_ret ?_
       refine fn_ret1 rfl rfl ?_
       exfalso; unfold SgnP at hs; first | omega | exact absurd (by assumption : r < 55296) (of_decide_eq_false (by assumption))
      ·skip
       refine cw_seq ?_
       refine cw_reg ?_
       refine ry (y_mov rfl rfl) rfl rfl ?_
       refine reg_op (op_lit (parts := [(0, _), (1, _), (2, _)]) (vs := [(0, _), (1, _), (2, _)]) (cs := [.int _ _, .int _ _, .int _ _]) H0 rfl Tryd.underlying62 kfbld1_8 rfl ⟨rfl, rfl, rfl, trivial⟩ rfl rfl) rfl rfl ?_
       rintro _ w67 ⟨b66, rfl, H68⟩
       have H69 := H68.asrow (m := 3) (size := 1) rfl (by decide)
       refine reg_op (op_app (i := 1) H69 rfl rfl rfl rfl (H69.rd (i := 0) rfl) (rfl) (rfl) Tryd.underlying62 kfbld1_9 rfl rfl (by unfold maxLen; omega) (by omega)) rfl rfl ?_
       rintro _ w72 ⟨A70, c71, rfl, H73⟩
       refine ry (y_asg rfl rfl) rfl rfl ?_
       refine reg_nil ?_
       refine fn_next ?_
       refine cw_ret ?_
       refine fn_block_ret ?_
       refine fn_ret1 rfl rfl ?_
       exfalso; unfold SgnP at hs; first | omega | exact absurd (by assumption : r < 55296) (of_decide_eq_false (by assumption))
     ·skip
      refine rg_off rfl rfl rfl rfl rfl ?_
      refine rg_off rfl rfl rfl rfl rfl ?_
      refine ry (y_pick rfl rfl rfl) rfl rfl ?_
      refine ry (y_asg rfl rfl) rfl rfl ?_
      refine reg_nil ?_
      refine fn_next ?_
      refine cw_condf rfl ?_
      refine cw_seq ?_
      refine cw_reg ?_
      refine ry (y_mov rfl rfl) rfl rfl ?_
      refine reg_op (op_lit (parts := [(0, _), (1, _), (2, _)]) (vs := [(0, _), (1, _), (2, _)]) (cs := [.int _ _, .int _ _, .int _ _]) H0 rfl Tryd.underlying62 kfbld1_8 rfl ⟨rfl, rfl, rfl, trivial⟩ rfl rfl) rfl rfl ?_
      rintro _ w75 ⟨b74, rfl, H76⟩
      have H77 := H76.asrow (m := 3) (size := 1) rfl (by decide)
      refine reg_op (op_app (i := 1) H77 rfl rfl rfl rfl (H77.rd (i := 0) rfl) (rfl) (rfl) Tryd.underlying62 kfbld1_9 rfl rfl (by unfold maxLen; omega) (by omega)) rfl rfl ?_
      rintro _ w80 ⟨A78, c79, rfl, H81⟩
      refine ry (y_asg rfl rfl) rfl rfl ?_
      refine reg_nil ?_
      refine fn_next ?_
      refine cw_ret ?_
      refine fn_block_ret ?_
      refine fn_ret1 rfl rfl ?_
      exfalso; unfold SgnP at hs; first | omega | exact absurd (by assumption : r < 55296) (of_decide_eq_false (by assumption))
   ·skip
    refine rg_off rfl rfl rfl rfl rfl ?_
    refine rg_off rfl rfl rfl rfl rfl ?_
    refine ry (y_pick rfl rfl rfl) rfl rfl ?_
    refine ry (y_asg rfl rfl) rfl rfl ?_
    refine reg_nil ?_
    refine fn_next ?_
    refine cw_condf rfl ?_
    refine cw_seq ?_
    refine cw_reg ?_
    refine ry (y_mov rfl rfl) rfl rfl ?_
    refine ry (y_gtr rfl rfl rfl) rfl rfl ?_
    refine ry (y_mov rfl rfl) rfl rfl ?_
    refine rg_splitd (d := 53) rfl (fun h82 => ?_) (fun h82 => ?_)
    ·skip
     refine rgy (y_mov rfl rfl) rfl rfl rfl rfl ?_
     refine rgy (y_leq rfl rfl rfl) rfl rfl rfl rfl ?_
     refine ry (y_pick rfl rfl rfl) rfl rfl ?_
     refine ry (y_asg rfl rfl) rfl rfl ?_
     refine reg_nil ?_
     refine fn_next ?_
     refine cw_condd rfl (fun h83 => ?_) (fun h83 => ?_)
     ·skip
      refine cw_seq ?_
      refine cw_reg ?_
      refine ry (y_mov rfl rfl) rfl rfl ?_
      refine ry (y_mov rfl rfl) rfl rfl ?_
      refine ry (y_shr rfl rfl rfl (by omega) (rfl)) rfl rfl ?_
      refine ry (y_conv rfl Tryd.underlying21 Tryd.underlying5 rfl (wu8 (by omega))) rfl rfl ?_
      refine ry (y_or rfl rfl rfl (rfl)) rfl rfl ?_
      refine ry (y_mov rfl rfl) rfl rfl ?_
      refine ry (y_shr rfl rfl rfl (by omega) (rfl)) rfl rfl ?_
      refine ry (y_conv rfl Tryd.underlying21 Tryd.underlying5 rfl (wu8 (by omega))) rfl rfl ?_
      refine ry (y_and rfl rfl rfl (rfl)) rfl rfl ?_
      refine ry (y_or rfl rfl rfl (rfl)) rfl rfl ?_
      refine ry (y_mov rfl rfl) rfl rfl ?_
      refine ry (y_shr rfl rfl rfl (by omega) (rfl)) rfl rfl ?_
      refine ry (y_conv rfl Tryd.underlying21 Tryd.underlying5 rfl (wu8 (by omega))) rfl rfl ?_
      refine ry (y_and rfl rfl rfl (rfl)) rfl rfl ?_
      refine ry (y_or rfl rfl rfl (rfl)) rfl rfl ?_
      refine ry (y_mov rfl rfl) rfl rfl ?_
      refine ry (y_conv rfl Tryd.underlying21 Tryd.underlying5 rfl (wu8 (by omega))) rfl rfl ?_
      refine ry (y_and rfl rfl rfl (rfl)) rfl rfl ?_
      refine ry (y_or rfl rfl rfl (rfl)) rfl rfl ?_
      refine reg_op (op_lit (parts := [(0, _), (1, _), (2, _), (3, _)]) (vs := [(0, _), (1, _), (2, _), (3, _)]) (cs := [.int _ _, .int _ _, .int _ _, .int _ _]) H0 rfl Tryd.underlying62 kfbld1_8 rfl ⟨rfl, rfl, rfl, rfl, trivial⟩ rfl rfl) rfl rfl ?_
      rintro _ w85 ⟨b84, rfl, H86⟩
      have H87 := H86.asrow (m := 4) (size := 1) rfl (by decide)
      refine reg_op (op_app (i := 1) H87 rfl rfl rfl rfl (H87.rd (i := 0) rfl) (rfl) (rfl) Tryd.underlying62 kfbld1_9 rfl rfl (by unfold maxLen; omega) (by omega)) rfl rfl ?_
      rintro _ w90 ⟨A88, c89, rfl, H91⟩
      refine ry (y_asg rfl rfl) rfl rfl ?_
      refine reg_nil ?_
      refine fn_next ?_
      refine cw_ret ?_
      refine fn_block_ret ?_
      refine fn_ret1 rfl rfl ?_
      exfalso; unfold SgnP at hs; first | omega | exact absurd (by assumption : r < 55296) (of_decide_eq_false (by assumption))
     ·skip
      refine cw_seq ?_
      refine cw_reg ?_
      refine ry (y_mov rfl rfl) rfl rfl ?_
      refine reg_op (op_lit (parts := [(0, _), (1, _), (2, _)]) (vs := [(0, _), (1, _), (2, _)]) (cs := [.int _ _, .int _ _, .int _ _]) H0 rfl Tryd.underlying62 kfbld1_8 rfl ⟨rfl, rfl, rfl, trivial⟩ rfl rfl) rfl rfl ?_
      rintro _ w93 ⟨b92, rfl, H94⟩
      have H95 := H94.asrow (m := 3) (size := 1) rfl (by decide)
      refine reg_op (op_app (i := 1) H95 rfl rfl rfl rfl (H95.rd (i := 0) rfl) (rfl) (rfl) Tryd.underlying62 kfbld1_9 rfl rfl (by unfold maxLen; omega) (by omega)) rfl rfl ?_
      rintro _ w98 ⟨A96, c97, rfl, H99⟩
      refine ry (y_asg rfl rfl) rfl rfl ?_
      refine reg_nil ?_
      refine fn_next ?_
      refine cw_ret ?_
      refine fn_block_ret ?_
      refine fn_ret1 rfl rfl ?_
      exfalso; unfold SgnP at hs; first | omega | exact absurd (by assumption : r < 55296) (of_decide_eq_false (by assumption))
    ·skip
     refine rg_off rfl rfl rfl rfl rfl ?_
     refine rg_off rfl rfl rfl rfl rfl ?_
     refine ry (y_pick rfl rfl rfl) rfl rfl ?_
     refine ry (y_asg rfl rfl) rfl rfl ?_
     refine reg_nil ?_
     refine fn_next ?_
     refine cw_condf rfl ?_
     refine cw_seq ?_
     refine cw_reg ?_
     refine ry (y_mov rfl rfl) rfl rfl ?_
     refine reg_op (op_lit (parts := [(0, _), (1, _), (2, _)]) (vs := [(0, _), (1, _), (2, _)]) (cs := [.int _ _, .int _ _, .int _ _]) H0 rfl Tryd.underlying62 kfbld1_8 rfl ⟨rfl, rfl, rfl, trivial⟩ rfl rfl) rfl rfl ?_
     rintro _ w101 ⟨b100, rfl, H102⟩
     have H103 := H102.asrow (m := 3) (size := 1) rfl (by decide)
     refine reg_op (op_app (i := 1) H103 rfl rfl rfl rfl (H103.rd (i := 0) rfl) (rfl) (rfl) Tryd.underlying62 kfbld1_9 rfl rfl (by unfold maxLen; omega) (by omega)) rfl rfl ?_
     rintro _ w106 ⟨A104, c105, rfl, H107⟩
     refine ry (y_asg rfl rfl) rfl rfl ?_
     refine reg_nil ?_
     refine fn_next ?_
     refine cw_ret ?_
     refine fn_block_ret ?_
     refine fn_ret1 rfl rfl ?_
     exfalso; unfold SgnP at hs; first | omega | exact absurd (by assumption : r < 55296) (of_decide_eq_false (by assumption))

set_option maxRecDepth 100000 in
set_option maxHeartbeats 1000000 in
theorem appRune (w0 : World) (l : List Ob) (A : Option Addr) (n c : Nat) (zs : List Int) (r : Int) (w : World) (hs : SgnP r) (hn : n + 4 ≤ 1000000000) (H0 : HS w0 w (.row A n c (vi .u8 (zs)) 5 1 :: l)) :
    Ret Tryd.prog 97 [.slice A n c, .int .i32 r] w (fun v w' => ∃ A2 c2, v = .slice A2 (n + (encB r).length) c2 ∧ HS w0 w' (.row A2 (n + (encB r).length) c2 (vi .u8 (zs ++ encB r)) 5 1 :: l)) := by
 have hr : 33 ≤ r ∧ r ≤ 65532 := by unfold SgnP at hs; omega
 refine ret_enter Tryd.func97 rfl rfl rfl ?_
 refine cw_seq ?_
 refine cw_reg ?_
 refine ry (y_asg rfl rfl) rfl rfl ?_
 refine reg_nil ?_
 refine fn_next ?_
 refine cw_seq ?_
 refine cw_seq ?_
 refine cw_reg ?_
 refine ry (y_mov rfl rfl) rfl rfl ?_
 refine ry (y_conv rfl Tryd.underlying21 Tryd.underlying190 rfl (wu32 (by omega))) rfl rfl ?_
 refine ry (y_leq rfl rfl rfl) rfl rfl ?_
 refine reg_nil ?_
 refine fn_next ?_
 refine cw_condd rfl (fun h1 => ?_) (fun h1 => ?_)
 ·skip
  refine cw_seq ?_
  refine cw_reg ?_
  refine ry (y_mov rfl rfl) rfl rfl ?_
  refine ry (y_mov rfl rfl) rfl rfl ?_
  refine ry (y_conv rfl Tryd.underlying21 Tryd.underlying5 rfl (wu8 (by omega))) rfl rfl ?_
  refine reg_op (op_lit (parts := [(0, _)]) (vs := [(0, _)]) (cs := [.int _ _]) H0 rfl Tryd.underlying62 kfbld1_8 rfl ⟨rfl, trivial⟩ rfl rfl) rfl rfl ?_
  rintro _ w3 ⟨b2, rfl, H4⟩
  have H5 := H4.asrow (m := 1) (size := 1) rfl (by decide)
  refine reg_op (op_app (i := 1) H5 rfl rfl rfl rfl (H5.rd (i := 0) rfl) (rfl) (rfl) Tryd.underlying62 kfbld1_9 rfl rfl (by unfold maxLen; omega) (by omega)) rfl rfl ?_
  rintro _ w8 ⟨A6, c7, rfl, H9⟩
  refine ry (y_asg rfl rfl) rfl rfl ?_
  refine reg_nil ?_
  refine fn_next ?_
  refine cw_ret ?_
  refine fn_then_ret ?_
  refine fn_ret1 rfl rfl ?_
  have he : encB r = [r] := by unfold encB; rw [if_pos (by omega)]
  rw [he]
  exact ⟨_, _, rfl, by rw [vi_app]; exact (H9.pickT (p := [_, _]) (m := [_]) [1] rfl (by decide))⟩
 ·skip
  refine cw_skip ?_
  refine fn_next ?_
  refine cw_seq ?_
  refine cw_reg ?_
  refine ry (y_mov rfl rfl) rfl rfl ?_
  refine ry (y_mov rfl rfl) rfl rfl ?_
  refine reg_op (op_call (appRuneNA w0 _ A n c zs r _ hs hn (by omega) H0) rfl kfbld1_10 ⟨rfl, rfl, trivial⟩) rfl rfl ?_
  rintro _ w11 ⟨A12, c13, rfl, H10⟩
  refine ry (y_asg rfl rfl) rfl rfl ?_
  refine reg_nil ?_
  refine fn_next ?_
  refine cw_ret ?_
  refine fn_ret1 rfl rfl ?_
  exact ⟨_, _, rfl, H10⟩

set_option maxRecDepth 100000 in
set_option maxHeartbeats 1000000 in
theorem bldRuneN (w0 : World) (l : List Ob) (b : Nat) (A : Option Addr) (n c : Nat) (zs : List Int) (r : Int) (w : World) (hs : SgnP r) (hn : n + 4 ≤ 1000000000) (H0 : HS w0 w (.blk b [.pointer none, .slice A n c] 128 :: .row A n c (vi .u8 (zs)) 5 1 :: l)) :
    Ret Tryd.prog 65 [.pointer (some ⟨b, 0, none⟩), .int .i32 r] w (fun v w' => ∃ u A2 c2, v = .tuple #[u, .nilIface] ∧ HS w0 w' (.blk b [.pointer (some ⟨b, 0, none⟩), .slice A2 (n + (encB r).length) c2] 128 :: .row A2 (n + (encB r).length) c2 (vi .u8 (zs ++ encB r)) 5 1 :: l)) := by
 refine ret_enter Tryd.func65 rfl rfl rfl ?_
 refine cw_seq ?_
 refine cw_reg ?_
 refine ry (y_asg rfl rfl) rfl rfl ?_
 refine ry (y_asg rfl rfl) rfl rfl ?_
 refine reg_nil ?_
 refine fn_next ?_
 refine cw_seq ?_
 refine cw_reg ?_
 refine ry (y_mov rfl rfl) rfl rfl ?_
 refine reg_op (op_call (bldCheckN w0 _ b _ _ H0) rfl kfbld1_11 ⟨rfl, trivial⟩) rfl rfl ?_
 rintro _ w2 H1
 refine reg_nil ?_
 refine fn_next ?_
 refine cw_seq ?_
 refine cw_reg ?_
 refine ry (y_mov rfl rfl) rfl rfl ?_
 refine ry (y_nilck rfl rfl) rfl rfl ?_
 refine ry (y_fa rfl rfl kfbld1_12 rfl) rfl rfl ?_
 refine ry (y_ld rfl rfl kfbld1_13 (H1.cell (i := 0) rfl rfl)) rfl rfl ?_
 refine ry (y_len rfl Tryd.underlying62 rfl) rfl rfl ?_
 refine ry (y_asg rfl rfl) rfl rfl ?_
 refine reg_nil ?_
 refine fn_next ?_
 refine cw_seq ?_
 refine cw_reg ?_
 refine ry (y_mov rfl rfl) rfl rfl ?_
 refine ry (y_mov rfl rfl) rfl rfl ?_
 refine ry (y_nilck rfl rfl) rfl rfl ?_
 refine ry (y_fa rfl rfl kfbld1_12 rfl) rfl rfl ?_
 refine ry (y_ld rfl rfl kfbld1_13 (H1.cell (i := 0) rfl rfl)) rfl rfl ?_
 refine ry (y_mov rfl rfl) rfl rfl ?_
 refine reg_op (op_call (appRune w0 _ A n c zs r _ hs hn (H1.pickT (p := [_, _]) (m := [_, _]) [1, 0] rfl (by decide))) rfl kfbld1_14 ⟨rfl, rfl, trivial⟩) rfl rfl ?_
 rintro _ w4 ⟨A5, c6, rfl, H3⟩
 refine ry (y_nilck rfl rfl) rfl rfl ?_
 refine ry (y_fa rfl rfl kfbld1_12 rfl) rfl rfl ?_
 refine reg_op (op_st (i := 1) (vs := [.slice _ _ _]) H3 rfl rfl rfl rfl rfl kfbld1_15 rfl rfl rfl) rfl rfl ?_
 rintro _ w7 H8
 refine reg_nil ?_
 refine fn_next ?_
 refine cw_seq ?_
 refine cw_reg ?_
 refine ry (y_mov rfl rfl) rfl rfl ?_
 refine ry (y_nilck rfl rfl) rfl rfl ?_
 refine ry (y_fa rfl rfl kfbld1_12 rfl) rfl rfl ?_
 refine ry (y_ld rfl rfl kfbld1_13 (H8.cell (i := 1) rfl rfl)) rfl rfl ?_
 refine ry (y_len rfl Tryd.underlying62 rfl) rfl rfl ?_
 refine ry (y_mov rfl rfl) rfl rfl ?_
 refine ry (y_sub rfl rfl rfl (rfl)) rfl rfl ?_
 refine ry (y_asg rfl rfl) rfl rfl ?_
 refine ry (y_asg rfl rfl) rfl rfl ?_
 refine reg_nil ?_
 refine fn_next ?_
 refine cw_ret ?_
 refine fn_retn (vs := [_, _]) rfl ⟨rfl, rfl, trivial⟩ rfl ?_
 exact ⟨_, _, _, rfl, (H8.pickT (p := [_, _]) (m := [_, _]) [1, 0] rfl (by decide))⟩

set_option maxRecDepth 100000 in
set_option maxHeartbeats 1000000 in
theorem bldRuneU (w0 : World) (l : List Ob) (b : Nat) (A : Option Addr) (n c : Nat) (zs : List Int) (r : Int) (w : World) (hs : SgnP r) (hn : n + 4 ≤ 1000000000) (H0 : HS w0 w (.blk b [.pointer (some ⟨b, 0, none⟩), .slice A n c] 128 :: .row A n c (vi .u8 (zs)) 5 1 :: l)) :
    Ret Tryd.prog 65 [.pointer (some ⟨b, 0, none⟩), .int .i32 r] w (fun v w' => ∃ u A2 c2, v = .tuple #[u, .nilIface] ∧ HS w0 w' (.blk b [.pointer (some ⟨b, 0, none⟩), .slice A2 (n + (encB r).length) c2] 128 :: .row A2 (n + (encB r).length) c2 (vi .u8 (zs ++ encB r)) 5 1 :: l)) := by
 refine ret_enter Tryd.func65 rfl rfl rfl ?_
 refine cw_seq ?_
 refine cw_reg ?_
 refine ry (y_asg rfl rfl) rfl rfl ?_
 refine ry (y_asg rfl rfl) rfl rfl ?_
 refine reg_nil ?_
 refine fn_next ?_
 refine cw_seq ?_
 refine cw_reg ?_
 refine ry (y_mov rfl rfl) rfl rfl ?_
 refine reg_op (op_call (bldCheckU w0 _ b _ _ H0) rfl kfbld1_11 ⟨rfl, trivial⟩) rfl rfl ?_
 rintro _ w2 H1
 refine reg_nil ?_
 refine fn_next ?_
 refine cw_seq ?_
 refine cw_reg ?_
 refine ry (y_mov rfl rfl) rfl rfl ?_
 refine ry (y_nilck rfl rfl) rfl rfl ?_
 refine ry (y_fa rfl rfl kfbld1_12 rfl) rfl rfl ?_
 refine ry (y_ld rfl rfl kfbld1_13 (H1.cell (i := 0) rfl rfl)) rfl rfl ?_
 refine ry (y_len rfl Tryd.underlying62 rfl) rfl rfl ?_
 refine ry (y_asg rfl rfl) rfl rfl ?_
 refine reg_nil ?_
 refine fn_next ?_
 refine cw_seq ?_
 refine cw_reg ?_
 refine ry (y_mov rfl rfl) rfl rfl ?_
 refine ry (y_mov rfl rfl) rfl rfl ?_
 refine ry (y_nilck rfl rfl) rfl rfl ?_
 refine ry (y_fa rfl rfl kfbld1_12 rfl) rfl rfl ?_
 refine ry (y_ld rfl rfl kfbld1_13 (H1.cell (i := 0) rfl rfl)) rfl rfl ?_
 refine ry (y_mov rfl rfl) rfl rfl ?_
 refine reg_op (op_call (appRune w0 _ A n c zs r _ hs hn (H1.pickT (p := [_, _]) (m := [_, _]) [1, 0] rfl (by decide))) rfl kfbld1_14 ⟨rfl, rfl, trivial⟩) rfl rfl ?_
 rintro _ w4 ⟨A5, c6, rfl, H3⟩
 refine ry (y_nilck rfl rfl) rfl rfl ?_
 refine ry (y_fa rfl rfl kfbld1_12 rfl) rfl rfl ?_
 refine reg_op (op_st (i := 1) (vs := [.slice _ _ _]) H3 rfl rfl rfl rfl rfl kfbld1_15 rfl rfl rfl) rfl rfl ?_
 rintro _ w7 H8
 refine reg_nil ?_
 refine fn_next ?_
 refine cw_seq ?_
 refine cw_reg ?_
 refine ry (y_mov rfl rfl) rfl rfl ?_
 refine ry (y_nilck rfl rfl) rfl rfl ?_
 refine ry (y_fa rfl rfl kfbld1_12 rfl) rfl rfl ?_
 refine ry (y_ld rfl rfl kfbld1_13 (H8.cell (i := 1) rfl rfl)) rfl rfl ?_
 refine ry (y_len rfl Tryd.underlying62 rfl) rfl rfl ?_
 refine ry (y_mov rfl rfl) rfl rfl ?_
 refine ry (y_sub rfl rfl rfl (rfl)) rfl rfl ?_
 refine ry (y_asg rfl rfl) rfl rfl ?_
 refine ry (y_asg rfl rfl) rfl rfl ?_
 refine reg_nil ?_
 refine fn_next ?_
 refine cw_ret ?_
 refine fn_retn (vs := [_, _]) rfl ⟨rfl, rfl, trivial⟩ rfl ?_
 exact ⟨_, _, _, rfl, (H8.pickT (p := [_, _]) (m := [_, _]) [1, 0] rfl (by decide))⟩

set_option maxRecDepth 100000 in
theorem bldString (w0 : World) (l : List Ob) (b : Nat) (p : Value) (A : Option Addr) (n c : Nat) (zs : List Int) (w : World) (hB : Byt zs) (h0 : 0 < n) (H0 : HS w0 w (.blk b [p, .slice A n c] 128 :: .row A n c (vi .u8 (zs)) 5 1 :: l)) :
    Ret Tryd.prog 67 [.pointer (some ⟨b, 0, none⟩)] w (fun v w' => v = .string (bs zs) ∧ HS w0 w' (.blk b [p, .slice A n c] 128 :: l)) := by
 obtain ⟨g, rfl⟩ := H0.rowA (i := 1) rfl h0
 have hlen := H0.len (i := 1) rfl
 refine ret_enter Tryd.func67 rfl rfl rfl ?_
 refine cw_seq ?_
 refine cw_reg ?_
 refine ry (y_asg rfl rfl) rfl rfl ?_
 refine reg_nil ?_
 refine fn_next ?_
 refine cw_seq ?_
 refine cw_draw H0 [0, 1, 2, 3, 4, 5, 6, 7, 8, 9] [10, 11] (fun X HX => (HX.pickT (p := [_, _]) (m := [_]) [0] rfl (by decide))) (by kernel_rfl) (by kernel_rfl) (by rfl) ?_
 simp only [pick, List.getElem?_cons_succ, List.getElem?_cons_zero]
 refine hk_y (fun Y HY => y_mov rfl rfl) rfl rfl ?_
 refine hk_y (fun Y HY => y_nilck rfl rfl) rfl rfl ?_
 refine hk_y (fun Y HY => y_fa rfl rfl kfbld1_12 rfl) rfl rfl ?_
 refine hk_y (fun Y HY => y_ld rfl rfl kfbld1_13 (HY.cell (i := 0) rfl rfl)) rfl rfl ?_
 refine hk_y (fun Y HY => y_sd rfl rfl (by omega)) rfl rfl ?_
 refine hk_y (fun Y HY => y_mov rfl rfl) rfl rfl ?_
 refine hk_y (fun Y HY => y_nilck rfl rfl) rfl rfl ?_
 refine hk_y (fun Y HY => y_fa rfl rfl kfbld1_12 rfl) rfl rfl ?_
 refine hk_y (fun Y HY => y_ld rfl rfl kfbld1_13 (HY.cell (i := 0) rfl rfl)) rfl rfl ?_
 refine hk_y (fun Y HY => y_len rfl Tryd.underlying62 rfl) rfl rfl ?_
 refine hk_nil ?_
 intro w1 H2
 refine tv_op (op_ustr (i := 1) H2 rfl rfl rfl rfl (rfl) Tryd.underlying168 kfbld1_16 (by omega) (by assumption) rfl) rfl rfl ?_
 rintro _ w3 ⟨rfl, H4⟩
 refine ⟨(H4.pickT (p := [_, _]) (m := [_]) [0] rfl (by decide)), fun w5 e7 => ?_⟩
 have H6 := H4.ext e7
 refine tv_op (Yd.op (y_asg rfl rfl)) rfl rfl ?_
 rintro _ _ ⟨rfl, rfl⟩
 refine ⟨(H6.pickT (p := [_, _]) (m := [_]) [0] rfl (by decide)), fun w8 e10 => ?_⟩
 have H9 := H6.ext e10
 refine tv_nil ?_
 refine fn_next ?_
 refine cw_ret ?_
 refine fn_ret1 rfl rfl ?_
 exact ⟨rfl, (H9.pickT (p := [_, _]) (m := [_]) [0] rfl (by decide))⟩

set_option maxRecDepth 100000 in
theorem bldReset (w0 : World) (l : List Ob) (b : Nat) (p s : Value) (w : World) (H0 : HS w0 w (.blk b [p, s] 128 :: l)) :
    Ret Tryd.prog 68 [.pointer (some ⟨b, 0, none⟩)] w (fun v w' => HS w0 w' (.blk b [.pointer none, .slice none 0 0] 128 :: l)) := by
 refine ret_enter Tryd.func68 rfl rfl rfl ?_
 refine cw_seq ?_
 refine cw_reg ?_
 refine ry (y_mov rfl rfl) rfl rfl ?_
 refine ry (y_nilck rfl rfl) rfl rfl ?_
 refine ry (y_fa rfl rfl kfbld1_1 rfl) rfl rfl ?_
 refine reg_op (op_st (i := 0) (vs := [.pointer _]) H0 rfl rfl rfl rfl rfl kfbld1_7 rfl rfl rfl) rfl rfl ?_
 rintro _ w1 H2
 refine reg_nil ?_
 refine fn_next ?_
 refine cw_reg ?_
 refine ry (y_mov rfl rfl) rfl rfl ?_
 refine ry (y_nilck rfl rfl) rfl rfl ?_
 refine ry (y_fa rfl rfl kfbld1_12 rfl) rfl rfl ?_
 refine reg_op (op_st (i := 0) (vs := [.slice _ _ _]) H2 rfl rfl rfl rfl rfl kfbld1_15 rfl rfl rfl) rfl rfl ?_
 rintro _ w3 H4
 refine reg_nil ?_
 refine fn_normal ?_
 refine fn_retn (vs := []) rfl trivial rfl ?_
 exact H4

end Go.Proofs.YtgkkbeomhkggjaaDoor
